/- schema's codecs write: arrays and records. Conditions: none. -/
import Derived.Test.YtpmpgmjllagomaaSput
set_option linter.unusedVariables false
set_option maxHeartbeats 4000000
set_option linter.unusedSimpArgs false
set_option maxRecDepth 100000
namespace Go.Lt
open Go
attribute [local irreducible] op gop lt glt rc grc ite' drawn also ldR
def PutOk (c : Cd) : Prop := ∀ (w0 : World) (p : List HP) (Pn : PK) (K : Value → WP) (v : Value) (n : Nd) (cs : List Value) (g most : Nat) (bs : List UInt8), CdV p c v → RdD p (ndD n) cs → Nd.ok n → Cd.check c n = 0 → bs.length ≤ most → most ≤ 130048 → PutK w0 p K g most bs (Cd.enc c n) →
  Ent w0 (wr g (bs, most) :: p) (op PR Pn (S.invoke v "leat/schema.put" [.pointer (some ⟨g, 0, none⟩), .agg cs.toArray]) K)
theorem num_pt (k : Int) : PutOk (.num k) := fun w0 p Pn K v n cs g most bs hv hn hok hc h1 h2 h => by
  unfold CdV cdV at hv
  subst hv
  obtain ⟨A1, c1, A2, c2, rfl, hd, hl⟩ := nd_open hn
  refine Ent.call (fun w h => meth.schema_number_put h) (num_put ?_ h1 (by omega) h)
  unfold Cd.check at hc
  split at hc
  · omega
  split at hc
  · omega
  · rename_i hf
    simpa using hf
theorem txt_pt (k : Int) : PutOk (.txt k) := fun w0 p Pn K v n cs g most bs hv hn hok hc h1 h2 h => by
  unfold CdV cdV at hv
  subst hv
  obtain ⟨A1, c1, A2, c2, rfl, hd, hl⟩ := nd_open hn
  refine Ent.call (fun w h => meth.schema_text_put h) (text_put hd (fun _ => ?_) h1 h2 h)
  unfold Cd.check at hc
  repeat (split at hc; omega)
  omega
theorem blb_pt (k : Int) : PutOk (.blb k) := fun w0 p Pn K v n cs g most bs hv hn hok hc h1 h2 h => by
  unfold CdV cdV at hv
  subst hv
  obtain ⟨A1, c1, A2, c2, rfl, hd, hl⟩ := nd_open hn
  refine Ent.call (fun w h => meth.schema_blob_put h) (blob_put hd ?_ h1 h2 h)
  cases hok with
  | mk a1 a2 a3 => exact a2
theorem checkF_zero {f : Nd → Int} : ∀ {l : List Nd}, checkF f l = 0 → ∀ x ∈ l, f x = 0
  | [], _, x, hx => by cases hx
  | y :: r, h, x, hx => by
    unfold checkF at h
    split at h
    · rename_i hne
      exact absurd h hne
    · rename_i he
      rcases List.mem_cons.1 hx with rfl | hx
      · exact Decidable.not_not.1 he
      · exact checkF_zero h x hx
/-- The loop of array.put. -/
def arrPutTail (Pn : PK) (K : Value → WP) (g g1 : Nat) (len : Nat) (sl : Value) (e : Int) : WP :=
  L3 (.int .i64 0) (.int .i64 e) (.int .i64 0) (fun x6 x7 x19 xk =>
    op PR Pn (S.bin .lss 3 (.tmp 19) (.tmp 18) x19 (.int .i64 len)) fun x20 =>
    ite' x20
    (op PR Pn (S.ia 27 sl x19) fun x21 =>
      op PR Pn (S.load 29 x21) fun x22 =>
      op PR Pn (S.alloc 29) fun x9 =>
      op PR Pn (S.store 29 x9 x22) fun _ =>
      op PR Pn (S.bin .neq 32 (.tmp 23) (.const (.int .i64 0)) x7 (.int .i64 0)) fun x24 =>
      ite' x24
      (K x7)
      (op PR Pn (S.fa 117 (.pointer (some ⟨g1, 0, none⟩)) 0) fun x26 =>
        op PR Pn (S.load 93 x26) fun x27 =>
        op PR Pn (S.load 29 x9) fun x29 =>
        op PR Pn (S.invoke x27 "leat/schema.put" [(.pointer (some ⟨g, 0, none⟩)), x29]) fun x30 =>
        op PR Pn (S.bin .add 3 (.tmp 19) (.const (.int .i64 1)) x19 (.int .i64 1)) fun x31 =>
        xk x6 x30 x31))
    (K x7))
theorem arr_pt {cd : Cd} (ih : PutOk cd) : PutOk (.arr cd) := fun w0 p Pn K v n cs g most bs hv hn hok hc hb1 hb2 h => by
  obtain ⟨he, hk⟩ := h
  unfold Cd.enc at he hk
  unfold CdV cdV at hv
  obtain ⟨u, rfl, hu, t, ux, rfl⟩ := hv
  obtain ⟨A1, c1, A2, c2, rfl, h1, h2⟩ := nd_open hn
  unfold Cd.check at hc
  split at hc
  · omega
  split at hc
  · omega
  rename_i hp h16
  have hz := checkF_zero hc
  refine Ent.call (fun w h => meth.schema_array_put h) ?_
  refine Ent.call (fun w h => enter.schema_array_put h) ?_
  unfold W.schema_array_put
  refine Ent.box fun g1 => ?_
  unfold ndC
  refine Ent.box fun g2 => ?_
  repeat (first | refine Ent.runW (wrap_i64 (by omega) (by omega)) ?_ | refine Ent.runWL (wrap_i64 (by omega) (by omega)) ?_ | refine Ent.runWR (wrap_i64 (by omega) (by omega)) ?_ | refine Ent.run ?_ | refine Ent.runL ?_ | refine Ent.runR ?_ | refine Ent.drawn ?_ | refine Ent.store (by kernel_rfl) ?_ | refine Ent.resN ?_ | refine Ent.res1 ?_ | refine Ent.gop_yes ?_ | refine Ent.gop_no (by decide) ?_ | refine Ent.gop_undef ?_ | refine Ent.glt_undef ?_ | refine Ent.grc_undef ?_ | refine Ent.glt_yes ?_ | refine Ent.glt_no (by decide) ?_ | refine Ent.grc_yes ?_ | refine Ent.grc_no (by decide) ?_)
  rw [wrap_i32 (by omega) (by omega)]
  have key : ∀ (e0 : Int) (b0 : List UInt8), b0.length ≤ most → (e0 = 0 ∧ b0 = bs ++ beI 4 n.list.length ∨ e0 ≠ 0 ∧ most - bs.length < (beI 4 n.list.length ++ n.list.flatMap (Cd.enc cd)).length) → Ent w0 (wr g (b0, most) :: blk g1 [.iface t ux] :: p) (arrPutTail Pn K g g1 n.list.length (.slice A2 n.list.length c2) e0) := by
    intro e0 b0 hb0 hor
    unfold arrPutTail
    refine Ent.L3 (σ := Nat × Int × List UInt8) (fun _ => .int .i64 0) (fun s => .int .i64 s.2.1) (fun s => .int .i64 s.1)
      (fun s => pure' (s.1 ≤ n.list.length ∧ s.2.2.length ≤ most ∧ (s.2.1 = 0 ∧ s.2.2 = bs ++ (beI 4 n.list.length ++ (n.list.take s.1).flatMap (Cd.enc cd)) ∨ s.2.1 ≠ 0 ∧ most - bs.length < (beI 4 n.list.length ++ n.list.flatMap (Cd.enc cd)).length)) :: wr g (s.2.2, most) :: blk g1 [.iface t ux] :: p)
      (fun s => n.list.length - s.1) (0, e0, b0) ?_ ?_
    · intro w hs
      refine hs.add ⟨⟨Nat.zero_le _, hb0, ?_⟩, fun _ => rfl⟩
      simpa using hor
    · intro s k hrec
      obtain ⟨i, e, b⟩ := s
      refine Ent.pure fun hf => ?_
      obtain ⟨hf1, hf2, hf3⟩ := hf
      simp only at hf1 hf2 hf3 hrec ⊢
      repeat (first | refine Ent.runW (wrap_i64 (by omega) (by omega)) ?_ | refine Ent.runWL (wrap_i64 (by omega) (by omega)) ?_ | refine Ent.runWR (wrap_i64 (by omega) (by omega)) ?_ | refine Ent.run ?_ | refine Ent.runL ?_ | refine Ent.runR ?_ | refine Ent.drawn ?_ | refine Ent.store (by kernel_rfl) ?_ | refine Ent.resN ?_ | refine Ent.res1 ?_ | refine Ent.gop_yes ?_ | refine Ent.gop_no (by decide) ?_ | refine Ent.gop_undef ?_ | refine Ent.glt_undef ?_ | refine Ent.grc_undef ?_ | refine Ent.glt_yes ?_ | refine Ent.glt_no (by decide) ?_ | refine Ent.grc_yes ?_ | refine Ent.grc_no (by decide) ?_)
      refine Ent.ite (fun hq => ?_) (fun hq => ?_)
      · have hlt : i < n.list.length := by simpa using hq
        obtain ⟨b2, o2, cs, hia, hcs, hcl, hld⟩ := RdD.index (P := PR) (t := 27) (k := .i64) (i := i) h2 (by omega) (by omega) (ndsD_get hlt)
        refine Ent.at_ (fun w _ => hia w) ?_
        obtain ⟨A3, c3, A4, c4, rfl, _, _⟩ := nd_open hcs
        haveI := hld
        repeat (first | refine Ent.runW (wrap_i64 (by omega) (by omega)) ?_ | refine Ent.runWL (wrap_i64 (by omega) (by omega)) ?_ | refine Ent.runWR (wrap_i64 (by omega) (by omega)) ?_ | refine Ent.run ?_ | refine Ent.runL ?_ | refine Ent.runR ?_ | refine Ent.drawn ?_ | refine Ent.store (by kernel_rfl) ?_ | refine Ent.resN ?_ | refine Ent.res1 ?_ | refine Ent.gop_yes ?_ | refine Ent.gop_no (by decide) ?_ | refine Ent.gop_undef ?_ | refine Ent.glt_undef ?_ | refine Ent.grc_undef ?_ | refine Ent.glt_yes ?_ | refine Ent.glt_no (by decide) ?_ | refine Ent.grc_yes ?_ | refine Ent.grc_no (by decide) ?_)
        refine Ent.alloc fun g4 => ?_
        unfold ndC at *
        repeat (first | refine Ent.runW (wrap_i64 (by omega) (by omega)) ?_ | refine Ent.runWL (wrap_i64 (by omega) (by omega)) ?_ | refine Ent.runWR (wrap_i64 (by omega) (by omega)) ?_ | refine Ent.run ?_ | refine Ent.runL ?_ | refine Ent.runR ?_ | refine Ent.drawn ?_ | refine Ent.store (by kernel_rfl) ?_ | refine Ent.resN ?_ | refine Ent.res1 ?_ | refine Ent.gop_yes ?_ | refine Ent.gop_no (by decide) ?_ | refine Ent.gop_undef ?_ | refine Ent.glt_undef ?_ | refine Ent.grc_undef ?_ | refine Ent.glt_yes ?_ | refine Ent.glt_no (by decide) ?_ | refine Ent.grc_yes ?_ | refine Ent.grc_no (by decide) ?_)
        rcases hf3 with ⟨rfl, rfl⟩ | ⟨hne, hlt3⟩
        · refine Ent.ite_f ?_
          repeat (first | refine Ent.runW (wrap_i64 (by omega) (by omega)) ?_ | refine Ent.runWL (wrap_i64 (by omega) (by omega)) ?_ | refine Ent.runWR (wrap_i64 (by omega) (by omega)) ?_ | refine Ent.run ?_ | refine Ent.runL ?_ | refine Ent.runR ?_ | refine Ent.drawn ?_ | refine Ent.store (by kernel_rfl) ?_ | refine Ent.resN ?_ | refine Ent.res1 ?_ | refine Ent.gop_yes ?_ | refine Ent.gop_no (by decide) ?_ | refine Ent.gop_undef ?_ | refine Ent.glt_undef ?_ | refine Ent.grc_undef ?_ | refine Ent.glt_yes ?_ | refine Ent.glt_no (by decide) ?_ | refine Ent.grc_yes ?_ | refine Ent.grc_no (by decide) ?_)
          refine Ent.pick wr g ?_
          have hfm : n.list.flatMap (Cd.enc cd) = (n.list.take i).flatMap (Cd.enc cd) ++ (Cd.enc cd n.list[i] ++ (n.list.drop (i + 1)).flatMap (Cd.enc cd)) := by
            conv => lhs; rw [← List.take_append_drop i n.list, List.drop_eq_getElem_cons hlt, List.flatMap_append, List.flatMap_cons]
          refine ih _ _ _ _ _ (n.list[i]) _ g most _ (cdV.mono (fun _ _ h => h.skip.skip) _ _ hu) hcs.skip.skip (hok.list (List.getElem_mem hlt)) (hz _ (List.getElem_mem hlt)) hf2 hb2 ⟨fun hno e b' hne hb' => ?_, fun hyes => ?_⟩
          · repeat (first | refine Ent.runW (wrap_i64 (by omega) (by omega)) ?_ | refine Ent.runWL (wrap_i64 (by omega) (by omega)) ?_ | refine Ent.runWR (wrap_i64 (by omega) (by omega)) ?_ | refine Ent.run ?_ | refine Ent.runL ?_ | refine Ent.runR ?_ | refine Ent.drawn ?_ | refine Ent.store (by kernel_rfl) ?_ | refine Ent.resN ?_ | refine Ent.res1 ?_ | refine Ent.gop_yes ?_ | refine Ent.gop_no (by decide) ?_ | refine Ent.gop_undef ?_ | refine Ent.glt_undef ?_ | refine Ent.grc_undef ?_ | refine Ent.glt_yes ?_ | refine Ent.glt_no (by decide) ?_ | refine Ent.grc_yes ?_ | refine Ent.grc_no (by decide) ?_)
            refine Ent.pick blk g4 (Ent.drop (Ent.pick blk g1 (Ent.pick wr g ?_)))
            have := hrec (i + 1, e, b') (by simp only; omega)
            simp only [Int.natCast_add, Int.natCast_one] at this
            refine Ent.add ?_ this
            refine ⟨⟨hlt, hb', .inr ⟨hne, ?_⟩⟩, fun _ => rfl⟩
            rw [hfm]
            simp only [List.length_append] at hno hf2 ⊢
            omega
          · repeat (first | refine Ent.runW (wrap_i64 (by omega) (by omega)) ?_ | refine Ent.runWL (wrap_i64 (by omega) (by omega)) ?_ | refine Ent.runWR (wrap_i64 (by omega) (by omega)) ?_ | refine Ent.run ?_ | refine Ent.runL ?_ | refine Ent.runR ?_ | refine Ent.drawn ?_ | refine Ent.store (by kernel_rfl) ?_ | refine Ent.resN ?_ | refine Ent.res1 ?_ | refine Ent.gop_yes ?_ | refine Ent.gop_no (by decide) ?_ | refine Ent.gop_undef ?_ | refine Ent.glt_undef ?_ | refine Ent.grc_undef ?_ | refine Ent.glt_yes ?_ | refine Ent.glt_no (by decide) ?_ | refine Ent.grc_yes ?_ | refine Ent.grc_no (by decide) ?_)
            refine Ent.pick blk g4 (Ent.drop (Ent.pick blk g1 (Ent.pick wr g ?_)))
            have := hrec (i + 1, 0, bs ++ (beI 4 n.list.length ++ (n.list.take i).flatMap (Cd.enc cd)) ++ Cd.enc cd n.list[i]) (by simp only; omega)
            simp only [Int.natCast_add, Int.natCast_one] at this
            refine Ent.add ?_ this
            refine ⟨⟨hlt, ?_, .inl ⟨trivial, ?_⟩⟩, fun _ => rfl⟩
            · rw [List.length_append]
              omega
            · rw [List.take_succ_eq_append_getElem hlt, List.flatMap_append]
              simp
        · rw [decide_eq_false hne]
          refine Ent.ite_t ?_
          refine Ent.pick blk g4 (Ent.drop (Ent.pick blk g1 (Ent.drop ?_)))
          exact he hlt3 e b hne hf2
      · have hlt : i = n.list.length := by
          have : ¬ (i : Int) < n.list.length := by simpa using hq
          omega
        refine Ent.pick blk g1 (Ent.drop ?_)
        rcases hf3 with ⟨rfl, rfl⟩ | ⟨hne, hlt3⟩
        · rw [List.take_of_length_le (by omega)] at hf2 ⊢
          refine hk ?_
          rw [List.length_append] at hf2
          omega
        · exact he hlt3 e b hne hf2
  refine Ent.pick wr g (WI32_spec hb1 (by omega) (fun h => ?_) (fun h => ?_))
  · repeat (first | refine Ent.runW (wrap_i64 (by omega) (by omega)) ?_ | refine Ent.runWL (wrap_i64 (by omega) (by omega)) ?_ | refine Ent.runWR (wrap_i64 (by omega) (by omega)) ?_ | refine Ent.run ?_ | refine Ent.runL ?_ | refine Ent.runR ?_ | refine Ent.drawn ?_ | refine Ent.store (by kernel_rfl) ?_ | refine Ent.resN ?_ | refine Ent.res1 ?_ | refine Ent.gop_yes ?_ | refine Ent.gop_no (by decide) ?_ | refine Ent.gop_undef ?_ | refine Ent.glt_undef ?_ | refine Ent.grc_undef ?_ | refine Ent.glt_yes ?_ | refine Ent.glt_no (by decide) ?_ | refine Ent.grc_yes ?_ | refine Ent.grc_no (by decide) ?_)
    refine Ent.pick blk g2 (Ent.drop (Ent.pick wr g ?_))
    refine key 10 bs hb1 (.inr ⟨by decide, ?_⟩)
    rw [List.length_append, beI_length]
    omega
  · repeat (first | refine Ent.runW (wrap_i64 (by omega) (by omega)) ?_ | refine Ent.runWL (wrap_i64 (by omega) (by omega)) ?_ | refine Ent.runWR (wrap_i64 (by omega) (by omega)) ?_ | refine Ent.run ?_ | refine Ent.runL ?_ | refine Ent.runR ?_ | refine Ent.drawn ?_ | refine Ent.store (by kernel_rfl) ?_ | refine Ent.resN ?_ | refine Ent.res1 ?_ | refine Ent.gop_yes ?_ | refine Ent.gop_no (by decide) ?_ | refine Ent.gop_undef ?_ | refine Ent.glt_undef ?_ | refine Ent.grc_undef ?_ | refine Ent.glt_yes ?_ | refine Ent.glt_no (by decide) ?_ | refine Ent.grc_yes ?_ | refine Ent.grc_no (by decide) ?_)
    refine Ent.pick blk g2 (Ent.drop (Ent.pick wr g ?_))
    refine key 0 _ ?_ (.inl ⟨rfl, rfl⟩)
    rw [List.length_append, beI_length]
    omega
theorem encl_split : ∀ (cl : List Cd) (l : List Nd) (i : Nat), cl.length = l.length → i ≤ l.length → Cd.encl cl l = Cd.encl (cl.take i) (l.take i) ++ Cd.encl (cl.drop i) (l.drop i)
  | [], l, i, h, hi => by
    have : l = [] := List.eq_nil_of_length_eq_zero (by simpa using h.symm)
    subst this
    simp [Cd.encl]
  | c :: r, [], i, h, hi => by simp at h
  | c :: r, x :: s, 0, h, hi => by simp [Cd.encl]
  | c :: r, x :: s, i + 1, h, hi => by
    have := encl_split r s i (by simpa using h) (by simpa using hi)
    simp [Cd.encl, this]
theorem checkl_zero : ∀ (cl : List Cd) (l : List Nd) (i : Nat) (h1 : i < cl.length) (h2 : i < l.length), Cd.checkl cl l = 0 → Cd.check cl[i] l[i] = 0
  | c :: r, x :: s, 0, h1, h2, h => by
    unfold Cd.checkl at h
    split at h
    · rename_i hne
      exact absurd h hne
    · rename_i he
      exact Decidable.not_not.1 he
  | c :: r, x :: s, i + 1, h1, h2, h => by
    unfold Cd.checkl at h
    split at h
    · rename_i hne
      exact absurd h hne
    · exact checkl_zero r s i (by simpa using h1) (by simpa using h2) h
theorem encl_snoc : ∀ (cl : List Cd) (l : List Nd) (i : Nat) (h1 : i < cl.length) (h2 : i < l.length), Cd.encl (cl.take (i + 1)) (l.take (i + 1)) = Cd.encl (cl.take i) (l.take i) ++ Cd.enc cl[i] l[i]
  | c :: r, x :: s, 0, h1, h2 => by simp [Cd.encl]
  | c :: r, x :: s, i + 1, h1, h2 => by
    have := encl_snoc r s i (by simpa using h1) (by simpa using h2)
    simp [Cd.encl, this]
end Go.Lt
