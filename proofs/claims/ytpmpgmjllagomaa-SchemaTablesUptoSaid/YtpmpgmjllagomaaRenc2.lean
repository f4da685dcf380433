/- The reference's Encode. Conditions: none. -/
import Derived.Test.YtpmpgmjllagomaaRenc
import Derived.Test.YtpmpgmjllagomaaOnly
set_option linter.unusedVariables false
set_option maxHeartbeats 4000000
set_option linter.unusedSimpArgs false
set_option maxRecDepth 100000
namespace Go.Lt
open Go
attribute [local irreducible] op gop lt glt rc grc ite' drawn also ldR
mutual
/-- What a tree's writing takes at the most. -/
def Nd.bulk : Nd → Nat
  | .mk _ _ _ d l => 8 + d.length + Nd.bulks l
def Nd.bulks : List Nd → Nat
  | [] => 0
  | x :: r => Nd.bulk x + Nd.bulks r
end
theorem Nd.bulk_eq (n : Nd) : n.bulk = 8 + n.data.length + Nd.bulks n.list := by
  cases n
  rfl
theorem bulks_mem {x : Nd} : ∀ {l : List Nd}, x ∈ l → x.bulk ≤ Nd.bulks l
  | y :: r, h => by
    unfold Nd.bulks
    rcases List.mem_cons.1 h with h | h
    · subst h; omega
    · have := bulks_mem h; omega
mutual
theorem enc_bulk : ∀ (c : Cd) (n : Nd), (Cd.enc c n).length ≤ n.bulk
  | .num k, n => by
    rw [Nd.bulk_eq]
    unfold Cd.enc
    rw [beI_length]
    rcases width_ok k with h | h | h | h <;> omega
  | .txt k, n => by
    rw [Nd.bulk_eq]
    unfold Cd.enc
    split
    · rw [beI_length]; omega
    · rw [List.length_append, beI_length]; omega
  | .blb k, n => by
    rw [Nd.bulk_eq]
    unfold Cd.enc
    split
    · rw [beI_length]; omega
    · rw [List.length_append, beI_length]; omega
  | .arr c, n => by
    have h : ∀ l : List Nd, (l.flatMap (Cd.enc c)).length ≤ Nd.bulks l := fun l => by
      induction l with
      | nil => simp
      | cons x r ih =>
        rw [List.flatMap_cons, List.length_append]
        unfold Nd.bulks
        have := enc_bulk c x
        omega
    have := h n.list
    rw [Nd.bulk_eq]
    unfold Cd.enc
    rw [List.length_append, beI_length]
    omega
  | .rcd l, n => by
    have := encl_bulk l n.list
    rw [Nd.bulk_eq]
    unfold Cd.enc
    omega
theorem encl_bulk : ∀ (c : List Cd) (l : List Nd), (Cd.encl c l).length ≤ Nd.bulks l
  | [], l => by simp [Cd.encl]
  | _ :: _, [] => by simp [Cd.encl]
  | c :: r, x :: s => by
    have h1 := enc_bulk c x
    have h2 := encl_bulk r s
    unfold Cd.encl Nd.bulks
    rw [List.length_append]
    omega
end
/-- What a writing of the reference answers. -/
def AnsK (w0 : World) (p : List HP) (K : Value → WP) (e : Int) (bs : List UInt8) : Prop :=
  (e ≠ 0 → Ent w0 p (K (.tuple [.slice none 0 0, .int .i64 e].toArray))) ∧
  (e = 0 → ∀ A c, Ent w0 (ownB T.u8 (.slice A bs.length c) bs :: p) (K (.tuple [.slice A bs.length c, .int .i64 0].toArray)))
def ValOk (f : Fld) : Prop := ∀ (w0 : World) (p : List HP) (Pn : PK) (K : Value → WP) (A : Option Addr) (c : Nat) (v : Int) (n : Nd) (cs : List Value), RdD p (fldD f) (fldC f A c) → RdD p (ndD n) cs → n.ok → n.bulk ≤ 536870912 →
  AnsK w0 p K (Cd.check (compileF v f) n) (Cd.enc (compileF v f) n) → Ent w0 p (op PR Pn (S.fn F.leatref10_value [.agg (fldC f A c).toArray, .int .i64 v, .agg cs.toArray]) K)
def PartsOk (fs : List Fld) : Prop := ∀ (w0 : World) (p : List HP) (Pn : PK) (K : Value → WP) (A : Option Addr) (c : Nat) (v : Int) (n : Nd) (cs : List Value), RdD p (.sl T.api_Field 5 (fldsD fs)) [.slice A fs.length c] → fs.length ≤ 16 → RdD p (ndD n) cs → n.ok → n.bulk ≤ 536870912 →
  plainF n 10 false false false true = true → AnsK w0 p K (Cd.check (.rcd (wholeF v fs)) n) (Cd.enc (.rcd (wholeF v fs)) n) → Ent w0 p (op PR Pn (S.fn F.leatref10_parts [.slice A fs.length c, .int .i64 v, .agg cs.toArray]) K)
theorem checkl_take : ∀ (cl : List Cd) (l : List Nd) (i : Nat) (h1 : i < cl.length) (h2 : i < l.length), Cd.checkl (cl.take i) (l.take i) = 0 → Cd.check cl[i] l[i] ≠ 0 → Cd.checkl cl l = Cd.check cl[i] l[i]
  | [], _, i, h1, _, _, _ => by simp at h1
  | _ :: _, [], i, _, h2, _, _ => by simp at h2
  | c :: r, x :: s, 0, h1, h2, h3, h4 => by
    unfold Cd.checkl
    exact if_pos h4
  | c :: r, x :: s, i + 1, h1, h2, h3, h4 => by
    simp only [List.take_succ_cons, List.getElem_cons_succ] at h3 h4 ⊢
    unfold Cd.checkl at h3 ⊢
    split at h3
    · rename_i h; exact absurd h3 h
    · rename_i h
      rw [if_neg h]
      exact checkl_take r s i (by simpa using h1) (by simpa using h2) h3 h4
theorem checkl_snoc : ∀ (cl : List Cd) (l : List Nd) (i : Nat) (h1 : i < cl.length) (h2 : i < l.length), Cd.checkl (cl.take i) (l.take i) = 0 → Cd.check cl[i] l[i] = 0 → Cd.checkl (cl.take (i + 1)) (l.take (i + 1)) = 0
  | [], _, i, h1, _, _, _ => by simp at h1
  | _ :: _, [], i, _, h2, _, _ => by simp at h2
  | c :: r, x :: s, 0, h1, h2, h3, h4 => by
    simp only [List.getElem_cons_zero] at h4
    simp [Cd.checkl, h4]
  | c :: r, x :: s, i + 1, h1, h2, h3, h4 => by
    simp only [List.take_succ_cons, List.getElem_cons_succ] at h3 h4 ⊢
    unfold Cd.checkl at h3 ⊢
    split at h3
    · rename_i h; exact absurd h3 h
    · rename_i h
      rw [if_neg h]
      exact checkl_snoc r s i (by simpa using h1) (by simpa using h2) h3 h4
theorem parts_ok {fs : List Fld} (ih : ∀ f ∈ fs, ValOk f) : PartsOk fs := fun w0 p Pn K A c v n cs hf h16 hn hok hbk hpl hans => by
  obtain ⟨he, hk⟩ := hans
  obtain ⟨A1, c1, A2, c2, rfl, hb, hl⟩ := nd_open hn
  obtain ⟨_, _, hsh, hsh2, hsh3⟩ := hl.shape
  rw [ndsD_length] at hsh2
  injection hsh with _ _ e2
  refine Ent.call (fun w h => enter.leatref10_parts h) ?_
  unfold W.leatref10_parts
  unfold ndC at *
  refine Ent.box fun g1 => ?_
  refine RHere_spec (v := v) (p := p) hf (by omega) fun A3 c3 x hx => ?_
  have hmem : ∀ i (h : i < (hereL fs v).length), (hereL fs v)[i] ∈ fs := fun i h => (List.mem_filter.1 (List.getElem_mem h)).1
  have hhl : (hereL fs v).length ≤ 16 := Nat.le_trans (List.length_filter_le _ _) h16
  rw [wholeF_map] at he hk
  generalize hh : hereL fs v = hs at hx hhl hmem he hk
  unfold Cd.check at he hk
  unfold Cd.enc at hk
  simp only [List.length_map, hpl, Bool.true_eq_false, false_or] at he hk
  repeat (first | refine Ent.runW (wrap_i64 (by omega) (by omega)) ?_ | refine Ent.runWL (wrap_i64 (by omega) (by omega)) ?_ | refine Ent.runWR (wrap_i64 (by omega) (by omega)) ?_ | refine Ent.run ?_ | refine Ent.runL ?_ | refine Ent.runR ?_ | refine Ent.drawn ?_ | refine Ent.store (by kernel_rfl) ?_ | refine Ent.resN ?_ | refine Ent.res1 ?_ | refine Ent.gop_yes ?_ | refine Ent.gop_no (by decide) ?_ | refine Ent.gop_undef ?_ | refine Ent.glt_undef ?_ | refine Ent.grc_undef ?_ | refine Ent.glt_yes ?_ | refine Ent.glt_no (by decide) ?_ | refine Ent.grc_yes ?_ | refine Ent.grc_no (by decide) ?_)
  by_cases hlen : n.list.length = hs.length
  case neg =>
    rw [decide_eq_false (show ¬ ((n.list.length : Int) = hs.length) by omega)]
    rw [if_pos hlen] at he
    exact Ent.ite_t (Ent.keep (he (by decide)))
  rw [decide_eq_true (show ((n.list.length : Int) = hs.length) by omega)]
  rw [if_neg (fun h => h hlen)] at he hk
  refine Ent.ite_f ?_
  refine Ent.bsliceR (sz := 1) (by omega) rfl fun g => ?_
  have hclen : (hs.map (compileF v)).length = hs.length := List.length_map _
  rw [Nd.bulk_eq] at hbk
  have hbs := encl_bulk (hs.map (compileF v)) n.list
  refine Ent.L4 (σ := Nat × Option Addr × Nat) (fun _ => .slice none 0 0) (fun _ => .int .i64 0) (fun s => .slice s.2.1 (Cd.encl ((hs.map (compileF v)).take s.1) (n.list.take s.1)).length s.2.2) (fun s => .int .i64 s.1)
    (fun s => pure' (s.1 ≤ hs.length ∧ Cd.checkl ((hs.map (compileF v)).take s.1) (n.list.take s.1) = 0) :: ownB T.u8 (.slice s.2.1 (Cd.encl ((hs.map (compileF v)).take s.1) (n.list.take s.1)).length s.2.2) (Cd.encl ((hs.map (compileF v)).take s.1) (n.list.take s.1)) :: exact x :: blk g1 [.int .i64 n.kind, .int .i64 n.num, .bool n.null, .slice A1 n.data.length c1, .slice A2 n.list.length c2] :: p)
    (fun s => hs.length - s.1) (0, some ⟨g, 0, none⟩, 0) ?_ ?_
  · intro w hw
    refine Sat.add (a := pure' _) ⟨⟨Nat.zero_le _, by simp [Cd.checkl]⟩, fun _ => rfl⟩ ?_
    rw [show Cd.encl ((hs.map (compileF v)).take 0) (n.list.take 0) = [] by simp [Cd.encl]]
    exact hw
  rintro ⟨i, B, d⟩ k hrec
  refine Ent.pure fun hp => ?_
  obtain ⟨hi, hck⟩ := hp
  simp only at hi hck hrec ⊢
  have hsp := encl_split (hs.map (compileF v)) n.list i (by omega) (by omega)
  have hspl := congrArg List.length hsp
  rw [List.length_append] at hspl
  repeat (first | refine Ent.runW (wrap_i64 (by omega) (by omega)) ?_ | refine Ent.runWL (wrap_i64 (by omega) (by omega)) ?_ | refine Ent.runWR (wrap_i64 (by omega) (by omega)) ?_ | refine Ent.run ?_ | refine Ent.runL ?_ | refine Ent.runR ?_ | refine Ent.drawn ?_ | refine Ent.store (by kernel_rfl) ?_ | refine Ent.resN ?_ | refine Ent.res1 ?_ | refine Ent.gop_yes ?_ | refine Ent.gop_no (by decide) ?_ | refine Ent.gop_undef ?_ | refine Ent.glt_undef ?_ | refine Ent.grc_undef ?_ | refine Ent.glt_yes ?_ | refine Ent.glt_no (by decide) ?_ | refine Ent.grc_yes ?_ | refine Ent.grc_no (by decide) ?_)
  refine Ent.ite (fun hq => ?_) (fun hq => ?_)
  · have hlt : i < hs.length := by simpa using hq
    have hlt' : i < n.list.length := by omega
    have hltc : i < (hs.map (compileF v)).length := by omega
    obtain ⟨b2, o2, cs, hia, hcs, hcl2, hld⟩ := RdD.index (P := PR) (t := T.L_api_Field) (k := .i64) (i := i) hx (by omega) (by omega) (fldsD_get hlt)
    obtain ⟨A5, c5, rfl, _⟩ := fld_open hcs
    obtain ⟨b3, o3, cs', hia', hcs', hcl3, hld'⟩ := RdD.index (P := PR) (t := T.L_api_Node) (k := .i64) (i := i) hl (by omega) (by omega) (ndsD_get hlt')
    obtain ⟨A6, c6, A7, c7, rfl, _, _⟩ := nd_open hcs'
    repeat (first | refine Ent.runW (wrap_i64 (by omega) (by omega)) ?_ | refine Ent.runWL (wrap_i64 (by omega) (by omega)) ?_ | refine Ent.runWR (wrap_i64 (by omega) (by omega)) ?_ | refine Ent.run ?_ | refine Ent.runL ?_ | refine Ent.runR ?_ | refine Ent.drawn ?_ | refine Ent.store (by kernel_rfl) ?_ | refine Ent.resN ?_ | refine Ent.res1 ?_ | refine Ent.gop_yes ?_ | refine Ent.gop_no (by decide) ?_ | refine Ent.gop_undef ?_ | refine Ent.glt_undef ?_ | refine Ent.grc_undef ?_ | refine Ent.glt_yes ?_ | refine Ent.glt_no (by decide) ?_ | refine Ent.grc_yes ?_ | refine Ent.grc_no (by decide) ?_)
    refine Ent.atL (fun w _ => hia w) ?_
    haveI := LoadN.keep (q := ownB T.u8 (.slice B (Cd.encl ((hs.map (compileF v)).take i) (n.list.take i)).length d) (Cd.encl ((hs.map (compileF v)).take i) (n.list.take i)) :: exact x :: blk g1 [.int .i64 n.kind, .int .i64 n.num, .bool n.null, .slice A1 n.data.length c1, .slice A2 n.list.length c2] :: p) hld
    repeat (first | refine Ent.runW (wrap_i64 (by omega) (by omega)) ?_ | refine Ent.runWL (wrap_i64 (by omega) (by omega)) ?_ | refine Ent.runWR (wrap_i64 (by omega) (by omega)) ?_ | refine Ent.run ?_ | refine Ent.runL ?_ | refine Ent.runR ?_ | refine Ent.drawn ?_ | refine Ent.store (by kernel_rfl) ?_ | refine Ent.resN ?_ | refine Ent.res1 ?_ | refine Ent.gop_yes ?_ | refine Ent.gop_no (by decide) ?_ | refine Ent.gop_undef ?_ | refine Ent.glt_undef ?_ | refine Ent.grc_undef ?_ | refine Ent.glt_yes ?_ | refine Ent.glt_no (by decide) ?_ | refine Ent.grc_yes ?_ | refine Ent.grc_no (by decide) ?_)
    refine Ent.atL (fun w _ => hia' w) ?_
    haveI := hld'
    repeat (first | refine Ent.runW (wrap_i64 (by omega) (by omega)) ?_ | refine Ent.runWL (wrap_i64 (by omega) (by omega)) ?_ | refine Ent.runWR (wrap_i64 (by omega) (by omega)) ?_ | refine Ent.run ?_ | refine Ent.runL ?_ | refine Ent.runR ?_ | refine Ent.drawn ?_ | refine Ent.store (by kernel_rfl) ?_ | refine Ent.resN ?_ | refine Ent.res1 ?_ | refine Ent.gop_yes ?_ | refine Ent.gop_no (by decide) ?_ | refine Ent.gop_undef ?_ | refine Ent.glt_undef ?_ | refine Ent.grc_undef ?_ | refine Ent.glt_yes ?_ | refine Ent.glt_no (by decide) ?_ | refine Ent.grc_yes ?_ | refine Ent.grc_no (by decide) ?_)
    have hb2 := bulks_mem (List.getElem_mem hlt')
    have hci : (hs.map (compileF v))[i] = compileF v hs[i] := by simp
    have hs1 := encl_snoc (hs.map (compileF v)) n.list i hltc hlt'
    rw [hci] at hs1
    refine ih _ (hmem i hlt) w0 _ _ _ A5 c5 v n.list[i] _ hcs.keep hcs'.keep (hok.list (List.getElem_mem hlt')) (by omega) ⟨fun hne => ?_, fun h0 B' d' => ?_⟩
    · repeat (first | refine Ent.runW (wrap_i64 (by omega) (by omega)) ?_ | refine Ent.runWL (wrap_i64 (by omega) (by omega)) ?_ | refine Ent.runWR (wrap_i64 (by omega) (by omega)) ?_ | refine Ent.run ?_ | refine Ent.runL ?_ | refine Ent.runR ?_ | refine Ent.drawn ?_ | refine Ent.store (by kernel_rfl) ?_ | refine Ent.resN ?_ | refine Ent.res1 ?_ | refine Ent.gop_yes ?_ | refine Ent.gop_no (by decide) ?_ | refine Ent.gop_undef ?_ | refine Ent.glt_undef ?_ | refine Ent.grc_undef ?_ | refine Ent.glt_yes ?_ | refine Ent.glt_no (by decide) ?_ | refine Ent.grc_yes ?_ | refine Ent.grc_no (by decide) ?_)
      rw [decide_eq_false hne]
      have := checkl_take (hs.map (compileF v)) n.list i hltc hlt' hck (by rw [hci]; exact hne)
      rw [hci] at this
      rw [this] at he
      exact Ent.ite_t (Ent.keep (he hne))
    · repeat (first | refine Ent.runW (wrap_i64 (by omega) (by omega)) ?_ | refine Ent.runWL (wrap_i64 (by omega) (by omega)) ?_ | refine Ent.runWR (wrap_i64 (by omega) (by omega)) ?_ | refine Ent.run ?_ | refine Ent.runL ?_ | refine Ent.runR ?_ | refine Ent.drawn ?_ | refine Ent.store (by kernel_rfl) ?_ | refine Ent.resN ?_ | refine Ent.res1 ?_ | refine Ent.gop_yes ?_ | refine Ent.gop_no (by decide) ?_ | refine Ent.gop_undef ?_ | refine Ent.glt_undef ?_ | refine Ent.grc_undef ?_ | refine Ent.glt_yes ?_ | refine Ent.glt_no (by decide) ?_ | refine Ent.grc_yes ?_ | refine Ent.grc_no (by decide) ?_)
      refine Ent.ite_f ?_
      refine Ent.freeze fun y hy => ?_
      refine Ent.take (ownB T.u8 (.slice B (Cd.encl ((hs.map (compileF v)).take i) (n.list.take i)).length d) (Cd.encl ((hs.map (compileF v)).take i) (n.list.take i))) (Ent.freeze fun z hz => ?_)
      have hsp2 := encl_split (hs.map (compileF v)) n.list (i + 1) (by omega) (by omega)
      rw [hs1] at hsp2
      have hspl2 := congrArg List.length hsp2
      simp only [List.length_append] at hspl2
      refine Cat_spec (RdB.here (ownB_rd hz)) ((RdB.here (p := p) (ownB_rd hy)).keep) (by omega) fun B2 d2 => ?_
      repeat (first | refine Ent.runW (wrap_i64 (by omega) (by omega)) ?_ | refine Ent.runWL (wrap_i64 (by omega) (by omega)) ?_ | refine Ent.runWR (wrap_i64 (by omega) (by omega)) ?_ | refine Ent.run ?_ | refine Ent.runL ?_ | refine Ent.runR ?_ | refine Ent.drawn ?_ | refine Ent.store (by kernel_rfl) ?_ | refine Ent.resN ?_ | refine Ent.res1 ?_ | refine Ent.gop_yes ?_ | refine Ent.gop_no (by decide) ?_ | refine Ent.gop_undef ?_ | refine Ent.glt_undef ?_ | refine Ent.grc_undef ?_ | refine Ent.glt_yes ?_ | refine Ent.glt_no (by decide) ?_ | refine Ent.grc_yes ?_ | refine Ent.grc_no (by decide) ?_)
      have := hrec (i + 1, B2, d2) (by simp only; omega)
      simp only [Int.natCast_add, Int.natCast_one, hs1] at this
      refine Ent.keep (Ent.add ?_ this)
      exact ⟨⟨hlt, checkl_snoc (hs.map (compileF v)) n.list i hltc hlt' hck (by rw [hci]; exact h0)⟩, fun _ => rfl⟩
  · have hlt : i = hs.length := by
      have : ¬ (i : Int) < hs.length := by simpa using hq
      omega
    subst hlt
    rw [List.take_of_length_le (by omega), List.take_of_length_le (by omega)] at hck ⊢
    exact Ent.keep (hk hck B d)
end Go.Lt
