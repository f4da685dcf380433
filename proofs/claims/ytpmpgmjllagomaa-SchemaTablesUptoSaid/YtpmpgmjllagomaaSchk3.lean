/- schema's codecs check: arrays and records. Conditions: none. -/
import Derived.Test.YtpmpgmjllagomaaSchk2
set_option linter.unusedVariables false
set_option maxHeartbeats 4000000
set_option linter.unusedSimpArgs false
set_option maxRecDepth 100000
namespace Go.Lt
open Go
attribute [local irreducible] op gop lt glt rc grc ite' drawn also ldR
def ChkOk (c : Cd) : Prop := ∀ (w0 : World) (p : List HP) (Pn : PK) (K : Value → WP) (v : Value) (n : Nd) (cs : List Value), CdV p c v → RdD p (ndD n) cs → Nd.ok n → Ent w0 p (K (.int .i64 (Cd.check c n))) →
  Ent w0 p (op PR Pn (S.invoke v "leat/schema.check" [.agg cs.toArray]) K)
theorem num_chk (k : Int) : ChkOk (.num k) := fun w0 p Pn K v n cs hv hn hok h => by
  unfold CdV cdV at hv
  subst hv
  obtain ⟨A1, c1, A2, c2, rfl, h1, h2⟩ := nd_open hn
  refine Ent.call (fun w h => meth.schema_number_check h) (num_check ?_ h)
  cases hok with
  | mk a1 a2 a3 => exact a1
theorem txt_chk (k : Int) : ChkOk (.txt k) := fun w0 p Pn K v n cs hv hn hok h => by
  unfold CdV cdV at hv
  subst hv
  obtain ⟨A1, c1, A2, c2, rfl, h1, h2⟩ := nd_open hn
  refine Ent.call (fun w h => meth.schema_text_check h) (text_check h1 ?_ h)
  cases hok with
  | mk a1 a2 a3 => exact Nat.le_trans a2 (by decide)
theorem blb_chk (k : Int) : ChkOk (.blb k) := fun w0 p Pn K v n cs hv hn hok h => by
  unfold CdV cdV at hv
  subst hv
  obtain ⟨A1, c1, A2, c2, rfl, h1, h2⟩ := nd_open hn
  refine Ent.call (fun w h => meth.schema_blob_check h) (blob_check ?_ h)
  cases hok with
  | mk a1 a2 a3 => exact a2
theorem Nd.ok.list {n x : Nd} (h : Nd.ok n) (hx : x ∈ n.list) : Nd.ok x := by
  cases h with
  | mk h1 h2 h3 => exact h3 x hx
theorem ndsD_get {l : List Nd} {i : Nat} (h : i < l.length) : (ndsD l)[i]? = some (ndD l[i]) := by
  rw [ndsD_map, List.getElem?_map, List.getElem?_eq_getElem h]
  rfl
theorem arr_chk {cd : Cd} (ih : ChkOk cd) : ChkOk (.arr cd) := fun w0 p Pn K v n cs hv hn hok h => by
  unfold CdV cdV at hv
  obtain ⟨u, rfl, hu, t, ux, rfl⟩ := hv
  obtain ⟨A1, c1, A2, c2, rfl, h1, h2⟩ := nd_open hn
  refine Ent.call (fun w h => meth.schema_array_check h) ?_
  refine Ent.call (fun w h => enter.schema_array_check h) ?_
  unfold W.schema_array_check
  refine Ent.box fun g1 => ?_
  unfold ndC
  refine Ent.box fun g2 => ?_
  repeat (first | refine Ent.runW (wrap_i64 (by omega) (by omega)) ?_ | refine Ent.runWL (wrap_i64 (by omega) (by omega)) ?_ | refine Ent.runWR (wrap_i64 (by omega) (by omega)) ?_ | refine Ent.run ?_ | refine Ent.runL ?_ | refine Ent.runR ?_ | refine Ent.drawn ?_ | refine Ent.store (by kernel_rfl) ?_ | refine Ent.resN ?_ | refine Ent.res1 ?_ | refine Ent.gop_yes ?_ | refine Ent.gop_no (by decide) ?_ | refine Ent.gop_undef ?_ | refine Ent.glt_undef ?_ | refine Ent.grc_undef ?_ | refine Ent.glt_yes ?_ | refine Ent.glt_no (by decide) ?_ | refine Ent.grc_yes ?_ | refine Ent.grc_no (by decide) ?_)
  refine plain_spec (n := n) (A1 := A1) (A2 := A2) (c1 := c1) (c2 := c2) ?_
  unfold Cd.check at h
  repeat (first | refine Ent.runW (wrap_i64 (by omega) (by omega)) ?_ | refine Ent.runWL (wrap_i64 (by omega) (by omega)) ?_ | refine Ent.runWR (wrap_i64 (by omega) (by omega)) ?_ | refine Ent.run ?_ | refine Ent.runL ?_ | refine Ent.runR ?_ | refine Ent.drawn ?_ | refine Ent.store (by kernel_rfl) ?_ | refine Ent.resN ?_ | refine Ent.res1 ?_ | refine Ent.gop_yes ?_ | refine Ent.gop_no (by decide) ?_ | refine Ent.gop_undef ?_ | refine Ent.glt_undef ?_ | refine Ent.grc_undef ?_ | refine Ent.glt_yes ?_ | refine Ent.glt_no (by decide) ?_ | refine Ent.grc_yes ?_ | refine Ent.grc_no (by decide) ?_)
  cases hp : plainF n 9 false false false true
  · rw [if_pos hp] at h
    refine Ent.ite_t ?_
    exact Ent.pick blk g1 (Ent.drop (Ent.pick blk g2 (Ent.drop h)))
  rw [if_neg (by simp [hp])] at h
  refine Ent.ite_f ?_
  repeat (first | refine Ent.runW (wrap_i64 (by omega) (by omega)) ?_ | refine Ent.runWL (wrap_i64 (by omega) (by omega)) ?_ | refine Ent.runWR (wrap_i64 (by omega) (by omega)) ?_ | refine Ent.run ?_ | refine Ent.runL ?_ | refine Ent.runR ?_ | refine Ent.drawn ?_ | refine Ent.store (by kernel_rfl) ?_ | refine Ent.resN ?_ | refine Ent.res1 ?_ | refine Ent.gop_yes ?_ | refine Ent.gop_no (by decide) ?_ | refine Ent.gop_undef ?_ | refine Ent.glt_undef ?_ | refine Ent.grc_undef ?_ | refine Ent.glt_yes ?_ | refine Ent.glt_no (by decide) ?_ | refine Ent.grc_yes ?_ | refine Ent.grc_no (by decide) ?_)
  refine Ent.ite (fun hq => ?_) (fun hq => ?_)
  · have hq : 16 < n.list.length := by have : (16 : Int) < n.list.length := by simpa using hq
                                       omega
    rw [if_pos hq] at h
    exact Ent.pick blk g1 (Ent.drop (Ent.pick blk g2 (Ent.drop h)))
  have hq : ¬ 16 < n.list.length := by have : ¬ (16 : Int) < n.list.length := by simpa using hq
                                       omega
  rw [if_neg hq] at h
  repeat (first | refine Ent.runW (wrap_i64 (by omega) (by omega)) ?_ | refine Ent.runWL (wrap_i64 (by omega) (by omega)) ?_ | refine Ent.runWR (wrap_i64 (by omega) (by omega)) ?_ | refine Ent.run ?_ | refine Ent.runL ?_ | refine Ent.runR ?_ | refine Ent.drawn ?_ | refine Ent.store (by kernel_rfl) ?_ | refine Ent.resN ?_ | refine Ent.res1 ?_ | refine Ent.gop_yes ?_ | refine Ent.gop_no (by decide) ?_ | refine Ent.gop_undef ?_ | refine Ent.glt_undef ?_ | refine Ent.grc_undef ?_ | refine Ent.glt_yes ?_ | refine Ent.glt_no (by decide) ?_ | refine Ent.grc_yes ?_ | refine Ent.grc_no (by decide) ?_)
  refine Ent.pick blk g2 (Ent.drop (Ent.pick blk g1 ?_))
  refine Ent.L2 (σ := Nat) (fun _ => .int .i64 0) (fun i => .int .i64 i)
    (fun i => pure' (i ≤ n.list.length ∧ checkF (Cd.check cd) n.list = checkF (Cd.check cd) (n.list.drop i)) :: blk g1 [.iface t ux] :: p)
    (fun i => n.list.length - i) 0 ?_ ?_
  · intro w hs
    exact hs.add ⟨⟨Nat.zero_le _, rfl⟩, fun _ => rfl⟩
  · intro i k hrec
    refine Ent.pure fun hf => ?_
    obtain ⟨hf1, hf2⟩ := hf
    repeat (first | refine Ent.runW (wrap_i64 (by omega) (by omega)) ?_ | refine Ent.runWL (wrap_i64 (by omega) (by omega)) ?_ | refine Ent.runWR (wrap_i64 (by omega) (by omega)) ?_ | refine Ent.run ?_ | refine Ent.runL ?_ | refine Ent.runR ?_ | refine Ent.drawn ?_ | refine Ent.store (by kernel_rfl) ?_ | refine Ent.resN ?_ | refine Ent.res1 ?_ | refine Ent.gop_yes ?_ | refine Ent.gop_no (by decide) ?_ | refine Ent.gop_undef ?_ | refine Ent.glt_undef ?_ | refine Ent.grc_undef ?_ | refine Ent.glt_yes ?_ | refine Ent.glt_no (by decide) ?_ | refine Ent.grc_yes ?_ | refine Ent.grc_no (by decide) ?_)
    refine Ent.ite (fun hq => ?_) (fun hq => ?_)
    · have hlt : i < n.list.length := by simpa using hq
      rw [List.drop_eq_getElem_cons hlt, checkF] at hf2
      obtain ⟨b, o, cs, hia, hcs, hcl, hld⟩ := RdD.index (P := PR) (t := 27) (k := .i64) (i := i) h2 (by omega) (by omega) (ndsD_get hlt)
      refine Ent.at_ (fun w _ => hia w) ?_
      obtain ⟨A3, c3, A4, c4, rfl, _, _⟩ := nd_open hcs
      haveI := hld
      repeat (first | refine Ent.runW (wrap_i64 (by omega) (by omega)) ?_ | refine Ent.runWL (wrap_i64 (by omega) (by omega)) ?_ | refine Ent.runWR (wrap_i64 (by omega) (by omega)) ?_ | refine Ent.run ?_ | refine Ent.runL ?_ | refine Ent.runR ?_ | refine Ent.drawn ?_ | refine Ent.store (by kernel_rfl) ?_ | refine Ent.resN ?_ | refine Ent.res1 ?_ | refine Ent.gop_yes ?_ | refine Ent.gop_no (by decide) ?_ | refine Ent.gop_undef ?_ | refine Ent.glt_undef ?_ | refine Ent.grc_undef ?_ | refine Ent.glt_yes ?_ | refine Ent.glt_no (by decide) ?_ | refine Ent.grc_yes ?_ | refine Ent.grc_no (by decide) ?_)
      refine Ent.alloc fun g4 => ?_
      unfold ndC at *
      repeat (first | refine Ent.runW (wrap_i64 (by omega) (by omega)) ?_ | refine Ent.runWL (wrap_i64 (by omega) (by omega)) ?_ | refine Ent.runWR (wrap_i64 (by omega) (by omega)) ?_ | refine Ent.run ?_ | refine Ent.runL ?_ | refine Ent.runR ?_ | refine Ent.drawn ?_ | refine Ent.store (by kernel_rfl) ?_ | refine Ent.resN ?_ | refine Ent.res1 ?_ | refine Ent.gop_yes ?_ | refine Ent.gop_no (by decide) ?_ | refine Ent.gop_undef ?_ | refine Ent.glt_undef ?_ | refine Ent.grc_undef ?_ | refine Ent.glt_yes ?_ | refine Ent.glt_no (by decide) ?_ | refine Ent.grc_yes ?_ | refine Ent.grc_no (by decide) ?_)
      refine ih _ _ _ _ _ (n.list[i]) _ (cdV.mono (fun _ _ h => h.skip.skip) _ _ hu) hcs.skip.skip (hok.list (List.getElem_mem hlt)) ?_
      refine Ent.pick blk g4 (Ent.drop ?_)
      by_cases he : Cd.check cd n.list[i] = 0
      · rw [if_neg (fun hne => hne he)] at hf2
        repeat (first | refine Ent.runW (wrap_i64 (by omega) (by omega)) ?_ | refine Ent.runWL (wrap_i64 (by omega) (by omega)) ?_ | refine Ent.runWR (wrap_i64 (by omega) (by omega)) ?_ | refine Ent.run ?_ | refine Ent.runL ?_ | refine Ent.runR ?_ | refine Ent.drawn ?_ | refine Ent.store (by kernel_rfl) ?_ | refine Ent.resN ?_ | refine Ent.res1 ?_ | refine Ent.gop_yes ?_ | refine Ent.gop_no (by decide) ?_ | refine Ent.gop_undef ?_ | refine Ent.glt_undef ?_ | refine Ent.grc_undef ?_ | refine Ent.glt_yes ?_ | refine Ent.glt_no (by decide) ?_ | refine Ent.grc_yes ?_ | refine Ent.grc_no (by decide) ?_)
        rw [decide_eq_true he]
        refine Ent.ite_f ?_
        repeat (first | refine Ent.runW (wrap_i64 (by omega) (by omega)) ?_ | refine Ent.runWL (wrap_i64 (by omega) (by omega)) ?_ | refine Ent.runWR (wrap_i64 (by omega) (by omega)) ?_ | refine Ent.run ?_ | refine Ent.runL ?_ | refine Ent.runR ?_ | refine Ent.drawn ?_ | refine Ent.store (by kernel_rfl) ?_ | refine Ent.resN ?_ | refine Ent.res1 ?_ | refine Ent.gop_yes ?_ | refine Ent.gop_no (by decide) ?_ | refine Ent.gop_undef ?_ | refine Ent.glt_undef ?_ | refine Ent.grc_undef ?_ | refine Ent.glt_yes ?_ | refine Ent.glt_no (by decide) ?_ | refine Ent.grc_yes ?_ | refine Ent.grc_no (by decide) ?_)
        have := hrec (i + 1) (by omega)
        rw [show (((i + 1 : Nat)) : Int) = (i : Int) + 1 by omega] at this
        refine Ent.add ?_ this
        exact ⟨⟨by omega, hf2⟩, fun _ => rfl⟩
      · rw [if_pos he] at hf2
        rw [hf2] at h
        repeat (first | refine Ent.runW (wrap_i64 (by omega) (by omega)) ?_ | refine Ent.runWL (wrap_i64 (by omega) (by omega)) ?_ | refine Ent.runWR (wrap_i64 (by omega) (by omega)) ?_ | refine Ent.run ?_ | refine Ent.runL ?_ | refine Ent.runR ?_ | refine Ent.drawn ?_ | refine Ent.store (by kernel_rfl) ?_ | refine Ent.resN ?_ | refine Ent.res1 ?_ | refine Ent.gop_yes ?_ | refine Ent.gop_no (by decide) ?_ | refine Ent.gop_undef ?_ | refine Ent.glt_undef ?_ | refine Ent.grc_undef ?_ | refine Ent.glt_yes ?_ | refine Ent.glt_no (by decide) ?_ | refine Ent.grc_yes ?_ | refine Ent.grc_no (by decide) ?_)
        rw [decide_eq_false he]
        refine Ent.ite_t ?_
        exact Ent.pick blk g1 (Ent.drop h)
    · have hlt : i = n.list.length := by
        have : ¬ (i : Int) < n.list.length := by simpa using hq
        omega
      rw [List.drop_of_length_le (by omega)] at hf2
      rw [hf2] at h
      exact Ent.pick blk g1 (Ent.drop h)
theorem rcd_chk {cl : List Cd} (ih : ∀ c ∈ cl, ChkOk c) : ChkOk (.rcd cl) := fun w0 p Pn K v n cs hv hn hok h => by
  unfold CdV cdV at hv
  obtain ⟨A0, c0, rfl, hv1, hv2, hv3, hv4⟩ := hv
  obtain ⟨A1, c1, A2, c2, rfl, h1, h2⟩ := nd_open hn
  refine Ent.call (fun w h => meth.schema_record_check h) ?_
  refine Ent.call (fun w h => enter.schema_record_check h) ?_
  unfold W.schema_record_check
  refine Ent.box fun g1 => ?_
  unfold ndC
  refine Ent.box fun g2 => ?_
  repeat (first | refine Ent.runW (wrap_i64 (by omega) (by omega)) ?_ | refine Ent.runWL (wrap_i64 (by omega) (by omega)) ?_ | refine Ent.runWR (wrap_i64 (by omega) (by omega)) ?_ | refine Ent.run ?_ | refine Ent.runL ?_ | refine Ent.runR ?_ | refine Ent.drawn ?_ | refine Ent.store (by kernel_rfl) ?_ | refine Ent.resN ?_ | refine Ent.res1 ?_ | refine Ent.gop_yes ?_ | refine Ent.gop_no (by decide) ?_ | refine Ent.gop_undef ?_ | refine Ent.glt_undef ?_ | refine Ent.grc_undef ?_ | refine Ent.glt_yes ?_ | refine Ent.glt_no (by decide) ?_ | refine Ent.grc_yes ?_ | refine Ent.grc_no (by decide) ?_)
  refine plain_spec (n := n) (A1 := A1) (A2 := A2) (c1 := c1) (c2 := c2) ?_
  unfold Cd.check at h
  have hl : ((n.list.length : Int) = cl.length) = (n.list.length = cl.length) := by rw [eq_iff_iff]; omega
  repeat (first | refine Ent.runW (wrap_i64 (by omega) (by omega)) ?_ | refine Ent.runWL (wrap_i64 (by omega) (by omega)) ?_ | refine Ent.runWR (wrap_i64 (by omega) (by omega)) ?_ | refine Ent.run ?_ | refine Ent.runL ?_ | refine Ent.runR ?_ | refine Ent.drawn ?_ | refine Ent.store (by kernel_rfl) ?_ | refine Ent.resN ?_ | refine Ent.res1 ?_ | refine Ent.gop_yes ?_ | refine Ent.gop_no (by decide) ?_ | refine Ent.gop_undef ?_ | refine Ent.glt_undef ?_ | refine Ent.grc_undef ?_ | refine Ent.glt_yes ?_ | refine Ent.glt_no (by decide) ?_ | refine Ent.grc_yes ?_ | refine Ent.grc_no (by decide) ?_)
  cases hp : plainF n 10 false false false true
  · rw [if_pos (.inl hp)] at h
    repeat (first | refine Ent.runW (wrap_i64 (by omega) (by omega)) ?_ | refine Ent.runWL (wrap_i64 (by omega) (by omega)) ?_ | refine Ent.runWR (wrap_i64 (by omega) (by omega)) ?_ | refine Ent.run ?_ | refine Ent.runL ?_ | refine Ent.runR ?_ | refine Ent.drawn ?_ | refine Ent.store (by kernel_rfl) ?_ | refine Ent.resN ?_ | refine Ent.res1 ?_ | refine Ent.gop_yes ?_ | refine Ent.gop_no (by decide) ?_ | refine Ent.gop_undef ?_ | refine Ent.glt_undef ?_ | refine Ent.grc_undef ?_ | refine Ent.glt_yes ?_ | refine Ent.glt_no (by decide) ?_ | refine Ent.grc_yes ?_ | refine Ent.grc_no (by decide) ?_)
    refine Ent.ite_t ?_
    exact Ent.pick blk g1 (Ent.drop (Ent.pick blk g2 (Ent.drop h)))
  repeat (first | refine Ent.runW (wrap_i64 (by omega) (by omega)) ?_ | refine Ent.runWL (wrap_i64 (by omega) (by omega)) ?_ | refine Ent.runWR (wrap_i64 (by omega) (by omega)) ?_ | refine Ent.run ?_ | refine Ent.runL ?_ | refine Ent.runR ?_ | refine Ent.drawn ?_ | refine Ent.store (by kernel_rfl) ?_ | refine Ent.resN ?_ | refine Ent.res1 ?_ | refine Ent.gop_yes ?_ | refine Ent.gop_no (by decide) ?_ | refine Ent.gop_undef ?_ | refine Ent.glt_undef ?_ | refine Ent.grc_undef ?_ | refine Ent.glt_yes ?_ | refine Ent.glt_no (by decide) ?_ | refine Ent.grc_yes ?_ | refine Ent.grc_no (by decide) ?_)
  by_cases hle : n.list.length ≠ cl.length
  · rw [if_pos (.inr hle)] at h
    rw [decide_eq_false (by rw [hl]; exact hle)]
    refine Ent.ite_t ?_
    exact Ent.pick blk g1 (Ent.drop (Ent.pick blk g2 (Ent.drop h)))
  have hle : n.list.length = cl.length := Decidable.not_not.1 hle
  rw [if_neg (by simp [hp, hle])] at h
  rw [decide_eq_true (by rw [hl]; exact hle)]
  refine Ent.ite_f ?_
  repeat (first | refine Ent.runW (wrap_i64 (by omega) (by omega)) ?_ | refine Ent.runWL (wrap_i64 (by omega) (by omega)) ?_ | refine Ent.runWR (wrap_i64 (by omega) (by omega)) ?_ | refine Ent.run ?_ | refine Ent.runL ?_ | refine Ent.runR ?_ | refine Ent.drawn ?_ | refine Ent.store (by kernel_rfl) ?_ | refine Ent.resN ?_ | refine Ent.res1 ?_ | refine Ent.gop_yes ?_ | refine Ent.gop_no (by decide) ?_ | refine Ent.gop_undef ?_ | refine Ent.glt_undef ?_ | refine Ent.grc_undef ?_ | refine Ent.glt_yes ?_ | refine Ent.glt_no (by decide) ?_ | refine Ent.grc_yes ?_ | refine Ent.grc_no (by decide) ?_)
  refine Ent.pick blk g2 (Ent.drop (Ent.pick blk g1 ?_))
  refine Ent.L2 (σ := Nat) (fun _ => .int .i64 0) (fun i => .int .i64 i)
    (fun i => pure' (i ≤ n.list.length ∧ Cd.checkl cl n.list = Cd.checkl (cl.drop i) (n.list.drop i)) :: blk g1 [.slice A0 cl.length c0] :: p)
    (fun i => n.list.length - i) 0 ?_ ?_
  · intro w hs
    exact hs.add ⟨⟨Nat.zero_le _, rfl⟩, fun _ => rfl⟩
  · intro i k hrec
    refine Ent.pure fun hf => ?_
    obtain ⟨hf1, hf2⟩ := hf
    repeat (first | refine Ent.runW (wrap_i64 (by omega) (by omega)) ?_ | refine Ent.runWL (wrap_i64 (by omega) (by omega)) ?_ | refine Ent.runWR (wrap_i64 (by omega) (by omega)) ?_ | refine Ent.run ?_ | refine Ent.runL ?_ | refine Ent.runR ?_ | refine Ent.drawn ?_ | refine Ent.store (by kernel_rfl) ?_ | refine Ent.resN ?_ | refine Ent.res1 ?_ | refine Ent.gop_yes ?_ | refine Ent.gop_no (by decide) ?_ | refine Ent.gop_undef ?_ | refine Ent.glt_undef ?_ | refine Ent.grc_undef ?_ | refine Ent.glt_yes ?_ | refine Ent.glt_no (by decide) ?_ | refine Ent.grc_yes ?_ | refine Ent.grc_no (by decide) ?_)
    refine Ent.ite (fun hq => ?_) (fun hq => ?_)
    · have hlt : i < n.list.length := by simpa using hq
      have hlt2 : i < cl.length := by omega
      rw [List.drop_eq_getElem_cons hlt, List.drop_eq_getElem_cons hlt2, Cd.checkl] at hf2
      obtain ⟨b, o, cs, hia, hcs, hcl, hld⟩ := RdD.index (P := PR) (t := 27) (k := .i64) (i := i) h2 (by omega) (by omega) (ndsD_get hlt)
      rcases hv4 with hv4 | ⟨b2, o2, rfl, hv4⟩
      · subst hv4
        simp at hlt2
      obtain ⟨u, hu, ⟨t, ux, rfl⟩, hu3⟩ := hv4.get (List.getElem?_eq_getElem hlt2)
      haveI hld2 : LoadAt p ⟨b2, o2 + i, none⟩ (.iface t ux) := ⟨fun w0 w hs => hu3 w0 w hs⟩
      refine Ent.at_ (fun w _ => hia w) ?_
      obtain ⟨A3, c3, A4, c4, rfl, _, _⟩ := nd_open hcs
      haveI := hld
      repeat (first | refine Ent.runW (wrap_i64 (by omega) (by omega)) ?_ | refine Ent.runWL (wrap_i64 (by omega) (by omega)) ?_ | refine Ent.runWR (wrap_i64 (by omega) (by omega)) ?_ | refine Ent.run ?_ | refine Ent.runL ?_ | refine Ent.runR ?_ | refine Ent.drawn ?_ | refine Ent.store (by kernel_rfl) ?_ | refine Ent.resN ?_ | refine Ent.res1 ?_ | refine Ent.gop_yes ?_ | refine Ent.gop_no (by decide) ?_ | refine Ent.gop_undef ?_ | refine Ent.glt_undef ?_ | refine Ent.grc_undef ?_ | refine Ent.glt_yes ?_ | refine Ent.glt_no (by decide) ?_ | refine Ent.grc_yes ?_ | refine Ent.grc_no (by decide) ?_)
      refine Ent.alloc fun g4 => ?_
      unfold ndC at *
      repeat (first | refine Ent.runW (wrap_i64 (by omega) (by omega)) ?_ | refine Ent.runWL (wrap_i64 (by omega) (by omega)) ?_ | refine Ent.runWR (wrap_i64 (by omega) (by omega)) ?_ | refine Ent.run ?_ | refine Ent.runL ?_ | refine Ent.runR ?_ | refine Ent.drawn ?_ | refine Ent.store (by kernel_rfl) ?_ | refine Ent.resN ?_ | refine Ent.res1 ?_ | refine Ent.gop_yes ?_ | refine Ent.gop_no (by decide) ?_ | refine Ent.gop_undef ?_ | refine Ent.glt_undef ?_ | refine Ent.grc_undef ?_ | refine Ent.glt_yes ?_ | refine Ent.glt_no (by decide) ?_ | refine Ent.grc_yes ?_ | refine Ent.grc_no (by decide) ?_)
      refine Ent.atL (fun w _ => ia_run (sz := 1) (by omega) (by omega)) ?_
      rw [add_none, Nat.mul_one, Int.toNat_natCast]
      repeat (first | refine Ent.runW (wrap_i64 (by omega) (by omega)) ?_ | refine Ent.runWL (wrap_i64 (by omega) (by omega)) ?_ | refine Ent.runWR (wrap_i64 (by omega) (by omega)) ?_ | refine Ent.run ?_ | refine Ent.runL ?_ | refine Ent.runR ?_ | refine Ent.drawn ?_ | refine Ent.store (by kernel_rfl) ?_ | refine Ent.resN ?_ | refine Ent.res1 ?_ | refine Ent.gop_yes ?_ | refine Ent.gop_no (by decide) ?_ | refine Ent.gop_undef ?_ | refine Ent.glt_undef ?_ | refine Ent.grc_undef ?_ | refine Ent.glt_yes ?_ | refine Ent.glt_no (by decide) ?_ | refine Ent.grc_yes ?_ | refine Ent.grc_no (by decide) ?_)
      refine ih _ (List.getElem_mem hlt2) _ _ _ _ _ (n.list[i]) _ (cdV.mono (fun _ _ h => h.skip.skip) _ _ hu) hcs.skip.skip (hok.list (List.getElem_mem hlt)) ?_
      refine Ent.pick blk g4 (Ent.drop ?_)
      by_cases he : Cd.check cl[i] n.list[i] = 0
      · rw [if_neg (fun hne => hne he)] at hf2
        repeat (first | refine Ent.runW (wrap_i64 (by omega) (by omega)) ?_ | refine Ent.runWL (wrap_i64 (by omega) (by omega)) ?_ | refine Ent.runWR (wrap_i64 (by omega) (by omega)) ?_ | refine Ent.run ?_ | refine Ent.runL ?_ | refine Ent.runR ?_ | refine Ent.drawn ?_ | refine Ent.store (by kernel_rfl) ?_ | refine Ent.resN ?_ | refine Ent.res1 ?_ | refine Ent.gop_yes ?_ | refine Ent.gop_no (by decide) ?_ | refine Ent.gop_undef ?_ | refine Ent.glt_undef ?_ | refine Ent.grc_undef ?_ | refine Ent.glt_yes ?_ | refine Ent.glt_no (by decide) ?_ | refine Ent.grc_yes ?_ | refine Ent.grc_no (by decide) ?_)
        rw [decide_eq_true he]
        refine Ent.ite_f ?_
        repeat (first | refine Ent.runW (wrap_i64 (by omega) (by omega)) ?_ | refine Ent.runWL (wrap_i64 (by omega) (by omega)) ?_ | refine Ent.runWR (wrap_i64 (by omega) (by omega)) ?_ | refine Ent.run ?_ | refine Ent.runL ?_ | refine Ent.runR ?_ | refine Ent.drawn ?_ | refine Ent.store (by kernel_rfl) ?_ | refine Ent.resN ?_ | refine Ent.res1 ?_ | refine Ent.gop_yes ?_ | refine Ent.gop_no (by decide) ?_ | refine Ent.gop_undef ?_ | refine Ent.glt_undef ?_ | refine Ent.grc_undef ?_ | refine Ent.glt_yes ?_ | refine Ent.glt_no (by decide) ?_ | refine Ent.grc_yes ?_ | refine Ent.grc_no (by decide) ?_)
        have := hrec (i + 1) (by omega)
        rw [show (((i + 1 : Nat)) : Int) = (i : Int) + 1 by omega] at this
        refine Ent.add ?_ this
        exact ⟨⟨by omega, hf2⟩, fun _ => rfl⟩
      · rw [if_pos he] at hf2
        rw [hf2] at h
        repeat (first | refine Ent.runW (wrap_i64 (by omega) (by omega)) ?_ | refine Ent.runWL (wrap_i64 (by omega) (by omega)) ?_ | refine Ent.runWR (wrap_i64 (by omega) (by omega)) ?_ | refine Ent.run ?_ | refine Ent.runL ?_ | refine Ent.runR ?_ | refine Ent.drawn ?_ | refine Ent.store (by kernel_rfl) ?_ | refine Ent.resN ?_ | refine Ent.res1 ?_ | refine Ent.gop_yes ?_ | refine Ent.gop_no (by decide) ?_ | refine Ent.gop_undef ?_ | refine Ent.glt_undef ?_ | refine Ent.grc_undef ?_ | refine Ent.glt_yes ?_ | refine Ent.glt_no (by decide) ?_ | refine Ent.grc_yes ?_ | refine Ent.grc_no (by decide) ?_)
        rw [decide_eq_false he]
        refine Ent.ite_t ?_
        exact Ent.pick blk g1 (Ent.drop h)
    · have hlt : i = n.list.length := by
        have : ¬ (i : Int) < n.list.length := by simpa using hq
        omega
      rw [List.drop_of_length_le (by omega), List.drop_of_length_le (by omega)] at hf2
      rw [hf2] at h
      exact Ent.pick blk g1 (Ent.drop h)
mutual
theorem chk_ok : ∀ c : Cd, ChkOk c
  | .num k => num_chk k
  | .txt k => txt_chk k
  | .blb k => blb_chk k
  | .arr c => arr_chk (chk_ok c)
  | .rcd l => rcd_chk (chks_ok l)
theorem chks_ok : ∀ (l : List Cd) (c : Cd), c ∈ l → ChkOk c
  | [], c, h => by cases h
  | x :: r, c, h => by
    have hx := chk_ok x
    rcases List.mem_cons.1 h with h' | h'
    · exact h' ▸ hx
    · exact chks_ok r c h'
end
end Go.Lt
