/- The reference's Encode: a value. Conditions: none. -/
import Derived.Test.YtpmpgmjllagomaaRenc2
set_option linter.unusedVariables false
set_option maxHeartbeats 4000000
set_option linter.unusedSimpArgs false
set_option maxRecDepth 100000
namespace Go.Lt
open Go
attribute [local irreducible] op gop lt glt rc grc ite' drawn also ldR
theorem rwidth_num {k : Int} (h : 1 ≤ k ∧ k ≤ 4) : rwidth k = width k := by
  rcases (show k = 1 ∨ k = 2 ∨ k = 3 ∨ k = 4 by omega) with rfl | rfl | rfl | rfl <;> rfl
theorem fits_num {k n : Int} (h : 1 ≤ k ∧ k ≤ 4) : fitsN n (rwidth k) = fitsF k n := by
  rcases (show k = 1 ∨ k = 2 ∨ k = 3 ∨ k = 4 by omega) with rfl | rfl | rfl | rfl
  · show fitsN n 1 = _
    unfold fitsN fitsF
    rw [Bool.eq_iff_iff]
    simp
    omega
  · show fitsN n 2 = _
    unfold fitsN fitsF
    rw [Bool.eq_iff_iff]
    simp
    omega
  · show fitsN n 4 = _
    unfold fitsN fitsF
    rw [Bool.eq_iff_iff]
    simp
    omega
  · show fitsN n 8 = _
    unfold fitsN fitsF
    simp
theorem plain_shape {n : Nd} {k : Int} :
    ((1 ≤ k ∧ k ≤ 4) → shapeF k n = plainF n k true false false false) ∧ (k = 5 ∨ k = 6 → shapeF k n = plainF n k false true (decide (k = 6)) false) ∧ (k = 7 ∨ k = 8 → shapeF k n = plainF n k false true (decide (k = 8)) false) ∧
    (k = 9 ∨ k = 10 → shapeF k n = plainF n k false false false true) := by
  unfold shapeF
  refine ⟨fun h => ?_, fun h => ?_, fun h => ?_, fun h => ?_⟩
  · rw [decide_eq_true h.2, decide_eq_false (show ¬ (5 ≤ k ∧ k ≤ 8) by omega), decide_eq_false (show ¬ (k = 6 ∨ k = 8) by omega), decide_eq_false (show ¬ 9 ≤ k by omega)]
  · rw [decide_eq_false (show ¬ k ≤ 4 by omega), decide_eq_true (show (5 ≤ k ∧ k ≤ 8) by omega), show decide (k = 6 ∨ k = 8) = decide (k = 6) by rw [Bool.eq_iff_iff]; simp; omega, decide_eq_false (show ¬ 9 ≤ k by omega)]
  · rw [decide_eq_false (show ¬ k ≤ 4 by omega), decide_eq_true (show (5 ≤ k ∧ k ≤ 8) by omega), show decide (k = 6 ∨ k = 8) = decide (k = 8) by rw [Bool.eq_iff_iff]; simp; omega, decide_eq_false (show ¬ 9 ≤ k by omega)]
  · rw [decide_eq_false (show ¬ k ≤ 4 by omega), decide_eq_false (show ¬ (5 ≤ k ∧ k ≤ 8) by omega), decide_eq_false (show ¬ (k = 6 ∨ k = 8) by omega), decide_eq_true (show 9 ≤ k by omega)]
theorem checkF_take {f : Nd → Int} : ∀ (l : List Nd) (i : Nat) (h : i < l.length), checkF f (l.take i) = 0 → f l[i] ≠ 0 → checkF f l = f l[i]
  | [], i, h, _, _ => by simp at h
  | x :: r, 0, h, _, h2 => by unfold checkF; exact if_pos h2
  | x :: r, i + 1, h, h1, h2 => by
    simp only [List.take_succ_cons, List.getElem_cons_succ] at h1 h2 ⊢
    unfold checkF at h1 ⊢
    split at h1
    · rename_i h'; exact absurd h1 h'
    · rename_i h'
      rw [if_neg h']
      exact checkF_take r i (by simpa using h) h1 h2
theorem checkF_snoc {f : Nd → Int} : ∀ (l : List Nd) (i : Nat) (h : i < l.length), checkF f (l.take i) = 0 → f l[i] = 0 → checkF f (l.take (i + 1)) = 0
  | [], i, h, _, _ => by simp at h
  | x :: r, 0, h, _, h2 => by
    simp only [List.getElem_cons_zero] at h2
    simp [checkF, h2]
  | x :: r, i + 1, h, h1, h2 => by
    simp only [List.take_succ_cons, List.getElem_cons_succ] at h1 h2 ⊢
    unfold checkF at h1 ⊢
    split at h1
    · rename_i h'; exact absurd h1 h'
    · rename_i h'
      rw [if_neg h']
      exact checkF_snoc r i (by simpa using h) h1 h2
theorem flat_bulk (c : Cd) : ∀ l : List Nd, (l.flatMap (Cd.enc c)).length ≤ Nd.bulks l
  | [] => by simp
  | x :: r => by
    rw [List.flatMap_cons, List.length_append]
    unfold Nd.bulks
    have h1 := enc_bulk c x
    have h2 := flat_bulk c r
    omega
theorem flat_split (c : Cd) (l : List Nd) (i : Nat) : (l.flatMap (Cd.enc c)).length = ((l.take i).flatMap (Cd.enc c)).length + ((l.drop i).flatMap (Cd.enc c)).length := by
  conv => lhs; rw [← List.take_append_drop i l]
  rw [List.flatMap_append, List.length_append]
theorem value_ok {nm : ByteArray} {k a b : Int} {e : List Fld} (hkind : 1 ≤ k ∧ k ≤ 10) (h9 : k = 9 → e.length = 1) (h16 : e.length ≤ 16) (ihp : PartsOk e) (ihc : ∀ x ∈ e, ValOk x) : ValOk (.mk nm k a b e) := fun w0 p Pn K A c v n cs hf hn hok hbk hans => by
  obtain ⟨he, hk⟩ := hans
  obtain ⟨A', c', hce, hel⟩ := fld_open hf
  simp only [fldC, List.cons.injEq, Value.slice.injEq, and_true, true_and] at hce
  obtain ⟨rfl, _, rfl⟩ := hce
  have hn0 := hn
  obtain ⟨A1, c1, A2, c2, rfl, hb, hl⟩ := nd_open hn
  obtain ⟨_, _, hsh, hsh2, hsh3⟩ := hl.shape
  rw [ndsD_length] at hsh2
  have hnum : -9223372036854775808 ≤ n.num ∧ n.num ≤ 9223372036854775807 := by cases hok; assumption
  have hbk0 := hbk
  rw [Nd.bulk_eq] at hbk
  refine Ent.call (fun w h => enter.leatref10_value h) ?_
  unfold W.leatref10_value
  unfold fldC
  simp only [Fld.name, Fld.kind, Fld.frm, Fld.to, Fld.elem] at hel ⊢
  refine Ent.box fun g1 => Ent.box fun g2 => ?_
  unfold ndC
  repeat (first | refine Ent.runW (wrap_i64 (by omega) (by omega)) ?_ | refine Ent.runWL (wrap_i64 (by omega) (by omega)) ?_ | refine Ent.runWR (wrap_i64 (by omega) (by omega)) ?_ | refine Ent.run ?_ | refine Ent.runL ?_ | refine Ent.runR ?_ | refine Ent.drawn ?_ | refine Ent.store (by kernel_rfl) ?_ | refine Ent.resN ?_ | refine Ent.res1 ?_ | refine Ent.gop_yes ?_ | refine Ent.gop_no (by decide) ?_ | refine Ent.gop_undef ?_ | refine Ent.glt_undef ?_ | refine Ent.grc_undef ?_ | refine Ent.glt_yes ?_ | refine Ent.glt_no (by decide) ?_ | refine Ent.grc_yes ?_ | refine Ent.grc_no (by decide) ?_)
  have hps := plain_shape (n := n) (k := k)
  unfold compileF at he hk
  refine shape_spec (n := n) (k := k) (fun hs => ?_) (fun hs => ?_)
  rotate_left
  · repeat (first | refine Ent.runW (wrap_i64 (by omega) (by omega)) ?_ | refine Ent.runWL (wrap_i64 (by omega) (by omega)) ?_ | refine Ent.runWR (wrap_i64 (by omega) (by omega)) ?_ | refine Ent.run ?_ | refine Ent.runL ?_ | refine Ent.runR ?_ | refine Ent.drawn ?_ | refine Ent.store (by kernel_rfl) ?_ | refine Ent.resN ?_ | refine Ent.res1 ?_ | refine Ent.gop_yes ?_ | refine Ent.gop_no (by decide) ?_ | refine Ent.gop_undef ?_ | refine Ent.glt_undef ?_ | refine Ent.grc_undef ?_ | refine Ent.glt_yes ?_ | refine Ent.glt_no (by decide) ?_ | refine Ent.grc_yes ?_ | refine Ent.grc_no (by decide) ?_)
    refine Ent.ite_t ?_
    have h101 : Cd.check (if k = 5 ∨ k = 6 then .txt k else if k = 7 ∨ k = 8 then .blb k else if k = 9 then .arr (firstF v e) else if k = 10 then .rcd (wholeF v e) else .num k) n = 101 := by
      split
      · rename_i h
        unfold Cd.check
        rw [← hps.2.1 h, if_pos hs]
      · split
        · rename_i h
          unfold Cd.check
          rw [← hps.2.2.1 h, if_pos hs]
        · split
          · rename_i h
            unfold Cd.check
            have := hps.2.2.2 (.inl h)
            rw [h] at this hs
            rw [← this, if_pos hs]
          · split
            · rename_i h
              unfold Cd.check
              have := hps.2.2.2 (.inr h)
              rw [h] at this hs
              rw [← this, if_pos (.inl hs)]
            · unfold Cd.check
              rw [← hps.1 (by omega), if_pos hs]
    rw [h101] at he
    exact Ent.keep (he (by decide))
  repeat (first | refine Ent.runW (wrap_i64 (by omega) (by omega)) ?_ | refine Ent.runWL (wrap_i64 (by omega) (by omega)) ?_ | refine Ent.runWR (wrap_i64 (by omega) (by omega)) ?_ | refine Ent.run ?_ | refine Ent.runL ?_ | refine Ent.runR ?_ | refine Ent.drawn ?_ | refine Ent.store (by kernel_rfl) ?_ | refine Ent.resN ?_ | refine Ent.res1 ?_ | refine Ent.gop_yes ?_ | refine Ent.gop_no (by decide) ?_ | refine Ent.gop_undef ?_ | refine Ent.glt_undef ?_ | refine Ent.grc_undef ?_ | refine Ent.glt_yes ?_ | refine Ent.glt_no (by decide) ?_ | refine Ent.grc_yes ?_ | refine Ent.grc_no (by decide) ?_)
  refine Ent.ite_f ?_
  repeat (first | refine Ent.runW (wrap_i64 (by omega) (by omega)) ?_ | refine Ent.runWL (wrap_i64 (by omega) (by omega)) ?_ | refine Ent.runWR (wrap_i64 (by omega) (by omega)) ?_ | refine Ent.run ?_ | refine Ent.runL ?_ | refine Ent.runR ?_ | refine Ent.drawn ?_ | refine Ent.store (by kernel_rfl) ?_ | refine Ent.resN ?_ | refine Ent.res1 ?_ | refine Ent.gop_yes ?_ | refine Ent.gop_no (by decide) ?_ | refine Ent.gop_undef ?_ | refine Ent.glt_undef ?_ | refine Ent.grc_undef ?_ | refine Ent.glt_yes ?_ | refine Ent.glt_no (by decide) ?_ | refine Ent.grc_yes ?_ | refine Ent.grc_no (by decide) ?_)
  refine width_spec ?_
  repeat (first | refine Ent.runW (wrap_i64 (by omega) (by omega)) ?_ | refine Ent.runWL (wrap_i64 (by omega) (by omega)) ?_ | refine Ent.runWR (wrap_i64 (by omega) (by omega)) ?_ | refine Ent.run ?_ | refine Ent.runL ?_ | refine Ent.runR ?_ | refine Ent.drawn ?_ | refine Ent.store (by kernel_rfl) ?_ | refine Ent.resN ?_ | refine Ent.res1 ?_ | refine Ent.gop_yes ?_ | refine Ent.gop_no (by decide) ?_ | refine Ent.gop_undef ?_ | refine Ent.glt_undef ?_ | refine Ent.grc_undef ?_ | refine Ent.glt_yes ?_ | refine Ent.glt_no (by decide) ?_ | refine Ent.grc_yes ?_ | refine Ent.grc_no (by decide) ?_)
  refine Ent.ite (fun hq => ?_) (fun hq => ?_)
  · have hq : k ≤ 4 := by simpa using hq
    rw [if_neg (by omega), if_neg (by omega), if_neg (by omega), if_neg (by omega)] at he hk
    unfold Cd.check at he hk
    unfold Cd.enc at hk
    rw [← hps.1 (by omega), hs, if_neg (by decide)] at he hk
    repeat (first | refine Ent.runW (wrap_i64 (by omega) (by omega)) ?_ | refine Ent.runWL (wrap_i64 (by omega) (by omega)) ?_ | refine Ent.runWR (wrap_i64 (by omega) (by omega)) ?_ | refine Ent.run ?_ | refine Ent.runL ?_ | refine Ent.runR ?_ | refine Ent.drawn ?_ | refine Ent.store (by kernel_rfl) ?_ | refine Ent.resN ?_ | refine Ent.res1 ?_ | refine Ent.gop_yes ?_ | refine Ent.gop_no (by decide) ?_ | refine Ent.gop_undef ?_ | refine Ent.glt_undef ?_ | refine Ent.grc_undef ?_ | refine Ent.glt_yes ?_ | refine Ent.glt_no (by decide) ?_ | refine Ent.grc_yes ?_ | refine Ent.grc_no (by decide) ?_)
    refine Fits_spec (by rcases rwidth_ok k with h | h | h | h <;> omega) ?_
    rw [fits_num (by omega)]
    cases hfit : fitsF k n.num with
    | false =>
      rw [if_pos hfit] at he
      repeat (first | refine Ent.runW (wrap_i64 (by omega) (by omega)) ?_ | refine Ent.runWL (wrap_i64 (by omega) (by omega)) ?_ | refine Ent.runWR (wrap_i64 (by omega) (by omega)) ?_ | refine Ent.run ?_ | refine Ent.runL ?_ | refine Ent.runR ?_ | refine Ent.drawn ?_ | refine Ent.store (by kernel_rfl) ?_ | refine Ent.resN ?_ | refine Ent.res1 ?_ | refine Ent.gop_yes ?_ | refine Ent.gop_no (by decide) ?_ | refine Ent.gop_undef ?_ | refine Ent.glt_undef ?_ | refine Ent.grc_undef ?_ | refine Ent.glt_yes ?_ | refine Ent.glt_no (by decide) ?_ | refine Ent.grc_yes ?_ | refine Ent.grc_no (by decide) ?_)
      exact Ent.ite_t (Ent.keep (he (by decide)))
    | true =>
      rw [if_neg (by simp [hfit])] at hk
      repeat (first | refine Ent.runW (wrap_i64 (by omega) (by omega)) ?_ | refine Ent.runWL (wrap_i64 (by omega) (by omega)) ?_ | refine Ent.runWR (wrap_i64 (by omega) (by omega)) ?_ | refine Ent.run ?_ | refine Ent.runL ?_ | refine Ent.runR ?_ | refine Ent.drawn ?_ | refine Ent.store (by kernel_rfl) ?_ | refine Ent.resN ?_ | refine Ent.res1 ?_ | refine Ent.gop_yes ?_ | refine Ent.gop_no (by decide) ?_ | refine Ent.gop_undef ?_ | refine Ent.glt_undef ?_ | refine Ent.grc_undef ?_ | refine Ent.glt_yes ?_ | refine Ent.glt_no (by decide) ?_ | refine Ent.grc_yes ?_ | refine Ent.grc_no (by decide) ?_)
      refine Ent.ite_f ?_
      repeat (first | refine Ent.runW (wrap_i64 (by omega) (by omega)) ?_ | refine Ent.runWL (wrap_i64 (by omega) (by omega)) ?_ | refine Ent.runWR (wrap_i64 (by omega) (by omega)) ?_ | refine Ent.run ?_ | refine Ent.runL ?_ | refine Ent.runR ?_ | refine Ent.drawn ?_ | refine Ent.store (by kernel_rfl) ?_ | refine Ent.resN ?_ | refine Ent.res1 ?_ | refine Ent.gop_yes ?_ | refine Ent.gop_no (by decide) ?_ | refine Ent.gop_undef ?_ | refine Ent.glt_undef ?_ | refine Ent.grc_undef ?_ | refine Ent.glt_yes ?_ | refine Ent.glt_no (by decide) ?_ | refine Ent.grc_yes ?_ | refine Ent.grc_no (by decide) ?_)
      refine Digits_spec (by rcases rwidth_ok k with h | h | h | h <;> omega) hnum fun B d => ?_
      have := hk rfl B d
      rw [beI_length, ← rwidth_num (by omega)] at this
      exact Ent.keep this
  have hq : ¬ k ≤ 4 := by simpa using hq
  repeat (first | refine Ent.runW (wrap_i64 (by omega) (by omega)) ?_ | refine Ent.runWL (wrap_i64 (by omega) (by omega)) ?_ | refine Ent.runWR (wrap_i64 (by omega) (by omega)) ?_ | refine Ent.run ?_ | refine Ent.runL ?_ | refine Ent.runR ?_ | refine Ent.drawn ?_ | refine Ent.store (by kernel_rfl) ?_ | refine Ent.resN ?_ | refine Ent.res1 ?_ | refine Ent.gop_yes ?_ | refine Ent.gop_no (by decide) ?_ | refine Ent.gop_undef ?_ | refine Ent.glt_undef ?_ | refine Ent.grc_undef ?_ | refine Ent.glt_yes ?_ | refine Ent.glt_no (by decide) ?_ | refine Ent.grc_yes ?_ | refine Ent.grc_no (by decide) ?_)
  refine Ent.ite (fun hq9 => ?_) (fun hq9 => ?_)
  · have hq9 : k = 9 := by simpa using hq9
    rw [if_neg (by omega), if_neg (by omega), if_pos hq9] at he hk
    obtain ⟨e0, rfl⟩ : ∃ x, e = [x] := List.length_eq_one_iff.1 (h9 hq9)
    unfold Cd.check at he hk
    unfold Cd.enc at hk
    have hsp := hps.2.2.2 (.inl hq9)
    rw [hq9] at hsp hs
    rw [← hsp, hs, if_neg (by decide)] at he hk
    simp only [firstF] at he hk
    repeat (first | refine Ent.runW (wrap_i64 (by omega) (by omega)) ?_ | refine Ent.runWL (wrap_i64 (by omega) (by omega)) ?_ | refine Ent.runWR (wrap_i64 (by omega) (by omega)) ?_ | refine Ent.run ?_ | refine Ent.runL ?_ | refine Ent.runR ?_ | refine Ent.drawn ?_ | refine Ent.store (by kernel_rfl) ?_ | refine Ent.resN ?_ | refine Ent.res1 ?_ | refine Ent.gop_yes ?_ | refine Ent.gop_no (by decide) ?_ | refine Ent.gop_undef ?_ | refine Ent.glt_undef ?_ | refine Ent.grc_undef ?_ | refine Ent.glt_yes ?_ | refine Ent.glt_no (by decide) ?_ | refine Ent.grc_yes ?_ | refine Ent.grc_no (by decide) ?_)
    refine Ent.ite (fun hq16 => ?_) (fun hq16 => ?_)
    · have hq16 : 16 < n.list.length := by have : (16 : Int) < n.list.length := by simpa using hq16
                                           omega
      rw [if_pos hq16] at he
      exact Ent.keep (he (by decide))
    have hq16 : ¬ 16 < n.list.length := by have : ¬ (16 : Int) < n.list.length := by simpa using hq16
                                           omega
    rw [if_neg hq16] at he hk
    repeat (first | refine Ent.runW (wrap_i64 (by omega) (by omega)) ?_ | refine Ent.runWL (wrap_i64 (by omega) (by omega)) ?_ | refine Ent.runWR (wrap_i64 (by omega) (by omega)) ?_ | refine Ent.run ?_ | refine Ent.runL ?_ | refine Ent.runR ?_ | refine Ent.drawn ?_ | refine Ent.store (by kernel_rfl) ?_ | refine Ent.resN ?_ | refine Ent.res1 ?_ | refine Ent.gop_yes ?_ | refine Ent.gop_no (by decide) ?_ | refine Ent.gop_undef ?_ | refine Ent.glt_undef ?_ | refine Ent.grc_undef ?_ | refine Ent.glt_yes ?_ | refine Ent.glt_no (by decide) ?_ | refine Ent.grc_yes ?_ | refine Ent.grc_no (by decide) ?_)
    refine Digits_spec (v := (n.list.length : Int)) (n := 4) (by decide) (by omega) fun B0 d0 => ?_
    have hbs := flat_bulk (compileF v e0) n.list
    have hi4 : (beI 4 (n.list.length : Int)).length = 4 := beI_length _ _
    refine Ent.L4 (σ := Nat × Option Addr × Nat) (fun _ => .slice none 0 0) (fun _ => .int .i64 0) (fun s => .slice s.2.1 (4 + ((n.list.take s.1).flatMap (Cd.enc (compileF v e0))).length) s.2.2) (fun s => .int .i64 s.1)
      (fun s => pure' (s.1 ≤ n.list.length ∧ checkF (Cd.check (compileF v e0)) (n.list.take s.1) = 0) :: ownB T.u8 (.slice s.2.1 (4 + ((n.list.take s.1).flatMap (Cd.enc (compileF v e0))).length) s.2.2) (beI 4 (n.list.length : Int) ++ (n.list.take s.1).flatMap (Cd.enc (compileF v e0))) ::
        blk g2 [.int .i64 n.kind, .int .i64 n.num, .bool n.null, .slice A1 n.data.length c1, .slice A2 n.list.length c2] :: blk g1 [.string nm, .int .i64 k, .int .i64 a, .int .i64 b, .slice A [e0].length c] :: p)
      (fun s => n.list.length - s.1) (0, B0, d0) ?_ ?_
    · intro w hw
      refine Sat.add (a := pure' _) ⟨⟨Nat.zero_le _, by simp [checkF]⟩, fun _ => rfl⟩ ?_
      rw [show (n.list.take 0).flatMap (Cd.enc (compileF v e0)) = [] by simp, List.append_nil]
      exact hw
    rintro ⟨i, B, d⟩ kk hrec
    refine Ent.pure fun hp => ?_
    obtain ⟨hi, hck⟩ := hp
    simp only at hi hck hrec ⊢
    have hspl := flat_split (compileF v e0) n.list i
    repeat (first | refine Ent.runW (wrap_i64 (by omega) (by omega)) ?_ | refine Ent.runWL (wrap_i64 (by omega) (by omega)) ?_ | refine Ent.runWR (wrap_i64 (by omega) (by omega)) ?_ | refine Ent.run ?_ | refine Ent.runL ?_ | refine Ent.runR ?_ | refine Ent.drawn ?_ | refine Ent.store (by kernel_rfl) ?_ | refine Ent.resN ?_ | refine Ent.res1 ?_ | refine Ent.gop_yes ?_ | refine Ent.gop_no (by decide) ?_ | refine Ent.gop_undef ?_ | refine Ent.glt_undef ?_ | refine Ent.grc_undef ?_ | refine Ent.glt_yes ?_ | refine Ent.glt_no (by decide) ?_ | refine Ent.grc_yes ?_ | refine Ent.grc_no (by decide) ?_)
    refine Ent.ite (fun hq => ?_) (fun hq => ?_)
    · have hlt : i < n.list.length := by simpa using hq
      obtain ⟨b2, o2, cs, hia, hcs, hcl2, hld⟩ := RdD.index (P := PR) (t := T.L_api_Field) (k := .i64) (i := 0) hel (by omega) (by simp) (fldsD_get (l := [e0]) (i := 0) (by simp))
      obtain ⟨A5, c5, rfl, _⟩ := fld_open hcs
      obtain ⟨b3, o3, cs', hia', hcs', hcl3, hld'⟩ := RdD.index (P := PR) (t := T.L_api_Node) (k := .i64) (i := i) hl (by omega) (by omega) (ndsD_get hlt)
      obtain ⟨A6, c6, A7, c7, rfl, _, _⟩ := nd_open hcs'
      repeat (first | refine Ent.runW (wrap_i64 (by omega) (by omega)) ?_ | refine Ent.runWL (wrap_i64 (by omega) (by omega)) ?_ | refine Ent.runWR (wrap_i64 (by omega) (by omega)) ?_ | refine Ent.run ?_ | refine Ent.runL ?_ | refine Ent.runR ?_ | refine Ent.drawn ?_ | refine Ent.store (by kernel_rfl) ?_ | refine Ent.resN ?_ | refine Ent.res1 ?_ | refine Ent.gop_yes ?_ | refine Ent.gop_no (by decide) ?_ | refine Ent.gop_undef ?_ | refine Ent.glt_undef ?_ | refine Ent.grc_undef ?_ | refine Ent.glt_yes ?_ | refine Ent.glt_no (by decide) ?_ | refine Ent.grc_yes ?_ | refine Ent.grc_no (by decide) ?_)
      refine Ent.atL (fun w _ => hia w) ?_
      haveI := hld
      repeat (first | refine Ent.runW (wrap_i64 (by omega) (by omega)) ?_ | refine Ent.runWL (wrap_i64 (by omega) (by omega)) ?_ | refine Ent.runWR (wrap_i64 (by omega) (by omega)) ?_ | refine Ent.run ?_ | refine Ent.runL ?_ | refine Ent.runR ?_ | refine Ent.drawn ?_ | refine Ent.store (by kernel_rfl) ?_ | refine Ent.resN ?_ | refine Ent.res1 ?_ | refine Ent.gop_yes ?_ | refine Ent.gop_no (by decide) ?_ | refine Ent.gop_undef ?_ | refine Ent.glt_undef ?_ | refine Ent.grc_undef ?_ | refine Ent.glt_yes ?_ | refine Ent.glt_no (by decide) ?_ | refine Ent.grc_yes ?_ | refine Ent.grc_no (by decide) ?_)
      refine Ent.atL (fun w _ => hia' w) ?_
      haveI := hld'
      repeat (first | refine Ent.runW (wrap_i64 (by omega) (by omega)) ?_ | refine Ent.runWL (wrap_i64 (by omega) (by omega)) ?_ | refine Ent.runWR (wrap_i64 (by omega) (by omega)) ?_ | refine Ent.run ?_ | refine Ent.runL ?_ | refine Ent.runR ?_ | refine Ent.drawn ?_ | refine Ent.store (by kernel_rfl) ?_ | refine Ent.resN ?_ | refine Ent.res1 ?_ | refine Ent.gop_yes ?_ | refine Ent.gop_no (by decide) ?_ | refine Ent.gop_undef ?_ | refine Ent.glt_undef ?_ | refine Ent.grc_undef ?_ | refine Ent.glt_yes ?_ | refine Ent.glt_no (by decide) ?_ | refine Ent.grc_yes ?_ | refine Ent.grc_no (by decide) ?_)
      have hb2 := bulks_mem (List.getElem_mem hlt)
      have hs1 : (n.list.take (i + 1)).flatMap (Cd.enc (compileF v e0)) = (n.list.take i).flatMap (Cd.enc (compileF v e0)) ++ Cd.enc (compileF v e0) n.list[i] := by
        rw [List.take_succ_eq_append_getElem hlt, List.flatMap_append]
        simp
      refine ihc e0 (by simp) w0 _ _ _ A5 c5 v n.list[i] _ hcs.keep hcs'.keep (hok.list (List.getElem_mem hlt)) (by omega) ⟨fun hne => ?_, fun h0 B' d' => ?_⟩
      · repeat (first | refine Ent.runW (wrap_i64 (by omega) (by omega)) ?_ | refine Ent.runWL (wrap_i64 (by omega) (by omega)) ?_ | refine Ent.runWR (wrap_i64 (by omega) (by omega)) ?_ | refine Ent.run ?_ | refine Ent.runL ?_ | refine Ent.runR ?_ | refine Ent.drawn ?_ | refine Ent.store (by kernel_rfl) ?_ | refine Ent.resN ?_ | refine Ent.res1 ?_ | refine Ent.gop_yes ?_ | refine Ent.gop_no (by decide) ?_ | refine Ent.gop_undef ?_ | refine Ent.glt_undef ?_ | refine Ent.grc_undef ?_ | refine Ent.glt_yes ?_ | refine Ent.glt_no (by decide) ?_ | refine Ent.grc_yes ?_ | refine Ent.grc_no (by decide) ?_)
        rw [decide_eq_false hne]
        have := checkF_take n.list i hlt hck hne
        rw [this] at he
        exact Ent.ite_t (Ent.keep (he hne))
      · repeat (first | refine Ent.runW (wrap_i64 (by omega) (by omega)) ?_ | refine Ent.runWL (wrap_i64 (by omega) (by omega)) ?_ | refine Ent.runWR (wrap_i64 (by omega) (by omega)) ?_ | refine Ent.run ?_ | refine Ent.runL ?_ | refine Ent.runR ?_ | refine Ent.drawn ?_ | refine Ent.store (by kernel_rfl) ?_ | refine Ent.resN ?_ | refine Ent.res1 ?_ | refine Ent.gop_yes ?_ | refine Ent.gop_no (by decide) ?_ | refine Ent.gop_undef ?_ | refine Ent.glt_undef ?_ | refine Ent.grc_undef ?_ | refine Ent.glt_yes ?_ | refine Ent.glt_no (by decide) ?_ | refine Ent.grc_yes ?_ | refine Ent.grc_no (by decide) ?_)
        refine Ent.ite_f ?_
        refine Ent.freeze fun y hy => ?_
        refine Ent.take (ownB T.u8 (.slice B (4 + ((n.list.take i).flatMap (Cd.enc (compileF v e0))).length) d) (beI 4 (n.list.length : Int) ++ (n.list.take i).flatMap (Cd.enc (compileF v e0)))) (Ent.freeze fun z hz => ?_)
        have hspl2 := flat_split (compileF v e0) n.list (i + 1)
        rw [hs1] at hspl2
        simp only [List.length_append] at hspl2
        have hz2 := ownB_rd hz
        have el : (beI 4 (n.list.length : Int) ++ (n.list.take i).flatMap (Cd.enc (compileF v e0))).length = 4 + ((n.list.take i).flatMap (Cd.enc (compileF v e0))).length := by rw [List.length_append, hi4]
        refine Cat_spec (RdB.here hz2) ((RdB.here (p := p) (ownB_rd hy)).keep) (by omega) fun B2 d2 => ?_
        repeat (first | refine Ent.runW (wrap_i64 (by omega) (by omega)) ?_ | refine Ent.runWL (wrap_i64 (by omega) (by omega)) ?_ | refine Ent.runWR (wrap_i64 (by omega) (by omega)) ?_ | refine Ent.run ?_ | refine Ent.runL ?_ | refine Ent.runR ?_ | refine Ent.drawn ?_ | refine Ent.store (by kernel_rfl) ?_ | refine Ent.resN ?_ | refine Ent.res1 ?_ | refine Ent.gop_yes ?_ | refine Ent.gop_no (by decide) ?_ | refine Ent.gop_undef ?_ | refine Ent.glt_undef ?_ | refine Ent.grc_undef ?_ | refine Ent.glt_yes ?_ | refine Ent.glt_no (by decide) ?_ | refine Ent.grc_yes ?_ | refine Ent.grc_no (by decide) ?_)
        have := hrec (i + 1, B2, d2) (by simp only; omega)
        simp only [Int.natCast_add, Int.natCast_one, hs1] at this
        have el2 : (beI 4 (n.list.length : Int) ++ (n.list.take i).flatMap (Cd.enc (compileF v e0)) ++ Cd.enc (compileF v e0) n.list[i]).length = 4 + ((n.list.take i).flatMap (Cd.enc (compileF v e0)) ++ Cd.enc (compileF v e0) n.list[i]).length := by
          rw [List.append_assoc, List.length_append, hi4]
        rw [el2, List.append_assoc]
        refine Ent.keep (Ent.add ?_ this)
        exact ⟨⟨hlt, checkF_snoc n.list i hlt hck h0⟩, fun _ => rfl⟩
    · have hlt : i = n.list.length := by
        have : ¬ (i : Int) < n.list.length := by simpa using hq
        omega
      subst hlt
      rw [List.take_of_length_le (by omega)] at hck ⊢
      have := hk hck B d
      rw [List.length_append, hi4] at this
      exact Ent.keep this
  have hq9 : ¬ k = 9 := by simpa using hq9
  repeat (first | refine Ent.runW (wrap_i64 (by omega) (by omega)) ?_ | refine Ent.runWL (wrap_i64 (by omega) (by omega)) ?_ | refine Ent.runWR (wrap_i64 (by omega) (by omega)) ?_ | refine Ent.run ?_ | refine Ent.runL ?_ | refine Ent.runR ?_ | refine Ent.drawn ?_ | refine Ent.store (by kernel_rfl) ?_ | refine Ent.resN ?_ | refine Ent.res1 ?_ | refine Ent.gop_yes ?_ | refine Ent.gop_no (by decide) ?_ | refine Ent.gop_undef ?_ | refine Ent.glt_undef ?_ | refine Ent.grc_undef ?_ | refine Ent.glt_yes ?_ | refine Ent.glt_no (by decide) ?_ | refine Ent.grc_yes ?_ | refine Ent.grc_no (by decide) ?_)
  refine Ent.ite (fun hq10 => ?_) (fun hq10 => ?_)
  · have hq10 : k = 10 := by simpa using hq10
    rw [if_neg (by omega), if_neg (by omega), if_neg hq9, if_pos hq10] at he hk
    have hsp := hps.2.2.2 (.inr hq10)
    rw [hq10] at hsp hs
    repeat (first | refine Ent.runW (wrap_i64 (by omega) (by omega)) ?_ | refine Ent.runWL (wrap_i64 (by omega) (by omega)) ?_ | refine Ent.runWR (wrap_i64 (by omega) (by omega)) ?_ | refine Ent.run ?_ | refine Ent.runL ?_ | refine Ent.runR ?_ | refine Ent.drawn ?_ | refine Ent.store (by kernel_rfl) ?_ | refine Ent.resN ?_ | refine Ent.res1 ?_ | refine Ent.gop_yes ?_ | refine Ent.gop_no (by decide) ?_ | refine Ent.gop_undef ?_ | refine Ent.glt_undef ?_ | refine Ent.grc_undef ?_ | refine Ent.glt_yes ?_ | refine Ent.glt_no (by decide) ?_ | refine Ent.grc_yes ?_ | refine Ent.grc_no (by decide) ?_)
    refine ihp w0 _ _ _ A c v n _ hel.keep h16 hn0.keep hok hbk0 (hsp ▸ hs) ⟨fun hne => ?_, fun h0 B d => ?_⟩
    · repeat (first | refine Ent.runW (wrap_i64 (by omega) (by omega)) ?_ | refine Ent.runWL (wrap_i64 (by omega) (by omega)) ?_ | refine Ent.runWR (wrap_i64 (by omega) (by omega)) ?_ | refine Ent.run ?_ | refine Ent.runL ?_ | refine Ent.runR ?_ | refine Ent.drawn ?_ | refine Ent.store (by kernel_rfl) ?_ | refine Ent.resN ?_ | refine Ent.res1 ?_ | refine Ent.gop_yes ?_ | refine Ent.gop_no (by decide) ?_ | refine Ent.gop_undef ?_ | refine Ent.glt_undef ?_ | refine Ent.grc_undef ?_ | refine Ent.glt_yes ?_ | refine Ent.glt_no (by decide) ?_ | refine Ent.grc_yes ?_ | refine Ent.grc_no (by decide) ?_)
      exact Ent.keep (he hne)
    · repeat (first | refine Ent.runW (wrap_i64 (by omega) (by omega)) ?_ | refine Ent.runWL (wrap_i64 (by omega) (by omega)) ?_ | refine Ent.runWR (wrap_i64 (by omega) (by omega)) ?_ | refine Ent.run ?_ | refine Ent.runL ?_ | refine Ent.runR ?_ | refine Ent.drawn ?_ | refine Ent.store (by kernel_rfl) ?_ | refine Ent.resN ?_ | refine Ent.res1 ?_ | refine Ent.gop_yes ?_ | refine Ent.gop_no (by decide) ?_ | refine Ent.gop_undef ?_ | refine Ent.glt_undef ?_ | refine Ent.grc_undef ?_ | refine Ent.glt_yes ?_ | refine Ent.glt_no (by decide) ?_ | refine Ent.grc_yes ?_ | refine Ent.grc_no (by decide) ?_)
      exact Ent.keep (hk h0 B d)
  have hq10 : ¬ k = 10 := by simpa using hq10
  have hrw : rwidth k = (if k = 5 ∨ k = 6 then 2 else 4) := by
    unfold rwidth
    rw [if_neg (by omega)]
    split
    · rw [if_pos (by omega)]
    · rw [if_neg (by omega), if_neg (by omega)]
  repeat (first | refine Ent.runW (wrap_i64 (by omega) (by omega)) ?_ | refine Ent.runWL (wrap_i64 (by omega) (by omega)) ?_ | refine Ent.runWR (wrap_i64 (by omega) (by omega)) ?_ | refine Ent.run ?_ | refine Ent.runL ?_ | refine Ent.runR ?_ | refine Ent.drawn ?_ | refine Ent.store (by kernel_rfl) ?_ | refine Ent.resN ?_ | refine Ent.res1 ?_ | refine Ent.gop_yes ?_ | refine Ent.gop_no (by decide) ?_ | refine Ent.gop_undef ?_ | refine Ent.glt_undef ?_ | refine Ent.grc_undef ?_ | refine Ent.glt_yes ?_ | refine Ent.glt_no (by decide) ?_ | refine Ent.grc_yes ?_ | refine Ent.grc_no (by decide) ?_)
  cases hnl : n.null with
  | true =>
    repeat (first | refine Ent.runW (wrap_i64 (by omega) (by omega)) ?_ | refine Ent.runWL (wrap_i64 (by omega) (by omega)) ?_ | refine Ent.runWR (wrap_i64 (by omega) (by omega)) ?_ | refine Ent.run ?_ | refine Ent.runL ?_ | refine Ent.runR ?_ | refine Ent.drawn ?_ | refine Ent.store (by kernel_rfl) ?_ | refine Ent.resN ?_ | refine Ent.res1 ?_ | refine Ent.gop_yes ?_ | refine Ent.gop_no (by decide) ?_ | refine Ent.gop_undef ?_ | refine Ent.glt_undef ?_ | refine Ent.grc_undef ?_ | refine Ent.glt_yes ?_ | refine Ent.glt_no (by decide) ?_ | refine Ent.grc_yes ?_ | refine Ent.grc_no (by decide) ?_)
    by_cases hd : 0 < n.data.length
    · rw [decide_eq_true (show (0 : Int) < n.data.length by omega)]
      refine Ent.ite_t ?_
      have h70 : Cd.check (if k = 5 ∨ k = 6 then .txt k else if k = 7 ∨ k = 8 then .blb k else if k = 9 then .arr (firstF v e) else if k = 10 then .rcd (wholeF v e) else .num k) n = 70 := by
        split
        · rename_i h
          unfold Cd.check
          rw [← hps.2.1 h, hs, if_neg (by decide), if_pos ⟨hnl, hd⟩]
        · rw [if_pos (by omega)]
          unfold Cd.check
          rw [← hps.2.2.1 (by omega), hs, if_neg (by decide), if_pos ⟨hnl, hd⟩]
      rw [h70] at he
      exact Ent.keep (he (by decide))
    · rw [decide_eq_false (show ¬ (0 : Int) < n.data.length by omega)]
      refine Ent.ite_f ?_
      repeat (first | refine Ent.runW (wrap_i64 (by omega) (by omega)) ?_ | refine Ent.runWL (wrap_i64 (by omega) (by omega)) ?_ | refine Ent.runWR (wrap_i64 (by omega) (by omega)) ?_ | refine Ent.run ?_ | refine Ent.runL ?_ | refine Ent.runR ?_ | refine Ent.drawn ?_ | refine Ent.store (by kernel_rfl) ?_ | refine Ent.resN ?_ | refine Ent.res1 ?_ | refine Ent.gop_yes ?_ | refine Ent.gop_no (by decide) ?_ | refine Ent.gop_undef ?_ | refine Ent.glt_undef ?_ | refine Ent.grc_undef ?_ | refine Ent.glt_yes ?_ | refine Ent.glt_no (by decide) ?_ | refine Ent.grc_yes ?_ | refine Ent.grc_no (by decide) ?_)
      refine Ent.ite_t ?_
      have hd0 : n.data = [] := List.eq_nil_of_length_eq_zero (by omega)
      have h0 : Cd.check (if k = 5 ∨ k = 6 then .txt k else if k = 7 ∨ k = 8 then .blb k else if k = 9 then .arr (firstF v e) else if k = 10 then .rcd (wholeF v e) else .num k) n = 0 := by
        split
        · rename_i h
          unfold Cd.check
          rw [← hps.2.1 h, hs, if_neg (by decide), if_neg (fun h => hd h.2), hd0, if_neg (by rw [utf_nil]; decide), if_neg (by simp)]
        · rw [if_pos (by omega)]
          unfold Cd.check
          rw [← hps.2.2.1 (by omega), hs, if_neg (by decide), if_neg (fun h => hd h.2)]
      have henc : Cd.enc (if k = 5 ∨ k = 6 then .txt k else if k = 7 ∨ k = 8 then .blb k else if k = 9 then .arr (firstF v e) else if k = 10 then .rcd (wholeF v e) else .num k) n = beI (rwidth k) (-1) := by
        rw [hrw]
        split
        · unfold Cd.enc
          rw [if_pos hnl]
        · rw [if_pos (by omega)]
          unfold Cd.enc
          rw [if_pos hnl]
      rw [h0, henc] at hk
      refine Digits_spec (v := -1) (n := rwidth k) (by rcases rwidth_ok k with h | h | h | h <;> omega) (by decide) fun B d => ?_
      have := hk rfl B d
      rw [beI_length] at this
      exact Ent.keep this
  | false =>
    repeat (first | refine Ent.runW (wrap_i64 (by omega) (by omega)) ?_ | refine Ent.runWL (wrap_i64 (by omega) (by omega)) ?_ | refine Ent.runWR (wrap_i64 (by omega) (by omega)) ?_ | refine Ent.run ?_ | refine Ent.runL ?_ | refine Ent.runR ?_ | refine Ent.drawn ?_ | refine Ent.store (by kernel_rfl) ?_ | refine Ent.resN ?_ | refine Ent.res1 ?_ | refine Ent.gop_yes ?_ | refine Ent.gop_no (by decide) ?_ | refine Ent.gop_undef ?_ | refine Ent.glt_undef ?_ | refine Ent.grc_undef ?_ | refine Ent.glt_yes ?_ | refine Ent.glt_no (by decide) ?_ | refine Ent.grc_yes ?_ | refine Ent.grc_no (by decide) ?_)
    refine Ent.ite_f ?_
    repeat (first | refine Ent.runW (wrap_i64 (by omega) (by omega)) ?_ | refine Ent.runWL (wrap_i64 (by omega) (by omega)) ?_ | refine Ent.runWR (wrap_i64 (by omega) (by omega)) ?_ | refine Ent.run ?_ | refine Ent.runL ?_ | refine Ent.runR ?_ | refine Ent.drawn ?_ | refine Ent.store (by kernel_rfl) ?_ | refine Ent.resN ?_ | refine Ent.res1 ?_ | refine Ent.gop_yes ?_ | refine Ent.gop_no (by decide) ?_ | refine Ent.gop_undef ?_ | refine Ent.glt_undef ?_ | refine Ent.grc_undef ?_ | refine Ent.glt_yes ?_ | refine Ent.glt_no (by decide) ?_ | refine Ent.grc_yes ?_ | refine Ent.grc_no (by decide) ?_)
    refine Ent.ite_f ?_
    refine Ent.J0 fun kk hkk => ?_
    have hfin : (k = 5 ∨ k = 6 → utf n.data = true ∧ ¬ 255 < n.data.length) → Ent w0 (blk g2 [.int .i64 n.kind, .int .i64 n.num, .bool false, .slice A1 n.data.length c1, .slice A2 n.list.length c2] :: blk g1 [.string nm, .int .i64 k, .int .i64 a, .int .i64 b, .slice A e.length c] :: p) kk := fun hgood => by
      have h0 : Cd.check (if k = 5 ∨ k = 6 then .txt k else if k = 7 ∨ k = 8 then .blb k else if k = 9 then .arr (firstF v e) else if k = 10 then .rcd (wholeF v e) else .num k) n = 0 := by
        split
        · rename_i h
          obtain ⟨hu, hl255⟩ := hgood h
          unfold Cd.check
          rw [← hps.2.1 h, hs, if_neg (by decide), if_neg (fun h => by rw [hnl] at h; cases h.1), if_neg (by rw [hu]; decide), if_neg hl255]
        · rw [if_pos (by omega)]
          unfold Cd.check
          rw [← hps.2.2.1 (by omega), hs, if_neg (by decide), if_neg (fun h => by rw [hnl] at h; cases h.1)]
      have henc : Cd.enc (if k = 5 ∨ k = 6 then .txt k else if k = 7 ∨ k = 8 then .blb k else if k = 9 then .arr (firstF v e) else if k = 10 then .rcd (wholeF v e) else .num k) n = beI (rwidth k) n.data.length ++ n.data := by
        rw [hrw]
        split
        · unfold Cd.enc
          rw [if_neg (by rw [hnl]; decide)]
        · rw [if_pos (by omega)]
          unfold Cd.enc
          rw [if_neg (by rw [hnl]; decide)]
      rw [h0, henc] at hk
      refine hkk _ ?_
      repeat (first | refine Ent.runW (wrap_i64 (by omega) (by omega)) ?_ | refine Ent.runWL (wrap_i64 (by omega) (by omega)) ?_ | refine Ent.runWR (wrap_i64 (by omega) (by omega)) ?_ | refine Ent.run ?_ | refine Ent.runL ?_ | refine Ent.runR ?_ | refine Ent.drawn ?_ | refine Ent.store (by kernel_rfl) ?_ | refine Ent.resN ?_ | refine Ent.res1 ?_ | refine Ent.gop_yes ?_ | refine Ent.gop_no (by decide) ?_ | refine Ent.gop_undef ?_ | refine Ent.glt_undef ?_ | refine Ent.grc_undef ?_ | refine Ent.glt_yes ?_ | refine Ent.glt_no (by decide) ?_ | refine Ent.grc_yes ?_ | refine Ent.grc_no (by decide) ?_)
      refine Digits_spec (v := (n.data.length : Int)) (n := rwidth k) (by rcases rwidth_ok k with h | h | h | h <;> omega) (by omega) fun B d => ?_
      refine Ent.freeze fun y hy => ?_
      have hy2 := ownB_rd hy
      have el : (beI (rwidth k) (n.data.length : Int)).length = rwidth k := beI_length _ _
      have hy3 : rdB y (.slice B (rwidth k) d) (beI (rwidth k) (n.data.length : Int)) := hy2
      repeat (first | refine Ent.runW (wrap_i64 (by omega) (by omega)) ?_ | refine Ent.runWL (wrap_i64 (by omega) (by omega)) ?_ | refine Ent.runWR (wrap_i64 (by omega) (by omega)) ?_ | refine Ent.run ?_ | refine Ent.runL ?_ | refine Ent.runR ?_ | refine Ent.drawn ?_ | refine Ent.store (by kernel_rfl) ?_ | refine Ent.resN ?_ | refine Ent.res1 ?_ | refine Ent.gop_yes ?_ | refine Ent.gop_no (by decide) ?_ | refine Ent.gop_undef ?_ | refine Ent.glt_undef ?_ | refine Ent.grc_undef ?_ | refine Ent.glt_yes ?_ | refine Ent.glt_no (by decide) ?_ | refine Ent.grc_yes ?_ | refine Ent.grc_no (by decide) ?_)
      refine Cat_spec (RdB.here hy3) hb.keep (by rw [el]; rcases rwidth_ok k with h | h | h | h <;> omega) fun B2 d2 => ?_
      repeat (first | refine Ent.runW (wrap_i64 (by omega) (by omega)) ?_ | refine Ent.runWL (wrap_i64 (by omega) (by omega)) ?_ | refine Ent.runWR (wrap_i64 (by omega) (by omega)) ?_ | refine Ent.run ?_ | refine Ent.runL ?_ | refine Ent.runR ?_ | refine Ent.drawn ?_ | refine Ent.store (by kernel_rfl) ?_ | refine Ent.resN ?_ | refine Ent.res1 ?_ | refine Ent.gop_yes ?_ | refine Ent.gop_no (by decide) ?_ | refine Ent.gop_undef ?_ | refine Ent.glt_undef ?_ | refine Ent.grc_undef ?_ | refine Ent.glt_yes ?_ | refine Ent.glt_no (by decide) ?_ | refine Ent.grc_yes ?_ | refine Ent.grc_no (by decide) ?_)
      exact Ent.keep (hk rfl B2 d2)
    repeat (first | refine Ent.runW (wrap_i64 (by omega) (by omega)) ?_ | refine Ent.runWL (wrap_i64 (by omega) (by omega)) ?_ | refine Ent.runWR (wrap_i64 (by omega) (by omega)) ?_ | refine Ent.run ?_ | refine Ent.runL ?_ | refine Ent.runR ?_ | refine Ent.drawn ?_ | refine Ent.store (by kernel_rfl) ?_ | refine Ent.resN ?_ | refine Ent.res1 ?_ | refine Ent.gop_yes ?_ | refine Ent.gop_no (by decide) ?_ | refine Ent.gop_undef ?_ | refine Ent.glt_undef ?_ | refine Ent.grc_undef ?_ | refine Ent.glt_yes ?_ | refine Ent.glt_no (by decide) ?_ | refine Ent.grc_yes ?_ | refine Ent.grc_no (by decide) ?_)
    refine Ent.ite (fun h6 => ?_) (fun h6 => ?_)
    · have h6 : k ≤ 6 := by simpa using h6
      rw [if_pos (by omega)] at he
      unfold Cd.check at he
      rw [← hps.2.1 (by omega), hs, if_neg (by decide), if_neg (fun h => by rw [hnl] at h; cases h.1)] at he
      repeat (first | refine Ent.runW (wrap_i64 (by omega) (by omega)) ?_ | refine Ent.runWL (wrap_i64 (by omega) (by omega)) ?_ | refine Ent.runWR (wrap_i64 (by omega) (by omega)) ?_ | refine Ent.run ?_ | refine Ent.runL ?_ | refine Ent.runR ?_ | refine Ent.drawn ?_ | refine Ent.store (by kernel_rfl) ?_ | refine Ent.resN ?_ | refine Ent.res1 ?_ | refine Ent.gop_yes ?_ | refine Ent.gop_no (by decide) ?_ | refine Ent.gop_undef ?_ | refine Ent.glt_undef ?_ | refine Ent.grc_undef ?_ | refine Ent.glt_yes ?_ | refine Ent.glt_no (by decide) ?_ | refine Ent.grc_yes ?_ | refine Ent.grc_no (by decide) ?_)
      refine RUtf_spec hb.keep (by omega) fun at_ => ?_
      cases hu : utf n.data with
      | false =>
        rw [if_pos hu] at he
        repeat (first | refine Ent.runW (wrap_i64 (by omega) (by omega)) ?_ | refine Ent.runWL (wrap_i64 (by omega) (by omega)) ?_ | refine Ent.runWR (wrap_i64 (by omega) (by omega)) ?_ | refine Ent.run ?_ | refine Ent.runL ?_ | refine Ent.runR ?_ | refine Ent.drawn ?_ | refine Ent.store (by kernel_rfl) ?_ | refine Ent.resN ?_ | refine Ent.res1 ?_ | refine Ent.gop_yes ?_ | refine Ent.gop_no (by decide) ?_ | refine Ent.gop_undef ?_ | refine Ent.glt_undef ?_ | refine Ent.grc_undef ?_ | refine Ent.glt_yes ?_ | refine Ent.glt_no (by decide) ?_ | refine Ent.grc_yes ?_ | refine Ent.grc_no (by decide) ?_)
        exact Ent.ite_t (Ent.keep (he (by decide)))
      | true =>
        rw [if_neg (by rw [hu]; decide)] at he
        repeat (first | refine Ent.runW (wrap_i64 (by omega) (by omega)) ?_ | refine Ent.runWL (wrap_i64 (by omega) (by omega)) ?_ | refine Ent.runWR (wrap_i64 (by omega) (by omega)) ?_ | refine Ent.run ?_ | refine Ent.runL ?_ | refine Ent.runR ?_ | refine Ent.drawn ?_ | refine Ent.store (by kernel_rfl) ?_ | refine Ent.resN ?_ | refine Ent.res1 ?_ | refine Ent.gop_yes ?_ | refine Ent.gop_no (by decide) ?_ | refine Ent.gop_undef ?_ | refine Ent.glt_undef ?_ | refine Ent.grc_undef ?_ | refine Ent.glt_yes ?_ | refine Ent.glt_no (by decide) ?_ | refine Ent.grc_yes ?_ | refine Ent.grc_no (by decide) ?_)
        refine Ent.ite_f ?_
        repeat (first | refine Ent.runW (wrap_i64 (by omega) (by omega)) ?_ | refine Ent.runWL (wrap_i64 (by omega) (by omega)) ?_ | refine Ent.runWR (wrap_i64 (by omega) (by omega)) ?_ | refine Ent.run ?_ | refine Ent.runL ?_ | refine Ent.runR ?_ | refine Ent.drawn ?_ | refine Ent.store (by kernel_rfl) ?_ | refine Ent.resN ?_ | refine Ent.res1 ?_ | refine Ent.gop_yes ?_ | refine Ent.gop_no (by decide) ?_ | refine Ent.gop_undef ?_ | refine Ent.glt_undef ?_ | refine Ent.grc_undef ?_ | refine Ent.glt_yes ?_ | refine Ent.glt_no (by decide) ?_ | refine Ent.grc_yes ?_ | refine Ent.grc_no (by decide) ?_)
        refine Ent.ite (fun h255 => ?_) (fun h255 => ?_)
        · have h255 : 255 < n.data.length := by have : (255 : Int) < n.data.length := by simpa using h255
                                                omega
          rw [if_pos h255] at he
          exact Ent.keep (he (by decide))
        · have h255 : ¬ 255 < n.data.length := by have : ¬ (255 : Int) < n.data.length := by simpa using h255
                                                  omega
          exact hfin fun _ => ⟨hu, h255⟩
    · have h6 : ¬ k ≤ 6 := by simpa using h6
      exact hfin fun h => by omega
mutual
theorem val1 : ∀ (f : Fld) (d : Nat), f.good d → ValOk f
  | .mk n k a b e, d, h => by
    rw [good_eq] at h
    obtain ⟨_, ⟨h1, h2, h3⟩ | ⟨h1, ⟨_, h3, _, _, _, h4⟩, _⟩⟩ := h
    · subst h3
      exact value_ok ⟨h1, by omega⟩ (fun h => by omega) (by simp) (parts_ok fun x hx => by cases hx) (fun x hx => by cases hx)
    · exact value_ok (by rcases h1 with h1 | h1 <;> omega) (fun h => by rcases h1 with h1 | h1 <;> omega) h3 (parts_ok (vals e (d + 1) h4)) (vals e (d + 1) h4)
theorem vals : ∀ (l : List Fld) (d : Nat), goods d l → ∀ x ∈ l, ValOk x
  | [], d, h, x, hx => by cases hx
  | f :: r, d, h, x, hx => by
    unfold goods at h
    have hf := val1 f d h.1
    have hr := vals r d h.2
    rcases List.mem_cons.1 hx with h' | h'
    · exact h' ▸ hf
    · exact hr x h'
end
variable {w0 : World} {p : List HP} {Pn : PK} {K : Value → WP}
theorem REncode_spec {fs : List Fld} {A : Option Addr} {c : Nat} {v : Int} {n : Nd} {cs : List Value} (h : ∀ x ∈ fs, x.ok) (hf : RdD p (.sl T.api_Field 5 (fldsD fs)) [.slice A fs.length c]) (hl : fs.length ≤ 1048576) (hn : RdD p (ndD n) cs) (hok : n.ok) (hbk : n.bulk ≤ 536870912)
    (he : ∀ e, encF fs v n = .error e → e ≠ 0 → Ent w0 p (K (.tuple [.slice none 0 0, .int .i64 e].toArray)))
    (hk : ∀ B d bs, encF fs v n = .ok bs → bs.length ≤ 130048 → Ent w0 (ownB T.u8 (.slice B bs.length d) bs :: p) (K (.tuple [.slice B bs.length d, .int .i64 0].toArray))) :
    Ent w0 p (op PR Pn (S.fn F.leatref10_Encode [.slice A fs.length c, .int .i64 v, .agg cs.toArray]) K) := by
  have hn0 := hn
  obtain ⟨A1, c1, A2, c2, rfl, hb, hl'⟩ := nd_open hn
  unfold encF at he hk
  refine Ent.call (fun w h => enter.leatref10_Encode h) ?_
  unfold W.leatref10_Encode
  unfold ndC at *
  refine Ent.box fun g1 => ?_
  refine begin_spec h hf.skip hl ?_
  repeat (first | refine Ent.runW (wrap_i64 (by omega) (by omega)) ?_ | refine Ent.runWL (wrap_i64 (by omega) (by omega)) ?_ | refine Ent.runWR (wrap_i64 (by omega) (by omega)) ?_ | refine Ent.run ?_ | refine Ent.runL ?_ | refine Ent.runR ?_ | refine Ent.drawn ?_ | refine Ent.store (by kernel_rfl) ?_ | refine Ent.resN ?_ | refine Ent.res1 ?_ | refine Ent.gop_yes ?_ | refine Ent.gop_no (by decide) ?_ | refine Ent.gop_undef ?_ | refine Ent.glt_undef ?_ | refine Ent.grc_undef ?_ | refine Ent.glt_yes ?_ | refine Ent.glt_no (by decide) ?_ | refine Ent.grc_yes ?_ | refine Ent.grc_no (by decide) ?_)
  by_cases h0 : beginE fs v = 0
  case neg =>
    rw [decide_eq_false h0]
    rw [if_pos h0] at he
    exact Ent.ite_t (Ent.keep (he _ rfl h0))
  rw [decide_eq_true h0]
  rw [if_neg (by omega)] at he hk
  refine Ent.ite_f ?_
  have htab : tabOk 1 fs := by
    unfold beginE tabE at h0
    split at h0
    · cases h0
    · split at h0
      · assumption
      · cases h0
  repeat (first | refine Ent.runW (wrap_i64 (by omega) (by omega)) ?_ | refine Ent.runWL (wrap_i64 (by omega) (by omega)) ?_ | refine Ent.runWR (wrap_i64 (by omega) (by omega)) ?_ | refine Ent.run ?_ | refine Ent.runL ?_ | refine Ent.runR ?_ | refine Ent.drawn ?_ | refine Ent.store (by kernel_rfl) ?_ | refine Ent.resN ?_ | refine Ent.res1 ?_ | refine Ent.gop_yes ?_ | refine Ent.gop_no (by decide) ?_ | refine Ent.gop_undef ?_ | refine Ent.glt_undef ?_ | refine Ent.grc_undef ?_ | refine Ent.glt_yes ?_ | refine Ent.glt_no (by decide) ?_ | refine Ent.grc_yes ?_ | refine Ent.grc_no (by decide) ?_)
  refine shape_spec (n := n) (k := 10) (fun hs => ?_) (fun hs => ?_)
  rotate_left
  · repeat (first | refine Ent.runW (wrap_i64 (by omega) (by omega)) ?_ | refine Ent.runWL (wrap_i64 (by omega) (by omega)) ?_ | refine Ent.runWR (wrap_i64 (by omega) (by omega)) ?_ | refine Ent.run ?_ | refine Ent.runL ?_ | refine Ent.runR ?_ | refine Ent.drawn ?_ | refine Ent.store (by kernel_rfl) ?_ | refine Ent.resN ?_ | refine Ent.res1 ?_ | refine Ent.gop_yes ?_ | refine Ent.gop_no (by decide) ?_ | refine Ent.gop_undef ?_ | refine Ent.glt_undef ?_ | refine Ent.grc_undef ?_ | refine Ent.glt_yes ?_ | refine Ent.glt_no (by decide) ?_ | refine Ent.grc_yes ?_ | refine Ent.grc_no (by decide) ?_)
    have h101 : Cd.check (.rcd (wholeF v fs)) n = 101 := by
      unfold Cd.check
      rw [← (plain_shape (n := n) (k := 10)).2.2.2 (.inr rfl), if_pos (.inl hs)]
    rw [h101, if_pos (by decide)] at he
    exact Ent.ite_t (Ent.keep (he _ rfl (by decide)))
  repeat (first | refine Ent.runW (wrap_i64 (by omega) (by omega)) ?_ | refine Ent.runWL (wrap_i64 (by omega) (by omega)) ?_ | refine Ent.runWR (wrap_i64 (by omega) (by omega)) ?_ | refine Ent.run ?_ | refine Ent.runL ?_ | refine Ent.runR ?_ | refine Ent.drawn ?_ | refine Ent.store (by kernel_rfl) ?_ | refine Ent.resN ?_ | refine Ent.res1 ?_ | refine Ent.gop_yes ?_ | refine Ent.gop_no (by decide) ?_ | refine Ent.gop_undef ?_ | refine Ent.glt_undef ?_ | refine Ent.grc_undef ?_ | refine Ent.glt_yes ?_ | refine Ent.glt_no (by decide) ?_ | refine Ent.grc_yes ?_ | refine Ent.grc_no (by decide) ?_)
  refine Ent.ite_f ?_
  repeat (first | refine Ent.runW (wrap_i64 (by omega) (by omega)) ?_ | refine Ent.runWL (wrap_i64 (by omega) (by omega)) ?_ | refine Ent.runWR (wrap_i64 (by omega) (by omega)) ?_ | refine Ent.run ?_ | refine Ent.runL ?_ | refine Ent.runR ?_ | refine Ent.drawn ?_ | refine Ent.store (by kernel_rfl) ?_ | refine Ent.resN ?_ | refine Ent.res1 ?_ | refine Ent.gop_yes ?_ | refine Ent.gop_no (by decide) ?_ | refine Ent.gop_undef ?_ | refine Ent.glt_undef ?_ | refine Ent.grc_undef ?_ | refine Ent.glt_yes ?_ | refine Ent.glt_no (by decide) ?_ | refine Ent.grc_yes ?_ | refine Ent.grc_no (by decide) ?_)
  have hpl : plainF n 10 false false false true = true := by rw [← (plain_shape (n := n) (k := 10)).2.2.2 (.inr rfl)]; exact hs
  refine parts_ok (vals fs 1 htab.2.2.2.2.2) w0 _ _ _ A c v n _ hf.skip htab.2.1 hn0.skip hok hbk hpl ⟨fun hne => ?_, fun h00 B d => ?_⟩
  · rw [if_pos hne] at he
    repeat (first | refine Ent.runW (wrap_i64 (by omega) (by omega)) ?_ | refine Ent.runWL (wrap_i64 (by omega) (by omega)) ?_ | refine Ent.runWR (wrap_i64 (by omega) (by omega)) ?_ | refine Ent.run ?_ | refine Ent.runL ?_ | refine Ent.runR ?_ | refine Ent.drawn ?_ | refine Ent.store (by kernel_rfl) ?_ | refine Ent.resN ?_ | refine Ent.res1 ?_ | refine Ent.gop_yes ?_ | refine Ent.gop_no (by decide) ?_ | refine Ent.gop_undef ?_ | refine Ent.glt_undef ?_ | refine Ent.grc_undef ?_ | refine Ent.glt_yes ?_ | refine Ent.glt_no (by decide) ?_ | refine Ent.grc_yes ?_ | refine Ent.grc_no (by decide) ?_)
    rw [decide_eq_false hne]
    exact Ent.ite_t (Ent.keep (he _ rfl hne))
  · rw [if_neg (by omega)] at he hk
    repeat (first | refine Ent.runW (wrap_i64 (by omega) (by omega)) ?_ | refine Ent.runWL (wrap_i64 (by omega) (by omega)) ?_ | refine Ent.runWR (wrap_i64 (by omega) (by omega)) ?_ | refine Ent.run ?_ | refine Ent.runL ?_ | refine Ent.runR ?_ | refine Ent.drawn ?_ | refine Ent.store (by kernel_rfl) ?_ | refine Ent.resN ?_ | refine Ent.res1 ?_ | refine Ent.gop_yes ?_ | refine Ent.gop_no (by decide) ?_ | refine Ent.gop_undef ?_ | refine Ent.glt_undef ?_ | refine Ent.grc_undef ?_ | refine Ent.glt_yes ?_ | refine Ent.glt_no (by decide) ?_ | refine Ent.grc_yes ?_ | refine Ent.grc_no (by decide) ?_)
    refine Ent.ite_f ?_
    repeat (first | refine Ent.runW (wrap_i64 (by omega) (by omega)) ?_ | refine Ent.runWL (wrap_i64 (by omega) (by omega)) ?_ | refine Ent.runWR (wrap_i64 (by omega) (by omega)) ?_ | refine Ent.run ?_ | refine Ent.runL ?_ | refine Ent.runR ?_ | refine Ent.drawn ?_ | refine Ent.store (by kernel_rfl) ?_ | refine Ent.resN ?_ | refine Ent.res1 ?_ | refine Ent.gop_yes ?_ | refine Ent.gop_no (by decide) ?_ | refine Ent.gop_undef ?_ | refine Ent.glt_undef ?_ | refine Ent.grc_undef ?_ | refine Ent.glt_yes ?_ | refine Ent.glt_no (by decide) ?_ | refine Ent.grc_yes ?_ | refine Ent.grc_no (by decide) ?_)
    refine Ent.ite (fun h1 => ?_) (fun h1 => ?_)
    · have h1 : 130048 < (Cd.enc (.rcd (wholeF v fs)) n).length := by
        have : (130048 : Int) < (Cd.enc (.rcd (wholeF v fs)) n).length := by simpa using h1
        omega
      rw [if_pos h1] at he
      exact Ent.keep (he _ rfl (by decide))
    · have h1 : ¬ 130048 < (Cd.enc (.rcd (wholeF v fs)) n).length := by
        have : ¬ (130048 : Int) < (Cd.enc (.rcd (wholeF v fs)) n).length := by simpa using h1
        omega
      rw [if_neg h1] at hk
      exact Ent.keep (hk B d _ rfl (by omega))
end Go.Lt
