/- The reference's Decode: a value. Conditions: none. -/
import Derived.Test.YtpmpgmjllagomaaRdec
set_option linter.unusedVariables false
set_option maxHeartbeats 4000000
set_option linter.unusedSimpArgs false
set_option maxRecDepth 100000
namespace Go.Lt
open Go
attribute [local irreducible] op gop lt glt rc grc ite' drawn also ldR
section
variable {P : Program} {w0 : World} {p : List HP} {Pn : PK} {K : Value → WP}
theorem Ent.and_or5 {b c t : Bool} {s1 s4 : Sem Next} {s2 s3 s5 s6 : Value → Sem Next} {v1 v2 v4 v5 : Value} [h1 : Run P p s1 v1] [h2 : Run P p (s2 v1) v2] [h3 : Run P p (s3 v2) (.bool c)] [h4 : Run P p s4 v4] [h5 : Run P p (s5 v4) v5] [h6 : Run P p (s6 v5) (.bool t)] (h : Ent w0 p (K (.bool (b && (c || t))))) :
    Ent w0 p (gop P Pn (.bool b) true s1 fun x58 => gop P Pn (.bool b) true (s2 x58) fun x59 => gop P Pn (.bool b) true (s3 x59) fun x60 => gop P Pn (.bool b) true (S.mv x60) fun x61 => gop P Pn x61 false s4 fun x62 => gop P Pn x61 false (s5 x62) fun x63 => gop P Pn x61 false (s6 x63) fun x64 => gop P Pn (.bool b) true (S.pick x61 (.bool true) x64) fun x65 => op P Pn (S.pick (.bool b) x65 (.bool false)) K) := by
  cases b
  · repeat (first | refine Ent.runW (wrap_i64 (by omega) (by omega)) ?_ | refine Ent.runWL (wrap_i64 (by omega) (by omega)) ?_ | refine Ent.runWR (wrap_i64 (by omega) (by omega)) ?_ | refine Ent.run ?_ | refine Ent.runL ?_ | refine Ent.runR ?_ | refine Ent.drawn ?_ | refine Ent.store (by kernel_rfl) ?_ | refine Ent.resN ?_ | refine Ent.res1 ?_ | refine Ent.gop_yes ?_ | refine Ent.gop_no (by decide) ?_ | refine Ent.gop_undef ?_ | refine Ent.glt_undef ?_ | refine Ent.grc_undef ?_ | refine Ent.glt_yes ?_ | refine Ent.glt_no (by decide) ?_ | refine Ent.grc_yes ?_ | refine Ent.grc_no (by decide) ?_)
    exact h
  · cases c
    · repeat (first | refine Ent.runW (wrap_i64 (by omega) (by omega)) ?_ | refine Ent.runWL (wrap_i64 (by omega) (by omega)) ?_ | refine Ent.runWR (wrap_i64 (by omega) (by omega)) ?_ | refine Ent.run ?_ | refine Ent.runL ?_ | refine Ent.runR ?_ | refine Ent.drawn ?_ | refine Ent.store (by kernel_rfl) ?_ | refine Ent.resN ?_ | refine Ent.res1 ?_ | refine Ent.gop_yes ?_ | refine Ent.gop_no (by decide) ?_ | refine Ent.gop_undef ?_ | refine Ent.glt_undef ?_ | refine Ent.grc_undef ?_ | refine Ent.glt_yes ?_ | refine Ent.glt_no (by decide) ?_ | refine Ent.grc_yes ?_ | refine Ent.grc_no (by decide) ?_)
      exact h
    · repeat (first | refine Ent.runW (wrap_i64 (by omega) (by omega)) ?_ | refine Ent.runWL (wrap_i64 (by omega) (by omega)) ?_ | refine Ent.runWR (wrap_i64 (by omega) (by omega)) ?_ | refine Ent.run ?_ | refine Ent.runL ?_ | refine Ent.runR ?_ | refine Ent.drawn ?_ | refine Ent.store (by kernel_rfl) ?_ | refine Ent.resN ?_ | refine Ent.res1 ?_ | refine Ent.gop_yes ?_ | refine Ent.gop_no (by decide) ?_ | refine Ent.gop_undef ?_ | refine Ent.glt_undef ?_ | refine Ent.grc_undef ?_ | refine Ent.glt_yes ?_ | refine Ent.glt_no (by decide) ?_ | refine Ent.grc_yes ?_ | refine Ent.grc_no (by decide) ?_)
      exact h
theorem Ent.and2 {b t : Bool} {s1 : Sem Next} {s2 : Value → Sem Next} {v1 : Value} [h1 : Run P p s1 v1] [h2 : Run P p (s2 v1) (.bool t)] (h : Ent w0 p (K (.bool (b && t)))) :
    Ent w0 p (gop P Pn (.bool b) true s1 fun x => gop P Pn (.bool b) true (s2 x) fun y => op P Pn (S.pick (.bool b) y (.bool false)) K) := by
  cases b
  · repeat (first | refine Ent.runW (wrap_i64 (by omega) (by omega)) ?_ | refine Ent.runWL (wrap_i64 (by omega) (by omega)) ?_ | refine Ent.runWR (wrap_i64 (by omega) (by omega)) ?_ | refine Ent.run ?_ | refine Ent.runL ?_ | refine Ent.runR ?_ | refine Ent.drawn ?_ | refine Ent.store (by kernel_rfl) ?_ | refine Ent.resN ?_ | refine Ent.res1 ?_ | refine Ent.gop_yes ?_ | refine Ent.gop_no (by decide) ?_ | refine Ent.gop_undef ?_ | refine Ent.glt_undef ?_ | refine Ent.grc_undef ?_ | refine Ent.glt_yes ?_ | refine Ent.glt_no (by decide) ?_ | refine Ent.grc_yes ?_ | refine Ent.grc_no (by decide) ?_)
    exact h
  · repeat (first | refine Ent.runW (wrap_i64 (by omega) (by omega)) ?_ | refine Ent.runWL (wrap_i64 (by omega) (by omega)) ?_ | refine Ent.runWR (wrap_i64 (by omega) (by omega)) ?_ | refine Ent.run ?_ | refine Ent.runL ?_ | refine Ent.runR ?_ | refine Ent.drawn ?_ | refine Ent.store (by kernel_rfl) ?_ | refine Ent.resN ?_ | refine Ent.res1 ?_ | refine Ent.gop_yes ?_ | refine Ent.gop_no (by decide) ?_ | refine Ent.gop_undef ?_ | refine Ent.glt_undef ?_ | refine Ent.grc_undef ?_ | refine Ent.glt_yes ?_ | refine Ent.glt_no (by decide) ?_ | refine Ent.grc_yes ?_ | refine Ent.grc_no (by decide) ?_)
    exact h
end
theorem read_ok {nm : ByteArray} {k a b : Int} {e : List Fld} (hkind : 1 ≤ k ∧ k ≤ 10) (h9 : k = 9 → e.length = 1) (h16 : e.length ≤ 16) (ihp : RPartsOk e) (ihc : ∀ x ∈ e, ReadOk x) : ReadOk (.mk nm k a b e) := fun w0 p Pn K A c v bs u at_ hf hb hbl hat hans => by
  obtain ⟨he, hk⟩ := hans
  obtain ⟨A', c', hce, hel⟩ := fld_open hf
  have hce0 := hce
  simp only [fldC, List.cons.injEq, Value.slice.injEq, and_true, true_and] at hce
  obtain ⟨rfl, _, rfl⟩ := hce
  obtain ⟨A0, c0, rfl, hcc1, hcc2⟩ := id hb.shape
  refine Ent.call (fun w h => enter.leatref10_read h) ?_
  unfold W.leatref10_read
  unfold fldC
  simp only [Fld.name, Fld.kind, Fld.frm, Fld.to, Fld.elem] at hel ⊢
  refine Ent.box fun g1 => Ent.alloc fun g2 => ?_
  repeat (first | refine Ent.runW (wrap_i64 (by omega) (by omega)) ?_ | refine Ent.runWL (wrap_i64 (by omega) (by omega)) ?_ | refine Ent.runWR (wrap_i64 (by omega) (by omega)) ?_ | refine Ent.run ?_ | refine Ent.runL ?_ | refine Ent.runR ?_ | refine Ent.drawn ?_ | refine Ent.store (by kernel_rfl) ?_ | refine Ent.resN ?_ | refine Ent.res1 ?_ | refine Ent.gop_yes ?_ | refine Ent.gop_no (by decide) ?_ | refine Ent.gop_undef ?_ | refine Ent.glt_undef ?_ | refine Ent.grc_undef ?_ | refine Ent.glt_yes ?_ | refine Ent.glt_no (by decide) ?_ | refine Ent.grc_yes ?_ | refine Ent.grc_no (by decide) ?_)
  refine Ent.alloc fun g3 => ?_
  unfold compileF at he hk
  repeat (first | refine Ent.runW (wrap_i64 (by omega) (by omega)) ?_ | refine Ent.runWL (wrap_i64 (by omega) (by omega)) ?_ | refine Ent.runWR (wrap_i64 (by omega) (by omega)) ?_ | refine Ent.run ?_ | refine Ent.runL ?_ | refine Ent.runR ?_ | refine Ent.drawn ?_ | refine Ent.store (by kernel_rfl) ?_ | refine Ent.resN ?_ | refine Ent.res1 ?_ | refine Ent.gop_yes ?_ | refine Ent.gop_no (by decide) ?_ | refine Ent.gop_undef ?_ | refine Ent.glt_undef ?_ | refine Ent.grc_undef ?_ | refine Ent.glt_yes ?_ | refine Ent.glt_no (by decide) ?_ | refine Ent.grc_yes ?_ | refine Ent.grc_no (by decide) ?_)
  refine Ent.ite (fun hq10 => ?_) (fun hq10 => ?_)
  · have hq10 : k = 10 := by simpa using hq10
    rw [if_neg (by omega), if_neg (by omega), if_neg (by omega), if_pos hq10] at he hk
    repeat (first | refine Ent.runW (wrap_i64 (by omega) (by omega)) ?_ | refine Ent.runWL (wrap_i64 (by omega) (by omega)) ?_ | refine Ent.runWR (wrap_i64 (by omega) (by omega)) ?_ | refine Ent.run ?_ | refine Ent.runL ?_ | refine Ent.runR ?_ | refine Ent.drawn ?_ | refine Ent.store (by kernel_rfl) ?_ | refine Ent.resN ?_ | refine Ent.res1 ?_ | refine Ent.gop_yes ?_ | refine Ent.gop_no (by decide) ?_ | refine Ent.gop_undef ?_ | refine Ent.glt_undef ?_ | refine Ent.grc_undef ?_ | refine Ent.glt_yes ?_ | refine Ent.glt_no (by decide) ?_ | refine Ent.grc_yes ?_ | refine Ent.grc_no (by decide) ?_)
    refine ihp w0 _ _ _ A c v bs _ at_ hel.keep h16 hb.keep hbl hat ⟨fun e' hE => ?_, fun nd at' hE hat' A1 c1 A6 c6 => ?_⟩
    · unfold zeroC
      repeat (first | refine Ent.runW (wrap_i64 (by omega) (by omega)) ?_ | refine Ent.runWL (wrap_i64 (by omega) (by omega)) ?_ | refine Ent.runWR (wrap_i64 (by omega) (by omega)) ?_ | refine Ent.run ?_ | refine Ent.runL ?_ | refine Ent.runR ?_ | refine Ent.drawn ?_ | refine Ent.store (by kernel_rfl) ?_ | refine Ent.resN ?_ | refine Ent.res1 ?_ | refine Ent.gop_yes ?_ | refine Ent.gop_no (by decide) ?_ | refine Ent.gop_undef ?_ | refine Ent.glt_undef ?_ | refine Ent.grc_undef ?_ | refine Ent.glt_yes ?_ | refine Ent.glt_no (by decide) ?_ | refine Ent.grc_yes ?_ | refine Ent.grc_no (by decide) ?_)
      exact Ent.keep (he e' hE)
    · unfold ndC
      repeat (first | refine Ent.runW (wrap_i64 (by omega) (by omega)) ?_ | refine Ent.runWL (wrap_i64 (by omega) (by omega)) ?_ | refine Ent.runWR (wrap_i64 (by omega) (by omega)) ?_ | refine Ent.run ?_ | refine Ent.runL ?_ | refine Ent.runR ?_ | refine Ent.drawn ?_ | refine Ent.store (by kernel_rfl) ?_ | refine Ent.resN ?_ | refine Ent.res1 ?_ | refine Ent.gop_yes ?_ | refine Ent.gop_no (by decide) ?_ | refine Ent.gop_undef ?_ | refine Ent.glt_undef ?_ | refine Ent.grc_undef ?_ | refine Ent.glt_yes ?_ | refine Ent.glt_no (by decide) ?_ | refine Ent.grc_yes ?_ | refine Ent.grc_no (by decide) ?_)
      have := hk nd at' hE hat' A1 c1 A6 c6
      unfold ndC at this
      exact Ent.keep this
  have hq10 : ¬ k = 10 := by simpa using hq10
  repeat (first | refine Ent.runW (wrap_i64 (by omega) (by omega)) ?_ | refine Ent.runWL (wrap_i64 (by omega) (by omega)) ?_ | refine Ent.runWR (wrap_i64 (by omega) (by omega)) ?_ | refine Ent.run ?_ | refine Ent.runL ?_ | refine Ent.runR ?_ | refine Ent.drawn ?_ | refine Ent.store (by kernel_rfl) ?_ | refine Ent.resN ?_ | refine Ent.res1 ?_ | refine Ent.gop_yes ?_ | refine Ent.gop_no (by decide) ?_ | refine Ent.gop_undef ?_ | refine Ent.glt_undef ?_ | refine Ent.grc_undef ?_ | refine Ent.glt_yes ?_ | refine Ent.glt_no (by decide) ?_ | refine Ent.grc_yes ?_ | refine Ent.grc_no (by decide) ?_)
  refine width_spec ?_
  refine Number_spec hb.keep (by omega) (by omega) (rwidth_ok k) (fun hsh => ?_) (fun hge => ?_)
  · -- too short
    have hE : Cd.get bs (if k = 5 ∨ k = 6 then .txt k else if k = 7 ∨ k = 8 then .blb k else if k = 9 then .arr (firstF v e) else if k = 10 then .rcd (wholeF v e) else .num k) at_ = .error 1 := by
      unfold rwidth at hsh
      split
      · unfold Cd.get
        rw [if_neg (by omega), if_pos (by omega)] at hsh
        rw [if_pos (by omega)]
      · split
        · unfold Cd.get
          rw [if_neg (by omega), if_neg (by omega), if_neg (by omega)] at hsh
          rw [if_pos (by omega)]
        · split
          · unfold Cd.get
            rw [if_neg (by omega), if_neg (by omega), if_neg (by omega)] at hsh
            rw [if_pos (by omega)]
          · try rw [if_neg hq10]
            unfold Cd.get
            have hw : rwidth k = width k := rwidth_num (by omega)
            unfold rwidth at hw
            rw [hw] at hsh
            rw [if_pos (by omega)]
    repeat (first | refine Ent.runW (wrap_i64 (by omega) (by omega)) ?_ | refine Ent.runWL (wrap_i64 (by omega) (by omega)) ?_ | refine Ent.runWR (wrap_i64 (by omega) (by omega)) ?_ | refine Ent.run ?_ | refine Ent.runL ?_ | refine Ent.runR ?_ | refine Ent.drawn ?_ | refine Ent.store (by kernel_rfl) ?_ | refine Ent.resN ?_ | refine Ent.res1 ?_ | refine Ent.gop_yes ?_ | refine Ent.gop_no (by decide) ?_ | refine Ent.gop_undef ?_ | refine Ent.glt_undef ?_ | refine Ent.grc_undef ?_ | refine Ent.glt_yes ?_ | refine Ent.glt_no (by decide) ?_ | refine Ent.grc_yes ?_ | refine Ent.grc_no (by decide) ?_)
    refine Ent.ite_t ?_
    repeat (first | refine Ent.runW (wrap_i64 (by omega) (by omega)) ?_ | refine Ent.runWL (wrap_i64 (by omega) (by omega)) ?_ | refine Ent.runWR (wrap_i64 (by omega) (by omega)) ?_ | refine Ent.run ?_ | refine Ent.runL ?_ | refine Ent.runR ?_ | refine Ent.drawn ?_ | refine Ent.store (by kernel_rfl) ?_ | refine Ent.resN ?_ | refine Ent.res1 ?_ | refine Ent.gop_yes ?_ | refine Ent.gop_no (by decide) ?_ | refine Ent.gop_undef ?_ | refine Ent.glt_undef ?_ | refine Ent.grc_undef ?_ | refine Ent.glt_yes ?_ | refine Ent.glt_no (by decide) ?_ | refine Ent.grc_yes ?_ | refine Ent.grc_no (by decide) ?_)
    exact Ent.keep (he 1 hE)
  have hnr := numAt_range bs at_ (rwidth k) (rwidth_ok k)
  repeat (first | refine Ent.runW (wrap_i64 (by omega) (by omega)) ?_ | refine Ent.runWL (wrap_i64 (by omega) (by omega)) ?_ | refine Ent.runWR (wrap_i64 (by omega) (by omega)) ?_ | refine Ent.run ?_ | refine Ent.runL ?_ | refine Ent.runR ?_ | refine Ent.drawn ?_ | refine Ent.store (by kernel_rfl) ?_ | refine Ent.resN ?_ | refine Ent.res1 ?_ | refine Ent.gop_yes ?_ | refine Ent.gop_no (by decide) ?_ | refine Ent.gop_undef ?_ | refine Ent.glt_undef ?_ | refine Ent.grc_undef ?_ | refine Ent.glt_yes ?_ | refine Ent.glt_no (by decide) ?_ | refine Ent.grc_yes ?_ | refine Ent.grc_no (by decide) ?_)
  refine Ent.ite_f ?_
  have hw8 : rwidth k ≤ 8 := by rcases rwidth_ok k with h | h | h | h <;> omega
  repeat (first | refine Ent.runW (wrap_i64 (by omega) (by omega)) ?_ | refine Ent.runWL (wrap_i64 (by omega) (by omega)) ?_ | refine Ent.runWR (wrap_i64 (by omega) (by omega)) ?_ | refine Ent.run ?_ | refine Ent.runL ?_ | refine Ent.runR ?_ | refine Ent.drawn ?_ | refine Ent.store (by kernel_rfl) ?_ | refine Ent.resN ?_ | refine Ent.res1 ?_ | refine Ent.gop_yes ?_ | refine Ent.gop_no (by decide) ?_ | refine Ent.gop_undef ?_ | refine Ent.glt_undef ?_ | refine Ent.grc_undef ?_ | refine Ent.glt_yes ?_ | refine Ent.glt_no (by decide) ?_ | refine Ent.grc_yes ?_ | refine Ent.grc_no (by decide) ?_)
  rw [show (at_ : Int) + rwidth k = ((at_ + rwidth k : Nat) : Int) by omega]
  refine Ent.ite (fun hq4 => ?_) (fun hq4 => ?_)
  · have hq4 : k ≤ 4 := by simpa using hq4
    rw [if_neg (by omega), if_neg (by omega), if_neg (by omega), if_neg (by omega)] at he hk
    have hw : rwidth k = width k := rwidth_num (by omega)
    rw [hw] at hge ⊢
    unfold Cd.get at hk
    rw [if_neg (by omega)] at hk
    repeat (first | refine Ent.runW (wrap_i64 (by omega) (by omega)) ?_ | refine Ent.runWL (wrap_i64 (by omega) (by omega)) ?_ | refine Ent.runWR (wrap_i64 (by omega) (by omega)) ?_ | refine Ent.run ?_ | refine Ent.runL ?_ | refine Ent.runR ?_ | refine Ent.drawn ?_ | refine Ent.store (by kernel_rfl) ?_ | refine Ent.resN ?_ | refine Ent.res1 ?_ | refine Ent.gop_yes ?_ | refine Ent.gop_no (by decide) ?_ | refine Ent.gop_undef ?_ | refine Ent.glt_undef ?_ | refine Ent.grc_undef ?_ | refine Ent.glt_yes ?_ | refine Ent.glt_no (by decide) ?_ | refine Ent.grc_yes ?_ | refine Ent.grc_no (by decide) ?_)
    refine Ent.add own_nilL (Ent.add own_nilB (nd_close (n := .mk k (numAt bs at_ (width k)) false [] []) ?_))
    exact Ent.keep (hk _ _ rfl hge none 0 none 0)
  have hq4 : ¬ k ≤ 4 := by simpa using hq4
  have hrw : rwidth k = (if k = 5 ∨ k = 6 then 2 else 4) := by
    unfold rwidth
    rw [if_neg (by omega)]
    split
    · rw [if_pos (by omega)]
    · rw [if_neg (by omega), if_neg (by omega)]
  -- the rest by kind: 5..9
  have hE0 : Cd.get bs (if k = 5 ∨ k = 6 then .txt k else if k = 7 ∨ k = 8 then .blb k else if k = 9 then .arr (firstF v e) else if k = 10 then .rcd (wholeF v e) else .num k) at_ =
      (if numAt bs at_ (rwidth k) = -1 ∧ (k = 6 ∨ k = 8) then .ok (.mk k 0 true [] [], at_ + rwidth k) else
       if numAt bs at_ (rwidth k) < 0 then .error 5 else
       if k = 9 then (if 16 < numAt bs at_ (rwidth k) then .error 9 else match getsF (Cd.get bs (firstF v e)) (numAt bs at_ (rwidth k)).toNat (at_ + rwidth k) with | .error e => .error e | .ok (l, a) => .ok (.mk 9 0 false [] l, a)) else
       if k ≤ 6 ∧ 255 < numAt bs at_ (rwidth k) then .error 4 else
       if bs.length - (at_ + rwidth k) < (numAt bs at_ (rwidth k)).toNat then .error 1 else
       if k ≤ 6 ∧ utf ((bs.drop (at_ + rwidth k)).take (numAt bs at_ (rwidth k)).toNat) = false then .error 6 else
       .ok (.mk k 0 false ((bs.drop (at_ + rwidth k)).take (numAt bs at_ (rwidth k)).toNat) [], at_ + rwidth k + (numAt bs at_ (rwidth k)).toNat)) := by
    rw [hrw] at hge ⊢
    split
    · rename_i h
      rw [if_pos h] at hge
      unfold Cd.get
      rw [if_neg (by omega)]
      simp only
      by_cases c1 : numAt bs at_ 2 = -1 ∧ k = 6
      · rw [if_pos c1, if_pos ⟨c1.1, .inl c1.2⟩]
      · rw [if_neg c1, if_neg (show ¬ (numAt bs at_ 2 = -1 ∧ (k = 6 ∨ k = 8)) from fun h' => c1 ⟨h'.1, by omega⟩)]
        by_cases c2 : numAt bs at_ 2 < 0
        · simp only [if_pos c2]
        · simp only [if_neg c2]
          rw [if_neg (show ¬ k = 9 by omega)]
          by_cases c3 : 255 < numAt bs at_ 2
          · rw [if_pos c3, if_pos ⟨by omega, c3⟩]
          · rw [if_neg c3, if_neg (show ¬ (k ≤ 6 ∧ 255 < numAt bs at_ 2) from fun h' => c3 h'.2)]
            by_cases c4 : bs.length - (at_ + 2) < (numAt bs at_ 2).toNat
            · simp only [if_pos c4]
            · simp only [if_neg c4]
              by_cases c5 : utf ((bs.drop (at_ + 2)).take (numAt bs at_ 2).toNat) = false
              · rw [if_pos c5, if_pos ⟨by omega, c5⟩]
              · rw [if_neg c5, if_neg (show ¬ (k ≤ 6 ∧ utf ((bs.drop (at_ + 2)).take (numAt bs at_ 2).toNat) = false) from fun h' => c5 h'.2)]
    · rename_i h
      rw [if_neg h] at hge
      split
      · rename_i h'
        unfold Cd.get
        rw [if_neg (by omega)]
        simp only
        by_cases c1 : numAt bs at_ 4 = -1 ∧ k = 8
        · rw [if_pos c1, if_pos ⟨c1.1, .inr c1.2⟩]
        · rw [if_neg c1, if_neg (show ¬ (numAt bs at_ 4 = -1 ∧ (k = 6 ∨ k = 8)) from fun h' => c1 ⟨h'.1, by omega⟩)]
          by_cases c2 : numAt bs at_ 4 < 0
          · simp only [if_pos c2]
          · simp only [if_neg c2]
            rw [if_neg (show ¬ k = 9 by omega), if_neg (show ¬ (k ≤ 6 ∧ 255 < numAt bs at_ 4) by omega)]
            by_cases c4 : bs.length - (at_ + 4) < (numAt bs at_ 4).toNat
            · simp only [if_pos c4]
            · simp only [if_neg c4]
              rw [if_neg (show ¬ (k ≤ 6 ∧ utf ((bs.drop (at_ + 4)).take (numAt bs at_ 4).toNat) = false) from fun h' => by omega)]
      · rename_i h'
        have h9' : k = 9 := by omega
        rw [if_pos h9']
        unfold Cd.get
        rw [if_neg (by omega), if_neg (show ¬ (numAt bs at_ 4 = -1 ∧ (k = 6 ∨ k = 8)) from fun h' => by omega)]
        simp only
        by_cases c2 : numAt bs at_ 4 < 0
        · simp only [if_pos c2]
        · simp only [if_neg c2]
          rw [if_pos h9']
          rfl
  rw [hE0] at he hk
  clear hE0
  have hw24 : rwidth k = 2 ∨ rwidth k = 4 := by rw [hrw]; split <;> simp
  have hnr2 : -2147483648 ≤ numAt bs at_ (rwidth k) ∧ numAt bs at_ (rwidth k) ≤ 2147483647 := by
    rcases hw24 with h | h
    · rw [h]; have := numAt_small2 bs at_; omega
    · rw [h]; exact numAt_small4 bs at_
  generalize hw : rwidth k = w at he hk hge hnr hw8 hnr2 ⊢
  generalize hnn : numAt bs at_ w = n at he hk hnr hnr2 ⊢
  refine Ent.run ?_
  refine Ent.and_or5 ?_
  by_cases c1 : n = -1 ∧ (k = 6 ∨ k = 8)
  · rw [if_pos c1] at hk
    have e1 : (decide (n = -1) && (decide (k = 6) || decide (k = 8))) = true := by simpa using c1
    rw [e1]
    refine Ent.ite_t ?_
    repeat (first | refine Ent.runW (wrap_i64 (by omega) (by omega)) ?_ | refine Ent.runWL (wrap_i64 (by omega) (by omega)) ?_ | refine Ent.runWR (wrap_i64 (by omega) (by omega)) ?_ | refine Ent.run ?_ | refine Ent.runL ?_ | refine Ent.runR ?_ | refine Ent.drawn ?_ | refine Ent.store (by kernel_rfl) ?_ | refine Ent.resN ?_ | refine Ent.res1 ?_ | refine Ent.gop_yes ?_ | refine Ent.gop_no (by decide) ?_ | refine Ent.gop_undef ?_ | refine Ent.glt_undef ?_ | refine Ent.grc_undef ?_ | refine Ent.glt_yes ?_ | refine Ent.glt_no (by decide) ?_ | refine Ent.grc_yes ?_ | refine Ent.grc_no (by decide) ?_)
    refine Ent.add own_nilL (Ent.add own_nilB (nd_close (n := .mk k 0 true [] []) ?_))
    exact Ent.keep (hk _ _ rfl hge none 0 none 0)
  have e1 : (decide (n = -1) && (decide (k = 6) || decide (k = 8))) = false := by
    cases hb1 : (decide (n = -1) && (decide (k = 6) || decide (k = 8))) with
    | false => rfl
    | true => exact absurd (by simpa using hb1) c1
  rw [e1]
  rw [if_neg c1] at he hk
  refine Ent.ite_f ?_
  repeat (first | refine Ent.runW (wrap_i64 (by omega) (by omega)) ?_ | refine Ent.runWL (wrap_i64 (by omega) (by omega)) ?_ | refine Ent.runWR (wrap_i64 (by omega) (by omega)) ?_ | refine Ent.run ?_ | refine Ent.runL ?_ | refine Ent.runR ?_ | refine Ent.drawn ?_ | refine Ent.store (by kernel_rfl) ?_ | refine Ent.resN ?_ | refine Ent.res1 ?_ | refine Ent.gop_yes ?_ | refine Ent.gop_no (by decide) ?_ | refine Ent.gop_undef ?_ | refine Ent.glt_undef ?_ | refine Ent.grc_undef ?_ | refine Ent.glt_yes ?_ | refine Ent.glt_no (by decide) ?_ | refine Ent.grc_yes ?_ | refine Ent.grc_no (by decide) ?_)
  refine Ent.ite (fun hq => ?_) (fun hq => ?_)
  · have hq : n < 0 := by simpa using hq
    rw [if_pos hq] at he
    repeat (first | refine Ent.runW (wrap_i64 (by omega) (by omega)) ?_ | refine Ent.runWL (wrap_i64 (by omega) (by omega)) ?_ | refine Ent.runWR (wrap_i64 (by omega) (by omega)) ?_ | refine Ent.run ?_ | refine Ent.runL ?_ | refine Ent.runR ?_ | refine Ent.drawn ?_ | refine Ent.store (by kernel_rfl) ?_ | refine Ent.resN ?_ | refine Ent.res1 ?_ | refine Ent.gop_yes ?_ | refine Ent.gop_no (by decide) ?_ | refine Ent.gop_undef ?_ | refine Ent.glt_undef ?_ | refine Ent.grc_undef ?_ | refine Ent.glt_yes ?_ | refine Ent.glt_no (by decide) ?_ | refine Ent.grc_yes ?_ | refine Ent.grc_no (by decide) ?_)
    exact Ent.keep (he 5 rfl)
  have hn0 : ¬ n < 0 := by simpa using hq
  rw [if_neg hn0] at he hk
  repeat (first | refine Ent.runW (wrap_i64 (by omega) (by omega)) ?_ | refine Ent.runWL (wrap_i64 (by omega) (by omega)) ?_ | refine Ent.runWR (wrap_i64 (by omega) (by omega)) ?_ | refine Ent.run ?_ | refine Ent.runL ?_ | refine Ent.runR ?_ | refine Ent.drawn ?_ | refine Ent.store (by kernel_rfl) ?_ | refine Ent.resN ?_ | refine Ent.res1 ?_ | refine Ent.gop_yes ?_ | refine Ent.gop_no (by decide) ?_ | refine Ent.gop_undef ?_ | refine Ent.glt_undef ?_ | refine Ent.grc_undef ?_ | refine Ent.glt_yes ?_ | refine Ent.glt_no (by decide) ?_ | refine Ent.grc_yes ?_ | refine Ent.grc_no (by decide) ?_)
  refine Ent.ite (fun hq9 => ?_) (fun hq9 => ?_)
  · have hq9 : k = 9 := by simpa using hq9
    rw [if_pos hq9] at he hk
    obtain ⟨e0, rfl⟩ : ∃ x, e = [x] := List.length_eq_one_iff.1 (h9 hq9)
    simp only [firstF] at he hk
    repeat (first | refine Ent.runW (wrap_i64 (by omega) (by omega)) ?_ | refine Ent.runWL (wrap_i64 (by omega) (by omega)) ?_ | refine Ent.runWR (wrap_i64 (by omega) (by omega)) ?_ | refine Ent.run ?_ | refine Ent.runL ?_ | refine Ent.runR ?_ | refine Ent.drawn ?_ | refine Ent.store (by kernel_rfl) ?_ | refine Ent.resN ?_ | refine Ent.res1 ?_ | refine Ent.gop_yes ?_ | refine Ent.gop_no (by decide) ?_ | refine Ent.gop_undef ?_ | refine Ent.glt_undef ?_ | refine Ent.grc_undef ?_ | refine Ent.glt_yes ?_ | refine Ent.glt_no (by decide) ?_ | refine Ent.grc_yes ?_ | refine Ent.grc_no (by decide) ?_)
    refine items_ok (f := .mk nm k a b [e0]) (e0 := e0) (A := A) (c := c) rfl (ihc e0 (by simp)) hf.keep hb.keep hbl hge (by omega) ⟨fun e' hE => ?_, fun nd at' hE hat' A1 c1 A6 c6 => ?_⟩
    · unfold zeroC
      repeat (first | refine Ent.runW (wrap_i64 (by omega) (by omega)) ?_ | refine Ent.runWL (wrap_i64 (by omega) (by omega)) ?_ | refine Ent.runWR (wrap_i64 (by omega) (by omega)) ?_ | refine Ent.run ?_ | refine Ent.runL ?_ | refine Ent.runR ?_ | refine Ent.drawn ?_ | refine Ent.store (by kernel_rfl) ?_ | refine Ent.resN ?_ | refine Ent.res1 ?_ | refine Ent.gop_yes ?_ | refine Ent.gop_no (by decide) ?_ | refine Ent.gop_undef ?_ | refine Ent.glt_undef ?_ | refine Ent.grc_undef ?_ | refine Ent.glt_yes ?_ | refine Ent.glt_no (by decide) ?_ | refine Ent.grc_yes ?_ | refine Ent.grc_no (by decide) ?_)
      exact Ent.keep (he e' hE)
    · unfold ndC
      repeat (first | refine Ent.runW (wrap_i64 (by omega) (by omega)) ?_ | refine Ent.runWL (wrap_i64 (by omega) (by omega)) ?_ | refine Ent.runWR (wrap_i64 (by omega) (by omega)) ?_ | refine Ent.run ?_ | refine Ent.runL ?_ | refine Ent.runR ?_ | refine Ent.drawn ?_ | refine Ent.store (by kernel_rfl) ?_ | refine Ent.resN ?_ | refine Ent.res1 ?_ | refine Ent.gop_yes ?_ | refine Ent.gop_no (by decide) ?_ | refine Ent.gop_undef ?_ | refine Ent.glt_undef ?_ | refine Ent.grc_undef ?_ | refine Ent.glt_yes ?_ | refine Ent.glt_no (by decide) ?_ | refine Ent.grc_yes ?_ | refine Ent.grc_no (by decide) ?_)
      have := hk nd at' hE hat' A1 c1 A6 c6
      unfold ndC at this
      exact Ent.keep this
  have hq9 : ¬ k = 9 := by simpa using hq9
  rw [if_neg hq9] at he hk
  repeat (first | refine Ent.runW (wrap_i64 (by omega) (by omega)) ?_ | refine Ent.runWL (wrap_i64 (by omega) (by omega)) ?_ | refine Ent.runWR (wrap_i64 (by omega) (by omega)) ?_ | refine Ent.run ?_ | refine Ent.runL ?_ | refine Ent.runR ?_ | refine Ent.drawn ?_ | refine Ent.store (by kernel_rfl) ?_ | refine Ent.resN ?_ | refine Ent.res1 ?_ | refine Ent.gop_yes ?_ | refine Ent.gop_no (by decide) ?_ | refine Ent.gop_undef ?_ | refine Ent.glt_undef ?_ | refine Ent.grc_undef ?_ | refine Ent.glt_yes ?_ | refine Ent.glt_no (by decide) ?_ | refine Ent.grc_yes ?_ | refine Ent.grc_no (by decide) ?_)
  refine Ent.and2 ?_
  by_cases c2 : k ≤ 6 ∧ 255 < n
  · rw [if_pos c2] at he
    rw [show (decide (k ≤ 6) && decide (255 < n)) = true by simpa using c2]
    refine Ent.ite_t ?_
    repeat (first | refine Ent.runW (wrap_i64 (by omega) (by omega)) ?_ | refine Ent.runWL (wrap_i64 (by omega) (by omega)) ?_ | refine Ent.runWR (wrap_i64 (by omega) (by omega)) ?_ | refine Ent.run ?_ | refine Ent.runL ?_ | refine Ent.runR ?_ | refine Ent.drawn ?_ | refine Ent.store (by kernel_rfl) ?_ | refine Ent.resN ?_ | refine Ent.res1 ?_ | refine Ent.gop_yes ?_ | refine Ent.gop_no (by decide) ?_ | refine Ent.gop_undef ?_ | refine Ent.glt_undef ?_ | refine Ent.grc_undef ?_ | refine Ent.glt_yes ?_ | refine Ent.glt_no (by decide) ?_ | refine Ent.grc_yes ?_ | refine Ent.grc_no (by decide) ?_)
    exact Ent.keep (he 4 rfl)
  rw [if_neg c2] at he hk
  have e2 : (decide (k ≤ 6) && decide (255 < n)) = false := by
    cases hb1 : (decide (k ≤ 6) && decide (255 < n)) with
    | false => rfl
    | true => exact absurd (by simpa using hb1) c2
  rw [e2]
  refine Ent.ite_f ?_
  repeat (first | refine Ent.runW (wrap_i64 (by omega) (by omega)) ?_ | refine Ent.runWL (wrap_i64 (by omega) (by omega)) ?_ | refine Ent.runWR (wrap_i64 (by omega) (by omega)) ?_ | refine Ent.run ?_ | refine Ent.runL ?_ | refine Ent.runR ?_ | refine Ent.drawn ?_ | refine Ent.store (by kernel_rfl) ?_ | refine Ent.resN ?_ | refine Ent.res1 ?_ | refine Ent.gop_yes ?_ | refine Ent.gop_no (by decide) ?_ | refine Ent.gop_undef ?_ | refine Ent.glt_undef ?_ | refine Ent.grc_undef ?_ | refine Ent.glt_yes ?_ | refine Ent.glt_no (by decide) ?_ | refine Ent.grc_yes ?_ | refine Ent.grc_no (by decide) ?_)
  refine Ent.ite (fun hq => ?_) (fun hq => ?_)
  · have hq : (bs.length : Int) - ((at_ + w : Nat) : Int) < n := by simpa using hq
    rw [if_pos (by omega)] at he
    repeat (first | refine Ent.runW (wrap_i64 (by omega) (by omega)) ?_ | refine Ent.runWL (wrap_i64 (by omega) (by omega)) ?_ | refine Ent.runWR (wrap_i64 (by omega) (by omega)) ?_ | refine Ent.run ?_ | refine Ent.runL ?_ | refine Ent.runR ?_ | refine Ent.drawn ?_ | refine Ent.store (by kernel_rfl) ?_ | refine Ent.resN ?_ | refine Ent.res1 ?_ | refine Ent.gop_yes ?_ | refine Ent.gop_no (by decide) ?_ | refine Ent.gop_undef ?_ | refine Ent.glt_undef ?_ | refine Ent.grc_undef ?_ | refine Ent.glt_yes ?_ | refine Ent.glt_no (by decide) ?_ | refine Ent.grc_yes ?_ | refine Ent.grc_no (by decide) ?_)
    exact Ent.keep (he 1 rfl)
  have hq : ¬ (bs.length : Int) - ((at_ + w : Nat) : Int) < n := by simpa using hq
  rw [if_neg (by omega)] at he hk
  obtain ⟨m, rfl⟩ := Int.eq_ofNat_of_zero_le (show 0 ≤ n by omega)
  rw [Int.toNat_natCast] at he hk
  repeat (first | refine Ent.runW (wrap_i64 (by omega) (by omega)) ?_ | refine Ent.runWL (wrap_i64 (by omega) (by omega)) ?_ | refine Ent.runWR (wrap_i64 (by omega) (by omega)) ?_ | refine Ent.run ?_ | refine Ent.runL ?_ | refine Ent.runR ?_ | refine Ent.drawn ?_ | refine Ent.store (by kernel_rfl) ?_ | refine Ent.resN ?_ | refine Ent.res1 ?_ | refine Ent.gop_yes ?_ | refine Ent.gop_no (by decide) ?_ | refine Ent.gop_undef ?_ | refine Ent.glt_undef ?_ | refine Ent.grc_undef ?_ | refine Ent.glt_yes ?_ | refine Ent.glt_no (by decide) ?_ | refine Ent.grc_yes ?_ | refine Ent.grc_no (by decide) ?_)
  rw [show ((at_ + w : Nat) : Int) + (m : Int) = ((at_ + w + m : Nat) : Int) by omega]
  refine Piece_spec (lo := ((at_ + w : Nat) : Int)) (hi := ((at_ + w + m : Nat) : Int)) hb.keep (by omega) (by omega) (by omega) fun B d => ?_
  have hpc : pieceF bs ((at_ + w : Nat) : Int) ((at_ + w + m : Nat) : Int) = (bs.drop (at_ + w)).take m := by
    unfold pieceF
    rw [Int.toNat_natCast, Int.toNat_natCast, List.drop_take]
    congr 1
    omega
  rw [hpc]
  generalize hdd : (bs.drop (at_ + w)).take m = dd at he hk ⊢
  have hddl : dd.length = m := by rw [← hdd]; simp; omega
  refine Ent.J0 fun kk hkk => ?_
  have hfin : ¬ (k ≤ 6 ∧ utf dd = false) → Ent w0 (ownB T.u8 (.slice B dd.length d) dd :: blk g3 [.int .i64 0, .int .i64 0, .bool false, .slice none 0 0, .slice none 0 0] :: blk g2 [.int .i64 0, .int .i64 0, .bool false, .slice none 0 0, .slice none 0 0] :: blk g1 [.string nm, .int .i64 k, .int .i64 a, .int .i64 b, .slice A e.length c] :: p) kk := fun hg => by
    rw [if_neg hg] at hk
    refine hkk _ ?_
    repeat (first | refine Ent.runW (wrap_i64 (by omega) (by omega)) ?_ | refine Ent.runWL (wrap_i64 (by omega) (by omega)) ?_ | refine Ent.runWR (wrap_i64 (by omega) (by omega)) ?_ | refine Ent.run ?_ | refine Ent.runL ?_ | refine Ent.runR ?_ | refine Ent.drawn ?_ | refine Ent.store (by kernel_rfl) ?_ | refine Ent.resN ?_ | refine Ent.res1 ?_ | refine Ent.gop_yes ?_ | refine Ent.gop_no (by decide) ?_ | refine Ent.gop_undef ?_ | refine Ent.glt_undef ?_ | refine Ent.grc_undef ?_ | refine Ent.glt_yes ?_ | refine Ent.glt_no (by decide) ?_ | refine Ent.grc_yes ?_ | refine Ent.grc_no (by decide) ?_)
    rw [show ((at_ + w : Nat) : Int) + (m : Int) = ((at_ + w + m : Nat) : Int) by omega]
    refine Ent.add own_nilL (Ent.take (ownB T.u8 (.slice B dd.length d) dd) (nd_close (n := .mk k 0 false dd []) ?_))
    exact Ent.keep (hk _ _ rfl (by omega) B d none 0)
  repeat (first | refine Ent.runW (wrap_i64 (by omega) (by omega)) ?_ | refine Ent.runWL (wrap_i64 (by omega) (by omega)) ?_ | refine Ent.runWR (wrap_i64 (by omega) (by omega)) ?_ | refine Ent.run ?_ | refine Ent.runL ?_ | refine Ent.runR ?_ | refine Ent.drawn ?_ | refine Ent.store (by kernel_rfl) ?_ | refine Ent.resN ?_ | refine Ent.res1 ?_ | refine Ent.gop_yes ?_ | refine Ent.gop_no (by decide) ?_ | refine Ent.gop_undef ?_ | refine Ent.glt_undef ?_ | refine Ent.grc_undef ?_ | refine Ent.glt_yes ?_ | refine Ent.glt_no (by decide) ?_ | refine Ent.grc_yes ?_ | refine Ent.grc_no (by decide) ?_)
  refine Ent.ite (fun h6 => ?_) (fun h6 => ?_)
  · have h6 : k ≤ 6 := by simpa using h6
    refine Ent.freeze fun y hy => ?_
    refine RUtf_spec (RdB.here (ownB_rd hy)) (by omega) fun at2 => ?_
    cases hu : utf dd with
    | false =>
      rw [if_pos ⟨h6, hu⟩] at he
      repeat (first | refine Ent.runW (wrap_i64 (by omega) (by omega)) ?_ | refine Ent.runWL (wrap_i64 (by omega) (by omega)) ?_ | refine Ent.runWR (wrap_i64 (by omega) (by omega)) ?_ | refine Ent.run ?_ | refine Ent.runL ?_ | refine Ent.runR ?_ | refine Ent.drawn ?_ | refine Ent.store (by kernel_rfl) ?_ | refine Ent.resN ?_ | refine Ent.res1 ?_ | refine Ent.gop_yes ?_ | refine Ent.gop_no (by decide) ?_ | refine Ent.gop_undef ?_ | refine Ent.glt_undef ?_ | refine Ent.grc_undef ?_ | refine Ent.glt_yes ?_ | refine Ent.glt_no (by decide) ?_ | refine Ent.grc_yes ?_ | refine Ent.grc_no (by decide) ?_)
      refine Ent.ite_t ?_
      repeat (first | refine Ent.runW (wrap_i64 (by omega) (by omega)) ?_ | refine Ent.runWL (wrap_i64 (by omega) (by omega)) ?_ | refine Ent.runWR (wrap_i64 (by omega) (by omega)) ?_ | refine Ent.run ?_ | refine Ent.runL ?_ | refine Ent.runR ?_ | refine Ent.drawn ?_ | refine Ent.store (by kernel_rfl) ?_ | refine Ent.resN ?_ | refine Ent.res1 ?_ | refine Ent.gop_yes ?_ | refine Ent.gop_no (by decide) ?_ | refine Ent.gop_undef ?_ | refine Ent.glt_undef ?_ | refine Ent.grc_undef ?_ | refine Ent.glt_yes ?_ | refine Ent.glt_no (by decide) ?_ | refine Ent.grc_yes ?_ | refine Ent.grc_no (by decide) ?_)
      exact Ent.keep (he 6 rfl)
    | true =>
      repeat (first | refine Ent.runW (wrap_i64 (by omega) (by omega)) ?_ | refine Ent.runWL (wrap_i64 (by omega) (by omega)) ?_ | refine Ent.runWR (wrap_i64 (by omega) (by omega)) ?_ | refine Ent.run ?_ | refine Ent.runL ?_ | refine Ent.runR ?_ | refine Ent.drawn ?_ | refine Ent.store (by kernel_rfl) ?_ | refine Ent.resN ?_ | refine Ent.res1 ?_ | refine Ent.gop_yes ?_ | refine Ent.gop_no (by decide) ?_ | refine Ent.gop_undef ?_ | refine Ent.glt_undef ?_ | refine Ent.grc_undef ?_ | refine Ent.glt_yes ?_ | refine Ent.glt_no (by decide) ?_ | refine Ent.grc_yes ?_ | refine Ent.grc_no (by decide) ?_)
      refine Ent.ite_f ?_
      refine Ent.thaw hy ?_
      exact hfin fun h => by rw [hu] at h; cases h.2
  · have h6 : ¬ k ≤ 6 := by simpa using h6
    exact hfin fun h => h6 h.1
mutual
theorem read1 : ∀ (f : Fld) (d : Nat), f.good d → ReadOk f
  | .mk n k a b e, d, h => by
    rw [good_eq] at h
    obtain ⟨_, ⟨h1, h2, h3⟩ | ⟨h1, ⟨_, h3, _, _, _, h4⟩, _⟩⟩ := h
    · subst h3
      exact read_ok ⟨h1, by omega⟩ (fun h => by omega) (by simp) (rparts_ok fun x hx => by cases hx) (fun x hx => by cases hx)
    · exact read_ok (by rcases h1 with h1 | h1 <;> omega) (fun h => by rcases h1 with h1 | h1 <;> omega) h3 (rparts_ok (reads e (d + 1) h4)) (reads e (d + 1) h4)
theorem reads : ∀ (l : List Fld) (d : Nat), goods d l → ∀ x ∈ l, ReadOk x
  | [], d, h, x, hx => by cases hx
  | f :: r, d, h, x, hx => by
    unfold goods at h
    have hf := read1 f d h.1
    have hr := reads r d h.2
    rcases List.mem_cons.1 hx with h' | h'
    · exact h' ▸ hf
    · exact hr x h'
end
variable {w0 : World} {p : List HP} {Pn : PK} {K : Value → WP}
theorem RDecode_spec {fs : List Fld} {A : Option Addr} {c : Nat} {v : Int} {bs : List UInt8} {u : Value} (h : ∀ x ∈ fs, x.ok) (hf : RdD p (.sl T.api_Field 5 (fldsD fs)) [.slice A fs.length c]) (hl : fs.length ≤ 1048576) (hb : RdB p u bs) (hbl : bs.length ≤ 1048576)
    (he : ∀ e, decF fs v bs = .error e → Ent w0 p (K (.tuple [.agg (zeroC 0).toArray, .int .i64 e].toArray)))
    (hk : ∀ n A1 c1 A2 c2, decF fs v bs = .ok n → Ent w0 (Ow (ndD n) (ndC n A1 c1 A2 c2) :: p) (K (.tuple [.agg (ndC n A1 c1 A2 c2).toArray, .int .i64 0].toArray))) :
    Ent w0 p (op PR Pn (S.fn F.leatref10_Decode [.slice A fs.length c, .int .i64 v, u]) K) := by
  unfold decF at he hk
  obtain ⟨A0, c0, rfl, hc1, hc2⟩ := id hb.shape
  refine Ent.call (fun w h => enter.leatref10_Decode h) ?_
  unfold W.leatref10_Decode
  refine Ent.alloc fun g1 => ?_
  refine begin_spec h hf.skip hl ?_
  repeat (first | refine Ent.runW (wrap_i64 (by omega) (by omega)) ?_ | refine Ent.runWL (wrap_i64 (by omega) (by omega)) ?_ | refine Ent.runWR (wrap_i64 (by omega) (by omega)) ?_ | refine Ent.run ?_ | refine Ent.runL ?_ | refine Ent.runR ?_ | refine Ent.drawn ?_ | refine Ent.store (by kernel_rfl) ?_ | refine Ent.resN ?_ | refine Ent.res1 ?_ | refine Ent.gop_yes ?_ | refine Ent.gop_no (by decide) ?_ | refine Ent.gop_undef ?_ | refine Ent.glt_undef ?_ | refine Ent.grc_undef ?_ | refine Ent.glt_yes ?_ | refine Ent.glt_no (by decide) ?_ | refine Ent.grc_yes ?_ | refine Ent.grc_no (by decide) ?_)
  by_cases h0 : beginE fs v = 0
  case neg =>
    rw [decide_eq_false h0]
    rw [if_pos h0] at he
    refine Ent.ite_t ?_
    repeat (first | refine Ent.runW (wrap_i64 (by omega) (by omega)) ?_ | refine Ent.runWL (wrap_i64 (by omega) (by omega)) ?_ | refine Ent.runWR (wrap_i64 (by omega) (by omega)) ?_ | refine Ent.run ?_ | refine Ent.runL ?_ | refine Ent.runR ?_ | refine Ent.drawn ?_ | refine Ent.store (by kernel_rfl) ?_ | refine Ent.resN ?_ | refine Ent.res1 ?_ | refine Ent.gop_yes ?_ | refine Ent.gop_no (by decide) ?_ | refine Ent.gop_undef ?_ | refine Ent.glt_undef ?_ | refine Ent.grc_undef ?_ | refine Ent.glt_yes ?_ | refine Ent.glt_no (by decide) ?_ | refine Ent.grc_yes ?_ | refine Ent.grc_no (by decide) ?_)
    exact (Ent.keep (he _ rfl))
  rw [decide_eq_true h0]
  rw [if_neg (by omega)] at he hk
  refine Ent.ite_f ?_
  have htab : tabOk 1 fs := by
    unfold beginE tabE at h0
    split at h0
    · cases h0
    · split at h0
      · assumption
      · cases h0
  repeat (first | refine Ent.runW (wrap_i64 (by omega) (by omega)) ?_ | refine Ent.runWL (wrap_i64 (by omega) (by omega)) ?_ | refine Ent.runWR (wrap_i64 (by omega) (by omega)) ?_ | refine Ent.run ?_ | refine Ent.runL ?_ | refine Ent.runR ?_ | refine Ent.drawn ?_ | refine Ent.store (by kernel_rfl) ?_ | refine Ent.resN ?_ | refine Ent.res1 ?_ | refine Ent.gop_yes ?_ | refine Ent.gop_no (by decide) ?_ | refine Ent.gop_undef ?_ | refine Ent.glt_undef ?_ | refine Ent.grc_undef ?_ | refine Ent.glt_yes ?_ | refine Ent.glt_no (by decide) ?_ | refine Ent.grc_yes ?_ | refine Ent.grc_no (by decide) ?_)
  refine Ent.ite (fun h1 => ?_) (fun h1 => ?_)
  · have h1 : (130048 : Int) < bs.length := by simpa using h1
    rw [if_pos (by omega)] at he
    repeat (first | refine Ent.runW (wrap_i64 (by omega) (by omega)) ?_ | refine Ent.runWL (wrap_i64 (by omega) (by omega)) ?_ | refine Ent.runWR (wrap_i64 (by omega) (by omega)) ?_ | refine Ent.run ?_ | refine Ent.runL ?_ | refine Ent.runR ?_ | refine Ent.drawn ?_ | refine Ent.store (by kernel_rfl) ?_ | refine Ent.resN ?_ | refine Ent.res1 ?_ | refine Ent.gop_yes ?_ | refine Ent.gop_no (by decide) ?_ | refine Ent.gop_undef ?_ | refine Ent.glt_undef ?_ | refine Ent.grc_undef ?_ | refine Ent.glt_yes ?_ | refine Ent.glt_no (by decide) ?_ | refine Ent.grc_yes ?_ | refine Ent.grc_no (by decide) ?_)
    exact Ent.keep (he 4 rfl)
  have h1 : ¬ (130048 : Int) < bs.length := by simpa using h1
  rw [if_neg (by omega)] at he hk
  refine rparts_ok (reads fs 1 htab.2.2.2.2.2) w0 _ _ _ A c v bs _ 0 hf.skip htab.2.1 hb.skip hbl (Nat.zero_le _) ⟨fun e hE => ?_, fun n at' hE hat' A1 c1 A2 c2 => ?_⟩
  · have hne : e ≠ 0 := get_err bs _ _ _ hE
    rw [hE] at he
    unfold zeroC
    repeat (first | refine Ent.runW (wrap_i64 (by omega) (by omega)) ?_ | refine Ent.runWL (wrap_i64 (by omega) (by omega)) ?_ | refine Ent.runWR (wrap_i64 (by omega) (by omega)) ?_ | refine Ent.run ?_ | refine Ent.runL ?_ | refine Ent.runR ?_ | refine Ent.drawn ?_ | refine Ent.store (by kernel_rfl) ?_ | refine Ent.resN ?_ | refine Ent.res1 ?_ | refine Ent.gop_yes ?_ | refine Ent.gop_no (by decide) ?_ | refine Ent.gop_undef ?_ | refine Ent.glt_undef ?_ | refine Ent.grc_undef ?_ | refine Ent.glt_yes ?_ | refine Ent.glt_no (by decide) ?_ | refine Ent.grc_yes ?_ | refine Ent.grc_no (by decide) ?_)
    refine Ent.alloc fun g3 => ?_
    repeat (first | refine Ent.runW (wrap_i64 (by omega) (by omega)) ?_ | refine Ent.runWL (wrap_i64 (by omega) (by omega)) ?_ | refine Ent.runWR (wrap_i64 (by omega) (by omega)) ?_ | refine Ent.run ?_ | refine Ent.runL ?_ | refine Ent.runR ?_ | refine Ent.drawn ?_ | refine Ent.store (by kernel_rfl) ?_ | refine Ent.resN ?_ | refine Ent.res1 ?_ | refine Ent.gop_yes ?_ | refine Ent.gop_no (by decide) ?_ | refine Ent.gop_undef ?_ | refine Ent.glt_undef ?_ | refine Ent.grc_undef ?_ | refine Ent.glt_yes ?_ | refine Ent.glt_no (by decide) ?_ | refine Ent.grc_yes ?_ | refine Ent.grc_no (by decide) ?_)
    rw [decide_eq_false hne]
    refine Ent.ite_t ?_
    repeat (first | refine Ent.runW (wrap_i64 (by omega) (by omega)) ?_ | refine Ent.runWL (wrap_i64 (by omega) (by omega)) ?_ | refine Ent.runWR (wrap_i64 (by omega) (by omega)) ?_ | refine Ent.run ?_ | refine Ent.runL ?_ | refine Ent.runR ?_ | refine Ent.drawn ?_ | refine Ent.store (by kernel_rfl) ?_ | refine Ent.resN ?_ | refine Ent.res1 ?_ | refine Ent.gop_yes ?_ | refine Ent.gop_no (by decide) ?_ | refine Ent.gop_undef ?_ | refine Ent.glt_undef ?_ | refine Ent.grc_undef ?_ | refine Ent.glt_yes ?_ | refine Ent.glt_no (by decide) ?_ | refine Ent.grc_yes ?_ | refine Ent.grc_no (by decide) ?_)
    exact Ent.keep (he _ rfl)
  · rw [hE] at he hk
    simp only at he hk
    unfold ndC at *
    repeat (first | refine Ent.runW (wrap_i64 (by omega) (by omega)) ?_ | refine Ent.runWL (wrap_i64 (by omega) (by omega)) ?_ | refine Ent.runWR (wrap_i64 (by omega) (by omega)) ?_ | refine Ent.run ?_ | refine Ent.runL ?_ | refine Ent.runR ?_ | refine Ent.drawn ?_ | refine Ent.store (by kernel_rfl) ?_ | refine Ent.resN ?_ | refine Ent.res1 ?_ | refine Ent.gop_yes ?_ | refine Ent.gop_no (by decide) ?_ | refine Ent.gop_undef ?_ | refine Ent.glt_undef ?_ | refine Ent.grc_undef ?_ | refine Ent.glt_yes ?_ | refine Ent.glt_no (by decide) ?_ | refine Ent.grc_yes ?_ | refine Ent.grc_no (by decide) ?_)
    refine Ent.alloc fun g3 => ?_
    repeat (first | refine Ent.runW (wrap_i64 (by omega) (by omega)) ?_ | refine Ent.runWL (wrap_i64 (by omega) (by omega)) ?_ | refine Ent.runWR (wrap_i64 (by omega) (by omega)) ?_ | refine Ent.run ?_ | refine Ent.runL ?_ | refine Ent.runR ?_ | refine Ent.drawn ?_ | refine Ent.store (by kernel_rfl) ?_ | refine Ent.resN ?_ | refine Ent.res1 ?_ | refine Ent.gop_yes ?_ | refine Ent.gop_no (by decide) ?_ | refine Ent.gop_undef ?_ | refine Ent.glt_undef ?_ | refine Ent.grc_undef ?_ | refine Ent.glt_yes ?_ | refine Ent.glt_no (by decide) ?_ | refine Ent.grc_yes ?_ | refine Ent.grc_no (by decide) ?_)
    refine Ent.ite_f ?_
    repeat (first | refine Ent.runW (wrap_i64 (by omega) (by omega)) ?_ | refine Ent.runWL (wrap_i64 (by omega) (by omega)) ?_ | refine Ent.runWR (wrap_i64 (by omega) (by omega)) ?_ | refine Ent.run ?_ | refine Ent.runL ?_ | refine Ent.runR ?_ | refine Ent.drawn ?_ | refine Ent.store (by kernel_rfl) ?_ | refine Ent.resN ?_ | refine Ent.res1 ?_ | refine Ent.gop_yes ?_ | refine Ent.gop_no (by decide) ?_ | refine Ent.gop_undef ?_ | refine Ent.glt_undef ?_ | refine Ent.grc_undef ?_ | refine Ent.glt_yes ?_ | refine Ent.glt_no (by decide) ?_ | refine Ent.grc_yes ?_ | refine Ent.grc_no (by decide) ?_)
    refine Ent.ite (fun h4 => ?_) (fun h4 => ?_)
    · have h4 : at' < bs.length := by simpa using h4
      rw [if_pos h4] at he
      repeat (first | refine Ent.runW (wrap_i64 (by omega) (by omega)) ?_ | refine Ent.runWL (wrap_i64 (by omega) (by omega)) ?_ | refine Ent.runWR (wrap_i64 (by omega) (by omega)) ?_ | refine Ent.run ?_ | refine Ent.runL ?_ | refine Ent.runR ?_ | refine Ent.drawn ?_ | refine Ent.store (by kernel_rfl) ?_ | refine Ent.resN ?_ | refine Ent.res1 ?_ | refine Ent.gop_yes ?_ | refine Ent.gop_no (by decide) ?_ | refine Ent.gop_undef ?_ | refine Ent.glt_undef ?_ | refine Ent.grc_undef ?_ | refine Ent.glt_yes ?_ | refine Ent.glt_no (by decide) ?_ | refine Ent.grc_yes ?_ | refine Ent.grc_no (by decide) ?_)
      exact Ent.keep (he _ rfl)
    · have h4 : ¬ at' < bs.length := by simpa using h4
      rw [if_neg h4] at hk
      repeat (first | refine Ent.runW (wrap_i64 (by omega) (by omega)) ?_ | refine Ent.runWL (wrap_i64 (by omega) (by omega)) ?_ | refine Ent.runWR (wrap_i64 (by omega) (by omega)) ?_ | refine Ent.run ?_ | refine Ent.runL ?_ | refine Ent.runR ?_ | refine Ent.drawn ?_ | refine Ent.store (by kernel_rfl) ?_ | refine Ent.resN ?_ | refine Ent.res1 ?_ | refine Ent.gop_yes ?_ | refine Ent.gop_no (by decide) ?_ | refine Ent.gop_undef ?_ | refine Ent.glt_undef ?_ | refine Ent.grc_undef ?_ | refine Ent.glt_yes ?_ | refine Ent.glt_no (by decide) ?_ | refine Ent.grc_yes ?_ | refine Ent.grc_no (by decide) ?_)
      exact Ent.keep (hk n A1 c1 A2 c2 rfl)
end Go.Lt
