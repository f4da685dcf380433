/- The references' letters. Conditions: none. -/
import Derived.Test.YtpmpgmjllagomaaRef3
set_option linter.unusedVariables false
set_option maxHeartbeats 4000000
set_option linter.unusedSimpArgs false
set_option maxRecDepth 100000
namespace Go.Lt
open Go
attribute [local irreducible] op gop lt glt rc grc ite' drawn also ldR
section
variable {P : Program} {w0 : World} {p : List HP} {Pn : PK} {s : Sem Next} {b : Bool} {k : IntKind}
/-- A variable that a test sets. -/
theorem Ent.setIf {y : Value → WP} {u v : Int} [r : Run P p s (.bool b)] (h : Ent w0 p (y (.int k (if b then u else v)))) : Ent w0 p (Go.Lt.J1 y (fun xk => op P Pn s fun x => ite' x (xk (.int k u)) (xk (.int k v)))) := by
  refine Ent.J1 fun kk hkk => ?_
  refine Ent.run (v := .bool b) ?_
  cases b
  · exact Ent.ite_f (hkk _ _ h)
  · exact Ent.ite_t (hkk _ _ h)
end
variable {w0 : World} {p : List HP} {Pn : PK} {K : Value → WP}
theorem within_spec {v : Value} {bs : List UInt8} {i : Nat} {lo hi : Int} (hb : RdB p v bs) (hl : bs.length ≤ 1073741824)
    (hk : Ent w0 p (K (.bool (match bs[i]? with | some x => decide (lo ≤ x.toNat) && decide ((x.toNat : Int) ≤ hi) | none => false)))) :
    Ent w0 p (op PR Pn (S.fn F.leatref04_within [v, .int .i64 i, .int .u8 lo, .int .u8 hi]) K) := by
  obtain ⟨A0, c0, rfl, h1, h2⟩ := hb.shape
  refine Ent.call (fun w h => enter.leatref04_within h) ?_
  unfold W.leatref04_within
  refine Ent.run ?_
  refine Ent.runB (fun hq => ?_) (fun hq => ?_)
  · have hlt : i < bs.length := by simpa using hq
    rw [List.getElem?_eq_getElem hlt] at hk
    obtain ⟨a, ha', hld⟩ := hb.at (P := PR) (t := T.L_uint8) (k := .i64) (i := (i : Int)) (by omega) (by omega)
    rw [getD_lt hlt] at hld
    refine Ent.gop_yes (Ent.run (Ent.gop_yes (Ent.run (Ent.gop_yes (Ent.at_ (fun w _ => ha' w) ?_)))))
    refine Ent.gop_yes (Ent.run (Ent.gop_yes (Ent.run (Ent.gop_yes (Ent.runB (fun h1 => ?_) (fun h1 => ?_))))))
    · simp only at hk
      rw [h1, Bool.true_and] at hk
      refine Ent.run (Ent.gop_yes (Ent.run (Ent.gop_yes (Ent.run (Ent.gop_yes (Ent.at_ (fun w _ => ha' w) ?_))))))
      repeat (first | refine Ent.runW (wrap_i64 (by omega) (by omega)) ?_ | refine Ent.runWL (wrap_i64 (by omega) (by omega)) ?_ | refine Ent.runWR (wrap_i64 (by omega) (by omega)) ?_ | refine Ent.run ?_ | refine Ent.runL ?_ | refine Ent.runR ?_ | refine Ent.drawn ?_ | refine Ent.store (by kernel_rfl) ?_ | refine Ent.resN ?_ | refine Ent.res1 ?_ | refine Ent.gop_yes ?_ | refine Ent.gop_no (by decide) ?_ | refine Ent.gop_undef ?_ | refine Ent.glt_undef ?_ | refine Ent.grc_undef ?_ | refine Ent.glt_yes ?_ | refine Ent.glt_no (by decide) ?_ | refine Ent.grc_yes ?_ | refine Ent.grc_no (by decide) ?_)
      exact hk
    · simp only at hk
      rw [h1, Bool.false_and] at hk
      repeat (first | refine Ent.runW (wrap_i64 (by omega) (by omega)) ?_ | refine Ent.runWL (wrap_i64 (by omega) (by omega)) ?_ | refine Ent.runWR (wrap_i64 (by omega) (by omega)) ?_ | refine Ent.run ?_ | refine Ent.runL ?_ | refine Ent.runR ?_ | refine Ent.drawn ?_ | refine Ent.store (by kernel_rfl) ?_ | refine Ent.resN ?_ | refine Ent.res1 ?_ | refine Ent.gop_yes ?_ | refine Ent.gop_no (by decide) ?_ | refine Ent.gop_undef ?_ | refine Ent.glt_undef ?_ | refine Ent.grc_undef ?_ | refine Ent.glt_yes ?_ | refine Ent.glt_no (by decide) ?_ | refine Ent.grc_yes ?_ | refine Ent.grc_no (by decide) ?_)
      exact hk
  · have hlt : ¬ i < bs.length := by simpa using hq
    rw [List.getElem?_eq_none (by omega)] at hk
    repeat (first | refine Ent.runW (wrap_i64 (by omega) (by omega)) ?_ | refine Ent.runWL (wrap_i64 (by omega) (by omega)) ?_ | refine Ent.runWR (wrap_i64 (by omega) (by omega)) ?_ | refine Ent.run ?_ | refine Ent.runL ?_ | refine Ent.runR ?_ | refine Ent.drawn ?_ | refine Ent.store (by kernel_rfl) ?_ | refine Ent.resN ?_ | refine Ent.res1 ?_ | refine Ent.gop_yes ?_ | refine Ent.gop_no (by decide) ?_ | refine Ent.gop_undef ?_ | refine Ent.glt_undef ?_ | refine Ent.grc_undef ?_ | refine Ent.glt_yes ?_ | refine Ent.glt_no (by decide) ?_ | refine Ent.grc_yes ?_ | refine Ent.grc_no (by decide) ?_)
    exact hk
theorem wthn_eq (bs : List UInt8) (i j : Nat) (lo hi : Nat) : (match bs[i + j]? with | some x => decide ((lo : Int) ≤ x.toNat) && decide ((x.toNat : Int) ≤ (hi : Int)) | none => false) = wthn (bs.drop i) j lo hi := by
  unfold wthn
  rw [List.getElem?_drop]
  cases bs[i + j]? with
  | none => rfl
  | some x => simp
theorem Char_spec {v : Value} {bs : List UInt8} {i : Nat} (hb : RdB p v bs) (hl : bs.length ≤ 1073741824) (hi : i ≤ bs.length) (hk : Ent w0 p (K (.int .i64 (charLen (bs.drop i))))) :
    Ent w0 p (op PR Pn (S.fn F.leatref04_Char [v, .int .i64 i]) K) := by
  obtain ⟨A0, c0, rfl, h1, h2⟩ := id hb.shape
  refine Ent.call (fun w h => enter.leatref04_Char h) ?_
  unfold W.leatref04_Char
  unfold charLen at hk
  rw [List.getElem?_drop, Nat.add_zero] at hk
  refine Ent.runB (fun hq => ?_) (fun _ => ?_)
  · have : (i : Int) < 0 := by simpa using hq
    omega
  refine Ent.gop_yes (Ent.run (Ent.gop_yes (Ent.run (Ent.gop_yes (Ent.run (Ent.gop_yes (Ent.runB (fun hq => ?_) (fun hq => ?_))))))))
  · have : ¬ i < bs.length := by have : (bs.length : Int) ≤ i := by simpa using hq
                                 omega
    rw [List.getElem?_eq_none (by omega)] at hk
    repeat (first | refine Ent.runW (wrap_i64 (by omega) (by omega)) ?_ | refine Ent.runWL (wrap_i64 (by omega) (by omega)) ?_ | refine Ent.runWR (wrap_i64 (by omega) (by omega)) ?_ | refine Ent.run ?_ | refine Ent.runL ?_ | refine Ent.runR ?_ | refine Ent.drawn ?_ | refine Ent.store (by kernel_rfl) ?_ | refine Ent.resN ?_ | refine Ent.res1 ?_ | refine Ent.gop_yes ?_ | refine Ent.gop_no (by decide) ?_ | refine Ent.gop_undef ?_ | refine Ent.glt_undef ?_ | refine Ent.grc_undef ?_ | refine Ent.glt_yes ?_ | refine Ent.glt_no (by decide) ?_ | refine Ent.grc_yes ?_ | refine Ent.grc_no (by decide) ?_)
    exact Ent.ite_t hk
  have hlt : i < bs.length := by have : ¬ (bs.length : Int) ≤ i := by simpa using hq
                                 omega
  rw [List.getElem?_eq_getElem hlt] at hk
  simp only at hk
  obtain ⟨a, ha', hld⟩ := hb.at (P := PR) (t := T.L_uint8) (k := .i64) (i := (i : Int)) (by omega) (by omega)
  rw [getD_lt hlt] at hld
  change LoadAt p a (.int .u8 ((bs[i]'hlt).toNat : Int)) at hld
  repeat (first | refine Ent.runW (wrap_i64 (by omega) (by omega)) ?_ | refine Ent.runWL (wrap_i64 (by omega) (by omega)) ?_ | refine Ent.runWR (wrap_i64 (by omega) (by omega)) ?_ | refine Ent.run ?_ | refine Ent.runL ?_ | refine Ent.runR ?_ | refine Ent.drawn ?_ | refine Ent.store (by kernel_rfl) ?_ | refine Ent.resN ?_ | refine Ent.res1 ?_ | refine Ent.gop_yes ?_ | refine Ent.gop_no (by decide) ?_ | refine Ent.gop_undef ?_ | refine Ent.glt_undef ?_ | refine Ent.grc_undef ?_ | refine Ent.glt_yes ?_ | refine Ent.glt_no (by decide) ?_ | refine Ent.grc_yes ?_ | refine Ent.grc_no (by decide) ?_)
  refine Ent.ite_f ?_
  refine Ent.at_ (fun w _ => ha' w) ?_
  repeat (first | refine Ent.runW (wrap_i64 (by omega) (by omega)) ?_ | refine Ent.runWL (wrap_i64 (by omega) (by omega)) ?_ | refine Ent.runWR (wrap_i64 (by omega) (by omega)) ?_ | refine Ent.run ?_ | refine Ent.runL ?_ | refine Ent.runR ?_ | refine Ent.drawn ?_ | refine Ent.store (by kernel_rfl) ?_ | refine Ent.resN ?_ | refine Ent.res1 ?_ | refine Ent.gop_yes ?_ | refine Ent.gop_no (by decide) ?_ | refine Ent.gop_undef ?_ | refine Ent.glt_undef ?_ | refine Ent.grc_undef ?_ | refine Ent.glt_yes ?_ | refine Ent.glt_no (by decide) ?_ | refine Ent.grc_yes ?_ | refine Ent.grc_no (by decide) ?_)
  generalize hc : (bs[i]'hlt).toNat = c at hk ⊢
  have hc256 : c < 256 := by rw [← hc]; exact UInt8.toNat_lt _
  refine Ent.ite (fun hq => ?_) (fun hq => ?_)
  · have : c < 128 := by have : (c : Int) < 128 := by simpa using hq
                         omega
    rw [if_pos this] at hk
    exact hk
  have h128 : ¬ c < 128 := by have : ¬ (c : Int) < 128 := by simpa using hq
                              omega
  rw [if_neg h128] at hk
  refine Ent.setIf (Ent.setIf ?_)
  refine Ent.J1 fun kk hkk => ?_
  refine Ent.run ?_
  have k1 : Ent w0 p (kk (.int .u8 ((if c = 240 then 144 else if c = 224 then 160 else 128 : Nat) : Int))) := by
    refine hkk _ _ ?_
    refine Ent.J1 fun kk2 hkk2 => ?_
    have k2 : Ent w0 p (kk2 (.int .u8 ((if c = 244 then 143 else if c = 237 then 159 else 191 : Nat) : Int))) := by
      refine hkk2 _ _ ?_
      generalize (if c = 240 then 144 else if c = 224 then 160 else 128 : Nat) = lo at hk ⊢
      generalize (if c = 244 then 143 else if c = 237 then 159 else 191 : Nat) = hi at hk ⊢
      refine Ent.runB (fun hq => ?_) (fun hq => ?_)
      · have : c < 194 := by have : (c : Int) < 194 := by simpa using hq
                             omega
        rw [if_pos this] at hk
        repeat (first | refine Ent.runW (wrap_i64 (by omega) (by omega)) ?_ | refine Ent.runWL (wrap_i64 (by omega) (by omega)) ?_ | refine Ent.runWR (wrap_i64 (by omega) (by omega)) ?_ | refine Ent.run ?_ | refine Ent.runL ?_ | refine Ent.runR ?_ | refine Ent.drawn ?_ | refine Ent.store (by kernel_rfl) ?_ | refine Ent.resN ?_ | refine Ent.res1 ?_ | refine Ent.gop_yes ?_ | refine Ent.gop_no (by decide) ?_ | refine Ent.gop_undef ?_ | refine Ent.glt_undef ?_ | refine Ent.grc_undef ?_ | refine Ent.glt_yes ?_ | refine Ent.glt_no (by decide) ?_ | refine Ent.grc_yes ?_ | refine Ent.grc_no (by decide) ?_)
        exact Ent.ite_t hk
      have h194 : ¬ c < 194 := by have : ¬ (c : Int) < 194 := by simpa using hq
                                  omega
      rw [if_neg h194] at hk
      refine Ent.gop_yes (Ent.run (Ent.gop_yes (Ent.runB (fun hq => ?_) (fun hq => ?_))))
      · have : 244 < c := by have : (244 : Int) < c := by simpa using hq
                             omega
        rw [if_pos this] at hk
        repeat (first | refine Ent.runW (wrap_i64 (by omega) (by omega)) ?_ | refine Ent.runWL (wrap_i64 (by omega) (by omega)) ?_ | refine Ent.runWR (wrap_i64 (by omega) (by omega)) ?_ | refine Ent.run ?_ | refine Ent.runL ?_ | refine Ent.runR ?_ | refine Ent.drawn ?_ | refine Ent.store (by kernel_rfl) ?_ | refine Ent.resN ?_ | refine Ent.res1 ?_ | refine Ent.gop_yes ?_ | refine Ent.gop_no (by decide) ?_ | refine Ent.gop_undef ?_ | refine Ent.glt_undef ?_ | refine Ent.grc_undef ?_ | refine Ent.glt_yes ?_ | refine Ent.glt_no (by decide) ?_ | refine Ent.grc_yes ?_ | refine Ent.grc_no (by decide) ?_)
        exact Ent.ite_t hk
      have h244 : ¬ 244 < c := by have : ¬ (244 : Int) < c := by simpa using hq
                                  omega
      rw [if_neg h244] at hk
      repeat (first | refine Ent.runW (wrap_i64 (by omega) (by omega)) ?_ | refine Ent.runWL (wrap_i64 (by omega) (by omega)) ?_ | refine Ent.runWR (wrap_i64 (by omega) (by omega)) ?_ | refine Ent.run ?_ | refine Ent.runL ?_ | refine Ent.runR ?_ | refine Ent.drawn ?_ | refine Ent.store (by kernel_rfl) ?_ | refine Ent.resN ?_ | refine Ent.res1 ?_ | refine Ent.gop_yes ?_ | refine Ent.gop_no (by decide) ?_ | refine Ent.gop_undef ?_ | refine Ent.glt_undef ?_ | refine Ent.grc_undef ?_ | refine Ent.glt_yes ?_ | refine Ent.glt_no (by decide) ?_ | refine Ent.grc_yes ?_ | refine Ent.grc_no (by decide) ?_)
      rw [show (i : Int) + 1 = ((i + 1 : Nat) : Int) by omega]
      refine within_spec hb hl ?_
      rw [wthn_eq]
      generalize hw1 : wthn (List.drop i bs) 1 lo hi = w1 at hk
      cases w1
      · repeat (first | refine Ent.runW (wrap_i64 (by omega) (by omega)) ?_ | refine Ent.runWL (wrap_i64 (by omega) (by omega)) ?_ | refine Ent.runWR (wrap_i64 (by omega) (by omega)) ?_ | refine Ent.run ?_ | refine Ent.runL ?_ | refine Ent.runR ?_ | refine Ent.drawn ?_ | refine Ent.store (by kernel_rfl) ?_ | refine Ent.resN ?_ | refine Ent.res1 ?_ | refine Ent.gop_yes ?_ | refine Ent.gop_no (by decide) ?_ | refine Ent.gop_undef ?_ | refine Ent.glt_undef ?_ | refine Ent.grc_undef ?_ | refine Ent.glt_yes ?_ | refine Ent.glt_no (by decide) ?_ | refine Ent.grc_yes ?_ | refine Ent.grc_no (by decide) ?_)
        exact Ent.ite_t hk
      repeat (first | refine Ent.runW (wrap_i64 (by omega) (by omega)) ?_ | refine Ent.runWL (wrap_i64 (by omega) (by omega)) ?_ | refine Ent.runWR (wrap_i64 (by omega) (by omega)) ?_ | refine Ent.run ?_ | refine Ent.runL ?_ | refine Ent.runR ?_ | refine Ent.drawn ?_ | refine Ent.store (by kernel_rfl) ?_ | refine Ent.resN ?_ | refine Ent.res1 ?_ | refine Ent.gop_yes ?_ | refine Ent.gop_no (by decide) ?_ | refine Ent.gop_undef ?_ | refine Ent.glt_undef ?_ | refine Ent.grc_undef ?_ | refine Ent.glt_yes ?_ | refine Ent.glt_no (by decide) ?_ | refine Ent.grc_yes ?_ | refine Ent.grc_no (by decide) ?_)
      refine Ent.ite_f ?_
      repeat (first | refine Ent.runW (wrap_i64 (by omega) (by omega)) ?_ | refine Ent.runWL (wrap_i64 (by omega) (by omega)) ?_ | refine Ent.runWR (wrap_i64 (by omega) (by omega)) ?_ | refine Ent.run ?_ | refine Ent.runL ?_ | refine Ent.runR ?_ | refine Ent.drawn ?_ | refine Ent.store (by kernel_rfl) ?_ | refine Ent.resN ?_ | refine Ent.res1 ?_ | refine Ent.gop_yes ?_ | refine Ent.gop_no (by decide) ?_ | refine Ent.gop_undef ?_ | refine Ent.glt_undef ?_ | refine Ent.grc_undef ?_ | refine Ent.glt_yes ?_ | refine Ent.glt_no (by decide) ?_ | refine Ent.grc_yes ?_ | refine Ent.grc_no (by decide) ?_)
      rw [if_neg (by decide)] at hk
      refine Ent.ite (fun hq => ?_) (fun hq => ?_)
      · have : c < 224 := by have : (c : Int) < 224 := by simpa using hq
                             omega
        rw [if_pos this] at hk
        exact hk
      have h224 : ¬ c < 224 := by have : ¬ (c : Int) < 224 := by simpa using hq
                                  omega
      rw [if_neg h224] at hk
      repeat (first | refine Ent.runW (wrap_i64 (by omega) (by omega)) ?_ | refine Ent.runWL (wrap_i64 (by omega) (by omega)) ?_ | refine Ent.runWR (wrap_i64 (by omega) (by omega)) ?_ | refine Ent.run ?_ | refine Ent.runL ?_ | refine Ent.runR ?_ | refine Ent.drawn ?_ | refine Ent.store (by kernel_rfl) ?_ | refine Ent.resN ?_ | refine Ent.res1 ?_ | refine Ent.gop_yes ?_ | refine Ent.gop_no (by decide) ?_ | refine Ent.gop_undef ?_ | refine Ent.glt_undef ?_ | refine Ent.grc_undef ?_ | refine Ent.glt_yes ?_ | refine Ent.glt_no (by decide) ?_ | refine Ent.grc_yes ?_ | refine Ent.grc_no (by decide) ?_)
      rw [show (i : Int) + 2 = ((i + 2 : Nat) : Int) by omega]
      refine within_spec (lo := ((128 : Nat) : Int)) (hi := ((191 : Nat) : Int)) hb hl ?_
      rw [wthn_eq]
      generalize hw2 : wthn (List.drop i bs) 2 128 191 = w2 at hk
      cases w2
      · repeat (first | refine Ent.runW (wrap_i64 (by omega) (by omega)) ?_ | refine Ent.runWL (wrap_i64 (by omega) (by omega)) ?_ | refine Ent.runWR (wrap_i64 (by omega) (by omega)) ?_ | refine Ent.run ?_ | refine Ent.runL ?_ | refine Ent.runR ?_ | refine Ent.drawn ?_ | refine Ent.store (by kernel_rfl) ?_ | refine Ent.resN ?_ | refine Ent.res1 ?_ | refine Ent.gop_yes ?_ | refine Ent.gop_no (by decide) ?_ | refine Ent.gop_undef ?_ | refine Ent.glt_undef ?_ | refine Ent.grc_undef ?_ | refine Ent.glt_yes ?_ | refine Ent.glt_no (by decide) ?_ | refine Ent.grc_yes ?_ | refine Ent.grc_no (by decide) ?_)
        exact Ent.ite_t hk
      repeat (first | refine Ent.runW (wrap_i64 (by omega) (by omega)) ?_ | refine Ent.runWL (wrap_i64 (by omega) (by omega)) ?_ | refine Ent.runWR (wrap_i64 (by omega) (by omega)) ?_ | refine Ent.run ?_ | refine Ent.runL ?_ | refine Ent.runR ?_ | refine Ent.drawn ?_ | refine Ent.store (by kernel_rfl) ?_ | refine Ent.resN ?_ | refine Ent.res1 ?_ | refine Ent.gop_yes ?_ | refine Ent.gop_no (by decide) ?_ | refine Ent.gop_undef ?_ | refine Ent.glt_undef ?_ | refine Ent.grc_undef ?_ | refine Ent.glt_yes ?_ | refine Ent.glt_no (by decide) ?_ | refine Ent.grc_yes ?_ | refine Ent.grc_no (by decide) ?_)
      refine Ent.ite_f ?_
      repeat (first | refine Ent.runW (wrap_i64 (by omega) (by omega)) ?_ | refine Ent.runWL (wrap_i64 (by omega) (by omega)) ?_ | refine Ent.runWR (wrap_i64 (by omega) (by omega)) ?_ | refine Ent.run ?_ | refine Ent.runL ?_ | refine Ent.runR ?_ | refine Ent.drawn ?_ | refine Ent.store (by kernel_rfl) ?_ | refine Ent.resN ?_ | refine Ent.res1 ?_ | refine Ent.gop_yes ?_ | refine Ent.gop_no (by decide) ?_ | refine Ent.gop_undef ?_ | refine Ent.glt_undef ?_ | refine Ent.grc_undef ?_ | refine Ent.glt_yes ?_ | refine Ent.glt_no (by decide) ?_ | refine Ent.grc_yes ?_ | refine Ent.grc_no (by decide) ?_)
      rw [if_neg (by decide)] at hk
      refine Ent.ite (fun hq => ?_) (fun hq => ?_)
      · have : c < 240 := by have : (c : Int) < 240 := by simpa using hq
                             omega
        rw [if_pos this] at hk
        exact hk
      have h240 : ¬ c < 240 := by have : ¬ (c : Int) < 240 := by simpa using hq
                                  omega
      rw [if_neg h240] at hk
      repeat (first | refine Ent.runW (wrap_i64 (by omega) (by omega)) ?_ | refine Ent.runWL (wrap_i64 (by omega) (by omega)) ?_ | refine Ent.runWR (wrap_i64 (by omega) (by omega)) ?_ | refine Ent.run ?_ | refine Ent.runL ?_ | refine Ent.runR ?_ | refine Ent.drawn ?_ | refine Ent.store (by kernel_rfl) ?_ | refine Ent.resN ?_ | refine Ent.res1 ?_ | refine Ent.gop_yes ?_ | refine Ent.gop_no (by decide) ?_ | refine Ent.gop_undef ?_ | refine Ent.glt_undef ?_ | refine Ent.grc_undef ?_ | refine Ent.glt_yes ?_ | refine Ent.glt_no (by decide) ?_ | refine Ent.grc_yes ?_ | refine Ent.grc_no (by decide) ?_)
      rw [show (i : Int) + 3 = ((i + 3 : Nat) : Int) by omega]
      refine within_spec (lo := ((128 : Nat) : Int)) (hi := ((191 : Nat) : Int)) hb hl ?_
      rw [wthn_eq]
      generalize hw3 : wthn (List.drop i bs) 3 128 191 = w3 at hk
      cases w3
      · repeat (first | refine Ent.runW (wrap_i64 (by omega) (by omega)) ?_ | refine Ent.runWL (wrap_i64 (by omega) (by omega)) ?_ | refine Ent.runWR (wrap_i64 (by omega) (by omega)) ?_ | refine Ent.run ?_ | refine Ent.runL ?_ | refine Ent.runR ?_ | refine Ent.drawn ?_ | refine Ent.store (by kernel_rfl) ?_ | refine Ent.resN ?_ | refine Ent.res1 ?_ | refine Ent.gop_yes ?_ | refine Ent.gop_no (by decide) ?_ | refine Ent.gop_undef ?_ | refine Ent.glt_undef ?_ | refine Ent.grc_undef ?_ | refine Ent.glt_yes ?_ | refine Ent.glt_no (by decide) ?_ | refine Ent.grc_yes ?_ | refine Ent.grc_no (by decide) ?_)
        exact Ent.ite_t hk
      repeat (first | refine Ent.runW (wrap_i64 (by omega) (by omega)) ?_ | refine Ent.runWL (wrap_i64 (by omega) (by omega)) ?_ | refine Ent.runWR (wrap_i64 (by omega) (by omega)) ?_ | refine Ent.run ?_ | refine Ent.runL ?_ | refine Ent.runR ?_ | refine Ent.drawn ?_ | refine Ent.store (by kernel_rfl) ?_ | refine Ent.resN ?_ | refine Ent.res1 ?_ | refine Ent.gop_yes ?_ | refine Ent.gop_no (by decide) ?_ | refine Ent.gop_undef ?_ | refine Ent.glt_undef ?_ | refine Ent.grc_undef ?_ | refine Ent.glt_yes ?_ | refine Ent.glt_no (by decide) ?_ | refine Ent.grc_yes ?_ | refine Ent.grc_no (by decide) ?_)
      refine Ent.ite_f ?_
      rw [if_neg (by decide)] at hk
      exact hk
    refine Ent.run ?_
    refine Ent.ite (fun hq => ?_) (fun hq => ?_)
    · have : c = 244 := by have : (c : Int) = 244 := by simpa using hq
                           omega
      rw [if_pos this] at k2
      exact k2
    · have : ¬ c = 244 := by have : ¬ (c : Int) = 244 := by simpa using hq
                             omega
      rw [if_neg this] at k2
      by_cases h : c = 237
      · rw [if_pos h] at k2
        rw [decide_eq_true (by omega)]
        exact k2
      · rw [if_neg h] at k2
        rw [decide_eq_false (by omega)]
        exact k2
  refine Ent.ite (fun hq => ?_) (fun hq => ?_)
  · have : c = 240 := by have : (c : Int) = 240 := by simpa using hq
                         omega
    rw [if_pos this] at k1
    exact k1
  · have : ¬ c = 240 := by have : ¬ (c : Int) = 240 := by simpa using hq
                           omega
    rw [if_neg this] at k1
    by_cases h : c = 224
    · rw [if_pos h] at k1
      rw [decide_eq_true (by omega)]
      exact k1
    · rw [if_neg h] at k1
      rw [decide_eq_false (by omega)]
      exact k1
theorem RUtf_spec {v : Value} {bs : List UInt8} (hb : RdB p v bs) (hl : bs.length ≤ 1073741824) (hk : ∀ at_ : Int, Ent w0 p (K (.tuple [.int .i64 at_, .bool (utf bs)].toArray))) :
    Ent w0 p (op PR Pn (S.fn F.leatref04_Utf [v]) K) := by
  obtain ⟨A0, c0, rfl, h1, h2⟩ := id hb.shape
  refine Ent.call (fun w h => enter.leatref04_Utf h) ?_
  unfold W.leatref04_Utf
  refine Ent.L3 (σ := Nat) (fun _ => .int .i64 0) (fun _ => .bool false) (fun i => .int .i64 i) (fun i => pure' (i ≤ bs.length ∧ utf (bs.drop i) = utf bs) :: p) (fun i => bs.length - i) 0 (fun w hs => hs.add ⟨⟨Nat.zero_le _, by simp⟩, fun _ => rfl⟩) ?_
  intro i k hrec
  refine Ent.pure fun hi => ?_
  repeat (first | refine Ent.runW (wrap_i64 (by omega) (by omega)) ?_ | refine Ent.runWL (wrap_i64 (by omega) (by omega)) ?_ | refine Ent.runWR (wrap_i64 (by omega) (by omega)) ?_ | refine Ent.run ?_ | refine Ent.runL ?_ | refine Ent.runR ?_ | refine Ent.drawn ?_ | refine Ent.store (by kernel_rfl) ?_ | refine Ent.resN ?_ | refine Ent.res1 ?_ | refine Ent.gop_yes ?_ | refine Ent.gop_no (by decide) ?_ | refine Ent.gop_undef ?_ | refine Ent.glt_undef ?_ | refine Ent.grc_undef ?_ | refine Ent.glt_yes ?_ | refine Ent.glt_no (by decide) ?_ | refine Ent.grc_yes ?_ | refine Ent.grc_no (by decide) ?_)
  refine Ent.ite (fun hq => ?_) (fun hq => ?_)
  · have hlt : i < bs.length := by simpa using hq
    refine Char_spec hb hl (by omega) ?_
    have hu := utf_step (bs.drop i) (by simp; omega)
    rw [hi.2] at hu
    have hcl := charLen_le (bs.drop i)
    rw [List.length_drop] at hcl
    repeat (first | refine Ent.runW (wrap_i64 (by omega) (by omega)) ?_ | refine Ent.runWL (wrap_i64 (by omega) (by omega)) ?_ | refine Ent.runWR (wrap_i64 (by omega) (by omega)) ?_ | refine Ent.run ?_ | refine Ent.runL ?_ | refine Ent.runR ?_ | refine Ent.drawn ?_ | refine Ent.store (by kernel_rfl) ?_ | refine Ent.resN ?_ | refine Ent.res1 ?_ | refine Ent.gop_yes ?_ | refine Ent.gop_no (by decide) ?_ | refine Ent.gop_undef ?_ | refine Ent.glt_undef ?_ | refine Ent.grc_undef ?_ | refine Ent.glt_yes ?_ | refine Ent.glt_no (by decide) ?_ | refine Ent.grc_yes ?_ | refine Ent.grc_no (by decide) ?_)
    refine Ent.ite (fun h0 => ?_) (fun h0 => ?_)
    · have h0 : charLen (bs.drop i) = 0 := by have : (charLen (bs.drop i) : Int) = 0 := by simpa using h0
                                              omega
      rw [if_pos h0] at hu
      have := hk i
      rw [hu] at this
      exact this
    · have h0 : ¬ charLen (bs.drop i) = 0 := by have : ¬ (charLen (bs.drop i) : Int) = 0 := by simpa using h0
                                                omega
      rw [if_neg h0, List.drop_drop] at hu
      repeat (first | refine Ent.runW (wrap_i64 (by omega) (by omega)) ?_ | refine Ent.runWL (wrap_i64 (by omega) (by omega)) ?_ | refine Ent.runWR (wrap_i64 (by omega) (by omega)) ?_ | refine Ent.run ?_ | refine Ent.runL ?_ | refine Ent.runR ?_ | refine Ent.drawn ?_ | refine Ent.store (by kernel_rfl) ?_ | refine Ent.resN ?_ | refine Ent.res1 ?_ | refine Ent.gop_yes ?_ | refine Ent.gop_no (by decide) ?_ | refine Ent.gop_undef ?_ | refine Ent.glt_undef ?_ | refine Ent.grc_undef ?_ | refine Ent.glt_yes ?_ | refine Ent.glt_no (by decide) ?_ | refine Ent.grc_yes ?_ | refine Ent.grc_no (by decide) ?_)
      have := hrec (i + charLen (bs.drop i)) (by omega)
      simp only [Int.natCast_add] at this
      exact Ent.add ⟨⟨by omega, hu.symm⟩, fun _ => rfl⟩ this
  · have : i = bs.length := by
      have : ¬ (i : Int) < bs.length := by simpa using hq
      omega
    have h2 := hi.2
    rw [List.drop_of_length_le (by omega)] at h2
    have := hk i
    rw [← h2] at this
    exact this
end Go.Lt
