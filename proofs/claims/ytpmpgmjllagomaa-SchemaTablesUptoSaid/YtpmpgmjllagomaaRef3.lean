/- The references' numbers and letters. Conditions: none. -/
import Derived.Test.YtpmpgmjllagomaaRef2
set_option linter.unusedVariables false
set_option maxHeartbeats 4000000
set_option linter.unusedSimpArgs false
set_option maxRecDepth 100000
namespace Go.Lt
open Go
attribute [local irreducible] op gop lt glt rc grc ite' drawn also ldR
variable {w0 : World} {p : List HP} {Pn : PK} {K : Value → WP}
theorem sgn_bound (i v : Nat) (hi : 1 ≤ i) (h : v < 256 ^ i) : -((256 ^ i / 2 : Nat) : Int) ≤ sgn i v ∧ sgn i v < ((256 ^ i / 2 : Nat) : Int) := by
  obtain ⟨j, rfl⟩ : ∃ j, i = j + 1 := ⟨i - 1, by omega⟩
  unfold sgn
  rw [Nat.pow_succ] at h ⊢
  split <;> omega
theorem sgn_snoc (i : Nat) (bs : List UInt8) (c : UInt8) (hb : bs.length = i) (hi : 1 ≤ i) : sgn (i + 1) (beN (bs ++ [c])) = sgn i (beN bs) * 256 + c.toNat := by
  obtain ⟨j, rfl⟩ : ∃ j, i = j + 1 := ⟨i - 1, by omega⟩
  have h1 := beN_lt bs
  have hc := c.toNat_lt
  rw [beN_snoc]
  rw [hb] at h1
  unfold sgn
  rw [Nat.pow_succ 256 (j + 1)]
  rw [Nat.pow_succ] at h1 ⊢
  split <;> split <;> omega
theorem sgn_one (c : UInt8) : sgn 1 (beN [c]) = if 128 ≤ c.toNat then (c.toNat : Int) - 256 else c.toNat := by
  have hc := c.toNat_lt
  have : beN [c] = c.toNat := by simp [beN]
  rw [this]
  unfold sgn
  simp only [Nat.pow_one]
  split <;> split <;> omega
/-- The number in the first i bytes. -/
def preV (ds : List UInt8) (i : Nat) : Int := if i = 0 then 0 else sgn i (beN (ds.take i))
theorem preV_bound (ds : List UInt8) (i : Nat) (h8 : i ≤ 7) (hl : i ≤ ds.length) : -36028797018963968 ≤ preV ds i ∧ preV ds i < 36028797018963968 := by
  unfold preV
  split
  · omega
  · have h1 := beN_lt (ds.take i)
    have h2 : (ds.take i).length = i := by simp; omega
    rw [h2] at h1
    have h3 := sgn_bound i _ (by omega) h1
    have h4 : 256 ^ i ≤ 256 ^ 7 := Nat.pow_le_pow_right (by omega) h8
    have h5 : (256 : Nat) ^ 7 = 72057594037927936 := by decide
    omega
theorem preV_bound8 (ds : List UInt8) (i : Nat) (h8 : i ≤ 8) (hl : i ≤ ds.length) : -9223372036854775808 ≤ preV ds i ∧ preV ds i ≤ 9223372036854775807 := by
  unfold preV
  split
  · omega
  · have h1 := beN_lt (ds.take i)
    have h2 : (ds.take i).length = i := by simp; omega
    rw [h2] at h1
    have h3 := sgn_bound i _ (by omega) h1
    have h4 : 256 ^ i ≤ 256 ^ 8 := Nat.pow_le_pow_right (by omega) h8
    have h5 : (256 : Nat) ^ 8 = 18446744073709551616 := by decide
    omega
theorem Number_spec {v : Value} {bs : List UInt8} {at_ n : Nat} (hb : RdB p v bs) (hl : bs.length ≤ 1073741824) (ha : at_ ≤ 9223372036854775807) (hn : n = 1 ∨ n = 2 ∨ n = 4 ∨ n = 8)
    (hno : bs.length < at_ + n → Ent w0 p (K (.tuple [.int .i64 0, .bool false].toArray))) (hk : at_ + n ≤ bs.length → Ent w0 p (K (.tuple [.int .i64 (numAt bs at_ n), .bool true].toArray))) :
    Ent w0 p (op PR Pn (S.fn F.leatref01_Number [v, .int .i64 at_, .int .i64 n]) K) := by
  obtain ⟨A0, c0, rfl, h1, h2⟩ := hb.shape
  have hn8 : 1 ≤ n ∧ n ≤ 8 := by omega
  refine Ent.call (fun w h => enter.leatref01_Number h) ?_
  unfold W.leatref01_Number
  have hfalse : ¬ ((at_ : Int) < 0) := by omega
  refine Ent.run ?_
  rw [decide_eq_false hfalse]
  refine Ent.gop_yes (Ent.run (Ent.gop_yes (Ent.run (Ent.gop_yes (Ent.run (Ent.gop_yes (Ent.runB (fun hq => ?_) (fun hq => ?_))))))))
  · repeat (first | refine Ent.runW (wrap_i64 (by omega) (by omega)) ?_ | refine Ent.runWL (wrap_i64 (by omega) (by omega)) ?_ | refine Ent.runWR (wrap_i64 (by omega) (by omega)) ?_ | refine Ent.run ?_ | refine Ent.runL ?_ | refine Ent.runR ?_ | refine Ent.drawn ?_ | refine Ent.store (by kernel_rfl) ?_ | refine Ent.resN ?_ | refine Ent.res1 ?_ | refine Ent.gop_yes ?_ | refine Ent.gop_no (by decide) ?_ | refine Ent.gop_undef ?_ | refine Ent.glt_undef ?_ | refine Ent.grc_undef ?_ | refine Ent.glt_yes ?_ | refine Ent.glt_no (by decide) ?_ | refine Ent.grc_yes ?_ | refine Ent.grc_no (by decide) ?_)
    refine Ent.ite_t ?_
    exact hno (by have : (bs.length : Int) < at_ := by simpa using hq
                  omega)
  have hle : at_ ≤ bs.length := by have : ¬ (bs.length : Int) < at_ := by simpa using hq
                                   omega
  repeat (first | refine Ent.runW (wrap_i64 (by omega) (by omega)) ?_ | refine Ent.runWL (wrap_i64 (by omega) (by omega)) ?_ | refine Ent.runWR (wrap_i64 (by omega) (by omega)) ?_ | refine Ent.run ?_ | refine Ent.runL ?_ | refine Ent.runR ?_ | refine Ent.drawn ?_ | refine Ent.store (by kernel_rfl) ?_ | refine Ent.resN ?_ | refine Ent.res1 ?_ | refine Ent.gop_yes ?_ | refine Ent.gop_no (by decide) ?_ | refine Ent.gop_undef ?_ | refine Ent.glt_undef ?_ | refine Ent.grc_undef ?_ | refine Ent.glt_yes ?_ | refine Ent.glt_no (by decide) ?_ | refine Ent.grc_yes ?_ | refine Ent.grc_no (by decide) ?_)
  refine Ent.ite (fun hq => ?_) (fun hq => ?_)
  · exact hno (by have : (bs.length : Int) - at_ < n := by simpa using hq
                  omega)
  have hle2 : at_ + n ≤ bs.length := by have : ¬ (bs.length : Int) - at_ < n := by simpa using hq
                                        omega
  have hk := hk hle2
  unfold numAt at hk
  generalize hds : (bs.drop at_).take n = ds at hk
  have hdl : ds.length = n := by rw [← hds]; simp; omega
  refine Ent.L2 (σ := Nat) (fun i => .int .i64 (preV ds i)) (fun i => .int .i64 i) (fun i => pure' (i ≤ n) :: p) (fun i => n - i) 0 (fun w hs => hs.add ⟨Nat.zero_le _, fun _ => rfl⟩) ?_
  intro i k hrec
  refine Ent.pure fun hi => ?_
  repeat (first | refine Ent.runW (wrap_i64 (by omega) (by omega)) ?_ | refine Ent.runWL (wrap_i64 (by omega) (by omega)) ?_ | refine Ent.runWR (wrap_i64 (by omega) (by omega)) ?_ | refine Ent.run ?_ | refine Ent.runL ?_ | refine Ent.runR ?_ | refine Ent.drawn ?_ | refine Ent.store (by kernel_rfl) ?_ | refine Ent.resN ?_ | refine Ent.res1 ?_ | refine Ent.gop_yes ?_ | refine Ent.gop_no (by decide) ?_ | refine Ent.gop_undef ?_ | refine Ent.glt_undef ?_ | refine Ent.grc_undef ?_ | refine Ent.glt_yes ?_ | refine Ent.glt_no (by decide) ?_ | refine Ent.grc_yes ?_ | refine Ent.grc_no (by decide) ?_)
  refine Ent.ite (fun hq => ?_) (fun hq => ?_)
  · have hlt : i < n := by simpa using hq
    obtain ⟨a, ha', hld⟩ := hb.at (P := PR) (t := T.L_uint8) (k := .i64) (i := ((at_ + i : Nat) : Int)) (by omega) (by omega)
    refine Ent.runW (wrap_i64 (by omega) (by omega)) ?_
    rw [show (at_ : Int) + i = ((at_ + i : Nat) : Int) by omega]
    refine Ent.at_ (fun w _ => ha' w) ?_
    rw [getD_lt (by omega)] at hld
    have hc := (bs[at_ + i]'(by omega)).toNat_lt
    have hbi : bs[at_ + i]'(by omega) = ds[i] := by simp [← hds]
    repeat (first | refine Ent.runW (wrap_i64 (by omega) (by omega)) ?_ | refine Ent.runWL (wrap_i64 (by omega) (by omega)) ?_ | refine Ent.runWR (wrap_i64 (by omega) (by omega)) ?_ | refine Ent.run ?_ | refine Ent.runL ?_ | refine Ent.runR ?_ | refine Ent.drawn ?_ | refine Ent.store (by kernel_rfl) ?_ | refine Ent.resN ?_ | refine Ent.res1 ?_ | refine Ent.gop_yes ?_ | refine Ent.gop_no (by decide) ?_ | refine Ent.gop_undef ?_ | refine Ent.glt_undef ?_ | refine Ent.grc_undef ?_ | refine Ent.glt_yes ?_ | refine Ent.glt_no (by decide) ?_ | refine Ent.grc_yes ?_ | refine Ent.grc_no (by decide) ?_)
    rw [hbi] at hc ⊢
    have hv := preV_bound ds i (by omega) (by omega)
    have hds1 : ds.take (i + 1) = ds.take i ++ [ds[i]] := List.take_succ_eq_append_getElem (by omega)
    have hstep : preV ds (i + 1) = preV ds i * 256 + (if i = 0 ∧ 128 ≤ ds[i].toNat then (ds[i].toNat : Int) - 256 else ds[i].toNat) := by
      by_cases h0 : i = 0
      · subst h0
        have e : ds.take (0 + 1) = [ds[0]] := by rw [hds1]; simp
        unfold preV
        rw [if_neg (by omega), e, sgn_one]
        simp
      · unfold preV
        rw [if_neg (by omega), if_neg h0, hds1, sgn_snoc i _ _ (by simp; omega) (by omega), if_neg (fun h => h0 h.1)]
    refine Ent.J1 fun kk hkk => ?_
    have key : Ent w0 p (kk (.int .i64 (if i = 0 ∧ 128 ≤ ds[i].toNat then (ds[i].toNat : Int) - 256 else ds[i].toNat))) := by
      refine hkk _ _ ?_
      refine Ent.runW (wrap_i64 (by omega) (by omega)) ?_
      have hv8 := preV_bound8 ds (i + 1) (by omega) (by omega)
      rw [hstep] at hv8
      refine Ent.runW (wrap_i64 hv8.1 hv8.2) ?_
      rw [← hstep]
      repeat (first | refine Ent.runW (wrap_i64 (by omega) (by omega)) ?_ | refine Ent.runWL (wrap_i64 (by omega) (by omega)) ?_ | refine Ent.runWR (wrap_i64 (by omega) (by omega)) ?_ | refine Ent.run ?_ | refine Ent.runL ?_ | refine Ent.runR ?_ | refine Ent.drawn ?_ | refine Ent.store (by kernel_rfl) ?_ | refine Ent.resN ?_ | refine Ent.res1 ?_ | refine Ent.gop_yes ?_ | refine Ent.gop_no (by decide) ?_ | refine Ent.gop_undef ?_ | refine Ent.glt_undef ?_ | refine Ent.grc_undef ?_ | refine Ent.glt_yes ?_ | refine Ent.glt_no (by decide) ?_ | refine Ent.grc_yes ?_ | refine Ent.grc_no (by decide) ?_)
      have := hrec (i + 1) (by omega)
      simp only [Int.natCast_add, Int.natCast_one] at this
      exact Ent.add ⟨hlt, fun _ => rfl⟩ this
    refine Ent.runB (fun h0 => ?_) (fun h0 => ?_)
    · have h0 : i = 0 := by have : (i : Int) = 0 := by simpa using h0
                            omega
      repeat (first | refine Ent.runW (wrap_i64 (by omega) (by omega)) ?_ | refine Ent.runWL (wrap_i64 (by omega) (by omega)) ?_ | refine Ent.runWR (wrap_i64 (by omega) (by omega)) ?_ | refine Ent.run ?_ | refine Ent.runL ?_ | refine Ent.runR ?_ | refine Ent.drawn ?_ | refine Ent.store (by kernel_rfl) ?_ | refine Ent.resN ?_ | refine Ent.res1 ?_ | refine Ent.gop_yes ?_ | refine Ent.gop_no (by decide) ?_ | refine Ent.gop_undef ?_ | refine Ent.glt_undef ?_ | refine Ent.grc_undef ?_ | refine Ent.glt_yes ?_ | refine Ent.glt_no (by decide) ?_ | refine Ent.grc_yes ?_ | refine Ent.grc_no (by decide) ?_)
      refine Ent.ite (fun h1 => ?_) (fun h1 => ?_)
      · have h1 : (128 : Int) ≤ ds[i].toNat := by simpa using h1
        rw [if_pos ⟨h0, by omega⟩] at key
        repeat (first | refine Ent.runW (wrap_i64 (by omega) (by omega)) ?_ | refine Ent.runWL (wrap_i64 (by omega) (by omega)) ?_ | refine Ent.runWR (wrap_i64 (by omega) (by omega)) ?_ | refine Ent.run ?_ | refine Ent.runL ?_ | refine Ent.runR ?_ | refine Ent.drawn ?_ | refine Ent.store (by kernel_rfl) ?_ | refine Ent.resN ?_ | refine Ent.res1 ?_ | refine Ent.gop_yes ?_ | refine Ent.gop_no (by decide) ?_ | refine Ent.gop_undef ?_ | refine Ent.glt_undef ?_ | refine Ent.grc_undef ?_ | refine Ent.glt_yes ?_ | refine Ent.glt_no (by decide) ?_ | refine Ent.grc_yes ?_ | refine Ent.grc_no (by decide) ?_)
        exact key
      · have h1 : ¬ (128 : Int) ≤ ds[i].toNat := by simpa using h1
        rw [if_neg (fun h => h1 (by omega))] at key
        repeat (first | refine Ent.runW (wrap_i64 (by omega) (by omega)) ?_ | refine Ent.runWL (wrap_i64 (by omega) (by omega)) ?_ | refine Ent.runWR (wrap_i64 (by omega) (by omega)) ?_ | refine Ent.run ?_ | refine Ent.runL ?_ | refine Ent.runR ?_ | refine Ent.drawn ?_ | refine Ent.store (by kernel_rfl) ?_ | refine Ent.resN ?_ | refine Ent.res1 ?_ | refine Ent.gop_yes ?_ | refine Ent.gop_no (by decide) ?_ | refine Ent.gop_undef ?_ | refine Ent.glt_undef ?_ | refine Ent.grc_undef ?_ | refine Ent.glt_yes ?_ | refine Ent.glt_no (by decide) ?_ | refine Ent.grc_yes ?_ | refine Ent.grc_no (by decide) ?_)
        exact key
    · have h0 : ¬ i = 0 := by have : ¬ (i : Int) = 0 := by simpa using h0
                              omega
      rw [if_neg (fun h => h0 h.1)] at key
      repeat (first | refine Ent.runW (wrap_i64 (by omega) (by omega)) ?_ | refine Ent.runWL (wrap_i64 (by omega) (by omega)) ?_ | refine Ent.runWR (wrap_i64 (by omega) (by omega)) ?_ | refine Ent.run ?_ | refine Ent.runL ?_ | refine Ent.runR ?_ | refine Ent.drawn ?_ | refine Ent.store (by kernel_rfl) ?_ | refine Ent.resN ?_ | refine Ent.res1 ?_ | refine Ent.gop_yes ?_ | refine Ent.gop_no (by decide) ?_ | refine Ent.gop_undef ?_ | refine Ent.glt_undef ?_ | refine Ent.grc_undef ?_ | refine Ent.glt_yes ?_ | refine Ent.glt_no (by decide) ?_ | refine Ent.grc_yes ?_ | refine Ent.grc_no (by decide) ?_)
      refine Ent.ite_f ?_
      repeat (first | refine Ent.runW (wrap_i64 (by omega) (by omega)) ?_ | refine Ent.runWL (wrap_i64 (by omega) (by omega)) ?_ | refine Ent.runWR (wrap_i64 (by omega) (by omega)) ?_ | refine Ent.run ?_ | refine Ent.runL ?_ | refine Ent.runR ?_ | refine Ent.drawn ?_ | refine Ent.store (by kernel_rfl) ?_ | refine Ent.resN ?_ | refine Ent.res1 ?_ | refine Ent.gop_yes ?_ | refine Ent.gop_no (by decide) ?_ | refine Ent.gop_undef ?_ | refine Ent.glt_undef ?_ | refine Ent.grc_undef ?_ | refine Ent.glt_yes ?_ | refine Ent.glt_no (by decide) ?_ | refine Ent.grc_yes ?_ | refine Ent.grc_no (by decide) ?_)
      exact key
  · have : i = n := by
      have : ¬ (i : Int) < n := by simpa using hq
      omega
    subst this
    unfold preV
    rw [if_neg (by omega), List.take_of_length_le (by omega)]
    exact hk
theorem pow256 (i : Nat) : (256 : Int) ^ i = ((256 ^ i : Nat) : Int) := by simp
theorem ediv_step (v : Int) (i : Nat) : v / 256 ^ (i + 1) = v / 256 ^ i / 256 := by
  rw [Int.pow_succ, Int.ediv_ediv_of_nonneg (Int.pow_nonneg (by omega))]
theorem byte_of (v : Int) (i : Nat) (hi : i < 8) : (((v % 18446744073709551616).toNat / 256 ^ i % 256 : Nat) : Int) = v / 256 ^ i % 256 := by
  have h : i = 0 ∨ i = 1 ∨ i = 2 ∨ i = 3 ∨ i = 4 ∨ i = 5 ∨ i = 6 ∨ i = 7 := by omega
  rcases h with rfl | rfl | rfl | rfl | rfl | rfl | rfl | rfl <;> simp only [Nat.reducePow, Int.reducePow] <;> omega
theorem Digits_spec {v : Int} {n : Nat} (hn : n ≤ 8) (hv : -9223372036854775808 ≤ v ∧ v ≤ 9223372036854775807)
    (hk : ∀ A c, Ent w0 (ownB T.u8 (.slice A n c) (beI n v) :: p) (K (.slice A n c))) :
    Ent w0 p (op PR Pn (S.fn F.leatref01_Digits [.int .i64 v, .int .i64 n]) K) := by
  refine Ent.call (fun w h => enter.leatref01_Digits h) ?_
  unfold W.leatref01_Digits
  refine Ent.bsliceR (sz := 1) (by omega) rfl fun g => ?_
  have hv1 : v = v / 256 ^ 0 := by simp
  rw [hv1]
  refine Ent.L3 (σ := Nat × Option Addr × Nat) (fun s => .int .i64 (v / 256 ^ s.1)) (fun s => .slice s.2.1 s.1 s.2.2) (fun s => .int .i64 s.1)
    (fun s => pure' (s.1 ≤ n) :: ownB T.u8 (.slice s.2.1 s.1 s.2.2) (beB s.1 (v % 18446744073709551616).toNat).reverse :: p) (fun s => n - s.1) (0, some ⟨g, 0, none⟩, 0) (fun w hs => hs.add ⟨Nat.zero_le _, fun _ => rfl⟩) ?_
  rintro ⟨i, A, c⟩ k hrec
  refine Ent.pure fun hi => ?_
  simp only at hi hrec ⊢
  repeat (first | refine Ent.runW (wrap_i64 (by omega) (by omega)) ?_ | refine Ent.runWL (wrap_i64 (by omega) (by omega)) ?_ | refine Ent.runWR (wrap_i64 (by omega) (by omega)) ?_ | refine Ent.run ?_ | refine Ent.runL ?_ | refine Ent.runR ?_ | refine Ent.drawn ?_ | refine Ent.store (by kernel_rfl) ?_ | refine Ent.resN ?_ | refine Ent.res1 ?_ | refine Ent.gop_yes ?_ | refine Ent.gop_no (by decide) ?_ | refine Ent.gop_undef ?_ | refine Ent.glt_undef ?_ | refine Ent.grc_undef ?_ | refine Ent.glt_yes ?_ | refine Ent.glt_no (by decide) ?_ | refine Ent.grc_yes ?_ | refine Ent.grc_no (by decide) ?_)
  refine Ent.ite (fun hq => ?_) (fun hq => ?_)
  · have hlt : i < n := by simpa using hq
    have hr : -9223372036854775808 ≤ v / 256 ^ i ∧ v / 256 ^ i ≤ 9223372036854775807 := by
      have h : i = 0 ∨ i = 1 ∨ i = 2 ∨ i = 3 ∨ i = 4 ∨ i = 5 ∨ i = 6 ∨ i = 7 := by omega
      rcases h with rfl | rfl | rfl | rfl | rfl | rfl | rfl | rfl <;> simp only [Int.reducePow] <;> omega
    generalize hx : v / 256 ^ i = x at hr
    repeat (first | refine Ent.runW (wrap_i64 (by omega) (by omega)) ?_ | refine Ent.runWL (wrap_i64 (by omega) (by omega)) ?_ | refine Ent.runWR (wrap_i64 (by omega) (by omega)) ?_ | refine Ent.run ?_ | refine Ent.runL ?_ | refine Ent.runR ?_ | refine Ent.drawn ?_ | refine Ent.store (by kernel_rfl) ?_ | refine Ent.resN ?_ | refine Ent.res1 ?_ | refine Ent.gop_yes ?_ | refine Ent.gop_no (by decide) ?_ | refine Ent.gop_undef ?_ | refine Ent.glt_undef ?_ | refine Ent.grc_undef ?_ | refine Ent.glt_yes ?_ | refine Ent.glt_no (by decide) ?_ | refine Ent.grc_yes ?_ | refine Ent.grc_no (by decide) ?_)
    refine Ent.J1 fun kk hkk => ?_
    have key : Ent w0 (ownB T.u8 (.slice A i c) (beB i (v % 18446744073709551616).toNat).reverse :: p) (kk (.int .i64 (x % 256))) := by
      refine hkk _ _ ?_
      have hb : IntKind.u8.wrap (x % 256) = ((UInt8.ofNat ((v % 18446744073709551616).toNat / 256 ^ i)).toNat : Int) := by
        rw [wrap_u8 (by omega) (by omega), ← hx, ← byte_of v i (by omega)]
        simp
      refine Ent.run ?_
      rw [hb]
      refine pushB (by simp [beB_length]; omega) fun A' c' => ?_
      refine Ent.runW (wrap_i64 (by omega) (by omega)) ?_
      refine Ent.run ?_
      rw [show (x - x % 256).tdiv 256 = x / 256 by
        rw [Int.tdiv_eq_ediv]
        split <;> omega]
      rw [wrap_i64 (by omega) (by omega)]
      repeat (first | refine Ent.runW (wrap_i64 (by omega) (by omega)) ?_ | refine Ent.runWL (wrap_i64 (by omega) (by omega)) ?_ | refine Ent.runWR (wrap_i64 (by omega) (by omega)) ?_ | refine Ent.run ?_ | refine Ent.runL ?_ | refine Ent.runR ?_ | refine Ent.drawn ?_ | refine Ent.store (by kernel_rfl) ?_ | refine Ent.resN ?_ | refine Ent.res1 ?_ | refine Ent.gop_yes ?_ | refine Ent.gop_no (by decide) ?_ | refine Ent.gop_undef ?_ | refine Ent.glt_undef ?_ | refine Ent.grc_undef ?_ | refine Ent.glt_yes ?_ | refine Ent.glt_no (by decide) ?_ | refine Ent.grc_yes ?_ | refine Ent.grc_no (by decide) ?_)
      have := hrec (i + 1, A', c') (by simp only; omega)
      simp only [Int.natCast_add, Int.natCast_one, ediv_step, hx, beB, List.reverse_cons] at this
      rw [List.length_reverse, beB_length]
      exact Ent.add ⟨hlt, fun _ => rfl⟩ this
    refine Ent.run ?_
    refine Ent.ite (fun h0 => ?_) (fun h0 => ?_)
    · have h0 : x.tmod 256 < 0 := by simpa using h0
      have e : x.tmod 256 + 256 = x % 256 := by
        rw [Int.tmod_eq_emod] at h0 ⊢
        split at h0 <;> split <;> omega
      refine Ent.runW (wrap_i64 (by omega) (by omega)) ?_
      rw [e]
      exact key
    · have h0 : ¬ x.tmod 256 < 0 := by simpa using h0
      have e : x.tmod 256 = x % 256 := by
        rw [Int.tmod_eq_emod] at h0 ⊢
        split at h0 <;> split <;> omega
      rw [e]
      exact key
  · have : i = n := by
      have : ¬ (i : Int) < n := by simpa using hq
      omega
    subst this
    refine Ent.freeze fun x hx => ?_
    have hb := ownB_rd hx
    refine Ent.bsliceR (sz := 1) (by omega) rfl fun g => ?_
    refine Ent.runW (wrap_i64 (by omega) (by omega)) ?_
    generalize hm : (v % 18446744073709551616).toNat = m at hb
    have hm2 : beI i v = beB i m := by rw [← hm]; rfl
    rw [hm2] at hk
    have hbl := beB_length i m
    rw [show (i : Int) - 1 = (i : Int) - 1 - ((0 : Nat) : Int) by omega]
    refine Ent.L2 (σ := Nat × Option Addr × Nat) (fun s => .slice s.2.1 s.1 s.2.2) (fun s => .int .i64 ((i : Int) - 1 - s.1))
      (fun s => pure' (s.1 ≤ i) :: ownB T.u8 (.slice s.2.1 s.1 s.2.2) ((beB i m).take s.1) :: exact x :: p) (fun s => i - s.1) (0, some ⟨g, 0, none⟩, 0) (fun w hs => hs.add ⟨Nat.zero_le _, fun _ => rfl⟩) ?_
    rintro ⟨j, B, d⟩ k hrec
    refine Ent.pure fun hi => ?_
    simp only at hi hrec ⊢
    repeat (first | refine Ent.runW (wrap_i64 (by omega) (by omega)) ?_ | refine Ent.runWL (wrap_i64 (by omega) (by omega)) ?_ | refine Ent.runWR (wrap_i64 (by omega) (by omega)) ?_ | refine Ent.run ?_ | refine Ent.runL ?_ | refine Ent.runR ?_ | refine Ent.drawn ?_ | refine Ent.store (by kernel_rfl) ?_ | refine Ent.resN ?_ | refine Ent.res1 ?_ | refine Ent.gop_yes ?_ | refine Ent.gop_no (by decide) ?_ | refine Ent.gop_undef ?_ | refine Ent.glt_undef ?_ | refine Ent.grc_undef ?_ | refine Ent.glt_yes ?_ | refine Ent.glt_no (by decide) ?_ | refine Ent.grc_yes ?_ | refine Ent.grc_no (by decide) ?_)
    refine Ent.ite (fun hq => ?_) (fun hq => ?_)
    · have hlt : j < i := by have : (0 : Int) ≤ (i : Int) - 1 - j := by simpa using hq
                             omega
      rw [show (i : Int) - 1 - j = ((i - 1 - j : Nat) : Int) by omega]
      have hb2 := RdB.here (p := p) hb
      have hll : (beB i m).reverse.length = i := by rw [List.length_reverse, hbl]
      obtain ⟨a, ha, hld⟩ := (hb2.skip (a := ownB T.u8 (.slice B j d) ((beB i m).take j))).at (P := PR) (t := T.L_uint8) (k := .i64) (i := ((i - 1 - j : Nat) : Int)) (by omega) (by omega)
      refine Ent.at_ (fun w _ => ha w) ?_
      rw [getD_lt (by omega)] at hld
      repeat (first | refine Ent.runW (wrap_i64 (by omega) (by omega)) ?_ | refine Ent.runWL (wrap_i64 (by omega) (by omega)) ?_ | refine Ent.runWR (wrap_i64 (by omega) (by omega)) ?_ | refine Ent.run ?_ | refine Ent.runL ?_ | refine Ent.runR ?_ | refine Ent.drawn ?_ | refine Ent.store (by kernel_rfl) ?_ | refine Ent.resN ?_ | refine Ent.res1 ?_ | refine Ent.gop_yes ?_ | refine Ent.gop_no (by decide) ?_ | refine Ent.gop_undef ?_ | refine Ent.glt_undef ?_ | refine Ent.grc_undef ?_ | refine Ent.glt_yes ?_ | refine Ent.glt_no (by decide) ?_ | refine Ent.grc_yes ?_ | refine Ent.grc_no (by decide) ?_)
      have e : (beB i m).reverse[i - 1 - j]'(by omega) = (beB i m)[j]'(by omega) := by
        rw [List.getElem_reverse]
        congr 1
        omega
      rw [e]
      refine pushB (by simp; omega) fun A' c' => ?_
      refine Ent.runW (wrap_i64 (by omega) (by omega)) ?_
      have := hrec (j + 1, A', c') (by simp only; omega)
      simp only [Int.natCast_add, Int.natCast_one] at this
      rw [List.take_succ_eq_append_getElem (by omega)] at this
      rw [show ((beB i m).take j).length = j by simp; omega, show ((i - 1 - j : Nat) : Int) - 1 = (i : Int) - 1 - (j + 1) by omega]
      exact Ent.add ⟨hlt, fun _ => rfl⟩ this
    · have : j = i := by have : ¬ (0 : Int) ≤ (i : Int) - 1 - j := by simpa using hq
                         omega
      subst this
      rw [List.take_of_length_le (by omega)]
      exact Ent.keep (hk B d)
def fitsN (v : Int) (n : Nat) : Bool := decide (8 ≤ n) || decide (-(2 ^ (8 * n - 1) : Int) ≤ v) && decide (v < 2 ^ (8 * n - 1))
theorem Fits_spec {v : Int} {n : Nat} (hn : 1 ≤ n ∧ n ≤ 8) (hk : Ent w0 p (K (.bool (fitsN v n)))) :
    Ent w0 p (op PR Pn (S.fn F.leatref01_Fits [.int .i64 v, .int .i64 n]) K) := by
  refine Ent.call (fun w h => enter.leatref01_Fits h) ?_
  unfold W.leatref01_Fits
  unfold fitsN at hk
  refine Ent.runB (fun hq => ?_) (fun hq => ?_)
  · have : 8 ≤ n := by have : (8 : Int) ≤ n := by simpa using hq
                       omega
    rw [decide_eq_true this] at hk
    refine Ent.ite_t ?_
    exact hk
  · have hlt : ¬ 8 ≤ n := by have : ¬ (8 : Int) ≤ n := by simpa using hq
                             omega
    rw [decide_eq_false hlt, Bool.false_or] at hk
    refine Ent.ite_f ?_
    refine Ent.L2 (σ := Nat) (fun i => .int .i64 (2 ^ i)) (fun i => .int .i64 i) (fun i => pure' (i ≤ 8 * n - 1) :: p) (fun i => 8 * n - 1 - i) 0 (fun w hs => hs.add ⟨Nat.zero_le _, fun _ => rfl⟩) ?_
    intro i k hrec
    refine Ent.pure fun hi => ?_
    have hpow : (2 : Int) ^ i ≤ 2 ^ 55 := by
      have : (2 : Nat) ^ i ≤ 2 ^ 55 := Nat.pow_le_pow_right (by omega) (by omega)
      have e : ((2 ^ i : Nat) : Int) = 2 ^ i := by simp
      omega
    have hpos : (0 : Int) < 2 ^ i := Int.pow_pos (by omega)
    repeat (first | refine Ent.runW (wrap_i64 (by omega) (by omega)) ?_ | refine Ent.runWL (wrap_i64 (by omega) (by omega)) ?_ | refine Ent.runWR (wrap_i64 (by omega) (by omega)) ?_ | refine Ent.run ?_ | refine Ent.runL ?_ | refine Ent.runR ?_ | refine Ent.drawn ?_ | refine Ent.store (by kernel_rfl) ?_ | refine Ent.resN ?_ | refine Ent.res1 ?_ | refine Ent.gop_yes ?_ | refine Ent.gop_no (by decide) ?_ | refine Ent.gop_undef ?_ | refine Ent.glt_undef ?_ | refine Ent.grc_undef ?_ | refine Ent.glt_yes ?_ | refine Ent.glt_no (by decide) ?_ | refine Ent.grc_yes ?_ | refine Ent.grc_no (by decide) ?_)
    refine Ent.ite (fun hq => ?_) (fun hq => ?_)
    · have hq : (i : Int) < 8 * n - 1 := by simpa using hq
      refine Ent.runW (wrap_i64 (by omega) (by omega)) ?_
      repeat (first | refine Ent.runW (wrap_i64 (by omega) (by omega)) ?_ | refine Ent.runWL (wrap_i64 (by omega) (by omega)) ?_ | refine Ent.runWR (wrap_i64 (by omega) (by omega)) ?_ | refine Ent.run ?_ | refine Ent.runL ?_ | refine Ent.runR ?_ | refine Ent.drawn ?_ | refine Ent.store (by kernel_rfl) ?_ | refine Ent.resN ?_ | refine Ent.res1 ?_ | refine Ent.gop_yes ?_ | refine Ent.gop_no (by decide) ?_ | refine Ent.gop_undef ?_ | refine Ent.glt_undef ?_ | refine Ent.grc_undef ?_ | refine Ent.glt_yes ?_ | refine Ent.glt_no (by decide) ?_ | refine Ent.grc_yes ?_ | refine Ent.grc_no (by decide) ?_)
      have := hrec (i + 1) (by omega)
      simp only [Int.natCast_add, Int.natCast_one, Int.pow_succ] at this
      exact Ent.add ⟨by omega, fun _ => rfl⟩ this
    · have hq : ¬ (i : Int) < 8 * n - 1 := by simpa using hq
      have : i = 8 * n - 1 := by omega
      subst this
      refine Ent.runW (wrap_i64 (by omega) (by omega)) ?_
      refine Ent.runB (fun h1 => ?_) (fun h1 => ?_)
      · rw [h1, Bool.true_and] at hk
        repeat (first | refine Ent.runW (wrap_i64 (by omega) (by omega)) ?_ | refine Ent.runWL (wrap_i64 (by omega) (by omega)) ?_ | refine Ent.runWR (wrap_i64 (by omega) (by omega)) ?_ | refine Ent.run ?_ | refine Ent.runL ?_ | refine Ent.runR ?_ | refine Ent.drawn ?_ | refine Ent.store (by kernel_rfl) ?_ | refine Ent.resN ?_ | refine Ent.res1 ?_ | refine Ent.gop_yes ?_ | refine Ent.gop_no (by decide) ?_ | refine Ent.gop_undef ?_ | refine Ent.glt_undef ?_ | refine Ent.grc_undef ?_ | refine Ent.glt_yes ?_ | refine Ent.glt_no (by decide) ?_ | refine Ent.grc_yes ?_ | refine Ent.grc_no (by decide) ?_)
        exact hk
      · rw [h1, Bool.false_and] at hk
        repeat (first | refine Ent.runW (wrap_i64 (by omega) (by omega)) ?_ | refine Ent.runWL (wrap_i64 (by omega) (by omega)) ?_ | refine Ent.runWR (wrap_i64 (by omega) (by omega)) ?_ | refine Ent.run ?_ | refine Ent.runL ?_ | refine Ent.runR ?_ | refine Ent.drawn ?_ | refine Ent.store (by kernel_rfl) ?_ | refine Ent.resN ?_ | refine Ent.res1 ?_ | refine Ent.gop_yes ?_ | refine Ent.gop_no (by decide) ?_ | refine Ent.gop_undef ?_ | refine Ent.glt_undef ?_ | refine Ent.grc_undef ?_ | refine Ent.glt_yes ?_ | refine Ent.glt_no (by decide) ?_ | refine Ent.grc_yes ?_ | refine Ent.grc_no (by decide) ?_)
        exact hk
end Go.Lt
