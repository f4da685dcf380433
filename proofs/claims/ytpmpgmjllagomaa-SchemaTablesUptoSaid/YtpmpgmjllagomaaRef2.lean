/- The references' numbers and letters. Conditions: none. -/
import Derived.Test.YtpmpgmjllagomaaRef1
set_option linter.unusedVariables false
set_option maxHeartbeats 4000000
set_option linter.unusedSimpArgs false
set_option maxRecDepth 100000
namespace Go.Lt
open Go
attribute [local irreducible] op gop lt glt rc grc ite' drawn also ldR
variable {w0 : World} {p : List HP} {Pn : PK} {K : Value → WP}
/-- A byte turned. -/
def turn (b : UInt8) : UInt8 := b ^^^ 90
theorem bxor_turn (b : UInt8) : bxor .u8 (b.toNat : Int) 90 = ((turn b).toNat : Int) := by
  have hb := b.toNat_lt
  have := bxor_nat (k := .u8) (a := b.toNat) (b := 90) (by simpa [IntKind.bits] using hb) (by decide)
  have h2 : b.toNat ^^^ 90 < 2 ^ 8 := Nat.xor_lt_two_pow hb (by decide)
  rw [show ((90 : Nat) : Int) = 90 from rfl] at this
  rw [this, wrap_u8 (by omega) (by omega)]
  rfl
theorem own_addr {e n c : Nat} {A : Option Addr} {bs : List UInt8} {φ : WP} (h : ∀ hn : n = bs.length, n ≤ c → (0 < n → ∃ g, A = some ⟨g, 0, none⟩) → Ent w0 (ownB e (.slice A n c) bs :: p) φ) : Ent w0 (ownB e (.slice A n c) bs :: p) φ := by
  refine Ent.freeze fun x hx => ?_
  obtain ⟨h1, ⟨h2, h3, _⟩ | ⟨g, cap, cur, h2, h3, h4, h5, h6, h7⟩⟩ := id hx
  · injection h2 with e1 e2 e3
    exact Ent.thaw hx (h (by omega) (by omega) (fun h => by omega))
  · injection h2 with e1 e2 e3
    exact Ent.thaw hx (h e2 (by omega) (fun _ => ⟨g, e1⟩))
theorem Spoil_spec {n c : Nat} {A : Option Addr} {bs : List UInt8} (hl : bs.length ≤ 1073741824) (hk : Ent w0 (ownB T.u8 (.slice A n c) (bs.map turn) :: p) (K (.tuple #[]))) :
    Ent w0 (ownB T.u8 (.slice A n c) bs :: p) (op PR Pn (S.fn F.leatref01_Spoil [.slice A n c]) K) := by
  refine own_addr fun hn hc hA => ?_
  subst hn
  refine Ent.call (fun w h => enter.leatref01_Spoil h) ?_
  unfold W.leatref01_Spoil
  refine Ent.L1 (σ := Nat) (fun i => .int .i64 i) (fun i => pure' (i ≤ bs.length) :: ownB T.u8 (.slice A bs.length c) ((bs.take i).map turn ++ bs.drop i) :: p) (fun i => bs.length - i) 0 (fun w hs => by
    have : Sat (ownB T.u8 (.slice A bs.length c) ((bs.take 0).map turn ++ bs.drop 0) :: p) w0 w := by simpa using hs
    exact this.add ⟨Nat.zero_le _, fun _ => rfl⟩) ?_
  intro i k hrec
  refine Ent.pure fun hi => ?_
  repeat (first | refine Ent.runW (wrap_i64 (by omega) (by omega)) ?_ | refine Ent.runWL (wrap_i64 (by omega) (by omega)) ?_ | refine Ent.runWR (wrap_i64 (by omega) (by omega)) ?_ | refine Ent.run ?_ | refine Ent.runL ?_ | refine Ent.runR ?_ | refine Ent.drawn ?_ | refine Ent.store (by kernel_rfl) ?_ | refine Ent.resN ?_ | refine Ent.res1 ?_ | refine Ent.gop_yes ?_ | refine Ent.gop_no (by decide) ?_ | refine Ent.gop_undef ?_ | refine Ent.glt_undef ?_ | refine Ent.grc_undef ?_ | refine Ent.glt_yes ?_ | refine Ent.glt_no (by decide) ?_ | refine Ent.grc_yes ?_ | refine Ent.grc_no (by decide) ?_)
  refine Ent.ite (fun hq => ?_) (fun hq => ?_)
  · have hlt : i < bs.length := by simpa using hq
    obtain ⟨g, rfl⟩ := hA (by omega)
    have hl2 : ((bs.take i).map turn ++ bs.drop i).length = bs.length := by simp; omega
    unfold ownB
    rw [hl2]
    have hget : (((bs.take i).map turn ++ bs.drop i).map u8)[i]? = some (u8 bs[i]) := by
      rw [List.getElem?_map, List.getElem?_append_right (by simp; omega)]
      simp [show min i bs.length = i by omega, List.getElem?_eq_getElem hlt]
    haveI := row_load (p := p) (e := T.u8) (sz := 1) (g := g) (n := bs.length) (c := c) hget
    refine Ent.at_ (fun w _ => ia_run (sz := 1) (by omega) (by omega)) ?_
    simp only [add_none, Int.toNat_natCast, Nat.zero_add, Nat.mul_one]
    repeat (first | refine Ent.runW (wrap_i64 (by omega) (by omega)) ?_ | refine Ent.runWL (wrap_i64 (by omega) (by omega)) ?_ | refine Ent.runWR (wrap_i64 (by omega) (by omega)) ?_ | refine Ent.run ?_ | refine Ent.runL ?_ | refine Ent.runR ?_ | refine Ent.drawn ?_ | refine Ent.store (by kernel_rfl) ?_ | refine Ent.resN ?_ | refine Ent.res1 ?_ | refine Ent.gop_yes ?_ | refine Ent.gop_no (by decide) ?_ | refine Ent.gop_undef ?_ | refine Ent.glt_undef ?_ | refine Ent.grc_undef ?_ | refine Ent.glt_yes ?_ | refine Ent.glt_no (by decide) ?_ | refine Ent.grc_yes ?_ | refine Ent.grc_no (by decide) ?_)
    rw [bxor_turn]
    refine Ent.at_ (fun w _ => ia_run (sz := 1) (by omega) (by omega)) ?_
    simp only [add_none, Int.toNat_natCast, Nat.zero_add, Nat.mul_one]
    refine Ent.storeRow (by kernel_rfl) rfl (by simp; omega) ?_
    repeat (first | refine Ent.runW (wrap_i64 (by omega) (by omega)) ?_ | refine Ent.runWL (wrap_i64 (by omega) (by omega)) ?_ | refine Ent.runWR (wrap_i64 (by omega) (by omega)) ?_ | refine Ent.run ?_ | refine Ent.runL ?_ | refine Ent.runR ?_ | refine Ent.drawn ?_ | refine Ent.store (by kernel_rfl) ?_ | refine Ent.resN ?_ | refine Ent.res1 ?_ | refine Ent.gop_yes ?_ | refine Ent.gop_no (by decide) ?_ | refine Ent.gop_undef ?_ | refine Ent.glt_undef ?_ | refine Ent.grc_undef ?_ | refine Ent.glt_yes ?_ | refine Ent.glt_no (by decide) ?_ | refine Ent.grc_yes ?_ | refine Ent.grc_no (by decide) ?_)
    have := hrec (i + 1) (by omega)
    simp only [Int.natCast_add, Int.natCast_one] at this
    refine Ent.add (a := pure' (i + 1 ≤ bs.length)) ⟨hlt, fun _ => rfl⟩ ?_
    unfold ownB at this
    have e : (((bs.take i).map turn ++ bs.drop i).map u8).set i (.int .u8 ((turn bs[i]).toNat : Int)) = ((bs.take (i + 1)).map turn ++ bs.drop (i + 1)).map u8 := by
      refine List.ext_getElem? fun j => ?_
      rw [List.getElem?_set]
      simp only [List.getElem?_map, List.getElem?_append, List.length_map, List.length_take, List.getElem?_take, List.getElem?_drop, List.length_append, List.length_drop]
      by_cases hj : i = j
      · subst hj
        rw [if_pos rfl, if_pos (by omega), if_pos (by omega), if_pos (by omega), List.getElem?_eq_getElem hlt]
        rfl
      · rw [if_neg hj]
        by_cases h1 : j < i
        · rw [if_pos (by omega), if_pos h1, if_pos (by omega), if_pos (by omega)]
        · rw [if_neg (by omega), if_neg (by omega), show i + (j - min i bs.length) = j by omega, show i + 1 + (j - min (i + 1) bs.length) = j by omega]
    have hl3 : ((bs.take (i + 1)).map turn ++ bs.drop (i + 1)).length = bs.length := by simp; omega
    rw [hl3] at this
    rw [e]
    exact this
  · have : i = bs.length := by
      have : ¬ (i : Int) < bs.length := by simpa using hq
      omega
    subst this
    rw [List.take_of_length_le (by omega), List.drop_of_length_le (by omega), List.append_nil]
    exact hk
theorem Turned_spec {v u : Value} {xs bs : List UInt8} (ha : RdB p v xs) (hb : RdB p u bs) (hk : Ent w0 p (K (.bool (decide (xs = bs.map turn))))) :
    Ent w0 p (op PR Pn (S.fn F.leatref01_Turned [v, u]) K) := by
  obtain ⟨A0, c0, rfl, h1, h2⟩ := ha.shape
  obtain ⟨A1, c1, rfl, h3, h4⟩ := hb.shape
  refine Ent.call (fun w h => enter.leatref01_Turned h) ?_
  unfold W.leatref01_Turned
  repeat (first | refine Ent.runW (wrap_i64 (by omega) (by omega)) ?_ | refine Ent.runWL (wrap_i64 (by omega) (by omega)) ?_ | refine Ent.runWR (wrap_i64 (by omega) (by omega)) ?_ | refine Ent.run ?_ | refine Ent.runL ?_ | refine Ent.runR ?_ | refine Ent.drawn ?_ | refine Ent.store (by kernel_rfl) ?_ | refine Ent.resN ?_ | refine Ent.res1 ?_ | refine Ent.gop_yes ?_ | refine Ent.gop_no (by decide) ?_ | refine Ent.gop_undef ?_ | refine Ent.glt_undef ?_ | refine Ent.grc_undef ?_ | refine Ent.glt_yes ?_ | refine Ent.glt_no (by decide) ?_ | refine Ent.grc_yes ?_ | refine Ent.grc_no (by decide) ?_)
  refine Ent.ite (fun hq => ?_) (fun hq => ?_)
  · have hq : ¬ xs.length = bs.length := by
      intro h
      rw [h] at hq
      simp at hq
    rw [decide_eq_false (fun h => hq (by rw [h, List.length_map]))] at hk
    exact hk
  · have hq : xs.length = bs.length := by
      have : (xs.length : Int) = bs.length := by simpa using hq
      omega
    refine Ent.L2 (σ := Nat) (fun s => .bool false) (fun i => .int .i64 i) (fun i => pure' (i ≤ xs.length ∧ xs.take i = (bs.take i).map turn) :: p) (fun i => xs.length - i) 0 (fun w hs => hs.add ⟨⟨Nat.zero_le _, by simp⟩, fun _ => rfl⟩) ?_
    intro i k hrec
    refine Ent.pure fun hi => ?_
    repeat (first | refine Ent.runW (wrap_i64 (by omega) (by omega)) ?_ | refine Ent.runWL (wrap_i64 (by omega) (by omega)) ?_ | refine Ent.runWR (wrap_i64 (by omega) (by omega)) ?_ | refine Ent.run ?_ | refine Ent.runL ?_ | refine Ent.runR ?_ | refine Ent.drawn ?_ | refine Ent.store (by kernel_rfl) ?_ | refine Ent.resN ?_ | refine Ent.res1 ?_ | refine Ent.gop_yes ?_ | refine Ent.gop_no (by decide) ?_ | refine Ent.gop_undef ?_ | refine Ent.glt_undef ?_ | refine Ent.grc_undef ?_ | refine Ent.glt_yes ?_ | refine Ent.glt_no (by decide) ?_ | refine Ent.grc_yes ?_ | refine Ent.grc_no (by decide) ?_)
    refine Ent.ite (fun hq2 => ?_) (fun hq2 => ?_)
    · have hlt : i < xs.length := by simpa using hq2
      obtain ⟨a, ha', hld⟩ := ha.at (P := PR) (t := T.L_uint8) (k := .i64) (i := (i : Int)) (by omega) (by omega)
      obtain ⟨b, hb', hld2⟩ := hb.at (P := PR) (t := T.L_uint8) (k := .i64) (i := (i : Int)) (by omega) (by omega)
      repeat (first | refine Ent.runW (wrap_i64 (by omega) (by omega)) ?_ | refine Ent.runWL (wrap_i64 (by omega) (by omega)) ?_ | refine Ent.runWR (wrap_i64 (by omega) (by omega)) ?_ | refine Ent.run ?_ | refine Ent.runL ?_ | refine Ent.runR ?_ | refine Ent.drawn ?_ | refine Ent.store (by kernel_rfl) ?_ | refine Ent.resN ?_ | refine Ent.res1 ?_ | refine Ent.gop_yes ?_ | refine Ent.gop_no (by decide) ?_ | refine Ent.gop_undef ?_ | refine Ent.glt_undef ?_ | refine Ent.grc_undef ?_ | refine Ent.glt_yes ?_ | refine Ent.glt_no (by decide) ?_ | refine Ent.grc_yes ?_ | refine Ent.grc_no (by decide) ?_)
      refine Ent.atL (fun w _ => ha' w) ?_
      repeat (first | refine Ent.runW (wrap_i64 (by omega) (by omega)) ?_ | refine Ent.runWL (wrap_i64 (by omega) (by omega)) ?_ | refine Ent.runWR (wrap_i64 (by omega) (by omega)) ?_ | refine Ent.run ?_ | refine Ent.runL ?_ | refine Ent.runR ?_ | refine Ent.drawn ?_ | refine Ent.store (by kernel_rfl) ?_ | refine Ent.resN ?_ | refine Ent.res1 ?_ | refine Ent.gop_yes ?_ | refine Ent.gop_no (by decide) ?_ | refine Ent.gop_undef ?_ | refine Ent.glt_undef ?_ | refine Ent.grc_undef ?_ | refine Ent.glt_yes ?_ | refine Ent.glt_no (by decide) ?_ | refine Ent.grc_yes ?_ | refine Ent.grc_no (by decide) ?_)
      refine Ent.atL (fun w _ => hb' w) ?_
      refine Ent.runL ?_
      refine Ent.runL ?_
      rw [getD_lt hlt, getD_lt (by omega), bxor_turn]
      repeat (first | refine Ent.runW (wrap_i64 (by omega) (by omega)) ?_ | refine Ent.runWL (wrap_i64 (by omega) (by omega)) ?_ | refine Ent.runWR (wrap_i64 (by omega) (by omega)) ?_ | refine Ent.run ?_ | refine Ent.runL ?_ | refine Ent.runR ?_ | refine Ent.drawn ?_ | refine Ent.store (by kernel_rfl) ?_ | refine Ent.resN ?_ | refine Ent.res1 ?_ | refine Ent.gop_yes ?_ | refine Ent.gop_no (by decide) ?_ | refine Ent.gop_undef ?_ | refine Ent.glt_undef ?_ | refine Ent.grc_undef ?_ | refine Ent.glt_yes ?_ | refine Ent.glt_no (by decide) ?_ | refine Ent.grc_yes ?_ | refine Ent.grc_no (by decide) ?_)
      have e1 := List.take_succ_eq_append_getElem hlt
      have e2 := List.take_succ_eq_append_getElem (show i < bs.length by omega)
      refine Ent.ite (fun hne => ?_) (fun hne => ?_)
      · rw [decide_eq_false (fun h => ?_)] at hk
        · exact hk
        · subst h
          simp at hne
      · repeat (first | refine Ent.runW (wrap_i64 (by omega) (by omega)) ?_ | refine Ent.runWL (wrap_i64 (by omega) (by omega)) ?_ | refine Ent.runWR (wrap_i64 (by omega) (by omega)) ?_ | refine Ent.run ?_ | refine Ent.runL ?_ | refine Ent.runR ?_ | refine Ent.drawn ?_ | refine Ent.store (by kernel_rfl) ?_ | refine Ent.resN ?_ | refine Ent.res1 ?_ | refine Ent.gop_yes ?_ | refine Ent.gop_no (by decide) ?_ | refine Ent.gop_undef ?_ | refine Ent.glt_undef ?_ | refine Ent.grc_undef ?_ | refine Ent.glt_yes ?_ | refine Ent.glt_no (by decide) ?_ | refine Ent.grc_yes ?_ | refine Ent.grc_no (by decide) ?_)
        have := hrec (i + 1) (by omega)
        simp only [Int.natCast_add, Int.natCast_one] at this
        refine Ent.add ⟨⟨hlt, ?_⟩, fun _ => rfl⟩ this
        rw [e1, e2, List.map_append, hi.2]
        congr 2
        have : (xs[i].toNat : Int) = (turn bs[i]).toNat := by simpa using hne
        exact UInt8.toNat_inj.1 (by omega)
    · have : i = xs.length := by
        have : ¬ (i : Int) < xs.length := by simpa using hq2
        omega
      subst this
      have h := hi.2
      rw [List.take_of_length_le (by omega), List.take_of_length_le (by omega)] at h
      rw [decide_eq_true h] at hk
      exact hk
end Go.Lt
