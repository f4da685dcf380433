/- Bytes in memory: read, or one's own. Conditions: none. -/
import Derived.Test.YtpmpgmjllagomaaSteps
set_option linter.unusedVariables false
set_option linter.unusedSimpArgs false
namespace Go.Lt
open Go
abbrev u8 (b : UInt8) : Value := .int .u8 (b.toNat : Int)
/-- v reads as bs in a frozen heaplet. -/
def rdB (x : HL) (v : Value) (bs : List UInt8) : Prop := ∃ A c, v = .slice A bs.length c ∧ bs.length ≤ c ∧ c ≤ maxLen ∧ (bs = [] ∨ ∃ b o, A = some ⟨b, o, none⟩ ∧ ∀ i u, bs[i]? = some u → hcell x ⟨b, o + i, none⟩ (u8 u))
def ownB (e : TypeId) (v : Value) (bs : List UInt8) : HP := row e 1 v bs.length (bs.map u8)
theorem ownB_rd {e : TypeId} {v : Value} {bs : List UInt8} {x : HL} (h : ownB e v bs x) : rdB x v bs := by
  obtain ⟨h1, ⟨rfl, h2, h3⟩ | ⟨g, cap, cur, rfl, h2, h3, h4, h5, h6⟩⟩ := h
  · have : bs = [] := List.eq_nil_of_length_eq_zero h2
    subst this
    exact ⟨none, 0, rfl, by simp, by simp [maxLen], .inl rfl⟩
  · refine ⟨_, cap, rfl, h2, h3, .inr ⟨g, 0, rfl, fun i u hu => ⟨cur, e, (0, 0), by rw [h6]; simp [one], rfl, ?_⟩⟩⟩
    have : (cur.toList.take (bs.length * 1))[i]? = some (u8 u) := by rw [h5]; simp [hu]
    rw [List.getElem?_take] at this
    split at this
    · simpa using this
    · cases this
/-- p holds bytes that v reads as. -/
def RdB (p : List HP) (v : Value) (bs : List UInt8) : Prop := ∃ A c, v = .slice A bs.length c ∧ bs.length ≤ c ∧ c ≤ maxLen ∧ (bs = [] ∨ ∃ b o, A = some ⟨b, o, none⟩ ∧ ∀ w0 w, Sat p w0 w → ∀ i u, bs[i]? = some u → w.cell? ⟨b, o + i, none⟩ = some (u8 u))
theorem RdB.here {x : HL} {v : Value} {bs : List UInt8} {p : List HP} (h : rdB x v bs) : RdB (exact x :: p) v bs := by
  obtain ⟨A, c, h1, h2, h3, h4⟩ := h
  refine ⟨A, c, h1, h2, h3, h4.imp id fun ⟨b, o, h5, h6⟩ => ⟨b, o, h5, fun w0 w hs i u hu => ?_⟩⟩
  obtain ⟨y, hy, hsub⟩ := hs.head
  cases hy
  exact (h6 i u hu).world hsub
theorem RdB.skip {a : HP} {v : Value} {bs : List UInt8} {p : List HP} (h : RdB p v bs) : RdB (a :: p) v bs := by
  obtain ⟨A, c, h1, h2, h3, h4⟩ := h
  exact ⟨A, c, h1, h2, h3, h4.imp id fun ⟨b, o, h5, h6⟩ => ⟨b, o, h5, fun w0 w hs i u hu => h6 w0 w hs.drop i u hu⟩⟩
theorem RdB.sub {A : Option Addr} {n c : Nat} {bs : List UInt8} {p : List HP} (h : RdB p (.slice A n c) bs) {l m : Nat} (h1 : l ≤ m) (h2 : m ≤ n) : RdB p (.slice (subA 1 A c l) (m - l) (c - l)) ((bs.drop l).take (m - l)) := by
  obtain ⟨A', c', h3, h4, h5, h6⟩ := h
  injection h3 with e1 e2 e3
  subst e1; subst e2; subst e3
  have hl : ((bs.drop l).take (m - l)).length = m - l := by simp; omega
  refine ⟨_, _, by rw [hl], by rw [hl]; omega, by omega, ?_⟩
  rcases h6 with h6 | ⟨b, o, rfl, h7⟩
  · left; simp [h6]
  · by_cases hc : c = l
    · left
      have : m - l = 0 := by omega
      rw [this]
      simp
    · right
      refine ⟨b, o + l, by simp [subA, hc, add_none], fun w0 w hs i u hu => ?_⟩
      rw [List.getElem?_take] at hu
      split at hu
      · rw [List.getElem?_drop] at hu
        have := h7 w0 w hs (l + i) u hu
        rwa [← Nat.add_assoc] at this
      · cases hu
/-- A byte of it. -/
theorem RdB.at {P : Program} {t e n c : Nat} {A : Option Addr} {bs : List UInt8} {p : List HP} {z : Value} [ht : SlE P t e] [hz : Zero P e z 1] (h : RdB p (.slice A n c) bs) {k : IntKind} {i : Int} (h0 : 0 ≤ i) (h1 : i < n) :
    ∃ a : Addr, (∀ w, (S.ia t (.slice A n c) (.int k i)).run P w = .ok (.value (.pointer (some a))) w) ∧ LoadAt p a (u8 (bs.getD i.toNat 0)) := by
  obtain ⟨A', c', h3, h4, h5, h6⟩ := h
  injection h3 with e1 e2 e3
  subst e1; subst e2; subst e3
  rcases h6 with h6 | ⟨b, o, rfl, h7⟩
  · subst h6; simp at h1; omega
  · refine ⟨_, fun w => ia_run h0 h1, ⟨fun w0 w hs => ?_⟩⟩
    rw [add_none, Nat.mul_one]
    refine h7 w0 w hs i.toNat _ ?_
    rw [List.getD_eq_getElem?_getD, List.getElem?_eq_getElem (by omega)]
    rfl
end Go.Lt
