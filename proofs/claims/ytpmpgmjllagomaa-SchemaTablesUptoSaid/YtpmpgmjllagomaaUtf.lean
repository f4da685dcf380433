/- Well-formed UTF-8, byte by byte, and the model's decoding of a string. Conditions: none. -/
import Derived.Test.YtpmpgmjllagomaaBytes
set_option linter.unusedVariables false
set_option maxHeartbeats 4000000
set_option linter.unusedSimpArgs false
set_option maxRecDepth 100000
namespace Go.Lt
open Go
attribute [local irreducible] op gop lt glt rc grc ite' drawn also ldR
def wthn (d : List UInt8) (k lo hi : Nat) : Bool := match d[k]? with
  | some x => decide (lo ≤ x.toNat) && decide (x.toNat ≤ hi)
  | none => false
/-- The length of the character at the list's head, 0 if there is none. -/
def charLen (d : List UInt8) : Nat := match d[0]? with
  | none => 0
  | some x =>
    let c := x.toNat
    let lo := if c = 240 then 144 else if c = 224 then 160 else 128
    let hi := if c = 244 then 143 else if c = 237 then 159 else 191
    if c < 128 then 1 else
    if c < 194 then 0 else if 244 < c then 0 else if wthn d 1 lo hi = false then 0 else
    if c < 224 then 2 else if wthn d 2 128 191 = false then 0 else
    if c < 240 then 3 else if wthn d 3 128 191 = false then 0 else 4
theorem charLen_le (d : List UInt8) : charLen d ≤ d.length := by
  have hw : ∀ k lo hi, wthn d k lo hi ≠ false → k < d.length := fun k lo hi h => by
    unfold wthn at h
    cases hk : d[k]? with
    | none => rw [hk] at h; exact absurd rfl h
    | some x => exact (List.getElem?_eq_some_iff.1 hk).1
  unfold charLen
  cases h0 : d[0]? with
  | none => simp
  | some x =>
    have := (List.getElem?_eq_some_iff.1 h0).1
    simp only
    repeat' split
    all_goals first | omega | (rename_i h _; have := hw _ _ _ h; omega) | (rename_i h; have := hw _ _ _ h; omega) | (rename_i h _ _; have := hw _ _ _ h; omega)
/-- utf8: the whole list is characters. -/
def utfF : Nat → List UInt8 → Bool
  | 0, d => d.isEmpty
  | f + 1, d => match d with
    | [] => true
    | _ => if charLen d = 0 then false else utfF f (d.drop (charLen d))
theorem utfF_more : ∀ (f : Nat) (d : List UInt8), d.length ≤ f → utfF f d = utfF d.length d := by
  intro f
  induction f using Nat.strongRecOn with
  | _ f ih =>
    intro d hd
    cases d with
    | nil => cases f <;> rfl
    | cons x r =>
      obtain ⟨f, rfl⟩ : ∃ m, f = m + 1 := ⟨f - 1, by simp at hd; omega⟩
      have e : (x :: r).length = r.length + 1 := rfl
      rw [e]
      unfold utfF
      by_cases h : charLen (x :: r) = 0
      · simp [h]
      · simp only [h, if_false]
        have hl : ((x :: r).drop (charLen (x :: r))).length ≤ r.length := by simp; omega
        have h1 := ih f (by omega) ((x :: r).drop (charLen (x :: r))) (by simp at hd; omega)
        rw [h1]
        rcases Nat.lt_or_ge r.length (f + 1) with hlt | hge
        · exact (ih r.length hlt _ hl).symm
        · have : r.length = f := by simp at hd; omega
          rw [this]
          exact h1.symm
def utf (d : List UInt8) : Bool := utfF d.length d
theorem utf_nil : utf [] = true := rfl
theorem utf_step (d : List UInt8) (h : d ≠ []) : utf d = if charLen d = 0 then false else utf (d.drop (charLen d)) := by
  cases d with
  | nil => exact absurd rfl h
  | cons x r =>
    show utfF (r.length + 1) (x :: r) = _
    unfold utfF
    by_cases h0 : charLen (x :: r) = 0
    · simp [h0]
    · simp only [h0, if_false]
      exact utfF_more _ _ (by simp; omega)
set_option maxHeartbeats 8000000 in
/-- What the model's decoding answers. -/
theorem decode_char (s : ByteArray) (d : List UInt8) (i : Nat) (hd : s.data.toList.drop i = d) (hne : d ≠ []) :
    (charLen d = 0 → (Utf8.decode s i).1 = 65533 ∧ ¬ ([239, 191, 189] <+: d)) ∧ (charLen d ≠ 0 → (Utf8.decode s i).2 = charLen d ∧ ((Utf8.decode s i).1 = 65533 → [239, 191, 189] <+: d)) := by
  have hi : i < s.size := by
    rcases Nat.lt_or_ge i s.size with h | h
    · exact h
    · exfalso
      apply hne
      rw [← hd]
      exact List.drop_eq_nil_of_le (by simpa using h)
  have hg : ∀ k, d[k]? = s.data.toList[i + k]? := fun k => by rw [← hd, List.getElem?_drop]
  have hget : ∀ k, i + k < s.size → s.get! (i + k) = d.getD k 0 := fun k hk => by
    rw [List.getD_eq_getElem?_getD, hg k]
    have : i + k < s.data.toList.length := by simpa using hk
    rw [List.getElem?_eq_getElem this]
    simp only [ByteArray.get!, Option.getD_some]
    rw [getElem!_pos s.data (i + k) hk]
    simp
  have hlen : d.length = s.size - i := by rw [← hd]; simp
  have hc : ∀ k, (decide (i + k < s.size) && ((s.get! (i + k)).toNat / 64 == 2)) = wthn d k 128 191 := fun k => by
    unfold wthn
    by_cases hk : i + k < s.size
    · have hk' : k < d.length := by omega
      rw [hget k hk, List.getD_eq_getElem?_getD, List.getElem?_eq_getElem hk']
      have := d[k].toNat_lt
      simp only [hk, decide_true, Bool.true_and, Option.getD_some]
      rw [Bool.eq_iff_iff]
      simp
      omega
    · have hk' : ¬ k < d.length := by omega
      rw [List.getElem?_eq_none (by omega)]
      simp [hk]
  have hw : ∀ k lo hi, wthn d k lo hi = decide (k < d.length ∧ lo ≤ (d.getD k 0).toNat ∧ (d.getD k 0).toNat ≤ hi) := fun k lo hi => by
    unfold wthn
    rw [List.getD_eq_getElem?_getD]
    by_cases hk : k < d.length
    · rw [List.getElem?_eq_getElem hk, Bool.eq_iff_iff]
      simp [hk]
    · rw [List.getElem?_eq_none (by omega)]
      simp [hk]
  have hp : [239, 191, 189] <+: d ↔ (2 < d.length ∧ (d.getD 0 0).toNat = 239 ∧ (d.getD 1 0).toNat = 191 ∧ (d.getD 2 0).toNat = 189) := by
    match d with
    | [] => simp
    | [a] => simp
    | [a, b] => simp
    | a :: b :: c :: r =>
      simp only [List.cons_prefix_cons, List.nil_prefix, and_true, List.length_cons, List.getD_cons_zero, List.getD_cons_succ]
      have e : ∀ x y : UInt8, (x = y) ↔ x.toNat = y.toNat := fun x y => UInt8.toNat_inj.symm
      rw [e, e, e]
      constructor
      · rintro ⟨h1, h2, h3⟩; exact ⟨by omega, h1.symm, h2.symm, h3.symm⟩
      · rintro ⟨_, h1, h2, h3⟩; exact ⟨h1.symm, h2.symm, h3.symm⟩
  have h0 : d[0]? = some (d.getD 0 0) := by
    have : 0 < d.length := by omega
    rw [List.getD_eq_getElem?_getD, List.getElem?_eq_getElem this]
    rfl
  have hb : ∀ k, (d.getD k 0).toNat < 256 := fun k => (d.getD k 0).toNat_lt
  have e0 : s.get! (i + 0) = d.getD 0 0 := hget 0 (by omega)
  have hb1 := hb 1
  have hb2 := hb 2
  have hb3 := hb 3
  have g1 : wthn d 1 128 191 = true → s.get! (i + 1) = d.getD 1 0 := fun h => by
    rw [hw] at h
    exact hget 1 (by have := of_decide_eq_true h; omega)
  have g2 : wthn d 2 128 191 = true → s.get! (i + 2) = d.getD 2 0 := fun h => by
    rw [hw] at h
    exact hget 2 (by have := of_decide_eq_true h; omega)
  have g3 : wthn d 3 128 191 = true → s.get! (i + 3) = d.getD 3 0 := fun h => by
    rw [hw] at h
    exact hget 3 (by have := of_decide_eq_true h; omega)
  rw [hp]
  unfold charLen Utf8.decode
  rw [h0]
  simp only [hc, e0]
  cases w1 : wthn d 1 128 191 <;> cases w2 : wthn d 2 128 191 <;> cases w3 : wthn d 3 128 191
  all_goals
    (try have e1 := g1 w1)
    (try have e2 := g2 w2)
    (try have e3 := g3 w3)
    (try rw [e1])
    (try rw [e2])
    (try rw [e3])
    rw [hw] at w1 w2 w3
    (first | (have w1 := of_decide_eq_true w1) | (have w1 := of_decide_eq_false w1))
    (first | (have w2 := of_decide_eq_true w2) | (have w2 := of_decide_eq_false w2))
    (first | (have w3 := of_decide_eq_true w3) | (have w3 := of_decide_eq_false w3))
    unfold Utf8.valid Utf8.runeError
    simp only [hw, Bool.and_true, Bool.and_false, Bool.false_eq_true, if_false, reduceCtorEq, if_true]
    clear hw hc hget hg hp h0 e0 g1 g2 g3 hb hd hne
    (try clear e1)
    (try clear e2)
    (try clear e3)
    generalize (d.getD 0 0).toNat = b0 at *
    generalize (d.getD 1 0).toNat = b1 at *
    generalize (d.getD 2 0).toNat = b2 at *
    generalize (d.getD 3 0).toNat = b3 at *
    generalize d.length = n at *
    have hn : 0 < n := by omega
    refine ⟨fun h => ?_, fun h => ?_⟩
    all_goals
      revert h
      simp only [Bool.and_eq_true, Bool.or_eq_true, decide_eq_true_eq, decide_eq_false_iff_not, beq_iff_eq]
      repeat' split
      all_goals (first | (exfalso; apply ‹¬True›; trivial) | skip)
      all_goals (intro h; first | omega | (refine ⟨?_, ?_⟩ <;> first | omega | (intro h'; omega)))
end Go.Lt
