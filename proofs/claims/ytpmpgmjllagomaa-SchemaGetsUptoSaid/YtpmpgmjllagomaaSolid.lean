/- A tree that is read has no more nodes than its bytes bear. Conditions: none. -/
import Derived.Test.YtpmpgmjllagomaaLists
import Derived.Test.YtpmpgmjllagomaaOnly
import Derived.Test.YtpmpgmjllagomaaStab
set_option linter.unusedVariables false
set_option maxHeartbeats 4000000
set_option linter.unusedSimpArgs false
set_option maxRecDepth 100000
namespace Go.Lt
open Go
attribute [local irreducible] op gop lt glt rc grc ite' drawn also ldR
def SolidC (k : Nat) (c : Cd) : Prop := ∀ (bs : List UInt8) (a : Nat) (n : Nd) (b : Nat), Cd.get bs c a = .ok (n, b) → a < b ∧ n.flat.length ≤ k * (b - a)
theorem SolidC.mono {k k' : Nat} {c : Cd} (h : SolidC k c) (hk : k ≤ k') : SolidC k' c := fun bs a n b hg => by
  obtain ⟨h1, h2⟩ := h bs a n b hg
  exact ⟨h1, Nat.le_trans h2 (Nat.mul_le_mul_right _ hk)⟩
theorem flat_leaf (k m : Int) (b : Bool) (d : List UInt8) : (Nd.mk k m b d []).flat.length = 1 := by simp [Nd.flat, flatL]
theorem one_mul_le {k x : Nat} (hk : 1 ≤ k) (hx : 1 ≤ x) : 1 ≤ k * x := Nat.mul_pos hk hx
theorem solid_num {k : Nat} (hk : 1 ≤ k) (kd : Int) : SolidC k (.num kd) := fun bs a n b h => by
  unfold Cd.get at h
  split at h
  · cases h
  injection h with h
  obtain ⟨rfl, rfl⟩ := Prod.mk.inj h
  have : 1 ≤ width kd := by rcases width_ok kd with h | h | h | h <;> omega
  exact ⟨by omega, by rw [flat_leaf]; exact one_mul_le hk (by omega)⟩
theorem solid_txt {k : Nat} (hk : 1 ≤ k) (kd : Int) : SolidC k (.txt kd) := fun bs a n b h => by
  unfold Cd.get at h
  split at h
  · cases h
  simp only at h
  split at h
  · injection h with h
    obtain ⟨rfl, rfl⟩ := Prod.mk.inj h
    exact ⟨by omega, by rw [flat_leaf]; exact one_mul_le hk (by omega)⟩
  split at h
  · cases h
  split at h
  · cases h
  split at h
  · cases h
  split at h
  · cases h
  injection h with h
  obtain ⟨rfl, rfl⟩ := Prod.mk.inj h
  exact ⟨by omega, by rw [flat_leaf]; exact one_mul_le hk (by omega)⟩
theorem solid_blb {k : Nat} (hk : 1 ≤ k) (kd : Int) : SolidC k (.blb kd) := fun bs a n b h => by
  unfold Cd.get at h
  split at h
  · cases h
  simp only at h
  split at h
  · injection h with h
    obtain ⟨rfl, rfl⟩ := Prod.mk.inj h
    exact ⟨by omega, by rw [flat_leaf]; exact one_mul_le hk (by omega)⟩
  split at h
  · cases h
  split at h
  · cases h
  injection h with h
  obtain ⟨rfl, rfl⟩ := Prod.mk.inj h
  exact ⟨by omega, by rw [flat_leaf]; exact one_mul_le hk (by omega)⟩
theorem flat_node (k m : Int) (b : Bool) (d : List UInt8) (l : List Nd) : (Nd.mk k m b d l).flat.length = 1 + (flatL l).length := by unfold Nd.flat; simp; omega
theorem solid_gets {k : Nat} {c : Cd} (hc : SolidC k c) (bs : List UInt8) : ∀ (m a : Nat) (l : List Nd) (b : Nat), getsF (Cd.get bs c) m a = .ok (l, b) → a ≤ b ∧ (flatL l).length ≤ k * (b - a)
  | 0, a, l, b, h => by
    unfold getsF at h
    injection h with h
    obtain ⟨rfl, rfl⟩ := Prod.mk.inj h
    exact ⟨Nat.le_refl _, by simp [flatL]⟩
  | m + 1, a, l, b, h => by
    rw [getsF_succ] at h
    split at h
    · cases h
    rename_i x a1 hx
    obtain ⟨r, hr, rfl⟩ := pre_ok h
    obtain ⟨h1, h2⟩ := hc bs a x a1 hx
    obtain ⟨h3, h4⟩ := solid_gets hc bs m a1 r b hr
    refine ⟨by omega, ?_⟩
    unfold flatL
    rw [List.length_append, show b - a = (a1 - a) + (b - a1) by omega, Nat.mul_add]
    omega
theorem solid_getl {k : Nat} (bs : List UInt8) : ∀ (cl : List Cd) (_ : ∀ c ∈ cl, SolidC k c) (a : Nat) (l : List Nd) (b : Nat), Cd.getl bs cl a = .ok (l, b) → a ≤ b ∧ (cl ≠ [] → a < b) ∧ (flatL l).length ≤ k * (b - a)
  | [], _, a, l, b, h => by
    unfold Cd.getl at h
    injection h with h
    obtain ⟨rfl, rfl⟩ := Prod.mk.inj h
    exact ⟨Nat.le_refl _, fun h => absurd rfl h, by simp [flatL]⟩
  | c :: r, ih, a, l, b, h => by
    rw [getl_cons] at h
    split at h
    · cases h
    rename_i x a1 hx
    obtain ⟨s, hr, rfl⟩ := pre_ok h
    obtain ⟨h1, h2⟩ := ih c List.mem_cons_self bs a x a1 hx
    obtain ⟨h3, _, h4⟩ := solid_getl bs r (fun c hc => ih c (List.mem_cons_of_mem _ hc)) a1 s b hr
    refine ⟨by omega, fun _ => by omega, ?_⟩
    unfold flatL
    rw [List.length_append, show b - a = (a1 - a) + (b - a1) by omega, Nat.mul_add]
    omega
theorem solid_arr {k : Nat} {c : Cd} (hc : SolidC k c) : SolidC (k + 1) (.arr c) := fun bs a n b h => by
  unfold Cd.get at h
  split at h
  · cases h
  simp only at h
  split at h
  · cases h
  split at h
  · cases h
  split at h
  · cases h
  rename_i l b1 hg
  injection h with h
  obtain ⟨rfl, rfl⟩ := Prod.mk.inj h
  obtain ⟨h1, h2⟩ := solid_gets hc bs _ _ l b1 hg
  refine ⟨by omega, ?_⟩
  rw [flat_node, Nat.succ_mul]
  have : k * (b1 - (a + 4)) ≤ k * (b1 - a) := Nat.mul_le_mul_left _ (by omega)
  omega
theorem solid_rcd {k : Nat} {cl : List Cd} (hne : cl ≠ []) (hc : ∀ c ∈ cl, SolidC k c) : SolidC (k + 1) (.rcd cl) := fun bs a n b h => by
  unfold Cd.get at h
  split at h
  · cases h
  rename_i l b1 hg
  injection h with h
  obtain ⟨rfl, rfl⟩ := Prod.mk.inj h
  obtain ⟨h1, h2, h3⟩ := solid_getl bs cl hc a l b1 hg
  have := h2 hne
  refine ⟨this, ?_⟩
  rw [flat_node, Nat.succ_mul]
  omega
theorem here_range {f : Fld} {v : Int} (h : hereF f v = true) : f.frm ≤ v ∧ v ≤ f.to := by
  unfold hereF at h
  simpa using h
mutual
theorem solid_fld (v : Int) : ∀ (f : Fld) (d : Nat), f.good d → 1 ≤ d → d ≤ 9 → hereF f v = true → SolidC (10 - d) (compileF v f)
  | .mk n k a b e, d, h, hd1, hd9, hv => by
    rw [good_eq] at h
    have hr := here_range hv
    simp only [Fld.frm, Fld.to] at hr
    unfold compileF
    obtain ⟨_, ⟨h1, h2, h3⟩ | ⟨h1, ⟨_, h16, hd8, _, _, h4⟩, h5⟩⟩ := h
    · split
      · exact solid_txt (by omega) k
      · split
        · exact solid_blb (by omega) k
        · rw [if_neg (by omega), if_neg (by omega)]
          exact solid_num (by omega) k
    · rw [if_neg (by rcases h1 with h1 | h1 <;> omega), if_neg (by rcases h1 with h1 | h1 <;> omega)]
      have ih := solid_flds v e (d + 1) h4 (by omega) (by omega)
      have hne := h5 v hr.1 hr.2
      split
      · rename_i h9
        obtain ⟨e0, rfl⟩ : ∃ x, e = [x] := List.length_eq_one_iff.1 (by rcases h1 with h1 | h1 <;> omega)
        have h0 : hereF e0 v = true := by
          unfold hereL at hne
          cases hh : hereF e0 v with
          | true => rfl
          | false => simp [hh] at hne
        rw [show 10 - d = (10 - (d + 1)) + 1 by omega]
        exact solid_arr (by simpa [firstF] using ih e0 (by simp) h0)
      · rw [if_pos (by rcases h1 with h1 | h1 <;> omega), wholeF_map]
        rw [show 10 - d = (10 - (d + 1)) + 1 by omega]
        refine solid_rcd (fun h => hne (List.map_eq_nil_iff.1 h)) fun c hc => ?_
        obtain ⟨f, hf, rfl⟩ := List.mem_map.1 hc
        obtain ⟨hf1, hf2⟩ := List.mem_filter.1 hf
        exact ih f hf1 hf2
theorem solid_flds (v : Int) : ∀ (l : List Fld) (d : Nat), goods d l → 1 ≤ d → d ≤ 9 → ∀ f ∈ l, hereF f v = true → SolidC (10 - d) (compileF v f)
  | [], d, h, _, _, f, hf, _ => by cases hf
  | x :: r, d, h, hd1, hd9, f, hf, hv => by
    unfold goods at h
    have hx := solid_fld v x d h.1 hd1 hd9
    have hr := solid_flds v r d h.2 hd1 hd9
    rcases List.mem_cons.1 hf with h' | h'
    · subst h'
      exact hx hv
    · exact hr f h' hv
end
/-- What Decode answers has few nodes. -/
theorem decF_small {fs : List Fld} {v : Int} {bs : List UInt8} {n : Nd} (h : decF fs v bs = .ok n) : n.flat.length ≤ 2000000 := by
  unfold decF at h
  split at h
  · cases h
  rename_i h0
  split at h
  · cases h
  rename_i h1
  split at h
  · cases h
  rename_i m b hg
  split at h
  · cases h
  injection h with h
  subst h
  have htab : tabOk 1 fs := by
    have h0 : beginE fs v = 0 := Decidable.not_not.1 h0
    unfold beginE tabE at h0
    split at h0
    · cases h0
    · split at h0
      · assumption
      · cases h0
  have hb := (only_ok _ bs 0 m b hg (by omega) (by omega)).2.1
  unfold Cd.get at hg
  split at hg
  · cases hg
  rename_i l b1 hl
  injection hg with hg
  obtain ⟨rfl, rfl⟩ := Prod.mk.inj hg
  rw [wholeF_map] at hl
  obtain ⟨h2, _, h3⟩ := solid_getl (k := 9) bs _ (fun c hc => by
    obtain ⟨f, hf, rfl⟩ := List.mem_map.1 hc
    obtain ⟨hf1, hf2⟩ := List.mem_filter.1 hf
    exact solid_flds v fs 1 htab.2.2.2.2.2 (by omega) (by omega) f hf1 hf2) 0 l b1 hl
  rw [flat_node]
  omega
mutual
theorem flat_ok : ∀ (n : Nd), n.ok → ∀ d ∈ n.flat, d.length ≤ 1048576
  | .mk k m b d l, h, x, hx => by
    cases h with
    | mk h1 h2 h3 =>
      unfold Nd.flat at hx
      rcases List.mem_cons.1 hx with h' | h'
      · rw [h']; exact h2
      · exact flats_ok l h3 x h'
theorem flats_ok : ∀ (l : List Nd), (∀ x ∈ l, x.ok) → ∀ d ∈ flatL l, d.length ≤ 1048576
  | [], _, d, hd => by simp [flatL] at hd
  | x :: r, h, d, hd => by
    unfold flatL at hd
    rcases List.mem_append.1 hd with h' | h'
    · exact flat_ok x (h x List.mem_cons_self) d h'
    · exact flats_ok r (fun y hy => h y (List.mem_cons_of_mem _ hy)) d h'
end
end Go.Lt
