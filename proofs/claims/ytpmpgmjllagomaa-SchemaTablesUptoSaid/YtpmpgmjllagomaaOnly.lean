/- Bytes that are read are just those that are written of the tree. Conditions: none. -/
import Derived.Test.YtpmpgmjllagomaaSenc
set_option linter.unusedVariables false
set_option maxHeartbeats 4000000
set_option linter.unusedSimpArgs false
set_option maxRecDepth 100000
namespace Go.Lt
open Go
attribute [local irreducible] op gop lt glt rc grc ite' drawn also ldR
theorem beN_cons (c : UInt8) (r : List UInt8) : beN (c :: r) = c.toNat * 256 ^ r.length + beN r := by
  have key : ∀ (r : List UInt8) (v : Nat), r.foldl (fun v c => v * 256 + c.toNat) v = v * 256 ^ r.length + r.foldl (fun v c => v * 256 + c.toNat) 0 := by
    intro r
    induction r with
    | nil => intro v; simp
    | cons d s ih =>
      intro v
      rw [List.foldl_cons, ih, List.foldl_cons, ih (0 * 256 + d.toNat), List.length_cons, Nat.pow_succ]
      rw [Nat.zero_mul, Nat.zero_add, Nat.add_mul, Nat.mul_comm (256 ^ s.length) 256, Nat.mul_assoc, Nat.add_assoc]
  unfold beN
  rw [List.foldl_cons, key]
  simp
theorem beB_mod (m : Nat) : ∀ (n v : Nat), n ≤ m → beB n (v % 256 ^ m) = beB n v
  | 0, v, _ => rfl
  | n + 1, v, h => by
    unfold beB
    rw [beB_mod m n v (by omega)]
    congr 1
    obtain ⟨k, rfl⟩ : ∃ k, m = n + (k + 1) := ⟨m - n - 1, by omega⟩
    rw [Nat.pow_add, Nat.mod_mul_right_div_self]
    refine UInt8.toNat_inj.1 ?_
    simp only [UInt8.toNat_ofNat']
    exact Nat.mod_mod_of_dvd _ ⟨256 ^ k, by rw [Nat.pow_succ, Nat.mul_comm]⟩
theorem beB_beN : ∀ (ds : List UInt8), beB ds.length (beN ds) = ds
  | [] => rfl
  | c :: r => by
    have h := beN_lt r
    rw [List.length_cons]
    unfold beB
    have hpos : 0 < 256 ^ r.length := Nat.pow_pos (by omega)
    rw [beN_cons]
    have e1 : (c.toNat * 256 ^ r.length + beN r) / 256 ^ r.length = c.toNat := by
      rw [Nat.add_comm, Nat.add_mul_div_right _ _ hpos, Nat.div_eq_of_lt h, Nat.zero_add]
    rw [e1, ← beB_mod r.length r.length _ (Nat.le_refl _)]
    have e2 : (c.toNat * 256 ^ r.length + beN r) % 256 ^ r.length = beN r := by
      rw [Nat.add_comm, Nat.add_mul_mod_self_right, Nat.mod_eq_of_lt h]
    rw [e2, beB_beN r]
    simp
theorem beI_sgn {n v : Nat} (hn : n = 1 ∨ n = 2 ∨ n = 4 ∨ n = 8) (h : v < 256 ^ n) : beI n (sgn n v) = beB n v := by
  unfold beI
  rw [← beB_mod n n ((sgn n v) % 18446744073709551616).toNat (Nat.le_refl _)]
  have e : ((sgn n v) % 18446744073709551616).toNat % 256 ^ n = v := by
    unfold sgn
    rcases hn with rfl | rfl | rfl | rfl <;> simp only [Nat.reducePow, Nat.reduceDiv] at h ⊢ <;> split <;> omega
  rw [e]
theorem beI_numAt {bs : List UInt8} {at_ n : Nat} (hn : n = 1 ∨ n = 2 ∨ n = 4 ∨ n = 8) (h : at_ + n ≤ bs.length) : beI n (numAt bs at_ n) = (bs.drop at_).take n := by
  have hl : ((bs.drop at_).take n).length = n := by simp; omega
  have h2 := beN_lt ((bs.drop at_).take n)
  rw [hl] at h2
  unfold numAt
  rw [beI_sgn hn h2]
  have := beB_beN ((bs.drop at_).take n)
  rw [hl] at this
  exact this
theorem width_ok (k : Int) : width k = 1 ∨ width k = 2 ∨ width k = 4 ∨ width k = 8 := by
  unfold width
  split
  · simp
  · split
    · simp
    · split <;> simp
theorem take_more {bs : List UInt8} {a b c : Nat} (h1 : a ≤ b) (h2 : b ≤ c) : (bs.drop a).take (b - a) ++ (bs.drop b).take (c - b) = (bs.drop a).take (c - a) := by
  have : c - a = (b - a) + (c - b) := by omega
  rw [this, List.take_add, List.drop_drop, show a + (b - a) = b by omega]
/-- What a reading says of the tree. -/
def OnlyOk (c : Cd) : Prop := ∀ (bs : List UInt8) (a : Nat) (n : Nd) (b : Nat), Cd.get bs c a = .ok (n, b) → a ≤ bs.length → bs.length ≤ 1048576 →
  a ≤ b ∧ b ≤ bs.length ∧ n.ok ∧ Cd.check c n = 0 ∧ Cd.enc c n = (bs.drop a).take (b - a)
theorem sgn_fit1 {bs : List UInt8} {a : Nat} : -128 ≤ numAt bs a 1 ∧ numAt bs a 1 ≤ 127 := by
  have h := beN_take bs a 1
  unfold numAt sgn
  simp at h ⊢
  split <;> omega
theorem num_only (k : Int) : OnlyOk (.num k) := fun bs a n b h ha hl => by
  unfold Cd.get at h
  split at h
  · cases h
  rename_i h0
  injection h with h
  obtain ⟨rfl, rfl⟩ := Prod.mk.inj h
  refine ⟨by omega, by omega, .mk (numAt_range _ _ _ (width_ok k)) (by simp) (fun x hx => by cases hx), ?_, ?_⟩
  · unfold Cd.check
    rw [if_neg (by simp [plainF, Nd.kind, Nd.num, Nd.data, Nd.null, Nd.list]), if_neg ?_]
    unfold fitsF
    simp only [Nd.num]
    split
    · rename_i h1
      have : width k = 1 := by unfold width; rw [if_pos h1]
      rw [this]
      exact fun hf => of_decide_eq_false hf sgn_fit1
    · rename_i h1
      split
      · rename_i h2
        have : width k = 2 := by unfold width; rw [if_neg h1, if_pos h2]
        rw [this]
        exact fun hf => of_decide_eq_false hf (numAt_small2 bs a)
      · rename_i h2
        split
        · rename_i h3
          have : width k = 4 := by unfold width; rw [if_neg h1, if_neg h2, if_pos h3]
          rw [this]
          exact fun hf => of_decide_eq_false hf (numAt_small4 bs a)
        · simp
  · unfold Cd.enc
    rw [show a + width k - a = width k by omega]
    exact beI_numAt (width_ok k) (by omega)
theorem numLen {bs : List UInt8} {a w : Nat} (hw : w = 1 ∨ w = 2 ∨ w = 4 ∨ w = 8) (h : a + w ≤ bs.length) {m : Nat} (hm : (m : Int) = numAt bs a w) : beI w (m : Int) = (bs.drop a).take w := by rw [hm]; exact beI_numAt hw h
theorem txt_only (k : Int) : OnlyOk (.txt k) := fun bs a n b h ha hl => by
  unfold Cd.get at h
  split at h
  · cases h
  rename_i h0
  simp only at h
  split at h
  · rename_i h1
    injection h with h
    obtain ⟨rfl, rfl⟩ := Prod.mk.inj h
    refine ⟨by omega, by omega, .mk (by omega) (by simp) (fun x hx => by cases hx), ?_, ?_⟩
    · unfold Cd.check
      rw [if_neg (by simp [plainF, Nd.kind, Nd.num, Nd.data, Nd.null, Nd.list, h1.2]), if_neg (by simp [Nd.data]), if_neg (by simp [Nd.data, utf_nil]), if_neg (by simp [Nd.data])]
    · unfold Cd.enc
      change beI 2 (-1) = _
      rw [← h1.1, show a + 2 - a = 2 by omega]
      exact beI_numAt (by decide) (by omega)
  rename_i h1
  split at h
  · cases h
  rename_i h2
  split at h
  · cases h
  rename_i h3
  split at h
  · cases h
  rename_i h4
  split at h
  · cases h
  rename_i h5
  injection h with h
  obtain ⟨rfl, rfl⟩ := Prod.mk.inj h
  have hdl : (List.take (numAt bs a 2).toNat (List.drop (a + 2) bs)).length = (numAt bs a 2).toNat := by simp; omega
  refine ⟨by omega, by omega, .mk (by omega) (by rw [hdl]; omega) (fun x hx => by cases hx), ?_, ?_⟩
  · unfold Cd.check
    rw [if_neg (by simp [plainF, Nd.kind, Nd.num, Nd.data, Nd.null, Nd.list]), if_neg (by simp [Nd.null]), if_neg (by simpa [Nd.data] using h5), if_neg (by simp only [Nd.data]; rw [hdl]; omega)]
  · unfold Cd.enc
    change beI 2 ((List.take (numAt bs a 2).toNat (List.drop (a + 2) bs)).length : Int) ++ List.take (numAt bs a 2).toNat (List.drop (a + 2) bs) = _
    rw [hdl, numLen (a := a) (w := 2) (bs := bs) (by decide) (by omega) (by omega)]
    have := take_more (bs := bs) (a := a) (b := a + 2) (c := a + 2 + (numAt bs a 2).toNat) (by omega) (by omega)
    rw [show a + 2 - a = 2 by omega, show a + 2 + (numAt bs a 2).toNat - (a + 2) = (numAt bs a 2).toNat by omega] at this
    exact this
theorem blb_only (k : Int) : OnlyOk (.blb k) := fun bs a n b h ha hl => by
  unfold Cd.get at h
  split at h
  · cases h
  rename_i h0
  simp only at h
  split at h
  · rename_i h1
    injection h with h
    obtain ⟨rfl, rfl⟩ := Prod.mk.inj h
    refine ⟨by omega, by omega, .mk (by omega) (by simp) (fun x hx => by cases hx), ?_, ?_⟩
    · unfold Cd.check
      rw [if_neg (by simp [plainF, Nd.kind, Nd.num, Nd.data, Nd.null, Nd.list, h1.2]), if_neg (by simp [Nd.data])]
    · unfold Cd.enc
      change beI 4 (-1) = _
      rw [← h1.1, show a + 4 - a = 4 by omega]
      exact beI_numAt (by decide) (by omega)
  rename_i h1
  split at h
  · cases h
  rename_i h2
  split at h
  · cases h
  rename_i h4
  injection h with h
  obtain ⟨rfl, rfl⟩ := Prod.mk.inj h
  have hdl : (List.take (numAt bs a 4).toNat (List.drop (a + 4) bs)).length = (numAt bs a 4).toNat := by simp; omega
  refine ⟨by omega, by omega, .mk (by omega) (by rw [hdl]; omega) (fun x hx => by cases hx), ?_, ?_⟩
  · unfold Cd.check
    rw [if_neg (by simp [plainF, Nd.kind, Nd.num, Nd.data, Nd.null, Nd.list]), if_neg (by simp [Nd.null])]
  · unfold Cd.enc
    change beI 4 ((List.take (numAt bs a 4).toNat (List.drop (a + 4) bs)).length : Int) ++ List.take (numAt bs a 4).toNat (List.drop (a + 4) bs) = _
    rw [hdl, numLen (a := a) (w := 4) (bs := bs) (by decide) (by omega) (by omega)]
    have := take_more (bs := bs) (a := a) (b := a + 4) (c := a + 4 + (numAt bs a 4).toNat) (by omega) (by omega)
    rw [show a + 4 - a = 4 by omega, show a + 4 + (numAt bs a 4).toNat - (a + 4) = (numAt bs a 4).toNat by omega] at this
    exact this
theorem pre_ok {x : Nd} {s : List Nd} {r : Except Int (List Nd × Nat)} {b : Nat} (h : pre [x] r = .ok (s, b)) : ∃ t, r = .ok (t, b) ∧ s = x :: t := by
  unfold pre at h
  split at h
  · cases h
  · injection h with h
    obtain ⟨rfl, rfl⟩ := Prod.mk.inj h
    exact ⟨_, rfl, rfl⟩
theorem gets_only {c : Cd} (ih : OnlyOk c) (bs : List UInt8) (hl : bs.length ≤ 1048576) : ∀ (m a : Nat) (l : List Nd) (b : Nat), getsF (Cd.get bs c) m a = .ok (l, b) → a ≤ bs.length →
    a ≤ b ∧ b ≤ bs.length ∧ l.length = m ∧ (∀ x ∈ l, x.ok) ∧ checkF (Cd.check c) l = 0 ∧ l.flatMap (Cd.enc c) = (bs.drop a).take (b - a)
  | 0, a, l, b, h, ha => by
    unfold getsF at h
    injection h with h
    obtain ⟨rfl, rfl⟩ := Prod.mk.inj h
    exact ⟨by omega, ha, rfl, fun x hx => (by cases hx), rfl, by simp⟩
  | m + 1, a, l, b, h, ha => by
    rw [getsF_succ] at h
    split at h
    · cases h
    rename_i x a1 hx
    obtain ⟨r, hr, rfl⟩ := pre_ok h
    obtain ⟨h1, h2, h3, h4, h5⟩ := ih bs a x a1 hx ha hl
    obtain ⟨h6, h7, h8, h9, h10, h11⟩ := gets_only ih bs hl m a1 r b hr h2
    refine ⟨by omega, h7, by simp [h8], fun y hy => ?_, ?_, ?_⟩
    · rcases List.mem_cons.1 hy with rfl | hy
      · exact h3
      · exact h9 y hy
    · unfold checkF
      rw [if_neg (by omega)]
      exact h10
    · rw [List.flatMap_cons, h5, h11]
      exact take_more h1 h6
theorem arr_only {c : Cd} (ih : OnlyOk c) : OnlyOk (.arr c) := fun bs a n b h ha hl => by
  unfold Cd.get at h
  split at h
  · cases h
  rename_i h0
  simp only at h
  split at h
  · cases h
  rename_i h1
  split at h
  · cases h
  rename_i h2
  split at h
  · cases h
  rename_i l b1 hg
  injection h with h
  obtain ⟨rfl, rfl⟩ := Prod.mk.inj h
  obtain ⟨h3, h4, h5, h6, h7, h8⟩ := gets_only ih bs hl _ _ l b1 hg (by omega)
  refine ⟨by omega, h4, .mk (by omega) (by simp) h6, ?_, ?_⟩
  · unfold Cd.check
    rw [if_neg (by simp [plainF, Nd.kind, Nd.num, Nd.data, Nd.null, Nd.list]), if_neg (by simp only [Nd.list]; omega)]
    exact h7
  · unfold Cd.enc
    simp only [Nd.list]
    rw [h8, numLen (a := a) (w := 4) (bs := bs) (by decide) (by omega) (by omega)]
    have := take_more (bs := bs) (a := a) (b := a + 4) (c := b1) (by omega) h3
    rw [show a + 4 - a = 4 by omega] at this
    exact this
theorem getl_only (bs : List UInt8) (hl : bs.length ≤ 1048576) : ∀ (cl : List Cd) (_ : ∀ c ∈ cl, OnlyOk c) (a : Nat) (l : List Nd) (b : Nat), Cd.getl bs cl a = .ok (l, b) → a ≤ bs.length →
    a ≤ b ∧ b ≤ bs.length ∧ l.length = cl.length ∧ (∀ x ∈ l, x.ok) ∧ Cd.checkl cl l = 0 ∧ Cd.encl cl l = (bs.drop a).take (b - a)
  | [], _, a, l, b, h, ha => by
    unfold Cd.getl at h
    injection h with h
    obtain ⟨rfl, rfl⟩ := Prod.mk.inj h
    exact ⟨by omega, ha, rfl, fun x hx => (by cases hx), rfl, by simp [Cd.encl]⟩
  | c :: r, ih, a, l, b, h, ha => by
    rw [getl_cons] at h
    split at h
    · cases h
    rename_i x a1 hx
    obtain ⟨s, hr, rfl⟩ := pre_ok h
    obtain ⟨h1, h2, h3, h4, h5⟩ := ih c List.mem_cons_self bs a x a1 hx ha hl
    obtain ⟨h6, h7, h8, h9, h10, h11⟩ := getl_only bs hl r (fun c hc => ih c (List.mem_cons_of_mem _ hc)) a1 s b hr h2
    refine ⟨by omega, h7, by simp [h8], fun y hy => ?_, ?_, ?_⟩
    · rcases List.mem_cons.1 hy with rfl | hy
      · exact h3
      · exact h9 y hy
    · unfold Cd.checkl
      rw [if_neg (by omega)]
      exact h10
    · unfold Cd.encl
      rw [h5, h11]
      exact take_more h1 h6
theorem rcd_only {cl : List Cd} (ih : ∀ c ∈ cl, OnlyOk c) : OnlyOk (.rcd cl) := fun bs a n b h ha hl => by
  unfold Cd.get at h
  split at h
  · cases h
  rename_i l b1 hg
  injection h with h
  obtain ⟨rfl, rfl⟩ := Prod.mk.inj h
  obtain ⟨h3, h4, h5, h6, h7, h8⟩ := getl_only bs hl cl ih _ l b1 hg ha
  refine ⟨h3, h4, .mk (by omega) (by simp) h6, ?_, ?_⟩
  · unfold Cd.check
    rw [if_neg (by simp [plainF, Nd.kind, Nd.num, Nd.data, Nd.null, Nd.list, h5])]
    exact h7
  · unfold Cd.enc
    exact h8
mutual
theorem only_ok : ∀ c : Cd, OnlyOk c
  | .num k => num_only k
  | .txt k => txt_only k
  | .blb k => blb_only k
  | .arr c => arr_only (only_ok c)
  | .rcd l => rcd_only (onlys_ok l)
theorem onlys_ok : ∀ (l : List Cd) (c : Cd), c ∈ l → OnlyOk c
  | [], c, h => by cases h
  | x :: r, c, h => by
    have hx := only_ok x
    rcases List.mem_cons.1 h with h' | h'
    · exact h' ▸ hx
    · exact onlys_ok r c h'
end
/-- The law: what is read is written again. -/
theorem decF_encF {fs : List Fld} {v : Int} {bs : List UInt8} {n : Nd} (h : decF fs v bs = .ok n) : n.ok ∧ encF fs v n = .ok bs := by
  unfold decF at h
  split at h
  · cases h
  rename_i h0
  split at h
  · cases h
  rename_i h1
  split at h
  · cases h
  rename_i m b hg
  split at h
  · cases h
  rename_i h2
  injection h with h
  subst h
  obtain ⟨h3, h4, h5, h6, h7⟩ := only_ok _ bs 0 m b hg (by omega) (by omega)
  refine ⟨h5, ?_⟩
  unfold encF
  have e : Cd.enc (.rcd (wholeF v fs)) m = bs := by
    rw [h7, List.drop_zero, Nat.sub_zero]
    exact List.take_of_length_le (by omega)
  rw [if_neg h0, if_neg (by omega), e, if_neg h1]
end Go.Lt
