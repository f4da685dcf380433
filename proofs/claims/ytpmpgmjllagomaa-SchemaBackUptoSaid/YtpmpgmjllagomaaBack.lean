/- What is written is read back; cut by a byte it is short; a byte more is left. Conditions: none. -/
import Derived.Test.YtpmpgmjllagomaaOnly
set_option linter.unusedVariables false
set_option maxHeartbeats 4000000
set_option linter.unusedSimpArgs false
set_option maxRecDepth 100000
namespace Go.Lt
open Go
attribute [local irreducible] op gop lt glt rc grc ite' drawn also ldR
theorem beN_beB (n : Nat) : ∀ v, beN (beB n v) = v % 256 ^ n := by
  induction n with
  | zero => intro v; simp [beB, beN, Nat.mod_one]
  | succ n ih =>
    intro v
    unfold beB
    rw [beN_cons, beB_length, ih]
    have : (UInt8.ofNat (v / 256 ^ n)).toNat = v / 256 ^ n % 256 := by simp
    rw [this, Nat.pow_succ, Nat.mod_mul, Nat.add_comm, Nat.mul_comm]
theorem sgn_back {w : Nat} {a : Int} (hw : w = 1 ∨ w = 2 ∨ w = 4 ∨ w = 8) (h1 : -((256 ^ w / 2 : Nat) : Int) ≤ a) (h2 : a < ((256 ^ w / 2 : Nat) : Int)) : sgn w ((a % 18446744073709551616).toNat % 256 ^ w) = a := by
  unfold sgn
  rcases hw with rfl | rfl | rfl | rfl <;> simp only [Nat.reducePow, Nat.reduceDiv] at h1 h2 ⊢ <;> split <;> omega
theorem numAt_back {pre post : List UInt8} {w : Nat} {a : Int} (hw : w = 1 ∨ w = 2 ∨ w = 4 ∨ w = 8) (h1 : -((256 ^ w / 2 : Nat) : Int) ≤ a) (h2 : a < ((256 ^ w / 2 : Nat) : Int)) : numAt (pre ++ beI w a ++ post) pre.length w = a := by
  unfold numAt
  have : ((pre ++ beI w a ++ post).drop pre.length).take w = beI w a := by
    rw [List.append_assoc, List.drop_left, List.take_left' (beI_length _ _)]
  rw [this]
  unfold beI
  rw [beN_beB, sgn_back hw h1 h2]
theorem numAt_cut {pre : List UInt8} {rest : List UInt8} {w m : Nat} {a : Int} (hw : w = 1 ∨ w = 2 ∨ w = 4 ∨ w = 8) (h1 : -((256 ^ w / 2 : Nat) : Int) ≤ a) (h2 : a < ((256 ^ w / 2 : Nat) : Int)) (hm : w ≤ m) : numAt (pre ++ (beI w a ++ rest).take m) pre.length w = a := by
  have : (beI w a ++ rest).take m = beI w a ++ rest.take (m - w) := by
    rw [List.take_append, beI_length, List.take_of_length_le (by rw [beI_length]; exact hm)]
  rw [this, ← List.append_assoc]
  exact numAt_back hw h1 h2
def BackOk (c : Cd) : Prop := ∀ (n : Nd), n.ok → Cd.check c n = 0 → (∀ pre post, Cd.get (pre ++ Cd.enc c n ++ post) c pre.length = .ok (n, pre.length + (Cd.enc c n).length)) ∧
  (∀ pre m, m < (Cd.enc c n).length → Cd.get (pre ++ (Cd.enc c n).take m) c pre.length = .error 1)
theorem plain_parts {n : Nd} {k : Int} {b2 b3 b4 b5 : Bool} (h : plainF n k b2 b3 b4 b5 = true) : n.kind = k ∧ (b2 = false → n.num = 0) ∧ (b3 = false → n.data = []) ∧ (b4 = false → n.null = false) ∧ (b5 = false → n.list = []) := by
  unfold plainF at h
  simp only [Bool.and_eq_true, Bool.or_eq_true, beq_iff_eq] at h
  obtain ⟨⟨⟨⟨h1, h2⟩, h3⟩, h4⟩, h5⟩ := h
  refine ⟨h1, fun hb => ?_, fun hb => ?_, fun hb => ?_, fun hb => ?_⟩
  · rcases h2 with h | h
    · rw [hb] at h; cases h
    · exact h
  · rcases h3 with h | h
    · rw [hb] at h; cases h
    · exact List.eq_nil_of_length_eq_zero h
  · rcases h4 with h | h
    · rw [hb] at h; cases h
    · simpa using h
  · rcases h5 with h | h
    · rw [hb] at h; cases h
    · exact List.eq_nil_of_length_eq_zero h
theorem Nd.eta (n : Nd) : n = .mk n.kind n.num n.null n.data n.list := by cases n; rfl
theorem fits_width {k a : Int} (hf : fitsF k a = true) (ha : -9223372036854775808 ≤ a ∧ a ≤ 9223372036854775807) : -((256 ^ width k / 2 : Nat) : Int) ≤ a ∧ a < ((256 ^ width k / 2 : Nat) : Int) := by
  unfold fitsF at hf
  unfold width
  split at hf
  · rename_i h
    rw [if_pos h]
    have := of_decide_eq_true hf
    simp only [Nat.reducePow, Nat.reduceDiv]
    omega
  · rename_i h
    rw [if_neg h]
    split at hf
    · rename_i h
      rw [if_pos h]
      have := of_decide_eq_true hf
      simp only [Nat.reducePow, Nat.reduceDiv]
      omega
    · rename_i h
      rw [if_neg h]
      split at hf
      · rename_i h
        rw [if_pos h]
        have := of_decide_eq_true hf
        simp only [Nat.reducePow, Nat.reduceDiv]
        omega
      · rename_i h
        rw [if_neg h]
        simp only [Nat.reducePow, Nat.reduceDiv]
        omega
theorem num_back (k : Int) : BackOk (.num k) := fun n hok hc => by
  have hnum : -9223372036854775808 ≤ n.num ∧ n.num ≤ 9223372036854775807 := by cases hok; assumption
  unfold Cd.check at hc
  split at hc
  · omega
  rename_i h1
  split at hc
  · omega
  rename_i h2
  have h1 : plainF n k true false false false = true := by simpa using h1
  have h2 : fitsF k n.num = true := by simpa using h2
  obtain ⟨e1, _, e3, e4, e5⟩ := plain_parts h1
  obtain ⟨h3, h4⟩ := fits_width h2 hnum
  refine ⟨fun pre post => ?_, fun pre m hm => ?_⟩
  · unfold Cd.get Cd.enc
    rw [if_neg (by simp [beI_length]), numAt_back (width_ok k) h3 h4, beI_length]
    conv => rhs; rw [Nd.eta n, e1, e3 rfl, e4 rfl, e5 rfl]
  · unfold Cd.enc at hm ⊢
    rw [beI_length] at hm
    unfold Cd.get
    rw [if_pos (by simp [beI_length]; omega)]
theorem str_back {w : Nat} {d : List UInt8} (hw : w = 2 ∨ w = 4) (hd : d.length < 256 ^ w / 2) :
    (∀ pre post, numAt (pre ++ (beI w (d.length : Int) ++ d) ++ post) pre.length w = d.length ∧ ¬ (pre ++ (beI w (d.length : Int) ++ d) ++ post).length - pre.length < w ∧ ((pre ++ (beI w (d.length : Int) ++ d) ++ post).drop (pre.length + w)).take d.length = d) := by
  intro pre post
  have hl := beI_length w (d.length : Int)
  refine ⟨?_, ?_, ?_⟩
  · rw [← List.append_assoc, List.append_assoc (pre ++ _)]
    exact numAt_back (by omega) (by omega) (by omega)
  · simp only [List.length_append, hl]
    omega
  · rw [← List.append_assoc, List.append_assoc (pre ++ _), List.drop_left' (by rw [List.length_append, hl]), List.take_left]
theorem txt_back (k : Int) : BackOk (.txt k) := fun n hok hc => by
  unfold Cd.check at hc
  split at hc
  · omega
  rename_i h1
  split at hc
  · omega
  rename_i h2
  split at hc
  · omega
  rename_i h3
  split at hc
  · omega
  rename_i h4
  have h1 : plainF n k false true (decide (k = 6)) false = true := by simpa using h1
  obtain ⟨e1, e2, _, e4, e5⟩ := plain_parts h1
  have eta : n = .mk k 0 n.null n.data [] := by
    conv => lhs; rw [Nd.eta n, e1, e2 rfl, e5 rfl]
  cases hnl : n.null with
  | true =>
    have hk : k = 6 := Decidable.byContradiction fun hk => by
      have := e4 (decide_eq_false hk)
      rw [hnl] at this; cases this
    have hd : n.data = [] := List.eq_nil_of_length_eq_zero (by
      have : ¬ 0 < n.data.length := fun h => h2 ⟨hnl, h⟩
      omega)
    have he : Cd.enc (.txt k) n = beI 2 (-1) := by unfold Cd.enc; rw [if_pos hnl]
    rw [he, beI_length]
    refine ⟨fun pre post => ?_, fun pre m hm => ?_⟩
    · unfold Cd.get
      rw [if_neg (by simp [beI_length])]
      simp only
      rw [numAt_back (by decide) (by decide) (by decide), if_pos ⟨rfl, hk⟩]
      rw [eta, hnl, hd]
    · unfold Cd.get
      rw [if_pos (by simp [beI_length]; omega)]
  | false =>
    have he : Cd.enc (.txt k) n = beI 2 n.data.length ++ n.data := by unfold Cd.enc; rw [if_neg (by rw [hnl]; decide)]
    rw [he]
    have hlen : (beI 2 (n.data.length : Int) ++ n.data).length = 2 + n.data.length := by rw [List.length_append, beI_length]
    refine ⟨fun pre post => ?_, fun pre m hm => ?_⟩
    · obtain ⟨s1, s2, s3⟩ := str_back (w := 2) (d := n.data) (.inl rfl) (by simp only [Nat.reducePow, Nat.reduceDiv]; omega) pre post
      unfold Cd.get
      rw [if_neg s2]
      simp only
      rw [s1, if_neg (by omega), if_neg (by omega), if_neg (by omega), Int.toNat_natCast, s3, if_neg (by simp only [List.length_append, beI_length]; omega), if_neg h3, hlen]
      rw [← Nat.add_assoc]
      have : Nd.mk k 0 false n.data [] = n := by
        conv => rhs; rw [eta, hnl]
      rw [this]
    · unfold Cd.get
      rw [hlen] at hm
      have hml : (pre ++ (beI 2 (n.data.length : Int) ++ n.data).take m).length = pre.length + m := by
        rw [List.length_append, List.length_take, hlen]; omega
      by_cases hm2 : m < 2
      · rw [if_pos (by omega)]
      · rw [if_neg (by omega)]
        simp only
        rw [numAt_cut (by decide) (by simp only [Nat.reducePow, Nat.reduceDiv]; omega) (by simp only [Nat.reducePow, Nat.reduceDiv]; omega) (by omega), if_neg (by omega), if_neg (by omega), if_neg (by omega), Int.toNat_natCast, if_pos (by omega)]
theorem blb_back (k : Int) : BackOk (.blb k) := fun n hok hc => by
  have hdl : n.data.length ≤ 1048576 := by cases hok; assumption
  unfold Cd.check at hc
  split at hc
  · omega
  rename_i h1
  split at hc
  · omega
  rename_i h2
  have h1 : plainF n k false true (decide (k = 8)) false = true := by simpa using h1
  obtain ⟨e1, e2, _, e4, e5⟩ := plain_parts h1
  have eta : n = .mk k 0 n.null n.data [] := by
    conv => lhs; rw [Nd.eta n, e1, e2 rfl, e5 rfl]
  cases hnl : n.null with
  | true =>
    have hk : k = 8 := Decidable.byContradiction fun hk => by
      have := e4 (decide_eq_false hk)
      rw [hnl] at this; cases this
    have hd : n.data = [] := List.eq_nil_of_length_eq_zero (by
      have : ¬ 0 < n.data.length := fun h => h2 ⟨hnl, h⟩
      omega)
    have he : Cd.enc (.blb k) n = beI 4 (-1) := by unfold Cd.enc; rw [if_pos hnl]
    rw [he, beI_length]
    refine ⟨fun pre post => ?_, fun pre m hm => ?_⟩
    · unfold Cd.get
      rw [if_neg (by simp [beI_length])]
      simp only
      rw [numAt_back (by decide) (by decide) (by decide), if_pos ⟨rfl, hk⟩]
      rw [eta, hnl, hd]
    · unfold Cd.get
      rw [if_pos (by simp [beI_length]; omega)]
  | false =>
    have he : Cd.enc (.blb k) n = beI 4 n.data.length ++ n.data := by unfold Cd.enc; rw [if_neg (by rw [hnl]; decide)]
    rw [he]
    have hlen : (beI 4 (n.data.length : Int) ++ n.data).length = 4 + n.data.length := by rw [List.length_append, beI_length]
    refine ⟨fun pre post => ?_, fun pre m hm => ?_⟩
    · obtain ⟨s1, s2, s3⟩ := str_back (w := 4) (d := n.data) (.inr rfl) (by simp only [Nat.reducePow, Nat.reduceDiv]; omega) pre post
      unfold Cd.get
      rw [if_neg s2]
      simp only
      rw [s1, if_neg (by omega), if_neg (by omega), Int.toNat_natCast, s3, if_neg (by simp only [List.length_append, beI_length]; omega), hlen]
      rw [← Nat.add_assoc]
      have : Nd.mk k 0 false n.data [] = n := by
        conv => rhs; rw [eta, hnl]
      rw [this]
    · unfold Cd.get
      rw [hlen] at hm
      have hml : (pre ++ (beI 4 (n.data.length : Int) ++ n.data).take m).length = pre.length + m := by
        rw [List.length_append, List.length_take, hlen]; omega
      by_cases hm2 : m < 4
      · rw [if_pos (by omega)]
      · rw [if_neg (by omega)]
        simp only
        rw [numAt_cut (by decide) (by simp only [Nat.reducePow, Nat.reduceDiv]; omega) (by simp only [Nat.reducePow, Nat.reduceDiv]; omega) (by omega), if_neg (by omega), if_neg (by omega), Int.toNat_natCast, if_pos (by omega)]
theorem cut_app {x y : List UInt8} {m : Nat} (h : x.length ≤ m) : (x ++ y).take m = x ++ y.take (m - x.length) := by
  rw [List.take_append, List.take_of_length_le h]
theorem cut_app' {x y : List UInt8} {m : Nat} (h : m < x.length) : (x ++ y).take m = x.take m := by
  rw [List.take_append, show m - x.length = 0 by omega, List.take_zero, List.append_nil]
theorem gets_back {c : Cd} (ih : BackOk c) : ∀ (l : List Nd), (∀ x ∈ l, x.ok) → checkF (Cd.check c) l = 0 →
    (∀ pre post, getsF (Cd.get (pre ++ l.flatMap (Cd.enc c) ++ post) c) l.length pre.length = .ok (l, pre.length + (l.flatMap (Cd.enc c)).length)) ∧
    (∀ pre m, m < (l.flatMap (Cd.enc c)).length → getsF (Cd.get (pre ++ (l.flatMap (Cd.enc c)).take m) c) l.length pre.length = .error 1)
  | [], _, _ => ⟨fun pre post => by simp [getsF], fun pre m hm => by simp at hm⟩
  | x :: r, hok, hc => by
    unfold checkF at hc
    split at hc
    · rename_i h; exact absurd hc h
    rename_i h
    have hx0 : Cd.check c x = 0 := Decidable.not_not.1 h
    obtain ⟨h1, h2⟩ := ih x (hok x List.mem_cons_self) hx0
    obtain ⟨h3, h4⟩ := gets_back ih r (fun y hy => hok y (List.mem_cons_of_mem _ hy)) hc
    refine ⟨fun pre post => ?_, fun pre m hm => ?_⟩
    · rw [List.flatMap_cons, List.length_cons]
      unfold getsF
      have e1 := h1 pre (r.flatMap (Cd.enc c) ++ post)
      rw [show pre ++ (Cd.enc c x ++ r.flatMap (Cd.enc c)) ++ post = pre ++ Cd.enc c x ++ (r.flatMap (Cd.enc c) ++ post) by simp [List.append_assoc]]
      rw [e1]
      simp only
      have e2 := h3 (pre ++ Cd.enc c x) post
      rw [List.length_append] at e2
      rw [show pre ++ Cd.enc c x ++ (r.flatMap (Cd.enc c) ++ post) = pre ++ Cd.enc c x ++ r.flatMap (Cd.enc c) ++ post by simp [List.append_assoc]]
      rw [e2]
      simp only
      rw [List.length_append, Nat.add_assoc]
    · rw [List.flatMap_cons, List.length_append] at hm
      rw [List.flatMap_cons, List.length_cons]
      unfold getsF
      by_cases hmx : m < (Cd.enc c x).length
      · rw [cut_app' hmx, h2 pre m hmx]
      · rw [cut_app (by omega)]
        have e1 := h1 pre ((r.flatMap (Cd.enc c)).take (m - (Cd.enc c x).length))
        rw [← List.append_assoc, e1]
        simp only
        have e2 := h4 (pre ++ Cd.enc c x) (m - (Cd.enc c x).length) (by omega)
        rw [List.length_append] at e2
        rw [e2]
theorem arr_back {c : Cd} (ih : BackOk c) : BackOk (.arr c) := fun n hok hc => by
  have hls : ∀ x ∈ n.list, x.ok := fun x hx => hok.list hx
  unfold Cd.check at hc
  split at hc
  · omega
  rename_i h1
  split at hc
  · omega
  rename_i h2
  have h1 : plainF n 9 false false false true = true := by simpa using h1
  obtain ⟨e1, e2, e3, e4, _⟩ := plain_parts h1
  have eta : Nd.mk 9 0 false [] n.list = n := by
    conv => rhs; rw [Nd.eta n, e1, e2 rfl, e3 rfl, e4 rfl]
  obtain ⟨h3, h4⟩ := gets_back ih n.list hls hc
  have he : Cd.enc (.arr c) n = beI 4 n.list.length ++ n.list.flatMap (Cd.enc c) := by unfold Cd.enc; rfl
  rw [he]
  have hl4 := beI_length 4 (n.list.length : Int)
  have hlen : (beI 4 (n.list.length : Int) ++ n.list.flatMap (Cd.enc c)).length = 4 + (n.list.flatMap (Cd.enc c)).length := by rw [List.length_append, hl4]
  refine ⟨fun pre post => ?_, fun pre m hm => ?_⟩
  · unfold Cd.get
    rw [if_neg (by simp only [List.length_append, hl4]; omega)]
    simp only
    have en : numAt (pre ++ (beI 4 (n.list.length : Int) ++ n.list.flatMap (Cd.enc c)) ++ post) pre.length 4 = n.list.length := by
      rw [← List.append_assoc, List.append_assoc (pre ++ _)]
      exact numAt_back (by decide) (by simp only [Nat.reducePow, Nat.reduceDiv]; omega) (by simp only [Nat.reducePow, Nat.reduceDiv]; omega)
    rw [en, if_neg (by omega), if_neg (by omega), Int.toNat_natCast]
    have e2 := h3 (pre ++ beI 4 (n.list.length : Int)) post
    rw [List.length_append, hl4] at e2
    rw [← List.append_assoc, e2]
    simp only
    rw [eta, List.length_append, hl4, Nat.add_assoc]
  · rw [hlen] at hm
    unfold Cd.get
    have hml : (pre ++ (beI 4 (n.list.length : Int) ++ n.list.flatMap (Cd.enc c)).take m).length = pre.length + m := by
      rw [List.length_append, List.length_take, hlen]; omega
    by_cases hm4 : m < 4
    · rw [if_pos (by omega)]
    · rw [if_neg (by omega)]
      simp only
      rw [numAt_cut (by decide) (by simp only [Nat.reducePow, Nat.reduceDiv]; omega) (by simp only [Nat.reducePow, Nat.reduceDiv]; omega) (by omega), if_neg (by omega), if_neg (by omega), Int.toNat_natCast]
      rw [cut_app (by omega), hl4]
      have e2 := h4 (pre ++ beI 4 (n.list.length : Int)) (m - 4) (by omega)
      rw [List.length_append, hl4] at e2
      rw [← List.append_assoc, e2]
theorem getl_back : ∀ (cl : List Cd) (_ : ∀ c ∈ cl, BackOk c) (l : List Nd), cl.length = l.length → (∀ x ∈ l, x.ok) → Cd.checkl cl l = 0 →
    (∀ pre post, Cd.getl (pre ++ Cd.encl cl l ++ post) cl pre.length = .ok (l, pre.length + (Cd.encl cl l).length)) ∧
    (∀ pre m, m < (Cd.encl cl l).length → Cd.getl (pre ++ (Cd.encl cl l).take m) cl pre.length = .error 1)
  | [], _, [], _, _, _ => ⟨fun pre post => by simp [Cd.getl, Cd.encl], fun pre m hm => by simp [Cd.encl] at hm⟩
  | [], _, _ :: _, h, _, _ => by simp at h
  | _ :: _, _, [], h, _, _ => by simp at h
  | c :: cl, ih, x :: r, hl, hok, hc => by
    unfold Cd.checkl at hc
    split at hc
    · rename_i h; exact absurd hc h
    rename_i h
    have hx0 : Cd.check c x = 0 := Decidable.not_not.1 h
    obtain ⟨h1, h2⟩ := ih c List.mem_cons_self x (hok x List.mem_cons_self) hx0
    obtain ⟨h3, h4⟩ := getl_back cl (fun c hc => ih c (List.mem_cons_of_mem _ hc)) r (by simpa using hl) (fun y hy => hok y (List.mem_cons_of_mem _ hy)) hc
    refine ⟨fun pre post => ?_, fun pre m hm => ?_⟩
    · unfold Cd.encl Cd.getl
      have e1 := h1 pre (Cd.encl cl r ++ post)
      rw [show pre ++ (Cd.enc c x ++ Cd.encl cl r) ++ post = pre ++ Cd.enc c x ++ (Cd.encl cl r ++ post) by simp [List.append_assoc]]
      rw [e1]
      simp only
      have e2 := h3 (pre ++ Cd.enc c x) post
      rw [List.length_append] at e2
      rw [show pre ++ Cd.enc c x ++ (Cd.encl cl r ++ post) = pre ++ Cd.enc c x ++ Cd.encl cl r ++ post by simp [List.append_assoc]]
      rw [e2]
      simp only
      rw [List.length_append, Nat.add_assoc]
    · unfold Cd.encl at hm ⊢
      rw [List.length_append] at hm
      unfold Cd.getl
      by_cases hmx : m < (Cd.enc c x).length
      · rw [cut_app' hmx, h2 pre m hmx]
      · rw [cut_app (by omega)]
        have e1 := h1 pre ((Cd.encl cl r).take (m - (Cd.enc c x).length))
        rw [← List.append_assoc, e1]
        simp only
        have e2 := h4 (pre ++ Cd.enc c x) (m - (Cd.enc c x).length) (by omega)
        rw [List.length_append] at e2
        rw [e2]
theorem rcd_back {cl : List Cd} (ih : ∀ c ∈ cl, BackOk c) : BackOk (.rcd cl) := fun n hok hc => by
  have hls : ∀ x ∈ n.list, x.ok := fun x hx => hok.list hx
  unfold Cd.check at hc
  split at hc
  · omega
  rename_i h1
  have h1' : plainF n 10 false false false true = true := by
    cases hp : plainF n 10 false false false true with
    | true => rfl
    | false => exact absurd (.inl hp) h1
  have hlen : n.list.length = cl.length := Decidable.not_not.1 fun hne => h1 (.inr hne)
  obtain ⟨e1, e2, e3, e4, _⟩ := plain_parts h1'
  have eta : Nd.mk 10 0 false [] n.list = n := by
    conv => rhs; rw [Nd.eta n, e1, e2 rfl, e3 rfl, e4 rfl]
  obtain ⟨h3, h4⟩ := getl_back cl ih n.list hlen.symm hls hc
  have he : Cd.enc (.rcd cl) n = Cd.encl cl n.list := by unfold Cd.enc; rfl
  rw [he]
  refine ⟨fun pre post => ?_, fun pre m hm => ?_⟩
  · unfold Cd.get
    rw [h3 pre post]
    simp only
    rw [eta]
  · unfold Cd.get
    rw [h4 pre m hm]
mutual
theorem back_ok : ∀ c : Cd, BackOk c
  | .num k => num_back k
  | .txt k => txt_back k
  | .blb k => blb_back k
  | .arr c => arr_back (back_ok c)
  | .rcd l => rcd_back (backs_ok l)
theorem backs_ok : ∀ (l : List Cd) (c : Cd), c ∈ l → BackOk c
  | [], c, h => by cases h
  | x :: r, c, h => by
    have hx := back_ok x
    rcases List.mem_cons.1 h with h' | h'
    · exact h' ▸ hx
    · exact backs_ok r c h'
end
/-- The law. -/
theorem encF_decF {fs : List Fld} {v : Int} {n : Nd} {bs : List UInt8} (hok : n.ok) (h : encF fs v n = .ok bs) :
    bs.length ≤ 130048 ∧ decF fs v bs = .ok n ∧ decF fs v (bs ++ [0]) = .error (if bs.length = 130048 then 4 else 2) ∧ (bs ≠ [] → decF fs v (bs.take (bs.length - 1)) = .error 1) := by
  unfold encF at h
  split at h
  · cases h
  rename_i h0
  split at h
  · cases h
  rename_i h1
  split at h
  · cases h
  rename_i h2
  injection h with h
  have hc : Cd.check (.rcd (wholeF v fs)) n = 0 := Decidable.not_not.1 h1
  obtain ⟨h3, h4⟩ := back_ok (.rcd (wholeF v fs)) n hok hc
  rw [h] at h2 h3 h4
  refine ⟨by omega, ?_, ?_, fun hne => ?_⟩
  · unfold decF
    have := h3 [] []
    simp only [List.nil_append, List.append_nil, List.length_nil, Nat.zero_add] at this
    rw [if_neg h0, if_neg h2, this]
    simp
  · unfold decF
    have := h3 [] [0]
    simp only [List.nil_append, List.length_nil, Nat.zero_add] at this
    rw [if_neg h0, this]
    have hl : (bs ++ [0]).length = bs.length + 1 := by simp
    rw [hl]
    by_cases h5 : bs.length = 130048
    · rw [if_pos (by omega), if_pos h5]
    · rw [if_neg (by omega), if_neg h5]
      simp
  · unfold decF
    have hpos : 0 < bs.length := List.length_pos_iff.2 hne
    have := h4 [] (bs.length - 1) (by omega)
    simp only [List.nil_append, List.length_nil] at this
    rw [if_neg h0, if_neg (by simp; omega), this]
end Go.Lt
