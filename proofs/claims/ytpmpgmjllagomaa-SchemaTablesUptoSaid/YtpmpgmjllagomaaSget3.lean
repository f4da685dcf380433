/- schema's codecs read: arrays and records. Conditions: none. -/
import Derived.Test.YtpmpgmjllagomaaSget2
set_option linter.unusedVariables false
set_option maxHeartbeats 4000000
set_option linter.unusedSimpArgs false
set_option maxRecDepth 100000
namespace Go.Lt
open Go
attribute [local irreducible] op gop lt glt rc grc ite' drawn also ldR
mutual
theorem cdV.mono {C C' : Addr → Value → Prop} (hC : ∀ a v, C a v → C' a v) : ∀ (c : Cd) (v : Value), cdV C c v → cdV C' c v
  | .num k, v, h => by unfold cdV at h ⊢; exact h
  | .txt k, v, h => by unfold cdV at h ⊢; exact h
  | .blb k, v, h => by unfold cdV at h ⊢; exact h
  | .arr c, v, h => by
    unfold cdV at h ⊢
    obtain ⟨u, h1, h2, h3⟩ := h
    exact ⟨u, h1, cdV.mono hC c u h2, h3⟩
  | .rcd l, v, h => by
    unfold cdV at h ⊢
    obtain ⟨A, c, h1, h2, h3, h4, h5⟩ := h
    exact ⟨A, c, h1, h2, h3, h4, h5.imp id fun ⟨b, o, h6, h7⟩ => ⟨b, o, h6, cdC.mono hC l b o h7⟩⟩
theorem cdC.mono {C C' : Addr → Value → Prop} (hC : ∀ a v, C a v → C' a v) : ∀ (l : List Cd) (b o : Nat), cdC C l b o → cdC C' l b o
  | [], b, o, h => by unfold cdC; trivial
  | c :: r, b, o, h => by
    unfold cdC at h ⊢
    obtain ⟨⟨v, h1, h2, h3⟩, h4⟩ := h
    exact ⟨⟨v, cdV.mono hC c v h1, h2, hC _ _ h3⟩, cdC.mono hC r b (o + 1) h4⟩
end
theorem cdC.get {C : Addr → Value → Prop} : ∀ {l : List Cd} {b o i : Nat} {c : Cd}, cdC C l b o → l[i]? = some c → ∃ v, cdV C c v ∧ (∃ t x, v = .iface t x) ∧ C ⟨b, o + i, none⟩ v
  | [], b, o, i, c, h, hi => by simp at hi
  | x :: r, b, o, i, c, h, hi => by
    unfold cdC at h
    obtain ⟨h1, h2⟩ := h
    cases i with
    | zero =>
      simp at hi
      subst hi
      simpa using h1
    | succ i =>
      obtain ⟨v, h3, h4, h5⟩ := cdC.get h2 (by simpa using hi)
      exact ⟨v, h3, h4, by rw [show o + (i + 1) = o + 1 + i by omega]; exact h5⟩
abbrev CdV (p : List HP) (c : Cd) (v : Value) : Prop := cdV (PC p) c v
theorem CdV.skip {p : List HP} {b : HP} {c : Cd} {v : Value} (h : CdV p c v) : CdV (b :: p) c v := cdV.mono (fun _ _ h => h.skip) c v h
theorem cdV_iface {C : Addr → Value → Prop} {c : Cd} {v : Value} (h : cdV C c v) : ∃ t x, v = .iface t x := by
  cases c <;> unfold cdV at h
  · exact ⟨_, _, h⟩
  · exact ⟨_, _, h⟩
  · exact ⟨_, _, h⟩
  · obtain ⟨u, rfl, _⟩ := h
    exact ⟨_, _, rfl⟩
  · obtain ⟨A, c, rfl, _⟩ := h
    exact ⟨_, _, rfl⟩
/-- The codec's get does what Cd.get says. -/
def GetOk (c : Cd) : Prop := ∀ (w0 : World) (p : List HP) (Pn : PK) (K : Value → WP) (g m cap at_ : Nat) (A : Option Addr) (bs : List UInt8) (v : Value), CdV p c v → RdB p (.slice A m cap) bs → m ≤ 1073741824 → at_ ≤ m → GetK w0 p K g A m cap (Cd.get bs c at_) →
  Ent w0 (blk g [.slice A m cap, .int .i64 at_] :: p) (op PR Pn (S.invoke v "leat/schema.get" [.pointer (some ⟨g, 0, none⟩)]) K)
theorem num_ok (k : Int) : GetOk (.num k) := fun w0 p Pn K g m cap at_ A bs v hv hb hm h1 h => by
  unfold CdV cdV at hv
  subst hv
  exact Ent.call (fun w h => meth.schema_number_get h) (num_get hb h1 h)
theorem txt_ok (k : Int) : GetOk (.txt k) := fun w0 p Pn K g m cap at_ A bs v hv hb hm h1 h => by
  unfold CdV cdV at hv
  subst hv
  exact Ent.call (fun w h => meth.schema_text_get h) (text_get hb hm h1 h)
theorem blb_ok (k : Int) : GetOk (.blb k) := fun w0 p Pn K g m cap at_ A bs v hv hb hm h1 h => by
  unfold CdV cdV at hv
  subst hv
  exact Ent.call (fun w h => meth.schema_blob_get h) (blob_get hb hm h1 h)
def pre (l : List Nd) : Except Int (List Nd × Nat) → Except Int (List Nd × Nat)
  | .error e => .error e
  | .ok (r, a) => .ok (l ++ r, a)
theorem pre_pre (l : List Nd) (x : Nd) (r : Except Int (List Nd × Nat)) : pre l (pre [x] r) = pre (l ++ [x]) r := by
  cases r with
  | error e => rfl
  | ok r => simp [pre]
theorem ndsD_snoc (l : List Nd) (n : Nd) : ndsD (l ++ [n]) = ndsD l ++ [ndD n] := by simp [ndsD_map]
theorem getsF_succ (g : Nat → Except Int (Nd × Nat)) (n at_ : Nat) : getsF g (n + 1) at_ = match g at_ with
    | .error e => .error e
    | .ok (x, a) => pre [x] (getsF g n a) := by
  conv => lhs; unfold getsF
  cases g at_ with
  | error e => rfl
  | ok r =>
    obtain ⟨x, a⟩ := r
    simp only
    cases getsF g n a with
    | error e => rfl
    | ok r => rfl
theorem getl_cons (bs : List UInt8) (c : Cd) (r : List Cd) (at_ : Nat) : Cd.getl bs (c :: r) at_ = match Cd.get bs c at_ with
    | .error e => .error e
    | .ok (x, a) => pre [x] (Cd.getl bs r a) := by
  conv => lhs; unfold Cd.getl
  cases Cd.get bs c at_ with
  | error e => rfl
  | ok q =>
    obtain ⟨x, a⟩ := q
    simp only
    cases Cd.getl bs r a with
    | error e => rfl
    | ok r => rfl
theorem getsF_err {g : Nat → Except Int (Nd × Nat)} (hg : ∀ a e, g a = .error e → e ≠ 0) : ∀ (n a : Nat) (e : Int), getsF g n a = .error e → e ≠ 0
  | 0, a, e, h => by unfold getsF at h; cases h
  | n + 1, a, e, h => by
    rw [getsF_succ] at h
    cases hq : g a with
    | error e' =>
      rw [hq] at h
      injection h with h
      exact h ▸ hg _ _ hq
    | ok r =>
      obtain ⟨x, a'⟩ := r
      rw [hq] at h
      simp only at h
      cases hr : getsF g n a' with
      | error e' =>
        rw [hr] at h
        injection h with h
        exact h ▸ getsF_err hg n a' _ hr
      | ok r => rw [hr] at h; cases h
mutual
theorem get_err (bs : List UInt8) : ∀ (c : Cd) (a : Nat) (e : Int), Cd.get bs c a = .error e → e ≠ 0
  | .num k, a, e, h => by
    unfold Cd.get at h
    split at h
    · injection h with h
      omega
    · cases h
  | .txt k, a, e, h => by
    unfold Cd.get at h
    simp only at h
    repeat' split at h
    all_goals first | (injection h with h; omega) | (cases h)
  | .blb k, a, e, h => by
    unfold Cd.get at h
    simp only at h
    repeat' split at h
    all_goals first | (injection h with h; omega) | (cases h)
  | .arr c, a, e, h => by
    unfold Cd.get at h
    simp only at h
    split at h
    · injection h with h
      omega
    split at h
    · injection h with h
      omega
    split at h
    · injection h with h
      omega
    split at h
    · rename_i hq
      injection h with h
      exact h ▸ getsF_err (get_err bs c) _ _ _ hq
    · cases h
  | .rcd l, a, e, h => by
    unfold Cd.get at h
    split at h
    · rename_i hq
      injection h with h
      exact h ▸ getl_err bs l _ _ hq
    · cases h
theorem getl_err (bs : List UInt8) : ∀ (l : List Cd) (a : Nat) (e : Int), Cd.getl bs l a = .error e → e ≠ 0
  | [], a, e, h => by unfold Cd.getl at h; cases h
  | c :: r, a, e, h => by
    rw [getl_cons] at h
    cases hq : Cd.get bs c a with
    | error e' =>
      rw [hq] at h
      injection h with h
      exact h ▸ get_err bs c _ _ hq
    | ok q =>
      obtain ⟨x, a'⟩ := q
      rw [hq] at h
      simp only at h
      cases hr : Cd.getl bs r a' with
      | error e' =>
        rw [hr] at h
        injection h with h
        exact h ▸ getl_err bs r a' _ hr
      | ok r => rw [hr] at h; cases h
end
theorem arr_ok {cd : Cd} (ih : GetOk cd) : GetOk (.arr cd) := fun w0 p Pn K g m cap at_ A bs v hv hb hm h1 h => by
  unfold CdV cdV at hv
  obtain ⟨u, rfl, hu, t, ux, rfl⟩ := hv
  refine Ent.call (fun w h => meth.schema_array_get h) ?_
  obtain ⟨he, hk⟩ := h
  obtain ⟨hlen, _, _⟩ := hb.len
  subst hlen
  refine Ent.call (fun w h => enter.schema_array_get h) ?_
  unfold W.schema_array_get
  refine Ent.box fun g1 => ?_
  refine Ent.alloc fun g2 => ?_
  refine Ent.pick blk g (I32_spec hb.skip.skip h1 (fun h => ?_) (fun h => ?_))
  · repeat (first | refine Ent.runW (wrap_i64 (by omega) (by omega)) ?_ | refine Ent.runWL (wrap_i64 (by omega) (by omega)) ?_ | refine Ent.runWR (wrap_i64 (by omega) (by omega)) ?_ | refine Ent.run ?_ | refine Ent.runL ?_ | refine Ent.runR ?_ | refine Ent.drawn ?_ | refine Ent.store (by kernel_rfl) ?_ | refine Ent.resN ?_ | refine Ent.res1 ?_ | refine Ent.gop_yes ?_ | refine Ent.gop_no (by decide) ?_ | refine Ent.gop_undef ?_ | refine Ent.glt_undef ?_ | refine Ent.grc_undef ?_ | refine Ent.glt_yes ?_ | refine Ent.glt_no (by decide) ?_ | refine Ent.grc_yes ?_ | refine Ent.grc_no (by decide) ?_)
    refine Ent.ite_t ?_
    repeat (first | refine Ent.runW (wrap_i64 (by omega) (by omega)) ?_ | refine Ent.runWL (wrap_i64 (by omega) (by omega)) ?_ | refine Ent.runWR (wrap_i64 (by omega) (by omega)) ?_ | refine Ent.run ?_ | refine Ent.runL ?_ | refine Ent.runR ?_ | refine Ent.drawn ?_ | refine Ent.store (by kernel_rfl) ?_ | refine Ent.resN ?_ | refine Ent.res1 ?_ | refine Ent.gop_yes ?_ | refine Ent.gop_no (by decide) ?_ | refine Ent.gop_undef ?_ | refine Ent.glt_undef ?_ | refine Ent.grc_undef ?_ | refine Ent.glt_yes ?_ | refine Ent.glt_no (by decide) ?_ | refine Ent.grc_yes ?_ | refine Ent.grc_no (by decide) ?_)
    refine Ent.pick blk g1 (Ent.drop (Ent.pick blk g2 (Ent.drop ?_)))
    exact he 1 (by unfold Cd.get; rw [if_pos (by omega)]) at_ h1 0
  have hn := numAt_small4 bs at_
  have e0 : IntKind.i32.wrap (beN ((bs.drop at_).take 4) : Nat) = numAt bs at_ 4 := sgn_i32 _ (beN_take _ _ _)
  rw [e0]
  unfold Cd.get at he hk
  rw [if_neg (by omega)] at he hk
  simp only at he hk
  clear e0
  generalize numAt bs at_ 4 = n at *
  repeat (first | refine Ent.runW (wrap_i64 (by omega) (by omega)) ?_ | refine Ent.runWL (wrap_i64 (by omega) (by omega)) ?_ | refine Ent.runWR (wrap_i64 (by omega) (by omega)) ?_ | refine Ent.run ?_ | refine Ent.runL ?_ | refine Ent.runR ?_ | refine Ent.drawn ?_ | refine Ent.store (by kernel_rfl) ?_ | refine Ent.resN ?_ | refine Ent.res1 ?_ | refine Ent.gop_yes ?_ | refine Ent.gop_no (by decide) ?_ | refine Ent.gop_undef ?_ | refine Ent.glt_undef ?_ | refine Ent.grc_undef ?_ | refine Ent.glt_yes ?_ | refine Ent.glt_no (by decide) ?_ | refine Ent.grc_yes ?_ | refine Ent.grc_no (by decide) ?_)
  refine Ent.ite_f ?_
  repeat (first | refine Ent.runW (wrap_i64 (by omega) (by omega)) ?_ | refine Ent.runWL (wrap_i64 (by omega) (by omega)) ?_ | refine Ent.runWR (wrap_i64 (by omega) (by omega)) ?_ | refine Ent.run ?_ | refine Ent.runL ?_ | refine Ent.runR ?_ | refine Ent.drawn ?_ | refine Ent.store (by kernel_rfl) ?_ | refine Ent.resN ?_ | refine Ent.res1 ?_ | refine Ent.gop_yes ?_ | refine Ent.gop_no (by decide) ?_ | refine Ent.gop_undef ?_ | refine Ent.glt_undef ?_ | refine Ent.grc_undef ?_ | refine Ent.glt_yes ?_ | refine Ent.glt_no (by decide) ?_ | refine Ent.grc_yes ?_ | refine Ent.grc_no (by decide) ?_)
  refine Ent.ite (fun h => ?_) (fun h => ?_)
  · have h0 : n < 0 := by simpa using h
    repeat (first | refine Ent.runW (wrap_i64 (by omega) (by omega)) ?_ | refine Ent.runWL (wrap_i64 (by omega) (by omega)) ?_ | refine Ent.runWR (wrap_i64 (by omega) (by omega)) ?_ | refine Ent.run ?_ | refine Ent.runL ?_ | refine Ent.runR ?_ | refine Ent.drawn ?_ | refine Ent.store (by kernel_rfl) ?_ | refine Ent.resN ?_ | refine Ent.res1 ?_ | refine Ent.gop_yes ?_ | refine Ent.gop_no (by decide) ?_ | refine Ent.gop_undef ?_ | refine Ent.glt_undef ?_ | refine Ent.grc_undef ?_ | refine Ent.glt_yes ?_ | refine Ent.glt_no (by decide) ?_ | refine Ent.grc_yes ?_ | refine Ent.grc_no (by decide) ?_)
    refine Ent.pick blk g1 (Ent.drop (Ent.pick blk g2 (Ent.drop ?_)))
    exact he 5 (by rw [if_pos h0]) (at_ + 4) (by omega) 0
  have h0 : ¬ n < 0 := by simpa using h
  clear h
  rw [if_neg h0] at he hk
  repeat (first | refine Ent.runW (wrap_i64 (by omega) (by omega)) ?_ | refine Ent.runWL (wrap_i64 (by omega) (by omega)) ?_ | refine Ent.runWR (wrap_i64 (by omega) (by omega)) ?_ | refine Ent.run ?_ | refine Ent.runL ?_ | refine Ent.runR ?_ | refine Ent.drawn ?_ | refine Ent.store (by kernel_rfl) ?_ | refine Ent.resN ?_ | refine Ent.res1 ?_ | refine Ent.gop_yes ?_ | refine Ent.gop_no (by decide) ?_ | refine Ent.gop_undef ?_ | refine Ent.glt_undef ?_ | refine Ent.grc_undef ?_ | refine Ent.glt_yes ?_ | refine Ent.glt_no (by decide) ?_ | refine Ent.grc_yes ?_ | refine Ent.grc_no (by decide) ?_)
  refine Ent.ite (fun h => ?_) (fun h => ?_)
  · have h2 : 16 < n := by simpa using h
    repeat (first | refine Ent.runW (wrap_i64 (by omega) (by omega)) ?_ | refine Ent.runWL (wrap_i64 (by omega) (by omega)) ?_ | refine Ent.runWR (wrap_i64 (by omega) (by omega)) ?_ | refine Ent.run ?_ | refine Ent.runL ?_ | refine Ent.runR ?_ | refine Ent.drawn ?_ | refine Ent.store (by kernel_rfl) ?_ | refine Ent.resN ?_ | refine Ent.res1 ?_ | refine Ent.gop_yes ?_ | refine Ent.gop_no (by decide) ?_ | refine Ent.gop_undef ?_ | refine Ent.glt_undef ?_ | refine Ent.grc_undef ?_ | refine Ent.glt_yes ?_ | refine Ent.glt_no (by decide) ?_ | refine Ent.grc_yes ?_ | refine Ent.grc_no (by decide) ?_)
    refine Ent.pick blk g1 (Ent.drop (Ent.pick blk g2 (Ent.drop ?_)))
    exact he 9 (by rw [if_pos h2]) (at_ + 4) (by omega) 0
  have h2 : ¬ 16 < n := by simpa using h
  clear h
  rw [if_neg h2] at he hk
  repeat (first | refine Ent.runW (wrap_i64 (by omega) (by omega)) ?_ | refine Ent.runWL (wrap_i64 (by omega) (by omega)) ?_ | refine Ent.runWR (wrap_i64 (by omega) (by omega)) ?_ | refine Ent.run ?_ | refine Ent.runL ?_ | refine Ent.runR ?_ | refine Ent.drawn ?_ | refine Ent.store (by kernel_rfl) ?_ | refine Ent.resN ?_ | refine Ent.res1 ?_ | refine Ent.gop_yes ?_ | refine Ent.gop_no (by decide) ?_ | refine Ent.gop_undef ?_ | refine Ent.glt_undef ?_ | refine Ent.grc_undef ?_ | refine Ent.glt_yes ?_ | refine Ent.glt_no (by decide) ?_ | refine Ent.grc_yes ?_ | refine Ent.grc_no (by decide) ?_)
  refine Ent.alloc fun g3 => ?_
  repeat (first | refine Ent.runW (wrap_i64 (by omega) (by omega)) ?_ | refine Ent.runWL (wrap_i64 (by omega) (by omega)) ?_ | refine Ent.runWR (wrap_i64 (by omega) (by omega)) ?_ | refine Ent.run ?_ | refine Ent.runL ?_ | refine Ent.runR ?_ | refine Ent.drawn ?_ | refine Ent.store (by kernel_rfl) ?_ | refine Ent.resN ?_ | refine Ent.res1 ?_ | refine Ent.gop_yes ?_ | refine Ent.gop_no (by decide) ?_ | refine Ent.gop_undef ?_ | refine Ent.glt_undef ?_ | refine Ent.grc_undef ?_ | refine Ent.glt_yes ?_ | refine Ent.glt_no (by decide) ?_ | refine Ent.grc_yes ?_ | refine Ent.grc_no (by decide) ?_)
  refine Ent.pick blk g2 (Ent.pick blk g1 (Ent.pick blk g3 (Ent.add own_nilL (Ent.pick blk g ?_))))
  refine Ent.L2 (σ := List Nd × Nat × Option Addr × Nat) (fun _ => .int .i64 0) (fun s => .int .i32 s.1.length)
    (fun s => pure' ((s.1.length : Int) ≤ n ∧ s.2.1 ≤ bs.length ∧ getsF (Cd.get bs cd) n.toNat (at_ + 4) = pre s.1 (getsF (Cd.get bs cd) (n.toNat - s.1.length) s.2.1)) :: blk g [.slice A bs.length cap, .int .i64 s.2.1] :: Ow (.sl T.api_Node 5 (ndsD s.1)) [.slice s.2.2.1 s.1.length s.2.2.2] :: blk g3 [.int .i64 9, .int .i64 0, .bool false, .slice none 0 0, .slice s.2.2.1 s.1.length s.2.2.2] :: blk g1 [.iface t ux] :: blk g2 (zeroC 0) :: p)
    (fun s => (n - s.1.length).toNat) ([], at_ + 4, none, 0) ?_ ?_
  · intro w hs
    refine hs.add ⟨⟨by simp; omega, by simp; omega, ?_⟩, fun _ => rfl⟩
    show _ = pre [] (getsF _ (n.toNat - 0) _)
    rw [Nat.sub_zero]
    cases getsF (Cd.get bs cd) n.toNat (at_ + 4) with
    | error e => rfl
    | ok r => rfl
  · intro s k hrec
    obtain ⟨l, a, A2, c2⟩ := s
    refine Ent.pure fun hf => ?_
    obtain ⟨hf1, hf2, hf3⟩ := hf
    simp only at hf1 hf2 hf3 hrec ⊢
    repeat (first | refine Ent.runW (wrap_i64 (by omega) (by omega)) ?_ | refine Ent.runWL (wrap_i64 (by omega) (by omega)) ?_ | refine Ent.runWR (wrap_i64 (by omega) (by omega)) ?_ | refine Ent.run ?_ | refine Ent.runL ?_ | refine Ent.runR ?_ | refine Ent.drawn ?_ | refine Ent.store (by kernel_rfl) ?_ | refine Ent.resN ?_ | refine Ent.res1 ?_ | refine Ent.gop_yes ?_ | refine Ent.gop_no (by decide) ?_ | refine Ent.gop_undef ?_ | refine Ent.glt_undef ?_ | refine Ent.grc_undef ?_ | refine Ent.glt_yes ?_ | refine Ent.glt_no (by decide) ?_ | refine Ent.grc_yes ?_ | refine Ent.grc_no (by decide) ?_)
    refine Ent.ite (fun h => ?_) (fun h => ?_)
    · have hlt : (l.length : Int) < n := by simpa using h
      clear h
      obtain ⟨r, hr⟩ : ∃ r, n.toNat - l.length = r + 1 := ⟨n.toNat - l.length - 1, by omega⟩
      rw [hr, getsF_succ] at hf3
      repeat (first | refine Ent.runW (wrap_i64 (by omega) (by omega)) ?_ | refine Ent.runWL (wrap_i64 (by omega) (by omega)) ?_ | refine Ent.runWR (wrap_i64 (by omega) (by omega)) ?_ | refine Ent.run ?_ | refine Ent.runL ?_ | refine Ent.runR ?_ | refine Ent.drawn ?_ | refine Ent.store (by kernel_rfl) ?_ | refine Ent.resN ?_ | refine Ent.res1 ?_ | refine Ent.gop_yes ?_ | refine Ent.gop_no (by decide) ?_ | refine Ent.gop_undef ?_ | refine Ent.glt_undef ?_ | refine Ent.grc_undef ?_ | refine Ent.glt_yes ?_ | refine Ent.glt_no (by decide) ?_ | refine Ent.grc_yes ?_ | refine Ent.grc_no (by decide) ?_)
      refine ih _ _ _ _ _ _ _ _ _ bs _ (cdV.mono (fun _ _ h => h.skip.skip.skip.skip) _ _ hu) hb.skip.skip.skip.skip hm hf2 ⟨fun e hE at' hat' kk => ?_, fun nd at' hE hat' A1 c1 A3 c3 => ?_⟩
      · have hne := get_err _ _ _ _ hE
        rw [hE] at hf3
        repeat (first | refine Ent.runW (wrap_i64 (by omega) (by omega)) ?_ | refine Ent.runWL (wrap_i64 (by omega) (by omega)) ?_ | refine Ent.runWR (wrap_i64 (by omega) (by omega)) ?_ | refine Ent.run ?_ | refine Ent.runL ?_ | refine Ent.runR ?_ | refine Ent.drawn ?_ | refine Ent.store (by kernel_rfl) ?_ | refine Ent.resN ?_ | refine Ent.res1 ?_ | refine Ent.gop_yes ?_ | refine Ent.gop_no (by decide) ?_ | refine Ent.gop_undef ?_ | refine Ent.glt_undef ?_ | refine Ent.grc_undef ?_ | refine Ent.glt_yes ?_ | refine Ent.glt_no (by decide) ?_ | refine Ent.grc_yes ?_ | refine Ent.grc_no (by decide) ?_)
        refine Ent.alloc fun g4 => ?_
        unfold zeroC
        repeat (first | refine Ent.runW (wrap_i64 (by omega) (by omega)) ?_ | refine Ent.runWL (wrap_i64 (by omega) (by omega)) ?_ | refine Ent.runWR (wrap_i64 (by omega) (by omega)) ?_ | refine Ent.run ?_ | refine Ent.runL ?_ | refine Ent.runR ?_ | refine Ent.drawn ?_ | refine Ent.store (by kernel_rfl) ?_ | refine Ent.resN ?_ | refine Ent.res1 ?_ | refine Ent.gop_yes ?_ | refine Ent.gop_no (by decide) ?_ | refine Ent.gop_undef ?_ | refine Ent.glt_undef ?_ | refine Ent.grc_undef ?_ | refine Ent.glt_yes ?_ | refine Ent.glt_no (by decide) ?_ | refine Ent.grc_yes ?_ | refine Ent.grc_no (by decide) ?_)
        rw [decide_eq_false hne]
        refine Ent.ite_t ?_
        repeat (first | refine Ent.runW (wrap_i64 (by omega) (by omega)) ?_ | refine Ent.runWL (wrap_i64 (by omega) (by omega)) ?_ | refine Ent.runWR (wrap_i64 (by omega) (by omega)) ?_ | refine Ent.run ?_ | refine Ent.runL ?_ | refine Ent.runR ?_ | refine Ent.drawn ?_ | refine Ent.store (by kernel_rfl) ?_ | refine Ent.resN ?_ | refine Ent.res1 ?_ | refine Ent.gop_yes ?_ | refine Ent.gop_no (by decide) ?_ | refine Ent.gop_undef ?_ | refine Ent.glt_undef ?_ | refine Ent.grc_undef ?_ | refine Ent.glt_yes ?_ | refine Ent.glt_no (by decide) ?_ | refine Ent.grc_yes ?_ | refine Ent.grc_no (by decide) ?_)
        refine Ent.pick blk g1 (Ent.drop (Ent.pick blk g2 (Ent.drop (Ent.pick blk g3 (Ent.drop (Ent.pick blk g4 (Ent.drop ?_)))))))
        refine Ent.pick Ow (.sl T.api_Node 5 (ndsD l)) (Ent.drop ?_)
        exact he e (by rw [hf3]; rfl) at' hat' 0
      · rw [hE] at hf3
        repeat (first | refine Ent.runW (wrap_i64 (by omega) (by omega)) ?_ | refine Ent.runWL (wrap_i64 (by omega) (by omega)) ?_ | refine Ent.runWR (wrap_i64 (by omega) (by omega)) ?_ | refine Ent.run ?_ | refine Ent.runL ?_ | refine Ent.runR ?_ | refine Ent.drawn ?_ | refine Ent.store (by kernel_rfl) ?_ | refine Ent.resN ?_ | refine Ent.res1 ?_ | refine Ent.gop_yes ?_ | refine Ent.gop_no (by decide) ?_ | refine Ent.gop_undef ?_ | refine Ent.glt_undef ?_ | refine Ent.grc_undef ?_ | refine Ent.glt_yes ?_ | refine Ent.glt_no (by decide) ?_ | refine Ent.grc_yes ?_ | refine Ent.grc_no (by decide) ?_)
        refine Ent.alloc fun g4 => ?_
        unfold ndC
        repeat (first | refine Ent.runW (wrap_i64 (by omega) (by omega)) ?_ | refine Ent.runWL (wrap_i64 (by omega) (by omega)) ?_ | refine Ent.runWR (wrap_i64 (by omega) (by omega)) ?_ | refine Ent.run ?_ | refine Ent.runL ?_ | refine Ent.runR ?_ | refine Ent.drawn ?_ | refine Ent.store (by kernel_rfl) ?_ | refine Ent.resN ?_ | refine Ent.res1 ?_ | refine Ent.gop_yes ?_ | refine Ent.gop_no (by decide) ?_ | refine Ent.gop_undef ?_ | refine Ent.glt_undef ?_ | refine Ent.grc_undef ?_ | refine Ent.glt_yes ?_ | refine Ent.glt_no (by decide) ?_ | refine Ent.grc_yes ?_ | refine Ent.grc_no (by decide) ?_)
        refine Ent.ite_f ?_
        repeat (first | refine Ent.runW (wrap_i64 (by omega) (by omega)) ?_ | refine Ent.runWL (wrap_i64 (by omega) (by omega)) ?_ | refine Ent.runWR (wrap_i64 (by omega) (by omega)) ?_ | refine Ent.run ?_ | refine Ent.runL ?_ | refine Ent.runR ?_ | refine Ent.drawn ?_ | refine Ent.store (by kernel_rfl) ?_ | refine Ent.resN ?_ | refine Ent.res1 ?_ | refine Ent.gop_yes ?_ | refine Ent.gop_no (by decide) ?_ | refine Ent.gop_undef ?_ | refine Ent.glt_undef ?_ | refine Ent.grc_undef ?_ | refine Ent.glt_yes ?_ | refine Ent.glt_no (by decide) ?_ | refine Ent.grc_yes ?_ | refine Ent.grc_no (by decide) ?_)
        refine Ent.bslice fun g5 => ?_
        refine Ent.pick Ow (.sl T.api_Node 5 (ndsD l)) (Ent.pick Ow (ndD nd) (Ent.pick blk g5 ?_))
        refine Ent.appendD (sz := 5) rfl rfl (by omega) (by rw [ndsD_length]; omega) fun A4 c4 => ?_
        rw [← ndsD_snoc, ndsD_length]
        repeat (first | refine Ent.runW (wrap_i64 (by omega) (by omega)) ?_ | refine Ent.runWL (wrap_i64 (by omega) (by omega)) ?_ | refine Ent.runWR (wrap_i64 (by omega) (by omega)) ?_ | refine Ent.run ?_ | refine Ent.runL ?_ | refine Ent.runR ?_ | refine Ent.drawn ?_ | refine Ent.store (by kernel_rfl) ?_ | refine Ent.resN ?_ | refine Ent.res1 ?_ | refine Ent.gop_yes ?_ | refine Ent.gop_no (by decide) ?_ | refine Ent.gop_undef ?_ | refine Ent.glt_undef ?_ | refine Ent.grc_undef ?_ | refine Ent.glt_yes ?_ | refine Ent.glt_no (by decide) ?_ | refine Ent.grc_yes ?_ | refine Ent.grc_no (by decide) ?_)
        refine Ent.pick blk g4 (Ent.drop ?_)
        refine Ent.pick blk g2 (Ent.pick blk g1 (Ent.pick blk g3 ?_))
        refine Ent.pick Ow (.sl T.api_Node 5 (ndsD (l ++ [nd]))) (Ent.pick blk g ?_)
        have := hrec (l ++ [nd], at', A4, c4) (by simp; omega)
        simp only [List.length_append, List.length_cons, List.length_nil, Nat.zero_add, Int.natCast_add, Int.natCast_one] at this
        rw [show IntKind.i32.wrap ((l.length : Int) + 1) = (l.length : Int) + 1 from wrap_i32 (by omega) (by omega)]
        refine Ent.add ?_ this
        refine ⟨⟨by omega, hat', ?_⟩, fun _ => rfl⟩
        rw [hf3]
        simp only
        rw [pre_pre, show n.toNat - (l.length + 1) = r by omega]
    · have hlt : (l.length : Int) = n := by
        have : ¬ (l.length : Int) < n := by simpa using h
        omega
      have hr : n.toNat - l.length = 0 := by omega
      rw [hr] at hf3
      rw [show getsF (Cd.get bs cd) 0 a = .ok ([], a) by unfold getsF; rfl] at hf3
      unfold zeroC
      repeat (first | refine Ent.runW (wrap_i64 (by omega) (by omega)) ?_ | refine Ent.runWL (wrap_i64 (by omega) (by omega)) ?_ | refine Ent.runWR (wrap_i64 (by omega) (by omega)) ?_ | refine Ent.run ?_ | refine Ent.runL ?_ | refine Ent.runR ?_ | refine Ent.drawn ?_ | refine Ent.store (by kernel_rfl) ?_ | refine Ent.resN ?_ | refine Ent.res1 ?_ | refine Ent.gop_yes ?_ | refine Ent.gop_no (by decide) ?_ | refine Ent.gop_undef ?_ | refine Ent.glt_undef ?_ | refine Ent.grc_undef ?_ | refine Ent.glt_yes ?_ | refine Ent.glt_no (by decide) ?_ | refine Ent.grc_yes ?_ | refine Ent.grc_no (by decide) ?_)
      refine Ent.pick blk g1 (Ent.drop (Ent.pick blk g2 (Ent.drop (Ent.pick blk g3 (Ent.drop ?_)))))
      refine Ent.pick Ow (.sl T.api_Node 5 (ndsD l)) (Ent.add own_nilB (nd_close (n := .mk 9 0 false [] l) ?_))
      exact hk (.mk 9 0 false [] l) a (by rw [hf3]; simp [pre]) hf2 none 0 A2 c2
theorem rcd_ok {cl : List Cd} (ih : ∀ c ∈ cl, GetOk c) : GetOk (.rcd cl) := fun w0 p Pn K g m cap at_ A bs v hv hb hm h1 h => by
  unfold CdV cdV at hv
  obtain ⟨A0, c0, rfl, hv1, hv2, hv3, hv4⟩ := hv
  refine Ent.call (fun w h => meth.schema_record_get h) ?_
  obtain ⟨he, hk⟩ := h
  obtain ⟨hlen, _, _⟩ := hb.len
  subst hlen
  refine Ent.call (fun w h => enter.schema_record_get h) ?_
  unfold W.schema_record_get
  refine Ent.box fun g1 => ?_
  refine Ent.alloc fun g2 => ?_
  unfold Cd.get at he hk
  repeat (first | refine Ent.runW (wrap_i64 (by omega) (by omega)) ?_ | refine Ent.runWL (wrap_i64 (by omega) (by omega)) ?_ | refine Ent.runWR (wrap_i64 (by omega) (by omega)) ?_ | refine Ent.run ?_ | refine Ent.runL ?_ | refine Ent.runR ?_ | refine Ent.drawn ?_ | refine Ent.store (by kernel_rfl) ?_ | refine Ent.resN ?_ | refine Ent.res1 ?_ | refine Ent.gop_yes ?_ | refine Ent.gop_no (by decide) ?_ | refine Ent.gop_undef ?_ | refine Ent.glt_undef ?_ | refine Ent.grc_undef ?_ | refine Ent.glt_yes ?_ | refine Ent.glt_no (by decide) ?_ | refine Ent.grc_yes ?_ | refine Ent.grc_no (by decide) ?_)
  refine Ent.alloc fun g3 => ?_
  repeat (first | refine Ent.runW (wrap_i64 (by omega) (by omega)) ?_ | refine Ent.runWL (wrap_i64 (by omega) (by omega)) ?_ | refine Ent.runWR (wrap_i64 (by omega) (by omega)) ?_ | refine Ent.run ?_ | refine Ent.runL ?_ | refine Ent.runR ?_ | refine Ent.drawn ?_ | refine Ent.store (by kernel_rfl) ?_ | refine Ent.resN ?_ | refine Ent.res1 ?_ | refine Ent.gop_yes ?_ | refine Ent.gop_no (by decide) ?_ | refine Ent.gop_undef ?_ | refine Ent.glt_undef ?_ | refine Ent.grc_undef ?_ | refine Ent.glt_yes ?_ | refine Ent.glt_no (by decide) ?_ | refine Ent.grc_yes ?_ | refine Ent.grc_no (by decide) ?_)
  refine Ent.pick blk g2 (Ent.pick blk g1 (Ent.pick blk g3 (Ent.add own_nilL (Ent.pick blk g ?_))))
  refine Ent.L2 (σ := List Nd × Nat × Option Addr × Nat) (fun _ => .int .i64 0) (fun s => .int .i64 s.1.length)
    (fun s => pure' (s.1.length ≤ cl.length ∧ s.2.1 ≤ bs.length ∧ Cd.getl bs cl at_ = pre s.1 (Cd.getl bs (cl.drop s.1.length) s.2.1)) :: blk g [.slice A bs.length cap, .int .i64 s.2.1] :: Ow (.sl T.api_Node 5 (ndsD s.1)) [.slice s.2.2.1 s.1.length s.2.2.2] :: blk g3 [.int .i64 10, .int .i64 0, .bool false, .slice none 0 0, .slice s.2.2.1 s.1.length s.2.2.2] :: blk g1 [.slice A0 cl.length c0] :: blk g2 (zeroC 0) :: p)
    (fun s => cl.length - s.1.length) ([], at_, none, 0) ?_ ?_
  · intro w hs
    refine hs.add ⟨⟨by simp, h1, ?_⟩, fun _ => rfl⟩
    show _ = pre [] (Cd.getl bs cl _)
    cases Cd.getl bs cl at_ with
    | error e => rfl
    | ok r => rfl
  · intro s k hrec
    obtain ⟨l, a, A2, c2⟩ := s
    refine Ent.pure fun hf => ?_
    obtain ⟨hf1, hf2, hf3⟩ := hf
    simp only at hf1 hf2 hf3 hrec ⊢
    repeat (first | refine Ent.runW (wrap_i64 (by omega) (by omega)) ?_ | refine Ent.runWL (wrap_i64 (by omega) (by omega)) ?_ | refine Ent.runWR (wrap_i64 (by omega) (by omega)) ?_ | refine Ent.run ?_ | refine Ent.runL ?_ | refine Ent.runR ?_ | refine Ent.drawn ?_ | refine Ent.store (by kernel_rfl) ?_ | refine Ent.resN ?_ | refine Ent.res1 ?_ | refine Ent.gop_yes ?_ | refine Ent.gop_no (by decide) ?_ | refine Ent.gop_undef ?_ | refine Ent.glt_undef ?_ | refine Ent.grc_undef ?_ | refine Ent.glt_yes ?_ | refine Ent.glt_no (by decide) ?_ | refine Ent.grc_yes ?_ | refine Ent.grc_no (by decide) ?_)
    refine Ent.ite (fun h => ?_) (fun h => ?_)
    · have hlt : l.length < cl.length := by simpa using h
      clear h
      rw [List.drop_eq_getElem_cons hlt, getl_cons] at hf3
      rcases hv4 with hv4 | ⟨b, o, rfl, hv4⟩
      · subst hv4
        simp at hlt
      obtain ⟨u, hu, ⟨t, ux, rfl⟩, hu3⟩ := hv4.get (List.getElem?_eq_getElem hlt)
      haveI hld : LoadAt p ⟨b, o + l.length, none⟩ (.iface t ux) := ⟨fun w0 w hs => hu3 w0 w hs⟩
      refine Ent.at_ (fun w _ => ia_run (sz := 1) (by omega) (by omega)) ?_
      rw [add_none, Nat.mul_one, Int.toNat_natCast]
      repeat (first | refine Ent.runW (wrap_i64 (by omega) (by omega)) ?_ | refine Ent.runWL (wrap_i64 (by omega) (by omega)) ?_ | refine Ent.runWR (wrap_i64 (by omega) (by omega)) ?_ | refine Ent.run ?_ | refine Ent.runL ?_ | refine Ent.runR ?_ | refine Ent.drawn ?_ | refine Ent.store (by kernel_rfl) ?_ | refine Ent.resN ?_ | refine Ent.res1 ?_ | refine Ent.gop_yes ?_ | refine Ent.gop_no (by decide) ?_ | refine Ent.gop_undef ?_ | refine Ent.glt_undef ?_ | refine Ent.grc_undef ?_ | refine Ent.glt_yes ?_ | refine Ent.glt_no (by decide) ?_ | refine Ent.grc_yes ?_ | refine Ent.grc_no (by decide) ?_)
      refine ih _ (List.getElem_mem hlt) _ _ _ _ _ _ _ _ _ bs _ (cdV.mono (fun _ _ h => h.skip.skip.skip.skip) _ _ hu) hb.skip.skip.skip.skip hm hf2 ⟨fun e hE at' hat' kk => ?_, fun nd at' hE hat' A1 c1 A3 c3 => ?_⟩
      · have hne := get_err _ _ _ _ hE
        rw [hE] at hf3
        repeat (first | refine Ent.runW (wrap_i64 (by omega) (by omega)) ?_ | refine Ent.runWL (wrap_i64 (by omega) (by omega)) ?_ | refine Ent.runWR (wrap_i64 (by omega) (by omega)) ?_ | refine Ent.run ?_ | refine Ent.runL ?_ | refine Ent.runR ?_ | refine Ent.drawn ?_ | refine Ent.store (by kernel_rfl) ?_ | refine Ent.resN ?_ | refine Ent.res1 ?_ | refine Ent.gop_yes ?_ | refine Ent.gop_no (by decide) ?_ | refine Ent.gop_undef ?_ | refine Ent.glt_undef ?_ | refine Ent.grc_undef ?_ | refine Ent.glt_yes ?_ | refine Ent.glt_no (by decide) ?_ | refine Ent.grc_yes ?_ | refine Ent.grc_no (by decide) ?_)
        refine Ent.alloc fun g4 => ?_
        unfold zeroC
        repeat (first | refine Ent.runW (wrap_i64 (by omega) (by omega)) ?_ | refine Ent.runWL (wrap_i64 (by omega) (by omega)) ?_ | refine Ent.runWR (wrap_i64 (by omega) (by omega)) ?_ | refine Ent.run ?_ | refine Ent.runL ?_ | refine Ent.runR ?_ | refine Ent.drawn ?_ | refine Ent.store (by kernel_rfl) ?_ | refine Ent.resN ?_ | refine Ent.res1 ?_ | refine Ent.gop_yes ?_ | refine Ent.gop_no (by decide) ?_ | refine Ent.gop_undef ?_ | refine Ent.glt_undef ?_ | refine Ent.grc_undef ?_ | refine Ent.glt_yes ?_ | refine Ent.glt_no (by decide) ?_ | refine Ent.grc_yes ?_ | refine Ent.grc_no (by decide) ?_)
        rw [decide_eq_false hne]
        refine Ent.ite_t ?_
        repeat (first | refine Ent.runW (wrap_i64 (by omega) (by omega)) ?_ | refine Ent.runWL (wrap_i64 (by omega) (by omega)) ?_ | refine Ent.runWR (wrap_i64 (by omega) (by omega)) ?_ | refine Ent.run ?_ | refine Ent.runL ?_ | refine Ent.runR ?_ | refine Ent.drawn ?_ | refine Ent.store (by kernel_rfl) ?_ | refine Ent.resN ?_ | refine Ent.res1 ?_ | refine Ent.gop_yes ?_ | refine Ent.gop_no (by decide) ?_ | refine Ent.gop_undef ?_ | refine Ent.glt_undef ?_ | refine Ent.grc_undef ?_ | refine Ent.glt_yes ?_ | refine Ent.glt_no (by decide) ?_ | refine Ent.grc_yes ?_ | refine Ent.grc_no (by decide) ?_)
        refine Ent.pick blk g1 (Ent.drop (Ent.pick blk g2 (Ent.drop (Ent.pick blk g3 (Ent.drop (Ent.pick blk g4 (Ent.drop ?_)))))))
        refine Ent.pick Ow (.sl T.api_Node 5 (ndsD l)) (Ent.drop ?_)
        exact he e (by rw [hf3]; rfl) at' hat' 0
      · rw [hE] at hf3
        repeat (first | refine Ent.runW (wrap_i64 (by omega) (by omega)) ?_ | refine Ent.runWL (wrap_i64 (by omega) (by omega)) ?_ | refine Ent.runWR (wrap_i64 (by omega) (by omega)) ?_ | refine Ent.run ?_ | refine Ent.runL ?_ | refine Ent.runR ?_ | refine Ent.drawn ?_ | refine Ent.store (by kernel_rfl) ?_ | refine Ent.resN ?_ | refine Ent.res1 ?_ | refine Ent.gop_yes ?_ | refine Ent.gop_no (by decide) ?_ | refine Ent.gop_undef ?_ | refine Ent.glt_undef ?_ | refine Ent.grc_undef ?_ | refine Ent.glt_yes ?_ | refine Ent.glt_no (by decide) ?_ | refine Ent.grc_yes ?_ | refine Ent.grc_no (by decide) ?_)
        refine Ent.alloc fun g4 => ?_
        unfold ndC
        repeat (first | refine Ent.runW (wrap_i64 (by omega) (by omega)) ?_ | refine Ent.runWL (wrap_i64 (by omega) (by omega)) ?_ | refine Ent.runWR (wrap_i64 (by omega) (by omega)) ?_ | refine Ent.run ?_ | refine Ent.runL ?_ | refine Ent.runR ?_ | refine Ent.drawn ?_ | refine Ent.store (by kernel_rfl) ?_ | refine Ent.resN ?_ | refine Ent.res1 ?_ | refine Ent.gop_yes ?_ | refine Ent.gop_no (by decide) ?_ | refine Ent.gop_undef ?_ | refine Ent.glt_undef ?_ | refine Ent.grc_undef ?_ | refine Ent.glt_yes ?_ | refine Ent.glt_no (by decide) ?_ | refine Ent.grc_yes ?_ | refine Ent.grc_no (by decide) ?_)
        refine Ent.ite_f ?_
        repeat (first | refine Ent.runW (wrap_i64 (by omega) (by omega)) ?_ | refine Ent.runWL (wrap_i64 (by omega) (by omega)) ?_ | refine Ent.runWR (wrap_i64 (by omega) (by omega)) ?_ | refine Ent.run ?_ | refine Ent.runL ?_ | refine Ent.runR ?_ | refine Ent.drawn ?_ | refine Ent.store (by kernel_rfl) ?_ | refine Ent.resN ?_ | refine Ent.res1 ?_ | refine Ent.gop_yes ?_ | refine Ent.gop_no (by decide) ?_ | refine Ent.gop_undef ?_ | refine Ent.glt_undef ?_ | refine Ent.grc_undef ?_ | refine Ent.glt_yes ?_ | refine Ent.glt_no (by decide) ?_ | refine Ent.grc_yes ?_ | refine Ent.grc_no (by decide) ?_)
        refine Ent.bslice fun g5 => ?_
        refine Ent.pick Ow (.sl T.api_Node 5 (ndsD l)) (Ent.pick Ow (ndD nd) (Ent.pick blk g5 ?_))
        refine Ent.appendD (sz := 5) rfl rfl (by omega) (by rw [ndsD_length]; omega) fun A4 c4 => ?_
        rw [← ndsD_snoc, ndsD_length]
        repeat (first | refine Ent.runW (wrap_i64 (by omega) (by omega)) ?_ | refine Ent.runWL (wrap_i64 (by omega) (by omega)) ?_ | refine Ent.runWR (wrap_i64 (by omega) (by omega)) ?_ | refine Ent.run ?_ | refine Ent.runL ?_ | refine Ent.runR ?_ | refine Ent.drawn ?_ | refine Ent.store (by kernel_rfl) ?_ | refine Ent.resN ?_ | refine Ent.res1 ?_ | refine Ent.gop_yes ?_ | refine Ent.gop_no (by decide) ?_ | refine Ent.gop_undef ?_ | refine Ent.glt_undef ?_ | refine Ent.grc_undef ?_ | refine Ent.glt_yes ?_ | refine Ent.glt_no (by decide) ?_ | refine Ent.grc_yes ?_ | refine Ent.grc_no (by decide) ?_)
        refine Ent.pick blk g4 (Ent.drop ?_)
        refine Ent.pick blk g2 (Ent.pick blk g1 (Ent.pick blk g3 ?_))
        refine Ent.pick Ow (.sl T.api_Node 5 (ndsD (l ++ [nd]))) (Ent.pick blk g ?_)
        have := hrec (l ++ [nd], at', A4, c4) (by simp; omega)
        simp only [List.length_append, List.length_cons, List.length_nil, Nat.zero_add, Int.natCast_add, Int.natCast_one] at this
        refine Ent.add ?_ this
        refine ⟨⟨by omega, hat', ?_⟩, fun _ => rfl⟩
        rw [hf3]
        simp only
        rw [pre_pre]
    · have hlt : l.length = cl.length := by
        have : ¬ (l.length : Int) < cl.length := by simpa using h
        omega
      rw [List.drop_of_length_le (by omega), show Cd.getl bs [] a = .ok ([], a) by unfold Cd.getl; rfl] at hf3
      unfold zeroC
      repeat (first | refine Ent.runW (wrap_i64 (by omega) (by omega)) ?_ | refine Ent.runWL (wrap_i64 (by omega) (by omega)) ?_ | refine Ent.runWR (wrap_i64 (by omega) (by omega)) ?_ | refine Ent.run ?_ | refine Ent.runL ?_ | refine Ent.runR ?_ | refine Ent.drawn ?_ | refine Ent.store (by kernel_rfl) ?_ | refine Ent.resN ?_ | refine Ent.res1 ?_ | refine Ent.gop_yes ?_ | refine Ent.gop_no (by decide) ?_ | refine Ent.gop_undef ?_ | refine Ent.glt_undef ?_ | refine Ent.grc_undef ?_ | refine Ent.glt_yes ?_ | refine Ent.glt_no (by decide) ?_ | refine Ent.grc_yes ?_ | refine Ent.grc_no (by decide) ?_)
      refine Ent.pick blk g1 (Ent.drop (Ent.pick blk g2 (Ent.drop (Ent.pick blk g3 (Ent.drop ?_)))))
      refine Ent.pick Ow (.sl T.api_Node 5 (ndsD l)) (Ent.add own_nilB (nd_close (n := .mk 10 0 false [] l) ?_))
      exact hk (.mk 10 0 false [] l) a (by rw [hf3]; simp [pre]) hf2 none 0 A2 c2
mutual
theorem get_ok : ∀ c : Cd, GetOk c
  | .num k => num_ok k
  | .txt k => txt_ok k
  | .blb k => blb_ok k
  | .arr c => arr_ok (get_ok c)
  | .rcd l => rcd_ok (gets_ok l)
theorem gets_ok : ∀ (l : List Cd) (c : Cd), c ∈ l → GetOk c
  | [], c, h => by cases h
  | x :: r, c, h => by
    have hx := get_ok x
    rcases List.mem_cons.1 h with h' | h'
    · exact h' ▸ hx
    · exact gets_ok r c h'
end
end Go.Lt
