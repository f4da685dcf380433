/- spoil: a table of one's own, written all over. Conditions: none. -/
import Derived.Test.YtpmpgmjllagomaaTabs4
set_option linter.unusedVariables false
set_option maxHeartbeats 4000000
set_option linter.unusedSimpArgs false
set_option maxRecDepth 100000
namespace Go.Lt
open Go
attribute [local irreducible] op gop lt glt rc grc ite' drawn also ldR
section
variable {w0 : World} {p : List HP} {Pn : PK} {K : Value → WP}
theorem own_sc {v : Value} {r : List D} {cs : List Value} {φ : WP} (h : ∀ b, cs = v :: b → Ent w0 (OwP r b :: p) φ) : Ent w0 (OwP (.sc v :: r) cs :: p) φ := by
  refine Ent.ex fun a => Ent.ex fun b => both_three (Ent.pure fun e1 => Ent.pure fun e2 => ?_)
  obtain ⟨rfl, _⟩ := e2
  exact h b e1
theorem own_sl {e sz : Nat} {l : List D} {cs : List Value} {φ : WP} (h : ∀ A c, cs = [.slice A l.length c] → Ent w0 (Ow (.sl e sz l) [.slice A l.length c] :: p) φ) : Ent w0 (OwP [.sl e sz l] cs :: p) φ := by
  refine Ent.ex fun a => Ent.ex fun b => both_three (Ent.pure fun e1 => ?_)
  refine Ent.freeze fun x hx => ?_
  obtain ⟨A, c, rfl, _⟩ := Ow.rd _ _ _ hx
  refine Ent.perm (List.Perm.swap _ _ _) ?_
  refine Ent.pure fun e2 => ?_
  subst e2
  exact Ent.thaw hx (h A c (by simpa using e1))
theorem fldOwn_open {f : Fld} {a : List Value} {φ : WP} (h : ∀ A c, a = fldC f A c → Ent w0 (flsP (.slice A f.elem.length c) f.elem :: p) φ) : Ent w0 (Ow (fldD f) a :: p) φ := by
  cases f with
  | mk n k f t e =>
    refine own_sc fun b1 h1 => own_sc fun b2 h2 => own_sc fun b3 h3 => own_sc fun b4 h4 => own_sl fun A c h5 => ?_
    subst h5; subst h4; subst h3; subst h2; subst h1
    have := h A c (by rw [fldsD_length]; rfl)
    rw [fldsD_length]
    exact this
theorem owc_open {sz : Nat} {d : D} {l : List D} {i : List (List Value)} {φ : WP} (h : ∀ a b, i = a :: b → a.length = sz → Ent w0 (Ow d a :: OwC sz l b :: p) φ) : Ent w0 (OwC sz (d :: l) i :: p) φ := by
  refine Ent.ex fun a => Ent.ex fun b => both_three (Ent.pure fun e1 => ?_)
  exact h a b e1.1 e1.2
def SpoilOk (fs : List Fld) : Prop := ∀ (w0 : World) (p : List HP) (Pn : PK) (K : Value → WP) (A : Option Addr) (c : Nat), fs.length ≤ 1048576 → Ent w0 p (K (.tuple #[])) → Ent w0 (flsP (.slice A fs.length c) fs :: p) (op PR Pn (S.fn F.leatlaw10_spoil [.slice A fs.length c]) K)
theorem spoil_ok {fs : List Fld} (ih : ∀ f ∈ fs, f.elem.length ≤ 1048576 ∧ SpoilOk f.elem) : SpoilOk fs := fun w0 p Pn K A c hl hk => by
  refine Ent.call (fun w h => enter.leatlaw10_spoil h) ?_
  unfold W.leatlaw10_spoil
  refine Ow.open_sl fun i => ?_
  rw [fldsD_length]
  refine Ent.perm (List.Perm.swap _ _ _) (Ent.freeze fun x hx => ?_)
  obtain ⟨hi1, hi2⟩ := OwC.lens 5 _ _ _ hx
  rw [fldsD_length] at hi1
  refine Ent.thaw hx ?_
  repeat (first | refine Ent.runW (wrap_i64 (by omega) (by omega)) ?_ | refine Ent.runWL (wrap_i64 (by omega) (by omega)) ?_ | refine Ent.runWR (wrap_i64 (by omega) (by omega)) ?_ | refine Ent.run ?_ | refine Ent.runL ?_ | refine Ent.runR ?_ | refine Ent.drawn ?_ | refine Ent.store (by kernel_rfl) ?_ | refine Ent.resN ?_ | refine Ent.res1 ?_ | refine Ent.gop_yes ?_ | refine Ent.gop_no (by decide) ?_ | refine Ent.gop_undef ?_ | refine Ent.glt_undef ?_ | refine Ent.grc_undef ?_ | refine Ent.glt_yes ?_ | refine Ent.glt_no (by decide) ?_ | refine Ent.grc_yes ?_ | refine Ent.grc_no (by decide) ?_)
  have hfl : i.flatten.length = 5 * fs.length := by
    rw [List.length_flatten, ← hi1]
    have : ∀ l : List (List Value), (∀ a ∈ l, a.length = 5) → (l.map List.length).sum = 5 * l.length := by
      intro l
      induction l with
      | nil => simp
      | cons a l ih => intro h; simp [h a List.mem_cons_self, ih (fun x hx => h x (List.mem_cons_of_mem _ hx))]; omega
    exact this i hi2
  refine Ent.L1 (σ := Nat × List Value) (fun s => .int .i64 s.1)
    (fun s => pure' (s.1 ≤ fs.length ∧ s.2.length = 5 * fs.length ∧ ∀ j, 5 * s.1 ≤ j → s.2[j]? = i.flatten[j]?) :: row T.api_Field 5 (.slice A fs.length c) fs.length s.2 :: OwC 5 (fldsD (fs.drop s.1)) (i.drop s.1) :: p) (fun s => fs.length - s.1) (0, i.flatten)
    (fun w hs => Sat.add (a := pure' _) ⟨⟨Nat.zero_le _, hfl, fun _ _ => rfl⟩, fun _ => rfl⟩ (by exact Sat.perm (List.Perm.swap _ _ _) hs)) ?_
  rintro ⟨j, l⟩ k hrec
  refine Ent.pure fun ⟨hj, hll, hle⟩ => ?_
  simp only at hj hll hle hrec ⊢
  repeat (first | refine Ent.runW (wrap_i64 (by omega) (by omega)) ?_ | refine Ent.runWL (wrap_i64 (by omega) (by omega)) ?_ | refine Ent.runWR (wrap_i64 (by omega) (by omega)) ?_ | refine Ent.run ?_ | refine Ent.runL ?_ | refine Ent.runR ?_ | refine Ent.drawn ?_ | refine Ent.store (by kernel_rfl) ?_ | refine Ent.resN ?_ | refine Ent.res1 ?_ | refine Ent.gop_yes ?_ | refine Ent.gop_no (by decide) ?_ | refine Ent.gop_undef ?_ | refine Ent.glt_undef ?_ | refine Ent.grc_undef ?_ | refine Ent.glt_yes ?_ | refine Ent.glt_no (by decide) ?_ | refine Ent.grc_yes ?_ | refine Ent.grc_no (by decide) ?_)
  refine Ent.ite (fun hq => ?_) (fun hq => ?_)
  · have hlt : j < fs.length := by simpa using hq
    refine row_some (by omega) fun g hg => ?_
    subst hg
    rw [List.drop_eq_getElem_cons hlt]
    refine Ent.perm (List.Perm.swap _ _ _) ?_
    refine owc_open fun a b hab ha => fldOwn_open fun A2 c2 hfa => ?_
    have hji : j < i.length := by omega
    have haj : a = i[j] := by
      rw [List.drop_eq_getElem_cons hji] at hab
      injection hab with h1 h2
      exact h1.symm
    have hbj : b = i.drop (j + 1) := by
      rw [List.drop_eq_getElem_cons hji] at hab
      injection hab with h1 h2
      exact h2.symm
    have h4 : l[j * 5 + 4]? = some (.slice A2 fs[j].elem.length c2) := by
      rw [hle _ (by omega)]
      refine flatten_get i j a hi2 (by rw [haj]; exact List.getElem?_eq_getElem hji) 4 _ ?_
      rw [hfa]
      rfl
    have hld : LoadAt (row T.api_Field 5 (.slice (some ⟨g, 0, none⟩) fs.length c) fs.length l :: p) ⟨g, j * 5 + 4, none⟩ (.slice A2 fs[j].elem.length c2) := row_load h4
    have hld' : LoadAt (flsP (.slice A2 fs[j].elem.length c2) fs[j].elem :: OwC 5 (fldsD (fs.drop (j + 1))) b :: row T.api_Field 5 (.slice (some ⟨g, 0, none⟩) fs.length c) fs.length l :: p) ⟨g, j * 5 + 4, none⟩ (.slice A2 fs[j].elem.length c2) := hld.keep
    refine Ent.at_ (fun w _ => ia_run (sz := 5) (by omega) (by omega)) ?_
    simp only [add_none, Int.toNat_natCast, Nat.zero_add]
    repeat (first | refine Ent.runW (wrap_i64 (by omega) (by omega)) ?_ | refine Ent.runWL (wrap_i64 (by omega) (by omega)) ?_ | refine Ent.runWR (wrap_i64 (by omega) (by omega)) ?_ | refine Ent.run ?_ | refine Ent.runL ?_ | refine Ent.runR ?_ | refine Ent.drawn ?_ | refine Ent.store (by kernel_rfl) ?_ | refine Ent.resN ?_ | refine Ent.res1 ?_ | refine Ent.gop_yes ?_ | refine Ent.gop_no (by decide) ?_ | refine Ent.gop_undef ?_ | refine Ent.glt_undef ?_ | refine Ent.grc_undef ?_ | refine Ent.glt_yes ?_ | refine Ent.glt_no (by decide) ?_ | refine Ent.grc_yes ?_ | refine Ent.grc_no (by decide) ?_)
    refine (ih _ (List.getElem_mem hlt)).2 w0 _ _ _ A2 c2 (ih _ (List.getElem_mem hlt)).1 ?_
    refine Ent.perm (List.Perm.swap _ _ _) ?_
    repeat (first | refine Ent.runW (wrap_i64 (by omega) (by omega)) ?_ | refine Ent.runWL (wrap_i64 (by omega) (by omega)) ?_ | refine Ent.runWR (wrap_i64 (by omega) (by omega)) ?_ | refine Ent.run ?_ | refine Ent.runL ?_ | refine Ent.runR ?_ | refine Ent.drawn ?_ | refine Ent.store (by kernel_rfl) ?_ | refine Ent.resN ?_ | refine Ent.res1 ?_ | refine Ent.gop_yes ?_ | refine Ent.gop_no (by decide) ?_ | refine Ent.gop_undef ?_ | refine Ent.glt_undef ?_ | refine Ent.grc_undef ?_ | refine Ent.glt_yes ?_ | refine Ent.glt_no (by decide) ?_ | refine Ent.grc_yes ?_ | refine Ent.grc_no (by decide) ?_)
    refine Ent.at_ (fun w _ => ia_run (sz := 5) (by omega) (by omega)) ?_
    simp only [add_none, Int.toNat_natCast, Nat.zero_add]
    repeat (first | refine Ent.runW (wrap_i64 (by omega) (by omega)) ?_ | refine Ent.runWL (wrap_i64 (by omega) (by omega)) ?_ | refine Ent.runWR (wrap_i64 (by omega) (by omega)) ?_ | refine Ent.run ?_ | refine Ent.runL ?_ | refine Ent.runR ?_ | refine Ent.drawn ?_ | refine Ent.store (by kernel_rfl) ?_ | refine Ent.resN ?_ | refine Ent.res1 ?_ | refine Ent.gop_yes ?_ | refine Ent.gop_no (by decide) ?_ | refine Ent.gop_undef ?_ | refine Ent.glt_undef ?_ | refine Ent.grc_undef ?_ | refine Ent.glt_yes ?_ | refine Ent.glt_no (by decide) ?_ | refine Ent.grc_yes ?_ | refine Ent.grc_no (by decide) ?_)
    refine Ent.storeRow (by kernel_rfl) rfl (by omega) ?_
    repeat (first | refine Ent.runW (wrap_i64 (by omega) (by omega)) ?_ | refine Ent.runWL (wrap_i64 (by omega) (by omega)) ?_ | refine Ent.runWR (wrap_i64 (by omega) (by omega)) ?_ | refine Ent.run ?_ | refine Ent.runL ?_ | refine Ent.runR ?_ | refine Ent.drawn ?_ | refine Ent.store (by kernel_rfl) ?_ | refine Ent.resN ?_ | refine Ent.res1 ?_ | refine Ent.gop_yes ?_ | refine Ent.gop_no (by decide) ?_ | refine Ent.gop_undef ?_ | refine Ent.glt_undef ?_ | refine Ent.grc_undef ?_ | refine Ent.glt_yes ?_ | refine Ent.glt_no (by decide) ?_ | refine Ent.grc_yes ?_ | refine Ent.grc_no (by decide) ?_)
    refine Ent.at_ (fun w _ => ia_run (sz := 5) (by omega) (by omega)) ?_
    simp only [add_none, Int.toNat_natCast, Nat.zero_add]
    repeat (first | refine Ent.runW (wrap_i64 (by omega) (by omega)) ?_ | refine Ent.runWL (wrap_i64 (by omega) (by omega)) ?_ | refine Ent.runWR (wrap_i64 (by omega) (by omega)) ?_ | refine Ent.run ?_ | refine Ent.runL ?_ | refine Ent.runR ?_ | refine Ent.drawn ?_ | refine Ent.store (by kernel_rfl) ?_ | refine Ent.resN ?_ | refine Ent.res1 ?_ | refine Ent.gop_yes ?_ | refine Ent.gop_no (by decide) ?_ | refine Ent.gop_undef ?_ | refine Ent.glt_undef ?_ | refine Ent.grc_undef ?_ | refine Ent.glt_yes ?_ | refine Ent.glt_no (by decide) ?_ | refine Ent.grc_yes ?_ | refine Ent.grc_no (by decide) ?_)
    refine Ent.storeRow (by kernel_rfl) rfl (by simp; omega) ?_
    repeat (first | refine Ent.runW (wrap_i64 (by omega) (by omega)) ?_ | refine Ent.runWL (wrap_i64 (by omega) (by omega)) ?_ | refine Ent.runWR (wrap_i64 (by omega) (by omega)) ?_ | refine Ent.run ?_ | refine Ent.runL ?_ | refine Ent.runR ?_ | refine Ent.drawn ?_ | refine Ent.store (by kernel_rfl) ?_ | refine Ent.resN ?_ | refine Ent.res1 ?_ | refine Ent.gop_yes ?_ | refine Ent.gop_no (by decide) ?_ | refine Ent.gop_undef ?_ | refine Ent.glt_undef ?_ | refine Ent.grc_undef ?_ | refine Ent.glt_yes ?_ | refine Ent.glt_no (by decide) ?_ | refine Ent.grc_yes ?_ | refine Ent.grc_no (by decide) ?_)
    have := hrec (j + 1, (l.set (j * 5 + 0) (.string { data := #[63] })).set (j * 5 + 1) (.int .i64 77)) (by simp only; omega)
    simp only [Int.natCast_add, Int.natCast_one] at this
    subst hbj
    refine Ent.add (a := pure' _) ⟨⟨by omega, by simp; omega, fun m hm => ?_⟩, fun _ => rfl⟩ this
    rw [List.getElem?_set_ne (by omega), List.getElem?_set_ne (by omega)]
    exact hle m (by omega)
  · exact Ent.drop (Ent.drop hk)
mutual
theorem spoilF : ∀ f : Fld, f.ok → f.elem.length ≤ 1048576 ∧ SpoilOk f.elem
  | .mk n k a b e, h => by
    cases h with
    | mk h1 h2 h3 => exact ⟨by assumption, spoil_ok (spoilFs e (by assumption))⟩
theorem spoilFs : ∀ l : List Fld, (∀ x ∈ l, x.ok) → ∀ f ∈ l, f.elem.length ≤ 1048576 ∧ SpoilOk f.elem
  | [], _, f, hf => by cases hf
  | x :: r, h, f, hf => by
    have hx := spoilF x (h x List.mem_cons_self)
    have hr := spoilFs r (fun y hy => h y (List.mem_cons_of_mem _ hy))
    rcases List.mem_cons.1 hf with h' | h'
    · exact h' ▸ hx
    · exact hr f h'
end
theorem spoil_spec {fs : List Fld} (h : ∀ x ∈ fs, x.ok) : SpoilOk fs := spoil_ok (spoilFs fs h)
end
end Go.Lt
