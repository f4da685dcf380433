/- Tables are checked; the codec of a table. Conditions: none. -/
import Derived.Test.YtpmpgmjllagomaaStab2
set_option linter.unusedVariables false
set_option maxHeartbeats 4000000
set_option linter.unusedSimpArgs false
set_option maxRecDepth 100000
namespace Go.Lt
open Go
attribute [local irreducible] op gop lt glt rc grc ite' drawn also ldR
theorem rfield_ok {n : ByteArray} {k a b : Int} {e : List Fld} (hok : Fld.ok (.mk n k a b e)) (ih : TabOk F.leatref10_list e) : FieldOk F.leatref10_field true (.mk n k a b e) := fun w0 p Pn K A c d hf hd hy hn => by
  obtain ⟨A', c', he, hel⟩ := fld_open hf
  simp only [fldC, List.cons.injEq, Value.slice.injEq, and_true, true_and] at he
  obtain ⟨rfl, _, rfl⟩ := he
  cases hok with
  | mk hns _ ha hb hl _ =>
  have hy : (0 ≤ a ∧ b ≤ 3 ∧ a ≤ b) → ((1 ≤ k ∧ k ≤ 8 ∧ e = []) ∨ ((k = 9 ∧ e.length = 1 ∨ k = 10) ∧ tabOk (d + 1) e ∧ ∀ v, a ≤ v → v ≤ b → hereL e v ≠ [])) → n.size ≠ 0 → Ent w0 p (K (.bool true)) := fun h1 h2 h3 => hy ⟨(good_eq d n k a b e).2 ⟨h1, h2⟩, fun _ => h3⟩
  have hn : ¬ ((0 ≤ a ∧ b ≤ 3 ∧ a ≤ b) ∧ ((1 ≤ k ∧ k ≤ 8 ∧ e = []) ∨ ((k = 9 ∧ e.length = 1 ∨ k = 10) ∧ tabOk (d + 1) e ∧ ∀ v, a ≤ v → v ≤ b → hereL e v ≠ [])) ∧ n.size ≠ 0) → Ent w0 p (K (.bool false)) := fun h => hn fun h2 => h ⟨((good_eq d n k a b e).1 h2.1).1, ((good_eq d n k a b e).1 h2.1).2, h2.2 rfl⟩
  refine Ent.call (fun w h => enter.leatref10_field h) ?_
  unfold W.leatref10_field
  unfold fldC
  simp only [Fld.name, Fld.kind, Fld.frm, Fld.to, Fld.elem] at hel ⊢
  refine Ent.box fun g1 => ?_
  refine Ent.run (Ent.run (Ent.run (Ent.runB (fun h1 => ?_) (fun h1 => ?_))))
  · have h1 : n.size = 0 := by have : (n.size : Int) = 0 := by simpa using h1
                               omega
    repeat (first | refine Ent.runW (wrap_i64 (by omega) (by omega)) ?_ | refine Ent.runWL (wrap_i64 (by omega) (by omega)) ?_ | refine Ent.runWR (wrap_i64 (by omega) (by omega)) ?_ | refine Ent.run ?_ | refine Ent.runL ?_ | refine Ent.runR ?_ | refine Ent.drawn ?_ | refine Ent.store (by kernel_rfl) ?_ | refine Ent.resN ?_ | refine Ent.res1 ?_ | refine Ent.gop_yes ?_ | refine Ent.gop_no (by decide) ?_ | refine Ent.gop_undef ?_ | refine Ent.glt_undef ?_ | refine Ent.grc_undef ?_ | refine Ent.glt_yes ?_ | refine Ent.glt_no (by decide) ?_ | refine Ent.grc_yes ?_ | refine Ent.grc_no (by decide) ?_)
    exact Ent.ite_t (Ent.keep (hn (fun h => h.2.2 h1)))
  have hns0 : ¬ n.size = 0 := fun h => by rw [h] at h1; simp at h1
  refine Ent.gop_yes (Ent.run (Ent.gop_yes (Ent.run (Ent.gop_yes (Ent.runB (fun h1 => ?_) (fun h1 => ?_))))))
  · have h1 : a < 0 := by simpa using h1
    repeat (first | refine Ent.runW (wrap_i64 (by omega) (by omega)) ?_ | refine Ent.runWL (wrap_i64 (by omega) (by omega)) ?_ | refine Ent.runWR (wrap_i64 (by omega) (by omega)) ?_ | refine Ent.run ?_ | refine Ent.runL ?_ | refine Ent.runR ?_ | refine Ent.drawn ?_ | refine Ent.store (by kernel_rfl) ?_ | refine Ent.resN ?_ | refine Ent.res1 ?_ | refine Ent.gop_yes ?_ | refine Ent.gop_no (by decide) ?_ | refine Ent.gop_undef ?_ | refine Ent.glt_undef ?_ | refine Ent.grc_undef ?_ | refine Ent.glt_yes ?_ | refine Ent.glt_no (by decide) ?_ | refine Ent.grc_yes ?_ | refine Ent.grc_no (by decide) ?_)
    exact Ent.ite_t (Ent.keep (hn (fun h => by omega)))
  have h1 : ¬ a < 0 := by simpa using h1
  refine Ent.run (Ent.gop_yes (Ent.run (Ent.gop_yes (Ent.run (Ent.gop_yes (Ent.runB (fun h2 => ?_) (fun h2 => ?_)))))))
  · have h2 : 3 < b := by simpa using h2
    repeat (first | refine Ent.runW (wrap_i64 (by omega) (by omega)) ?_ | refine Ent.runWL (wrap_i64 (by omega) (by omega)) ?_ | refine Ent.runWR (wrap_i64 (by omega) (by omega)) ?_ | refine Ent.run ?_ | refine Ent.runL ?_ | refine Ent.runR ?_ | refine Ent.drawn ?_ | refine Ent.store (by kernel_rfl) ?_ | refine Ent.resN ?_ | refine Ent.res1 ?_ | refine Ent.gop_yes ?_ | refine Ent.gop_no (by decide) ?_ | refine Ent.gop_undef ?_ | refine Ent.glt_undef ?_ | refine Ent.grc_undef ?_ | refine Ent.glt_yes ?_ | refine Ent.glt_no (by decide) ?_ | refine Ent.grc_yes ?_ | refine Ent.grc_no (by decide) ?_)
    exact Ent.ite_t (Ent.keep (hn (fun h => by omega)))
  have h2 : ¬ 3 < b := by simpa using h2
  repeat (first | refine Ent.runW (wrap_i64 (by omega) (by omega)) ?_ | refine Ent.runWL (wrap_i64 (by omega) (by omega)) ?_ | refine Ent.runWR (wrap_i64 (by omega) (by omega)) ?_ | refine Ent.run ?_ | refine Ent.runL ?_ | refine Ent.runR ?_ | refine Ent.drawn ?_ | refine Ent.store (by kernel_rfl) ?_ | refine Ent.resN ?_ | refine Ent.res1 ?_ | refine Ent.gop_yes ?_ | refine Ent.gop_no (by decide) ?_ | refine Ent.gop_undef ?_ | refine Ent.glt_undef ?_ | refine Ent.grc_undef ?_ | refine Ent.glt_yes ?_ | refine Ent.glt_no (by decide) ?_ | refine Ent.grc_yes ?_ | refine Ent.grc_no (by decide) ?_)
  by_cases h3 : b < a
  · rw [decide_eq_true h3]
    repeat (first | refine Ent.runW (wrap_i64 (by omega) (by omega)) ?_ | refine Ent.runWL (wrap_i64 (by omega) (by omega)) ?_ | refine Ent.runWR (wrap_i64 (by omega) (by omega)) ?_ | refine Ent.run ?_ | refine Ent.runL ?_ | refine Ent.runR ?_ | refine Ent.drawn ?_ | refine Ent.store (by kernel_rfl) ?_ | refine Ent.resN ?_ | refine Ent.res1 ?_ | refine Ent.gop_yes ?_ | refine Ent.gop_no (by decide) ?_ | refine Ent.gop_undef ?_ | refine Ent.glt_undef ?_ | refine Ent.grc_undef ?_ | refine Ent.glt_yes ?_ | refine Ent.glt_no (by decide) ?_ | refine Ent.grc_yes ?_ | refine Ent.grc_no (by decide) ?_)
    exact Ent.ite_t (Ent.keep (hn (fun h => by omega)))
  rw [decide_eq_false h3]
  repeat (first | refine Ent.runW (wrap_i64 (by omega) (by omega)) ?_ | refine Ent.runWL (wrap_i64 (by omega) (by omega)) ?_ | refine Ent.runWR (wrap_i64 (by omega) (by omega)) ?_ | refine Ent.run ?_ | refine Ent.runL ?_ | refine Ent.runR ?_ | refine Ent.drawn ?_ | refine Ent.store (by kernel_rfl) ?_ | refine Ent.resN ?_ | refine Ent.res1 ?_ | refine Ent.gop_yes ?_ | refine Ent.gop_no (by decide) ?_ | refine Ent.gop_undef ?_ | refine Ent.glt_undef ?_ | refine Ent.grc_undef ?_ | refine Ent.glt_yes ?_ | refine Ent.glt_no (by decide) ?_ | refine Ent.grc_yes ?_ | refine Ent.grc_no (by decide) ?_)
  by_cases h4 : k < 1
  · rw [decide_eq_true h4]
    repeat (first | refine Ent.runW (wrap_i64 (by omega) (by omega)) ?_ | refine Ent.runWL (wrap_i64 (by omega) (by omega)) ?_ | refine Ent.runWR (wrap_i64 (by omega) (by omega)) ?_ | refine Ent.run ?_ | refine Ent.runL ?_ | refine Ent.runR ?_ | refine Ent.drawn ?_ | refine Ent.store (by kernel_rfl) ?_ | refine Ent.resN ?_ | refine Ent.res1 ?_ | refine Ent.gop_yes ?_ | refine Ent.gop_no (by decide) ?_ | refine Ent.gop_undef ?_ | refine Ent.glt_undef ?_ | refine Ent.grc_undef ?_ | refine Ent.glt_yes ?_ | refine Ent.glt_no (by decide) ?_ | refine Ent.grc_yes ?_ | refine Ent.grc_no (by decide) ?_)
    exact Ent.ite_t (Ent.keep (hn (fun h => by omega)))
  rw [decide_eq_false h4]
  repeat (first | refine Ent.runW (wrap_i64 (by omega) (by omega)) ?_ | refine Ent.runWL (wrap_i64 (by omega) (by omega)) ?_ | refine Ent.runWR (wrap_i64 (by omega) (by omega)) ?_ | refine Ent.run ?_ | refine Ent.runL ?_ | refine Ent.runR ?_ | refine Ent.drawn ?_ | refine Ent.store (by kernel_rfl) ?_ | refine Ent.resN ?_ | refine Ent.res1 ?_ | refine Ent.gop_yes ?_ | refine Ent.gop_no (by decide) ?_ | refine Ent.gop_undef ?_ | refine Ent.glt_undef ?_ | refine Ent.grc_undef ?_ | refine Ent.glt_yes ?_ | refine Ent.glt_no (by decide) ?_ | refine Ent.grc_yes ?_ | refine Ent.grc_no (by decide) ?_)
  refine Ent.ite (fun h5 => ?_) (fun h5 => ?_)
  · have h5 : 10 < k := by simpa using h5
    exact (Ent.keep (hn (fun h => by omega)))
  have h5 : ¬ 10 < k := by simpa using h5
  repeat (first | refine Ent.runW (wrap_i64 (by omega) (by omega)) ?_ | refine Ent.runWL (wrap_i64 (by omega) (by omega)) ?_ | refine Ent.runWR (wrap_i64 (by omega) (by omega)) ?_ | refine Ent.run ?_ | refine Ent.runL ?_ | refine Ent.runR ?_ | refine Ent.drawn ?_ | refine Ent.store (by kernel_rfl) ?_ | refine Ent.resN ?_ | refine Ent.res1 ?_ | refine Ent.gop_yes ?_ | refine Ent.gop_no (by decide) ?_ | refine Ent.gop_undef ?_ | refine Ent.glt_undef ?_ | refine Ent.grc_undef ?_ | refine Ent.glt_yes ?_ | refine Ent.glt_no (by decide) ?_ | refine Ent.grc_yes ?_ | refine Ent.grc_no (by decide) ?_)
  refine Ent.ite (fun h6 => ?_) (fun h6 => ?_)
  · have h6 : k < 9 := by simpa using h6
    repeat (first | refine Ent.runW (wrap_i64 (by omega) (by omega)) ?_ | refine Ent.runWL (wrap_i64 (by omega) (by omega)) ?_ | refine Ent.runWR (wrap_i64 (by omega) (by omega)) ?_ | refine Ent.run ?_ | refine Ent.runL ?_ | refine Ent.runR ?_ | refine Ent.drawn ?_ | refine Ent.store (by kernel_rfl) ?_ | refine Ent.resN ?_ | refine Ent.res1 ?_ | refine Ent.gop_yes ?_ | refine Ent.gop_no (by decide) ?_ | refine Ent.gop_undef ?_ | refine Ent.glt_undef ?_ | refine Ent.grc_undef ?_ | refine Ent.glt_yes ?_ | refine Ent.glt_no (by decide) ?_ | refine Ent.grc_yes ?_ | refine Ent.grc_no (by decide) ?_)
    by_cases h : (e.length : Int) = 0
    · rw [decide_eq_true h]
      exact Ent.keep (hy (by omega) (.inl ⟨by omega, by omega, List.eq_nil_of_length_eq_zero (by omega)⟩) hns0)
    · rw [decide_eq_false h]
      refine Ent.keep (hn fun h' => ?_)
      rcases h'.2.1 with h5 | h5
      · rw [h5.2.2] at h
        simp at h
      · omega
  have h6 : ¬ k < 9 := by simpa using h6
  repeat (first | refine Ent.runW (wrap_i64 (by omega) (by omega)) ?_ | refine Ent.runWL (wrap_i64 (by omega) (by omega)) ?_ | refine Ent.runWR (wrap_i64 (by omega) (by omega)) ?_ | refine Ent.run ?_ | refine Ent.runL ?_ | refine Ent.runR ?_ | refine Ent.drawn ?_ | refine Ent.store (by kernel_rfl) ?_ | refine Ent.resN ?_ | refine Ent.res1 ?_ | refine Ent.gop_yes ?_ | refine Ent.gop_no (by decide) ?_ | refine Ent.gop_undef ?_ | refine Ent.glt_undef ?_ | refine Ent.grc_undef ?_ | refine Ent.glt_yes ?_ | refine Ent.glt_no (by decide) ?_ | refine Ent.grc_yes ?_ | refine Ent.grc_no (by decide) ?_)
  refine ih w0 _ _ _ A c (d + 1) hel.skip hl (by omega) (fun h7 => ?_) (fun h7 => ?_)
  · repeat (first | refine Ent.runW (wrap_i64 (by omega) (by omega)) ?_ | refine Ent.runWL (wrap_i64 (by omega) (by omega)) ?_ | refine Ent.runWR (wrap_i64 (by omega) (by omega)) ?_ | refine Ent.run ?_ | refine Ent.runL ?_ | refine Ent.runR ?_ | refine Ent.drawn ?_ | refine Ent.store (by kernel_rfl) ?_ | refine Ent.resN ?_ | refine Ent.res1 ?_ | refine Ent.gop_yes ?_ | refine Ent.gop_no (by decide) ?_ | refine Ent.gop_undef ?_ | refine Ent.glt_undef ?_ | refine Ent.grc_undef ?_ | refine Ent.glt_yes ?_ | refine Ent.glt_no (by decide) ?_ | refine Ent.grc_yes ?_ | refine Ent.grc_no (by decide) ?_)
    refine Ent.ite_f ?_
    repeat (first | refine Ent.runW (wrap_i64 (by omega) (by omega)) ?_ | refine Ent.runWL (wrap_i64 (by omega) (by omega)) ?_ | refine Ent.runWR (wrap_i64 (by omega) (by omega)) ?_ | refine Ent.run ?_ | refine Ent.runL ?_ | refine Ent.runR ?_ | refine Ent.drawn ?_ | refine Ent.store (by kernel_rfl) ?_ | refine Ent.resN ?_ | refine Ent.res1 ?_ | refine Ent.gop_yes ?_ | refine Ent.gop_no (by decide) ?_ | refine Ent.gop_undef ?_ | refine Ent.glt_undef ?_ | refine Ent.grc_undef ?_ | refine Ent.glt_yes ?_ | refine Ent.glt_no (by decide) ?_ | refine Ent.grc_yes ?_ | refine Ent.grc_no (by decide) ?_)
    refine Ent.L2 (σ := Int) (fun _ => .bool false) (fun u => .int .i64 u) (fun u => pure' (a ≤ u ∧ u ≤ b + 1 ∧ ∀ v, a ≤ v → v < u → hereL e v ≠ []) :: blk g1 [.string n, .int .i64 k, .int .i64 a, .int .i64 b, .slice A e.length c] :: p) (fun u => (4 - u).toNat) a ?_ ?_
    · intro w hs
      have : Sat (blk g1 [.string n, .int .i64 k, .int .i64 a, .int .i64 b, .slice A e.length c] :: p) w0 w := hs
      exact this.add (a := pure' _) ⟨⟨by omega, by omega, fun v hv1 hv2 => by omega⟩, fun _ => rfl⟩
    · intro u kk3 hrec
      refine Ent.pure fun hi => ?_
      obtain ⟨hi0, hi1, hi2⟩ := hi
      repeat (first | refine Ent.runW (wrap_i64 (by omega) (by omega)) ?_ | refine Ent.runWL (wrap_i64 (by omega) (by omega)) ?_ | refine Ent.runWR (wrap_i64 (by omega) (by omega)) ?_ | refine Ent.run ?_ | refine Ent.runL ?_ | refine Ent.runR ?_ | refine Ent.drawn ?_ | refine Ent.store (by kernel_rfl) ?_ | refine Ent.resN ?_ | refine Ent.res1 ?_ | refine Ent.gop_yes ?_ | refine Ent.gop_no (by decide) ?_ | refine Ent.gop_undef ?_ | refine Ent.glt_undef ?_ | refine Ent.grc_undef ?_ | refine Ent.glt_yes ?_ | refine Ent.glt_no (by decide) ?_ | refine Ent.grc_yes ?_ | refine Ent.grc_no (by decide) ?_)
      refine Ent.ite (fun hq => ?_) (fun hq => ?_)
      · have hq : u ≤ b := by simpa using hq
        repeat (first | refine Ent.runW (wrap_i64 (by omega) (by omega)) ?_ | refine Ent.runWL (wrap_i64 (by omega) (by omega)) ?_ | refine Ent.runWR (wrap_i64 (by omega) (by omega)) ?_ | refine Ent.run ?_ | refine Ent.runL ?_ | refine Ent.runR ?_ | refine Ent.drawn ?_ | refine Ent.store (by kernel_rfl) ?_ | refine Ent.resN ?_ | refine Ent.res1 ?_ | refine Ent.gop_yes ?_ | refine Ent.gop_no (by decide) ?_ | refine Ent.gop_undef ?_ | refine Ent.glt_undef ?_ | refine Ent.grc_undef ?_ | refine Ent.glt_yes ?_ | refine Ent.glt_no (by decide) ?_ | refine Ent.grc_yes ?_ | refine Ent.grc_no (by decide) ?_)
        refine RHere_spec (v := u) hel hl fun A1 c1 x hx => ?_
        repeat (first | refine Ent.runW (wrap_i64 (by omega) (by omega)) ?_ | refine Ent.runWL (wrap_i64 (by omega) (by omega)) ?_ | refine Ent.runWR (wrap_i64 (by omega) (by omega)) ?_ | refine Ent.run ?_ | refine Ent.runL ?_ | refine Ent.runR ?_ | refine Ent.drawn ?_ | refine Ent.store (by kernel_rfl) ?_ | refine Ent.resN ?_ | refine Ent.res1 ?_ | refine Ent.gop_yes ?_ | refine Ent.gop_no (by decide) ?_ | refine Ent.gop_undef ?_ | refine Ent.glt_undef ?_ | refine Ent.grc_undef ?_ | refine Ent.glt_yes ?_ | refine Ent.glt_no (by decide) ?_ | refine Ent.grc_yes ?_ | refine Ent.grc_no (by decide) ?_)
        refine Ent.ite (fun h0 => ?_) (fun h0 => ?_)
        · have h0 : (hereL e u).length = 0 := by have : ((hereL e u).length : Int) = 0 := by simpa using h0
                                                 omega
          refine Ent.keep (hn fun h' => ?_)
          rcases h'.2.1 with h8 | h8
          · omega
          · exact here_ne.1 (h8.2.2 u (by omega) hq) h0
        · have h0 : ¬ (hereL e u).length = 0 := fun h => by
            rw [h] at h0
            simp at h0
          repeat (first | refine Ent.runW (wrap_i64 (by omega) (by omega)) ?_ | refine Ent.runWL (wrap_i64 (by omega) (by omega)) ?_ | refine Ent.runWR (wrap_i64 (by omega) (by omega)) ?_ | refine Ent.run ?_ | refine Ent.runL ?_ | refine Ent.runR ?_ | refine Ent.drawn ?_ | refine Ent.store (by kernel_rfl) ?_ | refine Ent.resN ?_ | refine Ent.res1 ?_ | refine Ent.gop_yes ?_ | refine Ent.gop_no (by decide) ?_ | refine Ent.gop_undef ?_ | refine Ent.glt_undef ?_ | refine Ent.grc_undef ?_ | refine Ent.glt_yes ?_ | refine Ent.glt_no (by decide) ?_ | refine Ent.grc_yes ?_ | refine Ent.grc_no (by decide) ?_)
          have := hrec (u + 1) (by omega)
          refine Ent.keep (Ent.add ?_ this)
          refine ⟨⟨by omega, by omega, fun v hv1 hv2 => ?_⟩, fun _ => rfl⟩
          by_cases hv : v = u
          · subst hv
            exact here_ne.2 h0
          · exact hi2 v hv1 (by omega)
      · have hq : ¬ u ≤ b := by simpa using hq
        have hcov : ∀ v, a ≤ v → v ≤ b → hereL e v ≠ [] := fun v h1 h2 => hi2 v h1 (by omega)
        repeat (first | refine Ent.runW (wrap_i64 (by omega) (by omega)) ?_ | refine Ent.runWL (wrap_i64 (by omega) (by omega)) ?_ | refine Ent.runWR (wrap_i64 (by omega) (by omega)) ?_ | refine Ent.run ?_ | refine Ent.runL ?_ | refine Ent.runR ?_ | refine Ent.drawn ?_ | refine Ent.store (by kernel_rfl) ?_ | refine Ent.resN ?_ | refine Ent.res1 ?_ | refine Ent.gop_yes ?_ | refine Ent.gop_no (by decide) ?_ | refine Ent.gop_undef ?_ | refine Ent.glt_undef ?_ | refine Ent.grc_undef ?_ | refine Ent.glt_yes ?_ | refine Ent.glt_no (by decide) ?_ | refine Ent.grc_yes ?_ | refine Ent.grc_no (by decide) ?_)
        by_cases h10 : k = 10
        · rw [decide_eq_true h10]
          repeat (first | refine Ent.runW (wrap_i64 (by omega) (by omega)) ?_ | refine Ent.runWL (wrap_i64 (by omega) (by omega)) ?_ | refine Ent.runWR (wrap_i64 (by omega) (by omega)) ?_ | refine Ent.run ?_ | refine Ent.runL ?_ | refine Ent.runR ?_ | refine Ent.drawn ?_ | refine Ent.store (by kernel_rfl) ?_ | refine Ent.resN ?_ | refine Ent.res1 ?_ | refine Ent.gop_yes ?_ | refine Ent.gop_no (by decide) ?_ | refine Ent.gop_undef ?_ | refine Ent.glt_undef ?_ | refine Ent.grc_undef ?_ | refine Ent.glt_yes ?_ | refine Ent.glt_no (by decide) ?_ | refine Ent.grc_yes ?_ | refine Ent.grc_no (by decide) ?_)
          exact Ent.keep (hy (by omega) (.inr ⟨.inr h10, h7, hcov⟩) hns0)
        · rw [decide_eq_false h10]
          repeat (first | refine Ent.runW (wrap_i64 (by omega) (by omega)) ?_ | refine Ent.runWL (wrap_i64 (by omega) (by omega)) ?_ | refine Ent.runWR (wrap_i64 (by omega) (by omega)) ?_ | refine Ent.run ?_ | refine Ent.runL ?_ | refine Ent.runR ?_ | refine Ent.drawn ?_ | refine Ent.store (by kernel_rfl) ?_ | refine Ent.resN ?_ | refine Ent.res1 ?_ | refine Ent.gop_yes ?_ | refine Ent.gop_no (by decide) ?_ | refine Ent.gop_undef ?_ | refine Ent.glt_undef ?_ | refine Ent.grc_undef ?_ | refine Ent.glt_yes ?_ | refine Ent.glt_no (by decide) ?_ | refine Ent.grc_yes ?_ | refine Ent.grc_no (by decide) ?_)
          by_cases hl1 : (e.length : Int) = 1
          · rw [decide_eq_true hl1]
            exact Ent.keep (hy (by omega) (.inr ⟨.inl ⟨by omega, by omega⟩, h7, hcov⟩) hns0)
          · rw [decide_eq_false hl1]
            refine Ent.keep (hn fun h' => ?_)
            rcases h'.2.1 with h8 | h8
            · omega
            · rcases h8.1 with h9 | h9
              · omega
              · omega
  · repeat (first | refine Ent.runW (wrap_i64 (by omega) (by omega)) ?_ | refine Ent.runWL (wrap_i64 (by omega) (by omega)) ?_ | refine Ent.runWR (wrap_i64 (by omega) (by omega)) ?_ | refine Ent.run ?_ | refine Ent.runL ?_ | refine Ent.runR ?_ | refine Ent.drawn ?_ | refine Ent.store (by kernel_rfl) ?_ | refine Ent.resN ?_ | refine Ent.res1 ?_ | refine Ent.gop_yes ?_ | refine Ent.gop_no (by decide) ?_ | refine Ent.gop_undef ?_ | refine Ent.glt_undef ?_ | refine Ent.grc_undef ?_ | refine Ent.glt_yes ?_ | refine Ent.glt_no (by decide) ?_ | refine Ent.grc_yes ?_ | refine Ent.grc_no (by decide) ?_)
    refine Ent.ite_t (Ent.keep (hn fun h' => ?_))
    rcases h'.2.1 with h8 | h8
    · omega
    · exact h7 h8.2.1
mutual
theorem field_spec : ∀ f : Fld, f.ok → FieldOk F.schema_field false f ∧ FieldOk F.leatref10_field true f
  | .mk n k a b e, h => by
    have h' := h
    cases h' with
    | mk h1 h2 h3 h4 h5 h6 =>
      have ih := field_specs e h6
      exact ⟨field_ok h (fields_ok fun f hf => (ih f hf).1), rfield_ok h (rlist_ok fun f hf => (ih f hf).2)⟩
theorem field_specs : ∀ l : List Fld, (∀ x ∈ l, x.ok) → ∀ x ∈ l, FieldOk F.schema_field false x ∧ FieldOk F.leatref10_field true x
  | [], _, x, hx => by cases hx
  | f :: r, h, x, hx => by
    have hf := field_spec f (h f List.mem_cons_self)
    have hr := field_specs r (fun y hy => h y (List.mem_cons_of_mem _ hy))
    rcases List.mem_cons.1 hx with h' | h'
    · exact h' ▸ hf
    · exact hr x h'
end
variable {w0 : World} {p : List HP} {Pn : PK} {K : Value → WP}
theorem fields_spec {fs : List Fld} (h : ∀ x ∈ fs, x.ok) : TabOk F.schema_fields fs := fields_ok fun f hf => (field_specs fs h f hf).1
theorem list_spec {fs : List Fld} (h : ∀ x ∈ fs, x.ok) : TabOk F.leatref10_list fs := rlist_ok fun f hf => (field_specs fs h f hf).2
open Classical in
noncomputable def tabE (fs : List Fld) : Int := if tabOk 1 fs then 0 else 100
theorem Check_spec {fs : List Fld} {A : Option Addr} {c : Nat} (h : ∀ x ∈ fs, x.ok) (hf : RdD p (.sl T.api_Field 5 (fldsD fs)) [.slice A fs.length c]) (hl : fs.length ≤ 1048576) (hk : Ent w0 p (K (.int .i64 (tabE fs)))) :
    Ent w0 p (op PR Pn (S.fn F.schema_Check [.slice A fs.length c]) K) := by
  refine Ent.call (fun w h => enter.schema_Check h) ?_
  unfold W.schema_Check
  unfold tabE at hk
  refine fields_spec h w0 p _ _ A c 1 hf hl (by omega) (fun h1 => ?_) (fun h1 => ?_)
  · rw [if_pos h1] at hk
    repeat (first | refine Ent.runW (wrap_i64 (by omega) (by omega)) ?_ | refine Ent.runWL (wrap_i64 (by omega) (by omega)) ?_ | refine Ent.runWR (wrap_i64 (by omega) (by omega)) ?_ | refine Ent.run ?_ | refine Ent.runL ?_ | refine Ent.runR ?_ | refine Ent.drawn ?_ | refine Ent.store (by kernel_rfl) ?_ | refine Ent.resN ?_ | refine Ent.res1 ?_ | refine Ent.gop_yes ?_ | refine Ent.gop_no (by decide) ?_ | refine Ent.gop_undef ?_ | refine Ent.glt_undef ?_ | refine Ent.grc_undef ?_ | refine Ent.glt_yes ?_ | refine Ent.glt_no (by decide) ?_ | refine Ent.grc_yes ?_ | refine Ent.grc_no (by decide) ?_)
    exact Ent.ite_f hk
  · rw [if_neg h1] at hk
    repeat (first | refine Ent.runW (wrap_i64 (by omega) (by omega)) ?_ | refine Ent.runWL (wrap_i64 (by omega) (by omega)) ?_ | refine Ent.runWR (wrap_i64 (by omega) (by omega)) ?_ | refine Ent.run ?_ | refine Ent.runL ?_ | refine Ent.runR ?_ | refine Ent.drawn ?_ | refine Ent.store (by kernel_rfl) ?_ | refine Ent.resN ?_ | refine Ent.res1 ?_ | refine Ent.gop_yes ?_ | refine Ent.gop_no (by decide) ?_ | refine Ent.gop_undef ?_ | refine Ent.glt_undef ?_ | refine Ent.grc_undef ?_ | refine Ent.glt_yes ?_ | refine Ent.glt_no (by decide) ?_ | refine Ent.grc_yes ?_ | refine Ent.grc_no (by decide) ?_)
    exact Ent.ite_t hk
theorem RCheck_spec {fs : List Fld} {A : Option Addr} {c : Nat} (h : ∀ x ∈ fs, x.ok) (hf : RdD p (.sl T.api_Field 5 (fldsD fs)) [.slice A fs.length c]) (hl : fs.length ≤ 1048576) (hk : Ent w0 p (K (.int .i64 (tabE fs)))) :
    Ent w0 p (op PR Pn (S.fn F.leatref10_Check [.slice A fs.length c]) K) := by
  refine Ent.call (fun w h => enter.leatref10_Check h) ?_
  unfold W.leatref10_Check
  unfold tabE at hk
  refine list_spec h w0 p _ _ A c 1 hf hl (by omega) (fun h1 => ?_) (fun h1 => ?_)
  · rw [if_pos h1] at hk
    repeat (first | refine Ent.runW (wrap_i64 (by omega) (by omega)) ?_ | refine Ent.runWL (wrap_i64 (by omega) (by omega)) ?_ | refine Ent.runWR (wrap_i64 (by omega) (by omega)) ?_ | refine Ent.run ?_ | refine Ent.runL ?_ | refine Ent.runR ?_ | refine Ent.drawn ?_ | refine Ent.store (by kernel_rfl) ?_ | refine Ent.resN ?_ | refine Ent.res1 ?_ | refine Ent.gop_yes ?_ | refine Ent.gop_no (by decide) ?_ | refine Ent.gop_undef ?_ | refine Ent.glt_undef ?_ | refine Ent.grc_undef ?_ | refine Ent.glt_yes ?_ | refine Ent.glt_no (by decide) ?_ | refine Ent.grc_yes ?_ | refine Ent.grc_no (by decide) ?_)
    exact Ent.ite_f hk
  · rw [if_neg h1] at hk
    repeat (first | refine Ent.runW (wrap_i64 (by omega) (by omega)) ?_ | refine Ent.runWL (wrap_i64 (by omega) (by omega)) ?_ | refine Ent.runWR (wrap_i64 (by omega) (by omega)) ?_ | refine Ent.run ?_ | refine Ent.runL ?_ | refine Ent.runR ?_ | refine Ent.drawn ?_ | refine Ent.store (by kernel_rfl) ?_ | refine Ent.resN ?_ | refine Ent.res1 ?_ | refine Ent.gop_yes ?_ | refine Ent.gop_no (by decide) ?_ | refine Ent.gop_undef ?_ | refine Ent.glt_undef ?_ | refine Ent.grc_undef ?_ | refine Ent.glt_yes ?_ | refine Ent.glt_no (by decide) ?_ | refine Ent.grc_yes ?_ | refine Ent.grc_no (by decide) ?_)
    exact Ent.ite_t hk
/-- The error of a version and a table. -/
noncomputable def beginE (fs : List Fld) (v : Int) : Int := if v < 0 ∨ 3 < v then 8 else tabE fs
theorem begin_spec {fs : List Fld} {A : Option Addr} {c : Nat} {v : Int} (h : ∀ x ∈ fs, x.ok) (hf : RdD p (.sl T.api_Field 5 (fldsD fs)) [.slice A fs.length c]) (hl : fs.length ≤ 1048576) (hk : Ent w0 p (K (.int .i64 (beginE fs v)))) :
    Ent w0 p (op PR Pn (S.fn F.leatref10_begin [.slice A fs.length c, .int .i64 v]) K) := by
  refine Ent.call (fun w h => enter.leatref10_begin h) ?_
  unfold W.leatref10_begin
  unfold beginE at hk
  refine Ent.runB (fun h1 => ?_) (fun h1 => ?_)
  · have h1 : v < 0 := by simpa using h1
    rw [if_pos (.inl h1)] at hk
    repeat (first | refine Ent.runW (wrap_i64 (by omega) (by omega)) ?_ | refine Ent.runWL (wrap_i64 (by omega) (by omega)) ?_ | refine Ent.runWR (wrap_i64 (by omega) (by omega)) ?_ | refine Ent.run ?_ | refine Ent.runL ?_ | refine Ent.runR ?_ | refine Ent.drawn ?_ | refine Ent.store (by kernel_rfl) ?_ | refine Ent.resN ?_ | refine Ent.res1 ?_ | refine Ent.gop_yes ?_ | refine Ent.gop_no (by decide) ?_ | refine Ent.gop_undef ?_ | refine Ent.glt_undef ?_ | refine Ent.grc_undef ?_ | refine Ent.glt_yes ?_ | refine Ent.glt_no (by decide) ?_ | refine Ent.grc_yes ?_ | refine Ent.grc_no (by decide) ?_)
    exact Ent.ite_t hk
  have h1 : ¬ v < 0 := by simpa using h1
  repeat (first | refine Ent.runW (wrap_i64 (by omega) (by omega)) ?_ | refine Ent.runWL (wrap_i64 (by omega) (by omega)) ?_ | refine Ent.runWR (wrap_i64 (by omega) (by omega)) ?_ | refine Ent.run ?_ | refine Ent.runL ?_ | refine Ent.runR ?_ | refine Ent.drawn ?_ | refine Ent.store (by kernel_rfl) ?_ | refine Ent.resN ?_ | refine Ent.res1 ?_ | refine Ent.gop_yes ?_ | refine Ent.gop_no (by decide) ?_ | refine Ent.gop_undef ?_ | refine Ent.glt_undef ?_ | refine Ent.grc_undef ?_ | refine Ent.glt_yes ?_ | refine Ent.glt_no (by decide) ?_ | refine Ent.grc_yes ?_ | refine Ent.grc_no (by decide) ?_)
  refine Ent.ite (fun h2 => ?_) (fun h2 => ?_)
  · have h2 : 3 < v := by simpa using h2
    rw [if_pos (.inr h2)] at hk
    exact hk
  · have h2 : ¬ 3 < v := by simpa using h2
    rw [if_neg (by omega)] at hk
    exact RCheck_spec h hf hl hk
theorem root_spec {fs : List Fld} {A : Option Addr} {c : Nat} {v : Int} (h : ∀ x ∈ fs, x.ok) (hf : RdD p (.sl T.api_Field 5 (fldsD fs)) [.slice A fs.length c]) (hl : fs.length ≤ 1048576)
    (he : beginE fs v ≠ 0 → Ent w0 p (K (.tuple [.agg [.slice none 0 0].toArray, .int .i64 (beginE fs v)].toArray)))
    (hk : ∀ A c x, beginE fs v = 0 → 0 ≤ v ∧ v ≤ 3 → tabOk 1 fs → cdV (hcell x) (.rcd (wholeF v fs)) (.iface T.schema_record (.agg [.slice A (wholeF v fs).length c].toArray)) → Ent w0 (exact x :: p) (K (.tuple [.agg [.slice A (wholeF v fs).length c].toArray, .int .i64 0].toArray))) :
    Ent w0 p (op PR Pn (S.fn F.schema_root [.slice A fs.length c, .int .i64 v]) K) := by
  refine Ent.call (fun w h => enter.schema_root h) ?_
  unfold W.schema_root
  refine Ent.alloc fun g1 => ?_
  unfold beginE at he hk
  refine Ent.runB (fun h1 => ?_) (fun h1 => ?_)
  · have h1 : v < 0 := by simpa using h1
    rw [if_pos (.inl h1)] at he
    repeat (first | refine Ent.runW (wrap_i64 (by omega) (by omega)) ?_ | refine Ent.runWL (wrap_i64 (by omega) (by omega)) ?_ | refine Ent.runWR (wrap_i64 (by omega) (by omega)) ?_ | refine Ent.run ?_ | refine Ent.runL ?_ | refine Ent.runR ?_ | refine Ent.drawn ?_ | refine Ent.store (by kernel_rfl) ?_ | refine Ent.resN ?_ | refine Ent.res1 ?_ | refine Ent.gop_yes ?_ | refine Ent.gop_no (by decide) ?_ | refine Ent.gop_undef ?_ | refine Ent.glt_undef ?_ | refine Ent.grc_undef ?_ | refine Ent.glt_yes ?_ | refine Ent.glt_no (by decide) ?_ | refine Ent.grc_yes ?_ | refine Ent.grc_no (by decide) ?_)
    refine Ent.ite_t ?_
    repeat (first | refine Ent.runW (wrap_i64 (by omega) (by omega)) ?_ | refine Ent.runWL (wrap_i64 (by omega) (by omega)) ?_ | refine Ent.runWR (wrap_i64 (by omega) (by omega)) ?_ | refine Ent.run ?_ | refine Ent.runL ?_ | refine Ent.runR ?_ | refine Ent.drawn ?_ | refine Ent.store (by kernel_rfl) ?_ | refine Ent.resN ?_ | refine Ent.res1 ?_ | refine Ent.gop_yes ?_ | refine Ent.gop_no (by decide) ?_ | refine Ent.gop_undef ?_ | refine Ent.glt_undef ?_ | refine Ent.grc_undef ?_ | refine Ent.glt_yes ?_ | refine Ent.glt_no (by decide) ?_ | refine Ent.grc_yes ?_ | refine Ent.grc_no (by decide) ?_)
    exact Ent.keep (he (by decide))
  have h1 : ¬ v < 0 := by simpa using h1
  repeat (first | refine Ent.runW (wrap_i64 (by omega) (by omega)) ?_ | refine Ent.runWL (wrap_i64 (by omega) (by omega)) ?_ | refine Ent.runWR (wrap_i64 (by omega) (by omega)) ?_ | refine Ent.run ?_ | refine Ent.runL ?_ | refine Ent.runR ?_ | refine Ent.drawn ?_ | refine Ent.store (by kernel_rfl) ?_ | refine Ent.resN ?_ | refine Ent.res1 ?_ | refine Ent.gop_yes ?_ | refine Ent.gop_no (by decide) ?_ | refine Ent.gop_undef ?_ | refine Ent.glt_undef ?_ | refine Ent.grc_undef ?_ | refine Ent.glt_yes ?_ | refine Ent.glt_no (by decide) ?_ | refine Ent.grc_yes ?_ | refine Ent.grc_no (by decide) ?_)
  refine Ent.ite (fun h2 => ?_) (fun h2 => ?_)
  · have h2 : 3 < v := by simpa using h2
    rw [if_pos (.inr h2)] at he
    repeat (first | refine Ent.runW (wrap_i64 (by omega) (by omega)) ?_ | refine Ent.runWL (wrap_i64 (by omega) (by omega)) ?_ | refine Ent.runWR (wrap_i64 (by omega) (by omega)) ?_ | refine Ent.run ?_ | refine Ent.runL ?_ | refine Ent.runR ?_ | refine Ent.drawn ?_ | refine Ent.store (by kernel_rfl) ?_ | refine Ent.resN ?_ | refine Ent.res1 ?_ | refine Ent.gop_yes ?_ | refine Ent.gop_no (by decide) ?_ | refine Ent.gop_undef ?_ | refine Ent.glt_undef ?_ | refine Ent.grc_undef ?_ | refine Ent.glt_yes ?_ | refine Ent.glt_no (by decide) ?_ | refine Ent.grc_yes ?_ | refine Ent.grc_no (by decide) ?_)
    exact Ent.keep (he (by decide))
  have h2 : ¬ 3 < v := by simpa using h2
  rw [if_neg (by omega)] at he hk
  refine Check_spec h hf.skip hl ?_
  by_cases h0 : tabOk 1 fs
  · have e0 : tabE fs = 0 := if_pos h0
    rw [e0]
    repeat (first | refine Ent.runW (wrap_i64 (by omega) (by omega)) ?_ | refine Ent.runWL (wrap_i64 (by omega) (by omega)) ?_ | refine Ent.runWR (wrap_i64 (by omega) (by omega)) ?_ | refine Ent.run ?_ | refine Ent.runL ?_ | refine Ent.runR ?_ | refine Ent.drawn ?_ | refine Ent.store (by kernel_rfl) ?_ | refine Ent.resN ?_ | refine Ent.res1 ?_ | refine Ent.gop_yes ?_ | refine Ent.gop_no (by decide) ?_ | refine Ent.gop_undef ?_ | refine Ent.glt_undef ?_ | refine Ent.grc_undef ?_ | refine Ent.glt_yes ?_ | refine Ent.glt_no (by decide) ?_ | refine Ent.grc_yes ?_ | refine Ent.grc_no (by decide) ?_)
    refine Ent.ite_f ?_
    have hw := whole_ok (compiles_spec fs (goods_tab fs 1 h0.2.2.2.2.2))
    refine hw w0 _ _ _ A c v hf.skip h0.2.1 fun A1 c1 x hx => ?_
    repeat (first | refine Ent.runW (wrap_i64 (by omega) (by omega)) ?_ | refine Ent.runWL (wrap_i64 (by omega) (by omega)) ?_ | refine Ent.runWR (wrap_i64 (by omega) (by omega)) ?_ | refine Ent.run ?_ | refine Ent.runL ?_ | refine Ent.runR ?_ | refine Ent.drawn ?_ | refine Ent.store (by kernel_rfl) ?_ | refine Ent.resN ?_ | refine Ent.res1 ?_ | refine Ent.gop_yes ?_ | refine Ent.gop_no (by decide) ?_ | refine Ent.gop_undef ?_ | refine Ent.glt_undef ?_ | refine Ent.grc_undef ?_ | refine Ent.glt_yes ?_ | refine Ent.glt_no (by decide) ?_ | refine Ent.grc_yes ?_ | refine Ent.grc_no (by decide) ?_)
    exact Ent.keep (hk A1 c1 x e0 (by omega) h0 hx)
  · have e0 : tabE fs = 100 := if_neg h0
    rw [e0] at he ⊢
    repeat (first | refine Ent.runW (wrap_i64 (by omega) (by omega)) ?_ | refine Ent.runWL (wrap_i64 (by omega) (by omega)) ?_ | refine Ent.runWR (wrap_i64 (by omega) (by omega)) ?_ | refine Ent.run ?_ | refine Ent.runL ?_ | refine Ent.runR ?_ | refine Ent.drawn ?_ | refine Ent.store (by kernel_rfl) ?_ | refine Ent.resN ?_ | refine Ent.res1 ?_ | refine Ent.gop_yes ?_ | refine Ent.gop_no (by decide) ?_ | refine Ent.gop_undef ?_ | refine Ent.glt_undef ?_ | refine Ent.grc_undef ?_ | refine Ent.glt_yes ?_ | refine Ent.glt_no (by decide) ?_ | refine Ent.grc_yes ?_ | refine Ent.grc_no (by decide) ?_)
    refine Ent.ite_t ?_
    repeat (first | refine Ent.runW (wrap_i64 (by omega) (by omega)) ?_ | refine Ent.runWL (wrap_i64 (by omega) (by omega)) ?_ | refine Ent.runWR (wrap_i64 (by omega) (by omega)) ?_ | refine Ent.run ?_ | refine Ent.runL ?_ | refine Ent.runR ?_ | refine Ent.drawn ?_ | refine Ent.store (by kernel_rfl) ?_ | refine Ent.resN ?_ | refine Ent.res1 ?_ | refine Ent.gop_yes ?_ | refine Ent.gop_no (by decide) ?_ | refine Ent.gop_undef ?_ | refine Ent.glt_undef ?_ | refine Ent.grc_undef ?_ | refine Ent.glt_yes ?_ | refine Ent.glt_no (by decide) ?_ | refine Ent.grc_yes ?_ | refine Ent.grc_no (by decide) ?_)
    exact Ent.keep (he (by decide))
end Go.Lt
