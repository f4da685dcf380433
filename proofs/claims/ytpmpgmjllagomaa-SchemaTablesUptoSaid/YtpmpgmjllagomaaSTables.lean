/- SchemaTables: it returns true, and its arguments read as they did. Conditions: none. -/
import Derived.Test.YtpmpgmjllagomaaTabs5
import Derived.Test.YtpmpgmjllagomaaAlive2
set_option linter.unusedVariables false
set_option maxHeartbeats 4000000
set_option linter.unusedSimpArgs false
set_option maxRecDepth 100000
namespace Go.Lt
open Go
attribute [local irreducible] op gop lt glt rc grc ite' drawn also ldR
theorem utf_ok1 {k f t : Int} {e : List Fld} {n : ByteArray} (h1 : n.size ≤ 1048576) (h2 : 0 ≤ k ∧ k ≤ 10) (h3 : 0 ≤ f ∧ f ≤ 3) (h4 : 0 ≤ t ∧ t ≤ 3) (h5 : e.length ≤ 6) (h6 : ∀ x ∈ e, Fld.ok x) : Fld.ok (.mk n k f t e) :=
  .mk h1 (by omega) (by omega) (by omega) (by omega) h6
theorem all_cons {P : Fld → Prop} {x : Fld} {l : List Fld} (h1 : P x) (h2 : ∀ y ∈ l, P y) : ∀ y ∈ x :: l, P y := fun y hy => by
  rcases List.mem_cons.1 hy with h | h
  · exact h ▸ h1
  · exact h2 y h
theorem all_nil {P : Fld → Prop} : ∀ y ∈ ([] : List Fld), P y := fun y hy => by cases hy
theorem tab_ok (k : Int) (b : Bool) : ∀ x ∈ tabFs k b, x.ok := by
  unfold tabFs
  split
  · cases b <;> repeat' (first | exact all_nil | refine all_cons ?_ ?_ | refine utf_ok1 (by decide) (by decide) (by decide) (by decide) (by decide) ?_)
  split
  · cases b <;> repeat' (first | exact all_nil | refine all_cons ?_ ?_ | refine utf_ok1 (by decide) (by decide) (by decide) (by decide) (by decide) ?_)
  split
  · cases b <;> repeat' (first | exact all_nil | refine all_cons ?_ ?_ | refine utf_ok1 (by decide) (by decide) (by decide) (by decide) (by decide) ?_)
  exact all_nil
theorem vs4 {a b : Int} {P : Int → Prop} (h0 : 0 ≤ a) (h3 : b ≤ 3) (p0 : a ≤ 0 → 0 ≤ b → P 0) (p1 : a ≤ 1 → 1 ≤ b → P 1) (p2 : a ≤ 2 → 2 ≤ b → P 2) (p3 : a ≤ 3 → 3 ≤ b → P 3) : ∀ v, a ≤ v → v ≤ b → P v := fun v h1 h2 => by
  have : v = 0 ∨ v = 1 ∨ v = 2 ∨ v = 3 := by omega
  rcases this with h | h | h | h <;> subst h
  · exact p0 h1 h2
  · exact p1 h1 h2
  · exact p2 h1 h2
  · exact p3 h1 h2
theorem good_leaf {d : Nat} {n : ByteArray} {k a b : Int} (h1 : 0 ≤ a ∧ b ≤ 3 ∧ a ≤ b) (h2 : 1 ≤ k ∧ k ≤ 8) : Fld.good d (.mk n k a b []) := (good_eq d n k a b []).2 ⟨h1, .inl ⟨h2.1, h2.2, rfl⟩⟩
theorem good_tree {d : Nat} {n : ByteArray} {k a b : Int} {e : List Fld} (h1 : 0 ≤ a ∧ b ≤ 3 ∧ a ≤ b) (h2 : k = 9 ∧ e.length = 1 ∨ k = 10) (h3 : tabOk (d + 1) e) (h4 : ∀ v, a ≤ v → v ≤ b → hereL e v ≠ []) : Fld.good d (.mk n k a b e) := (good_eq d n k a b e).2 ⟨h1, .inr ⟨h2, h3, h4⟩⟩
theorem tabOk_mk {d : Nat} {l : List Fld} (h1 : 1 ≤ l.length ∧ l.length ≤ 6) (h2 : d ≤ 8) (h3 : (l.map Fld.name).Nodup) (h4 : ∀ f ∈ l, f.name.size ≠ 0) (h5 : goods d l) : tabOk d l := ⟨h1.1, by omega, h2, h3, h4, h5⟩
theorem goods_cons {d : Nat} {x : Fld} {l : List Fld} (h1 : x.good d) (h2 : goods d l) : goods d (x :: l) := by unfold goods; exact ⟨h1, h2⟩
theorem goods_nil {d : Nat} : goods d [] := by unfold goods; trivial
theorem tab_good {k : Int} {b : Bool} (h : k = 0 ∨ k = 1 ∨ k = 2) : tabOk 1 (tabFs k b) := by
  rcases h with rfl | rfl | rfl <;> cases b <;> (show tabOk 1 (_ :: _)) <;>
  repeat' (first | exact goods_nil | refine goods_cons ?_ ?_ | refine good_leaf (by decide) (by decide) | refine good_tree (by decide) (by decide) ?_ (vs4 (by decide) (by decide) (by decide) (by decide) (by decide) (by decide)) | refine tabOk_mk (by decide) (by decide) (by decide) (by decide) ?_)
section
variable {w0 : World} {p : List HP} {Pn : PK} {K : Value → WP}
theorem SchemaTables_spec {k : Int} {b : Bool} (hk : Ent w0 p (K (.bool true))) : Ent w0 p (op PR Pn (S.fn F.leatlaw10_SchemaTables [.int .i16 k, .bool b]) K) := by
  have hl : (tabFs k b).length ≤ 1048576 := by
    unfold tabFs
    repeat' split <;> try decide
  refine Ent.call (fun w h => enter.leatlaw10_SchemaTables h) ?_
  unfold W.leatlaw10_SchemaTables
  refine alive_spec ?_
  repeat (first | refine Ent.runW (wrap_i64 (by omega) (by omega)) ?_ | refine Ent.runWL (wrap_i64 (by omega) (by omega)) ?_ | refine Ent.runWR (wrap_i64 (by omega) (by omega)) ?_ | refine Ent.run ?_ | refine Ent.runL ?_ | refine Ent.runR ?_ | refine Ent.drawn ?_ | refine Ent.store (by kernel_rfl) ?_ | refine Ent.resN ?_ | refine Ent.res1 ?_ | refine Ent.gop_yes ?_ | refine Ent.gop_no (by decide) ?_ | refine Ent.gop_undef ?_ | refine Ent.glt_undef ?_ | refine Ent.grc_undef ?_ | refine Ent.glt_yes ?_ | refine Ent.glt_no (by decide) ?_ | refine Ent.grc_yes ?_ | refine Ent.grc_no (by decide) ?_)
  refine Ent.ite_f ?_
  refine Table_spec fun A1 c1 => ?_
  repeat (first | refine Ent.runW (wrap_i64 (by omega) (by omega)) ?_ | refine Ent.runWL (wrap_i64 (by omega) (by omega)) ?_ | refine Ent.runWR (wrap_i64 (by omega) (by omega)) ?_ | refine Ent.run ?_ | refine Ent.runL ?_ | refine Ent.runR ?_ | refine Ent.drawn ?_ | refine Ent.store (by kernel_rfl) ?_ | refine Ent.resN ?_ | refine Ent.res1 ?_ | refine Ent.gop_yes ?_ | refine Ent.gop_no (by decide) ?_ | refine Ent.gop_undef ?_ | refine Ent.glt_undef ?_ | refine Ent.grc_undef ?_ | refine Ent.glt_yes ?_ | refine Ent.glt_no (by decide) ?_ | refine Ent.grc_yes ?_ | refine Ent.grc_no (by decide) ?_)
  refine Ent.freeze fun x1 hx1 => ?_
  have hf1 := RdD.here (p := p) (Ow.rd _ _ _ hx1)
  refine Table_spec fun A2 c2 => ?_
  repeat (first | refine Ent.runW (wrap_i64 (by omega) (by omega)) ?_ | refine Ent.runWL (wrap_i64 (by omega) (by omega)) ?_ | refine Ent.runWR (wrap_i64 (by omega) (by omega)) ?_ | refine Ent.run ?_ | refine Ent.runL ?_ | refine Ent.runR ?_ | refine Ent.drawn ?_ | refine Ent.store (by kernel_rfl) ?_ | refine Ent.resN ?_ | refine Ent.res1 ?_ | refine Ent.gop_yes ?_ | refine Ent.gop_no (by decide) ?_ | refine Ent.gop_undef ?_ | refine Ent.glt_undef ?_ | refine Ent.grc_undef ?_ | refine Ent.glt_yes ?_ | refine Ent.glt_no (by decide) ?_ | refine Ent.grc_yes ?_ | refine Ent.grc_no (by decide) ?_)
  refine Ent.freeze fun x2 hx2 => ?_
  have hf2 := RdD.here (p := p) (Ow.rd _ _ _ hx2)
  refine RTable_spec fun A3 c3 => ?_
  repeat (first | refine Ent.runW (wrap_i64 (by omega) (by omega)) ?_ | refine Ent.runWL (wrap_i64 (by omega) (by omega)) ?_ | refine Ent.runWR (wrap_i64 (by omega) (by omega)) ?_ | refine Ent.run ?_ | refine Ent.runL ?_ | refine Ent.runR ?_ | refine Ent.drawn ?_ | refine Ent.store (by kernel_rfl) ?_ | refine Ent.resN ?_ | refine Ent.res1 ?_ | refine Ent.gop_yes ?_ | refine Ent.gop_no (by decide) ?_ | refine Ent.gop_undef ?_ | refine Ent.glt_undef ?_ | refine Ent.grc_undef ?_ | refine Ent.glt_yes ?_ | refine Ent.glt_no (by decide) ?_ | refine Ent.grc_yes ?_ | refine Ent.grc_no (by decide) ?_)
  refine Ent.freeze fun x3 hx3 => ?_
  have hf3 := RdD.here (p := p) (Ow.rd _ _ _ hx3)
  simp only [eq_self, decide_true, Bool.not_true]
  repeat (first | refine Ent.runW (wrap_i64 (by omega) (by omega)) ?_ | refine Ent.runWL (wrap_i64 (by omega) (by omega)) ?_ | refine Ent.runWR (wrap_i64 (by omega) (by omega)) ?_ | refine Ent.run ?_ | refine Ent.runL ?_ | refine Ent.runR ?_ | refine Ent.drawn ?_ | refine Ent.store (by kernel_rfl) ?_ | refine Ent.resN ?_ | refine Ent.res1 ?_ | refine Ent.gop_yes ?_ | refine Ent.gop_no (by decide) ?_ | refine Ent.gop_undef ?_ | refine Ent.glt_undef ?_ | refine Ent.grc_undef ?_ | refine Ent.glt_yes ?_ | refine Ent.glt_no (by decide) ?_ | refine Ent.grc_yes ?_ | refine Ent.grc_no (by decide) ?_)
  refine AlikeFields_spec (tabFs k b) w0 _ _ _ (tabFs k b) _ _ _ _ hf1.keep hf3.keep (fun _ => ?_) (fun h => absurd rfl h)
  repeat (first | refine Ent.runW (wrap_i64 (by omega) (by omega)) ?_ | refine Ent.runWL (wrap_i64 (by omega) (by omega)) ?_ | refine Ent.runWR (wrap_i64 (by omega) (by omega)) ?_ | refine Ent.run ?_ | refine Ent.runL ?_ | refine Ent.runR ?_ | refine Ent.drawn ?_ | refine Ent.store (by kernel_rfl) ?_ | refine Ent.resN ?_ | refine Ent.res1 ?_ | refine Ent.gop_yes ?_ | refine Ent.gop_no (by decide) ?_ | refine Ent.gop_undef ?_ | refine Ent.glt_undef ?_ | refine Ent.grc_undef ?_ | refine Ent.glt_yes ?_ | refine Ent.glt_no (by decide) ?_ | refine Ent.grc_yes ?_ | refine Ent.grc_no (by decide) ?_)
  refine AlikeFields_spec (tabFs k b) w0 _ _ _ (tabFs k b) _ _ _ _ hf2.keep hf3.keep (fun _ => ?_) (fun h => absurd rfl h)
  repeat (first | refine Ent.runW (wrap_i64 (by omega) (by omega)) ?_ | refine Ent.runWL (wrap_i64 (by omega) (by omega)) ?_ | refine Ent.runWR (wrap_i64 (by omega) (by omega)) ?_ | refine Ent.run ?_ | refine Ent.runL ?_ | refine Ent.runR ?_ | refine Ent.drawn ?_ | refine Ent.store (by kernel_rfl) ?_ | refine Ent.resN ?_ | refine Ent.res1 ?_ | refine Ent.gop_yes ?_ | refine Ent.gop_no (by decide) ?_ | refine Ent.gop_undef ?_ | refine Ent.glt_undef ?_ | refine Ent.grc_undef ?_ | refine Ent.glt_yes ?_ | refine Ent.glt_no (by decide) ?_ | refine Ent.grc_yes ?_ | refine Ent.grc_no (by decide) ?_)
  refine Ent.ite_f ?_
  by_cases hkk : k = 0 ∨ k = 1 ∨ k = 2
  · have he : tabEr k = 0 := by unfold tabEr; rw [if_pos hkk]
    have ht : tabE (tabFs k b) = 0 := by unfold tabE; rw [if_pos (tab_good hkk)]
    rw [he]
    repeat (first | refine Ent.runW (wrap_i64 (by omega) (by omega)) ?_ | refine Ent.runWL (wrap_i64 (by omega) (by omega)) ?_ | refine Ent.runWR (wrap_i64 (by omega) (by omega)) ?_ | refine Ent.run ?_ | refine Ent.runL ?_ | refine Ent.runR ?_ | refine Ent.drawn ?_ | refine Ent.store (by kernel_rfl) ?_ | refine Ent.resN ?_ | refine Ent.res1 ?_ | refine Ent.gop_yes ?_ | refine Ent.gop_no (by decide) ?_ | refine Ent.gop_undef ?_ | refine Ent.glt_undef ?_ | refine Ent.grc_undef ?_ | refine Ent.glt_yes ?_ | refine Ent.glt_no (by decide) ?_ | refine Ent.grc_yes ?_ | refine Ent.grc_no (by decide) ?_)
    refine Check_spec (tab_ok k b) hf1.keep hl ?_
    rw [ht]
    repeat (first | refine Ent.runW (wrap_i64 (by omega) (by omega)) ?_ | refine Ent.runWL (wrap_i64 (by omega) (by omega)) ?_ | refine Ent.runWR (wrap_i64 (by omega) (by omega)) ?_ | refine Ent.run ?_ | refine Ent.runL ?_ | refine Ent.runR ?_ | refine Ent.drawn ?_ | refine Ent.store (by kernel_rfl) ?_ | refine Ent.resN ?_ | refine Ent.res1 ?_ | refine Ent.gop_yes ?_ | refine Ent.gop_no (by decide) ?_ | refine Ent.gop_undef ?_ | refine Ent.glt_undef ?_ | refine Ent.grc_undef ?_ | refine Ent.glt_yes ?_ | refine Ent.glt_no (by decide) ?_ | refine Ent.grc_yes ?_ | refine Ent.grc_no (by decide) ?_)
    refine Ent.ite_f ?_
    refine Ent.take (exact x1) (Ent.thaw hx1 ?_)
    refine spoil_spec (tab_ok k b) w0 _ _ _ A1 c1 hl ?_
    repeat (first | refine Ent.runW (wrap_i64 (by omega) (by omega)) ?_ | refine Ent.runWL (wrap_i64 (by omega) (by omega)) ?_ | refine Ent.runWR (wrap_i64 (by omega) (by omega)) ?_ | refine Ent.run ?_ | refine Ent.runL ?_ | refine Ent.runR ?_ | refine Ent.drawn ?_ | refine Ent.store (by kernel_rfl) ?_ | refine Ent.resN ?_ | refine Ent.res1 ?_ | refine Ent.gop_yes ?_ | refine Ent.gop_no (by decide) ?_ | refine Ent.gop_undef ?_ | refine Ent.glt_undef ?_ | refine Ent.grc_undef ?_ | refine Ent.glt_yes ?_ | refine Ent.glt_no (by decide) ?_ | refine Ent.grc_yes ?_ | refine Ent.grc_no (by decide) ?_)
    refine AlikeFields_spec (tabFs k b) w0 _ _ _ (tabFs k b) _ _ _ _ hf2.keep hf3.keep (fun _ => ?_) (fun h => absurd rfl h)
    repeat (first | refine Ent.runW (wrap_i64 (by omega) (by omega)) ?_ | refine Ent.runWL (wrap_i64 (by omega) (by omega)) ?_ | refine Ent.runWR (wrap_i64 (by omega) (by omega)) ?_ | refine Ent.run ?_ | refine Ent.runL ?_ | refine Ent.runR ?_ | refine Ent.drawn ?_ | refine Ent.store (by kernel_rfl) ?_ | refine Ent.resN ?_ | refine Ent.res1 ?_ | refine Ent.gop_yes ?_ | refine Ent.gop_no (by decide) ?_ | refine Ent.gop_undef ?_ | refine Ent.glt_undef ?_ | refine Ent.grc_undef ?_ | refine Ent.glt_yes ?_ | refine Ent.glt_no (by decide) ?_ | refine Ent.grc_yes ?_ | refine Ent.grc_no (by decide) ?_)
    refine Ent.ite_f ?_
    refine Table_spec fun A4 c4 => ?_
    repeat (first | refine Ent.runW (wrap_i64 (by omega) (by omega)) ?_ | refine Ent.runWL (wrap_i64 (by omega) (by omega)) ?_ | refine Ent.runWR (wrap_i64 (by omega) (by omega)) ?_ | refine Ent.run ?_ | refine Ent.runL ?_ | refine Ent.runR ?_ | refine Ent.drawn ?_ | refine Ent.store (by kernel_rfl) ?_ | refine Ent.resN ?_ | refine Ent.res1 ?_ | refine Ent.gop_yes ?_ | refine Ent.gop_no (by decide) ?_ | refine Ent.gop_undef ?_ | refine Ent.glt_undef ?_ | refine Ent.grc_undef ?_ | refine Ent.glt_yes ?_ | refine Ent.glt_no (by decide) ?_ | refine Ent.grc_yes ?_ | refine Ent.grc_no (by decide) ?_)
    refine Ent.freeze fun x4 hx4 => ?_
    have hf4 := RdD.here (p := p) (Ow.rd _ _ _ hx4)
    refine Table_spec fun A5 c5 => ?_
    repeat (first | refine Ent.runW (wrap_i64 (by omega) (by omega)) ?_ | refine Ent.runWL (wrap_i64 (by omega) (by omega)) ?_ | refine Ent.runWR (wrap_i64 (by omega) (by omega)) ?_ | refine Ent.run ?_ | refine Ent.runL ?_ | refine Ent.runR ?_ | refine Ent.drawn ?_ | refine Ent.store (by kernel_rfl) ?_ | refine Ent.resN ?_ | refine Ent.res1 ?_ | refine Ent.gop_yes ?_ | refine Ent.gop_no (by decide) ?_ | refine Ent.gop_undef ?_ | refine Ent.glt_undef ?_ | refine Ent.grc_undef ?_ | refine Ent.glt_yes ?_ | refine Ent.glt_no (by decide) ?_ | refine Ent.grc_yes ?_ | refine Ent.grc_no (by decide) ?_)
    refine AlikeFields_spec (tabFs k b) w0 _ _ _ (tabFs k b) _ _ _ _ hf4.keep hf3.keep (fun _ => ?_) (fun h => absurd rfl h)
    repeat (first | refine Ent.runW (wrap_i64 (by omega) (by omega)) ?_ | refine Ent.runWL (wrap_i64 (by omega) (by omega)) ?_ | refine Ent.runWR (wrap_i64 (by omega) (by omega)) ?_ | refine Ent.run ?_ | refine Ent.runL ?_ | refine Ent.runR ?_ | refine Ent.drawn ?_ | refine Ent.store (by kernel_rfl) ?_ | refine Ent.resN ?_ | refine Ent.res1 ?_ | refine Ent.gop_yes ?_ | refine Ent.gop_no (by decide) ?_ | refine Ent.gop_undef ?_ | refine Ent.glt_undef ?_ | refine Ent.grc_undef ?_ | refine Ent.glt_yes ?_ | refine Ent.glt_no (by decide) ?_ | refine Ent.grc_yes ?_ | refine Ent.grc_no (by decide) ?_)
    exact Ent.keep hk
  · have he : tabEr k = 160 := by unfold tabEr; rw [if_neg hkk]
    rw [he]
    repeat (first | refine Ent.runW (wrap_i64 (by omega) (by omega)) ?_ | refine Ent.runWL (wrap_i64 (by omega) (by omega)) ?_ | refine Ent.runWR (wrap_i64 (by omega) (by omega)) ?_ | refine Ent.run ?_ | refine Ent.runL ?_ | refine Ent.runR ?_ | refine Ent.drawn ?_ | refine Ent.store (by kernel_rfl) ?_ | refine Ent.resN ?_ | refine Ent.res1 ?_ | refine Ent.gop_yes ?_ | refine Ent.gop_no (by decide) ?_ | refine Ent.gop_undef ?_ | refine Ent.glt_undef ?_ | refine Ent.grc_undef ?_ | refine Ent.glt_yes ?_ | refine Ent.glt_no (by decide) ?_ | refine Ent.grc_yes ?_ | refine Ent.grc_no (by decide) ?_)
    refine Ent.ite_f ?_
    refine Ent.take (exact x1) (Ent.thaw hx1 ?_)
    refine spoil_spec (tab_ok k b) w0 _ _ _ A1 c1 hl ?_
    repeat (first | refine Ent.runW (wrap_i64 (by omega) (by omega)) ?_ | refine Ent.runWL (wrap_i64 (by omega) (by omega)) ?_ | refine Ent.runWR (wrap_i64 (by omega) (by omega)) ?_ | refine Ent.run ?_ | refine Ent.runL ?_ | refine Ent.runR ?_ | refine Ent.drawn ?_ | refine Ent.store (by kernel_rfl) ?_ | refine Ent.resN ?_ | refine Ent.res1 ?_ | refine Ent.gop_yes ?_ | refine Ent.gop_no (by decide) ?_ | refine Ent.gop_undef ?_ | refine Ent.glt_undef ?_ | refine Ent.grc_undef ?_ | refine Ent.glt_yes ?_ | refine Ent.glt_no (by decide) ?_ | refine Ent.grc_yes ?_ | refine Ent.grc_no (by decide) ?_)
    refine AlikeFields_spec (tabFs k b) w0 _ _ _ (tabFs k b) _ _ _ _ hf2.keep hf3.keep (fun _ => ?_) (fun h => absurd rfl h)
    repeat (first | refine Ent.runW (wrap_i64 (by omega) (by omega)) ?_ | refine Ent.runWL (wrap_i64 (by omega) (by omega)) ?_ | refine Ent.runWR (wrap_i64 (by omega) (by omega)) ?_ | refine Ent.run ?_ | refine Ent.runL ?_ | refine Ent.runR ?_ | refine Ent.drawn ?_ | refine Ent.store (by kernel_rfl) ?_ | refine Ent.resN ?_ | refine Ent.res1 ?_ | refine Ent.gop_yes ?_ | refine Ent.gop_no (by decide) ?_ | refine Ent.gop_undef ?_ | refine Ent.glt_undef ?_ | refine Ent.grc_undef ?_ | refine Ent.glt_yes ?_ | refine Ent.glt_no (by decide) ?_ | refine Ent.grc_yes ?_ | refine Ent.grc_no (by decide) ?_)
    refine Ent.ite_f ?_
    refine Table_spec fun A4 c4 => ?_
    repeat (first | refine Ent.runW (wrap_i64 (by omega) (by omega)) ?_ | refine Ent.runWL (wrap_i64 (by omega) (by omega)) ?_ | refine Ent.runWR (wrap_i64 (by omega) (by omega)) ?_ | refine Ent.run ?_ | refine Ent.runL ?_ | refine Ent.runR ?_ | refine Ent.drawn ?_ | refine Ent.store (by kernel_rfl) ?_ | refine Ent.resN ?_ | refine Ent.res1 ?_ | refine Ent.gop_yes ?_ | refine Ent.gop_no (by decide) ?_ | refine Ent.gop_undef ?_ | refine Ent.glt_undef ?_ | refine Ent.grc_undef ?_ | refine Ent.glt_yes ?_ | refine Ent.glt_no (by decide) ?_ | refine Ent.grc_yes ?_ | refine Ent.grc_no (by decide) ?_)
    refine Ent.freeze fun x4 hx4 => ?_
    have hf4 := RdD.here (p := p) (Ow.rd _ _ _ hx4)
    refine Table_spec fun A5 c5 => ?_
    repeat (first | refine Ent.runW (wrap_i64 (by omega) (by omega)) ?_ | refine Ent.runWL (wrap_i64 (by omega) (by omega)) ?_ | refine Ent.runWR (wrap_i64 (by omega) (by omega)) ?_ | refine Ent.run ?_ | refine Ent.runL ?_ | refine Ent.runR ?_ | refine Ent.drawn ?_ | refine Ent.store (by kernel_rfl) ?_ | refine Ent.resN ?_ | refine Ent.res1 ?_ | refine Ent.gop_yes ?_ | refine Ent.gop_no (by decide) ?_ | refine Ent.gop_undef ?_ | refine Ent.glt_undef ?_ | refine Ent.grc_undef ?_ | refine Ent.glt_yes ?_ | refine Ent.glt_no (by decide) ?_ | refine Ent.grc_yes ?_ | refine Ent.grc_no (by decide) ?_)
    refine AlikeFields_spec (tabFs k b) w0 _ _ _ (tabFs k b) _ _ _ _ hf4.keep hf3.keep (fun _ => ?_) (fun h => absurd rfl h)
    repeat (first | refine Ent.runW (wrap_i64 (by omega) (by omega)) ?_ | refine Ent.runWL (wrap_i64 (by omega) (by omega)) ?_ | refine Ent.runWR (wrap_i64 (by omega) (by omega)) ?_ | refine Ent.run ?_ | refine Ent.runL ?_ | refine Ent.runR ?_ | refine Ent.drawn ?_ | refine Ent.store (by kernel_rfl) ?_ | refine Ent.resN ?_ | refine Ent.res1 ?_ | refine Ent.gop_yes ?_ | refine Ent.gop_no (by decide) ?_ | refine Ent.gop_undef ?_ | refine Ent.glt_undef ?_ | refine Ent.grc_undef ?_ | refine Ent.glt_yes ?_ | refine Ent.glt_no (by decide) ?_ | refine Ent.grc_yes ?_ | refine Ent.grc_no (by decide) ?_)
    exact Ent.keep hk
end
end Go.Lt
