/- Rows of one's own: read and written in place. Conditions: none. -/
import Derived.Test.YtpmpgmjllagomaaKp
import Derived.Test.YtpmpgmjllagomaaLab
set_option linter.unusedVariables false
set_option maxHeartbeats 4000000
set_option linter.unusedSimpArgs false
set_option maxRecDepth 100000
namespace Go.Lt
open Go
attribute [local irreducible] op gop lt glt rc grc ite' drawn also ldR
section
variable {P : Program} {w0 : World} {p : List HP} {Pn : PK} {K : Value → WP}
theorem row_obj {e sz g n c : Nat} {cs : List Value} {x : HL} (h : row e sz (.slice (some ⟨g, 0, none⟩) n c) n cs x) : ∃ cur, x = one g (.cells cur e (0, 0)) ∧ n ≤ c ∧ c ≤ maxLen ∧ cur.size = c * sz ∧ cur.toList.take (n * sz) = cs ∧ cs.length = n * sz := by
  obtain ⟨h1, ⟨h2, _⟩ | ⟨g', cap, cur, h2, h3, h4, h5, h6, h7⟩⟩ := h
  · cases h2
  · injection h2 with e1 e2 e3
    injection e1 with e1
    injection e1 with e1
    subst e1; subst e3
    exact ⟨cur, h7, h3, h4, h5, h6, h1⟩
/-- A row that isn't empty lies somewhere. -/
theorem row_some {e sz n c : Nat} {A : Option Addr} {cs : List Value} {φ : WP} (hn : 0 < n) (h : ∀ g, A = some ⟨g, 0, none⟩ → Ent w0 (row e sz (.slice A n c) n cs :: p) φ) : Ent w0 (row e sz (.slice A n c) n cs :: p) φ := by
  refine Ent.freeze fun x hx => ?_
  obtain ⟨h1, ⟨_, h3, _⟩ | ⟨g, cap, cur, h2, h3⟩⟩ := id hx
  · omega
  · injection h2 with e1
    exact Ent.thaw hx (h g e1)
theorem row_load {e sz g n c j : Nat} {cs : List Value} {u : Value} (h : cs[j]? = some u) : LoadAt (row e sz (.slice (some ⟨g, 0, none⟩) n c) n cs :: p) ⟨g, j, none⟩ u := ⟨fun w0 w hs => by
  obtain ⟨x, hx, hsub⟩ := hs.head
  obtain ⟨cur, rfl, h1, h2, h3, h4, h5⟩ := row_obj hx
  have := hsub g (.cells cur e (0, 0)) (by simp [one])
  simp only [World.cell?, this]
  rw [← h4, List.getElem?_take] at h
  split at h
  · simpa using h
  · cases h⟩
/-- A cell written. -/
theorem Ent.storeRow {t e sz g n c j : Nat} {cs : List Value} {u : Value} [hc : CellsOf u [u]] (h1 : sizeB P t = some 1) (ho : u.oneCell' = true) (hj : j < cs.length)
    (h : Ent w0 (row e sz (.slice (some ⟨g, 0, none⟩) n c) n (cs.set j u) :: p) (K undef)) :
    Ent w0 (row e sz (.slice (some ⟨g, 0, none⟩) n c) n cs :: p) (op P Pn (S.store t (.pointer (some ⟨g, j, none⟩)) u) K) := fun w hs => by
  obtain ⟨h0, x, ⟨y, z, hy, hz, h3, h4⟩, h5⟩ := hs
  obtain ⟨cur, rfl, h6, h7, h8, h9, h10⟩ := row_obj hy
  have hs' : Sat (obj g (.cells cur e (0, 0)) :: p) w0 w := ⟨h0, x, ⟨_, z, rfl, hz, h3, h4⟩, h5⟩
  have hg := hs'.getObj
  have hlen : j < cur.toList.length := by
    have : cs.length ≤ cur.toList.length := by rw [← h9, List.length_take]; omega
    omega
  have eq : (S.store t (.pointer (some ⟨g, j, none⟩)) u).run P w = .ok .skip { w with heap := w.heap.setIfInBounds g (.cells (cur.toList.set j u).toArray e (0, 0)) } := uu_run (by
    simp only [Instr.storeAt, Instr.sureAddr, Sem.run_bind, Sem.run_pure, Result.andThen_ok, storeVar, sizeOf_run h1, hc.out]
    simp only [List.size_toArray, List.length_cons, List.length_nil, ne_eq, not_true_eq_false, if_false, Sem.run_bind, Sem.run_pure, Result.andThen_ok]
    have := storeCells_run (P := P) (g := g) (t := e) [u] cur.toList j 0 w (by simpa using ho) (by simpa using hg) (by simp at hlen ⊢; omega)
    rw [this]
    simp only [Nat.add_zero, List.length_cons, List.length_nil]
    rw [List.set_eq_take_append_cons_drop, if_pos hlen]
    simp)
  unfold op
  rw [eq]
  refine h _ ((hs'.setObj (o' := .cells (cur.toList.set j u).toArray e (0, 0))).imp fun y hy => ?_)
  refine ⟨by simpa using h10, .inr ⟨g, c, _, rfl, h6, h7, by simpa using h8, ?_, hy⟩⟩
  rw [← h9]
  simp [List.take_set]
end
end Go.Lt
