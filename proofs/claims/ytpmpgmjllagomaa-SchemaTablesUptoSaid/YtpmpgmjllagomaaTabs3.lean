/- Maps from numbers; Table and the reference's Table. Conditions: none. -/
import Derived.Test.YtpmpgmjllagomaaTabs2
import Derived.Test.YtpmpgmjllagomaaMap
set_option linter.unusedVariables false
set_option maxHeartbeats 4000000
set_option linter.unusedSimpArgs false
set_option maxRecDepth 100000
namespace Go.Lt
open Go
attribute [local irreducible] op gop lt glt rc grc ite' drawn also ldR
def findI (s : Int) : List (Int × Value) → Option (Nat × Value)
  | [] => none
  | x :: r => if s = x.1 then some (0, x.2) else (findI s r).map fun y => (y.1 + 1, y.2)
def entI (k : IntKind) (x : Int × Value) : Value × Value := (.int k x.1, x.2)
/-- A map from numbers. -/
def mpI (k : IntKind) (g : Nat) (l : List (Int × Value)) : HP := fun h => ∃ (es : Array MapEntry) (clock : Nat), es.toList.map (fun e => (e.key, e.val)) = l.map (entI k) ∧ h = one g (.map es clock)
theorem findNow_I {k : IntKind} (s : Int) : ∀ (es : List MapEntry) (l : List (Int × Value)) (i : Nat), es.map (fun e => (e.key, e.val)) = l.map (entI k) → Instr.findNow (.int k) (.int k s) es i = some ((findI s l).map fun y => (i + y.1, y.2))
  | [], [], i, _ => rfl
  | [], _ :: _, i, h => by simp at h
  | _ :: _, [], i, h => by simp at h
  | e :: es, x :: l, i, h => by
    simp only [List.map_cons, List.cons.injEq] at h
    obtain ⟨h1, h2⟩ := h
    obtain ⟨hk, hv⟩ := Prod.mk.inj h1
    unfold Instr.findNow findI
    simp only [hk, Instr.sameNow, if_true]
    by_cases hs : s = x.1
    · subst hs
      simp [hv]
    · rw [beq_eq_false_iff_ne.2 hs, if_neg hs]
      simp only
      rw [findNow_I s es l (i + 1) h2]
      cases findI s l with
      | none => rfl
      | some y => simp; omega
section
variable {w0 : World} {p : List HP} {Pn : PK} {K : Value → WP}
theorem Ent.mkMapI {t : TypeId} (k : IntKind) (h : ∀ g, Ent w0 (mpI k g [] :: p) (K (.map (some g)))) : Ent w0 p (op PR Pn (S.mkMap t none) K) := fun w hs => by
  have e : (S.mkMap t none).run PR w = .ok (.value (.map (some w.heap.size))) { w with heap := w.heap.push (.map #[] 0) } := vv_run (by
    simp [Instr.makeMap, newObj, Sem.run])
  unfold op
  rw [e]
  exact h _ _ ((hs.new (.map #[] 0)).imp fun x hx => ⟨#[], 0, rfl, hx⟩)
theorem Ent.lkI {t kt et g : Nat} {k : IntKind} {s : Int} {z : Value} {l : List (Int × Value)} [ht : Und PR t (.map kt et)] [hk : Und PR kt (.int k)] [hz : Zero PR et z 1]
    (h : Ent w0 (mpI k g l :: p) (K (match findI s l with | some y => .tuple #[y.2, .bool true] | none => .tuple #[z, .bool false]))) : Ent w0 (mpI k g l :: p) (op PR Pn (S.lk t (.map (some g)) (.int k s) true) K) := fun w hs => by
  obtain ⟨x, ⟨es, clock, hes, hx⟩, hsub⟩ := hs.head
  have hb : w.heap[g]? = some (.map es clock) := hsub g _ (by rw [hx]; simp [one])
  obtain ⟨i, hi, hiz, _⟩ := zero_info (h := hz)
  have hf := findNow_I (k := k) s es.toList l 0 hes
  have hc : ∀ b, (Instr.checkKey b 10000 kt (.int k s)).run PR w = .ok () w := fun b => MapKept.run_checkKey (k := .int k s) hk.out (by simp [MapKept.IsKey]) b 9999
  have e : (S.lk t (.map (some g)) (.int k s) true).run PR w = .ok (.value (match findI s l with | some y => .tuple #[y.2, .bool true] | none => .tuple #[z, .bool false])) w := vv_run (by
    simp only [Instr.lookup, Sem.run_bind, und_run ht.out, Result.andThen_ok, MapKept.run_getObj_map hb, Sem.run_pure, hc, MapKept.run_findKey hk.out hf]
    cases findI s l with
    | none => simp [zeroValue, typeInfo, hi, hiz]
    | some y => simp)
  unfold op
  rw [e]
  exact h w hs
theorem Ent.muI {t kt et g : Nat} {k : IntKind} {s : Int} {v : Value} {l : List (Int × Value)} [ht : Und PR t (.map kt et)] [hk : Und PR kt (.int k)] (hn : findI s l = none) (h : Ent w0 (mpI k g (l ++ [(s, v)]) :: p) (K undef)) :
    Ent w0 (mpI k g l :: p) (op PR Pn (S.mu t (.map (some g)) (.int k s) v) K) := fun w hs => by
  obtain ⟨h0, x, ⟨y, z, ⟨es, clock, hes, hy'⟩, hz, h3, h4⟩, h5⟩ := hs
  have hs' : Sat (obj g (.map es clock) :: p) w0 w := ⟨h0, x, ⟨y, z, hy', hz, h3, h4⟩, h5⟩
  have hb := hs'.getObj
  have hf := findNow_I (k := k) s es.toList l 0 hes
  have hc : (Instr.checkKey false 10000 kt (.int k s)).run PR w = .ok () w := MapKept.run_checkKey (k := .int k s) hk.out (by simp [MapKept.IsKey]) false 9999
  rw [hn] at hf
  have e : (S.mu t (.map (some g)) (.int k s) v).run PR w = .ok .skip { w with heap := w.heap.setIfInBounds g (.map (es.push { key := .int k s, val := v, born := clock }) (clock + 1)) } := uu_run (by
    simp [Instr.mapUpdate, und_run ht.out, MapKept.run_getObj_map hb, hc, MapKept.run_findKey hk.out hf, MapKept.run_setObj_map _ hb, Result.andThen])
  unfold op
  rw [e]
  exact h _ ((hs'.setObj).imp fun x hx => ⟨_, _, by simp [hes, entI], hx⟩)
instance : Zero PR 80 .nilFunc 1 := ⟨by kernel_rfl⟩
/-- The tables, and the error of a key that has none. -/
def tabFs (k : Int) (b : Bool) : List Fld := if k = 0 then (if b then produceA else produceQ) else if k = 1 then (if b then fetchA else fetchQ) else if k = 2 then (if b then listA else listQ) else []
def tabEr (k : Int) : Int := if k = 0 ∨ k = 1 ∨ k = 2 then 0 else 160
theorem Table_spec {k : Int} {b : Bool} (h : ∀ A c, Ent w0 (flsP (.slice A (tabFs k b).length c) (tabFs k b) :: p) (K (.tuple #[.slice A (tabFs k b).length c, .int .i64 (tabEr k)]))) :
    Ent w0 p (op PR Pn (S.fn F.schema_Table [.int .i16 k, .bool b]) K) := by
  refine Ent.call (fun w h => enter.schema_Table h) ?_
  unfold W.schema_Table
  refine Ent.mkMapI .i16 fun g => ?_
  refine Ent.muI (by rfl) ?_
  refine Ent.muI (by decide) ?_
  refine Ent.muI (by decide) ?_
  refine Ent.lkI ?_
  by_cases h0 : k = 0
  · subst h0
    simp only [List.nil_append, List.cons_append, findI, if_true]
    repeat (first | refine Ent.runW (wrap_i64 (by omega) (by omega)) ?_ | refine Ent.runWL (wrap_i64 (by omega) (by omega)) ?_ | refine Ent.runWR (wrap_i64 (by omega) (by omega)) ?_ | refine Ent.run ?_ | refine Ent.runL ?_ | refine Ent.runR ?_ | refine Ent.drawn ?_ | refine Ent.store (by kernel_rfl) ?_ | refine Ent.resN ?_ | refine Ent.res1 ?_ | refine Ent.gop_yes ?_ | refine Ent.gop_no (by decide) ?_ | refine Ent.gop_undef ?_ | refine Ent.glt_undef ?_ | refine Ent.grc_undef ?_ | refine Ent.glt_yes ?_ | refine Ent.glt_no (by decide) ?_ | refine Ent.grc_yes ?_ | refine Ent.grc_no (by decide) ?_)
    refine Ent.ite_f ?_
    cases b
    · refine produceQ_spec fun A => ?_
      exact Ent.perm (List.Perm.swap _ _ _) (Ent.drop (h A 4))
    · refine produceA_spec fun A => ?_
      exact Ent.perm (List.Perm.swap _ _ _) (Ent.drop (h A 2))
  by_cases h1 : k = 1
  · subst h1
    simp only [List.nil_append, List.cons_append, findI, if_true, Option.map_some, show ¬ (1 : Int) = 0 by omega, if_false]
    repeat (first | refine Ent.runW (wrap_i64 (by omega) (by omega)) ?_ | refine Ent.runWL (wrap_i64 (by omega) (by omega)) ?_ | refine Ent.runWR (wrap_i64 (by omega) (by omega)) ?_ | refine Ent.run ?_ | refine Ent.runL ?_ | refine Ent.runR ?_ | refine Ent.drawn ?_ | refine Ent.store (by kernel_rfl) ?_ | refine Ent.resN ?_ | refine Ent.res1 ?_ | refine Ent.gop_yes ?_ | refine Ent.gop_no (by decide) ?_ | refine Ent.gop_undef ?_ | refine Ent.glt_undef ?_ | refine Ent.grc_undef ?_ | refine Ent.glt_yes ?_ | refine Ent.glt_no (by decide) ?_ | refine Ent.grc_yes ?_ | refine Ent.grc_no (by decide) ?_)
    refine Ent.ite_f ?_
    cases b
    · refine fetchQ_spec fun A => ?_
      exact Ent.perm (List.Perm.swap _ _ _) (Ent.drop (h A 6))
    · refine fetchA_spec fun A => ?_
      exact Ent.perm (List.Perm.swap _ _ _) (Ent.drop (h A 2))
  by_cases h2 : k = 2
  · subst h2
    simp only [List.nil_append, List.cons_append, findI, if_true, Option.map_some, show ¬ (2 : Int) = 0 by omega, show ¬ (2 : Int) = 1 by omega, if_false]
    repeat (first | refine Ent.runW (wrap_i64 (by omega) (by omega)) ?_ | refine Ent.runWL (wrap_i64 (by omega) (by omega)) ?_ | refine Ent.runWR (wrap_i64 (by omega) (by omega)) ?_ | refine Ent.run ?_ | refine Ent.runL ?_ | refine Ent.runR ?_ | refine Ent.drawn ?_ | refine Ent.store (by kernel_rfl) ?_ | refine Ent.resN ?_ | refine Ent.res1 ?_ | refine Ent.gop_yes ?_ | refine Ent.gop_no (by decide) ?_ | refine Ent.gop_undef ?_ | refine Ent.glt_undef ?_ | refine Ent.grc_undef ?_ | refine Ent.glt_yes ?_ | refine Ent.glt_no (by decide) ?_ | refine Ent.grc_yes ?_ | refine Ent.grc_no (by decide) ?_)
    refine Ent.ite_f ?_
    cases b
    · refine listQ_spec fun A => ?_
      exact Ent.perm (List.Perm.swap _ _ _) (Ent.drop (h A 3))
    · refine listA_spec fun A => ?_
      exact Ent.perm (List.Perm.swap _ _ _) (Ent.drop (h A 2))
  simp only [List.nil_append, List.cons_append, findI, if_neg h0, if_neg h1, if_neg h2, Option.map_none]
  repeat (first | refine Ent.runW (wrap_i64 (by omega) (by omega)) ?_ | refine Ent.runWL (wrap_i64 (by omega) (by omega)) ?_ | refine Ent.runWR (wrap_i64 (by omega) (by omega)) ?_ | refine Ent.run ?_ | refine Ent.runL ?_ | refine Ent.runR ?_ | refine Ent.drawn ?_ | refine Ent.store (by kernel_rfl) ?_ | refine Ent.resN ?_ | refine Ent.res1 ?_ | refine Ent.gop_yes ?_ | refine Ent.gop_no (by decide) ?_ | refine Ent.gop_undef ?_ | refine Ent.glt_undef ?_ | refine Ent.grc_undef ?_ | refine Ent.glt_yes ?_ | refine Ent.glt_no (by decide) ?_ | refine Ent.grc_yes ?_ | refine Ent.grc_no (by decide) ?_)
  refine Ent.ite_t ?_
  have e1 : tabFs k b = [] := by unfold tabFs; rw [if_neg h0, if_neg h1, if_neg h2]
  have e2 : tabEr k = 160 := by unfold tabEr; rw [if_neg (by omega)]
  rw [e1, e2] at h
  exact own_nilF (Ent.keep (h none 0))
theorem RproduceQ_spec (h : ∀ A, Ent w0 (flsP (.slice A 4 4) produceQ :: p) (K (.tuple #[.slice A 4 4, .int .i64 0]))) : Ent w0 p (op PR Pn (S.fn F.leatref10_Table [.int .i16 0, .bool false]) K) := by
  unfold produceQ at h
  refine Ent.call (fun w h => enter.leatref10_Table h) ?_
  unfold W.leatref10_Table
  repeat' (first | refine Ent.also ?_ ?_ | refine Ent.J1 fun kk hkk => ?_ | refine hkk _ _ ?_ | refine all_spec ?_ | refine since_spec ?_ | refine first_spec ?_ | refine one_spec ?_ | refine topics_spec fun _ => ?_ | refine rtopics_spec fun _ => ?_ | refine rbuild_spec ?_ | refine lbuild_spec ?_ | refine Ent.alloc fun g => ?_ | refine bsl1 fun g => ?_ | refine bsl2 fun g => ?_ | refine bsl3 fun g => ?_ | refine bsl4 fun g => ?_ | refine bsl5 fun g => ?_ | refine bsl6 fun g => ?_ | refine Ent.runW (wrap_i64 (by omega) (by omega)) ?_ | refine Ent.runWL (wrap_i64 (by omega) (by omega)) ?_ | refine Ent.runWR (wrap_i64 (by omega) (by omega)) ?_ | refine Ent.run ?_ | refine Ent.runL ?_ | refine Ent.runR ?_ | refine Ent.drawn ?_ | refine Ent.store (by kernel_rfl) ?_ | refine Ent.resN ?_ | refine Ent.res1 ?_ | refine Ent.gop_yes ?_ | refine Ent.gop_no (by decide) ?_ | refine Ent.gop_undef ?_ | refine Ent.glt_undef ?_ | refine Ent.grc_undef ?_ | refine Ent.glt_yes ?_ | refine Ent.glt_no (by decide) ?_ | refine Ent.grc_yes ?_ | refine Ent.grc_no (by decide) ?_ | refine Ent.ite_t ?_ | refine Ent.ite_f ?_ | exact Ent.keep (h _))
theorem RproduceA_spec (h : ∀ A, Ent w0 (flsP (.slice A 2 2) produceA :: p) (K (.tuple #[.slice A 2 2, .int .i64 0]))) : Ent w0 p (op PR Pn (S.fn F.leatref10_Table [.int .i16 0, .bool true]) K) := by
  unfold produceA at h
  refine Ent.call (fun w h => enter.leatref10_Table h) ?_
  unfold W.leatref10_Table
  repeat' (first | refine Ent.also ?_ ?_ | refine Ent.J1 fun kk hkk => ?_ | refine hkk _ _ ?_ | refine all_spec ?_ | refine since_spec ?_ | refine first_spec ?_ | refine one_spec ?_ | refine topics_spec fun _ => ?_ | refine rtopics_spec fun _ => ?_ | refine rbuild_spec ?_ | refine lbuild_spec ?_ | refine Ent.alloc fun g => ?_ | refine bsl1 fun g => ?_ | refine bsl2 fun g => ?_ | refine bsl3 fun g => ?_ | refine bsl4 fun g => ?_ | refine bsl5 fun g => ?_ | refine bsl6 fun g => ?_ | refine Ent.runW (wrap_i64 (by omega) (by omega)) ?_ | refine Ent.runWL (wrap_i64 (by omega) (by omega)) ?_ | refine Ent.runWR (wrap_i64 (by omega) (by omega)) ?_ | refine Ent.run ?_ | refine Ent.runL ?_ | refine Ent.runR ?_ | refine Ent.drawn ?_ | refine Ent.store (by kernel_rfl) ?_ | refine Ent.resN ?_ | refine Ent.res1 ?_ | refine Ent.gop_yes ?_ | refine Ent.gop_no (by decide) ?_ | refine Ent.gop_undef ?_ | refine Ent.glt_undef ?_ | refine Ent.grc_undef ?_ | refine Ent.glt_yes ?_ | refine Ent.glt_no (by decide) ?_ | refine Ent.grc_yes ?_ | refine Ent.grc_no (by decide) ?_ | refine Ent.ite_t ?_ | refine Ent.ite_f ?_ | exact Ent.keep (h _))
theorem RfetchQ_spec (h : ∀ A, Ent w0 (flsP (.slice A 6 6) fetchQ :: p) (K (.tuple #[.slice A 6 6, .int .i64 0]))) : Ent w0 p (op PR Pn (S.fn F.leatref10_Table [.int .i16 1, .bool false]) K) := by
  unfold fetchQ at h
  refine Ent.call (fun w h => enter.leatref10_Table h) ?_
  unfold W.leatref10_Table
  repeat' (first | refine Ent.also ?_ ?_ | refine Ent.J1 fun kk hkk => ?_ | refine hkk _ _ ?_ | refine all_spec ?_ | refine since_spec ?_ | refine first_spec ?_ | refine one_spec ?_ | refine topics_spec fun _ => ?_ | refine rtopics_spec fun _ => ?_ | refine rbuild_spec ?_ | refine lbuild_spec ?_ | refine Ent.alloc fun g => ?_ | refine bsl1 fun g => ?_ | refine bsl2 fun g => ?_ | refine bsl3 fun g => ?_ | refine bsl4 fun g => ?_ | refine bsl5 fun g => ?_ | refine bsl6 fun g => ?_ | refine Ent.runW (wrap_i64 (by omega) (by omega)) ?_ | refine Ent.runWL (wrap_i64 (by omega) (by omega)) ?_ | refine Ent.runWR (wrap_i64 (by omega) (by omega)) ?_ | refine Ent.run ?_ | refine Ent.runL ?_ | refine Ent.runR ?_ | refine Ent.drawn ?_ | refine Ent.store (by kernel_rfl) ?_ | refine Ent.resN ?_ | refine Ent.res1 ?_ | refine Ent.gop_yes ?_ | refine Ent.gop_no (by decide) ?_ | refine Ent.gop_undef ?_ | refine Ent.glt_undef ?_ | refine Ent.grc_undef ?_ | refine Ent.glt_yes ?_ | refine Ent.glt_no (by decide) ?_ | refine Ent.grc_yes ?_ | refine Ent.grc_no (by decide) ?_ | refine Ent.ite_t ?_ | refine Ent.ite_f ?_ | exact Ent.keep (h _))
theorem RfetchA_spec (h : ∀ A, Ent w0 (flsP (.slice A 2 2) fetchA :: p) (K (.tuple #[.slice A 2 2, .int .i64 0]))) : Ent w0 p (op PR Pn (S.fn F.leatref10_Table [.int .i16 1, .bool true]) K) := by
  unfold fetchA at h
  refine Ent.call (fun w h => enter.leatref10_Table h) ?_
  unfold W.leatref10_Table
  repeat' (first | refine Ent.also ?_ ?_ | refine Ent.J1 fun kk hkk => ?_ | refine hkk _ _ ?_ | refine all_spec ?_ | refine since_spec ?_ | refine first_spec ?_ | refine one_spec ?_ | refine topics_spec fun _ => ?_ | refine rtopics_spec fun _ => ?_ | refine rbuild_spec ?_ | refine lbuild_spec ?_ | refine Ent.alloc fun g => ?_ | refine bsl1 fun g => ?_ | refine bsl2 fun g => ?_ | refine bsl3 fun g => ?_ | refine bsl4 fun g => ?_ | refine bsl5 fun g => ?_ | refine bsl6 fun g => ?_ | refine Ent.runW (wrap_i64 (by omega) (by omega)) ?_ | refine Ent.runWL (wrap_i64 (by omega) (by omega)) ?_ | refine Ent.runWR (wrap_i64 (by omega) (by omega)) ?_ | refine Ent.run ?_ | refine Ent.runL ?_ | refine Ent.runR ?_ | refine Ent.drawn ?_ | refine Ent.store (by kernel_rfl) ?_ | refine Ent.resN ?_ | refine Ent.res1 ?_ | refine Ent.gop_yes ?_ | refine Ent.gop_no (by decide) ?_ | refine Ent.gop_undef ?_ | refine Ent.glt_undef ?_ | refine Ent.grc_undef ?_ | refine Ent.glt_yes ?_ | refine Ent.glt_no (by decide) ?_ | refine Ent.grc_yes ?_ | refine Ent.grc_no (by decide) ?_ | refine Ent.ite_t ?_ | refine Ent.ite_f ?_ | exact Ent.keep (h _))
theorem RlistQ_spec (h : ∀ A, Ent w0 (flsP (.slice A 3 3) listQ :: p) (K (.tuple #[.slice A 3 3, .int .i64 0]))) : Ent w0 p (op PR Pn (S.fn F.leatref10_Table [.int .i16 2, .bool false]) K) := by
  unfold listQ at h
  refine Ent.call (fun w h => enter.leatref10_Table h) ?_
  unfold W.leatref10_Table
  repeat' (first | refine Ent.also ?_ ?_ | refine Ent.J1 fun kk hkk => ?_ | refine hkk _ _ ?_ | refine all_spec ?_ | refine since_spec ?_ | refine first_spec ?_ | refine one_spec ?_ | refine topics_spec fun _ => ?_ | refine rtopics_spec fun _ => ?_ | refine rbuild_spec ?_ | refine lbuild_spec ?_ | refine Ent.alloc fun g => ?_ | refine bsl1 fun g => ?_ | refine bsl2 fun g => ?_ | refine bsl3 fun g => ?_ | refine bsl4 fun g => ?_ | refine bsl5 fun g => ?_ | refine bsl6 fun g => ?_ | refine Ent.runW (wrap_i64 (by omega) (by omega)) ?_ | refine Ent.runWL (wrap_i64 (by omega) (by omega)) ?_ | refine Ent.runWR (wrap_i64 (by omega) (by omega)) ?_ | refine Ent.run ?_ | refine Ent.runL ?_ | refine Ent.runR ?_ | refine Ent.drawn ?_ | refine Ent.store (by kernel_rfl) ?_ | refine Ent.resN ?_ | refine Ent.res1 ?_ | refine Ent.gop_yes ?_ | refine Ent.gop_no (by decide) ?_ | refine Ent.gop_undef ?_ | refine Ent.glt_undef ?_ | refine Ent.grc_undef ?_ | refine Ent.glt_yes ?_ | refine Ent.glt_no (by decide) ?_ | refine Ent.grc_yes ?_ | refine Ent.grc_no (by decide) ?_ | refine Ent.ite_t ?_ | refine Ent.ite_f ?_ | exact Ent.keep (h _))
theorem RlistA_spec (h : ∀ A, Ent w0 (flsP (.slice A 2 2) listA :: p) (K (.tuple #[.slice A 2 2, .int .i64 0]))) : Ent w0 p (op PR Pn (S.fn F.leatref10_Table [.int .i16 2, .bool true]) K) := by
  unfold listA at h
  refine Ent.call (fun w h => enter.leatref10_Table h) ?_
  unfold W.leatref10_Table
  repeat' (first | refine Ent.also ?_ ?_ | refine Ent.J1 fun kk hkk => ?_ | refine hkk _ _ ?_ | refine all_spec ?_ | refine since_spec ?_ | refine first_spec ?_ | refine one_spec ?_ | refine topics_spec fun _ => ?_ | refine rtopics_spec fun _ => ?_ | refine rbuild_spec ?_ | refine lbuild_spec ?_ | refine Ent.alloc fun g => ?_ | refine bsl1 fun g => ?_ | refine bsl2 fun g => ?_ | refine bsl3 fun g => ?_ | refine bsl4 fun g => ?_ | refine bsl5 fun g => ?_ | refine bsl6 fun g => ?_ | refine Ent.runW (wrap_i64 (by omega) (by omega)) ?_ | refine Ent.runWL (wrap_i64 (by omega) (by omega)) ?_ | refine Ent.runWR (wrap_i64 (by omega) (by omega)) ?_ | refine Ent.run ?_ | refine Ent.runL ?_ | refine Ent.runR ?_ | refine Ent.drawn ?_ | refine Ent.store (by kernel_rfl) ?_ | refine Ent.resN ?_ | refine Ent.res1 ?_ | refine Ent.gop_yes ?_ | refine Ent.gop_no (by decide) ?_ | refine Ent.gop_undef ?_ | refine Ent.glt_undef ?_ | refine Ent.grc_undef ?_ | refine Ent.glt_yes ?_ | refine Ent.glt_no (by decide) ?_ | refine Ent.grc_yes ?_ | refine Ent.grc_no (by decide) ?_ | refine Ent.ite_t ?_ | refine Ent.ite_f ?_ | exact Ent.keep (h _))
end
end Go.Lt
