/- Maps from texts to numbers. Conditions: none. -/
import Derived.Test.YtpmpgmjllagomaaRef4
import Derived.MapKept
set_option linter.unusedVariables false
set_option maxHeartbeats 4000000
set_option linter.unusedSimpArgs false
set_option maxRecDepth 100000
namespace Go.Lt
open Go
attribute [local irreducible] op gop lt glt rc grc ite' drawn also ldR
def findS (s : ByteArray) : List (ByteArray × Int) → Option (Nat × Int)
  | [] => none
  | x :: r => if s = x.1 then some (0, x.2) else (findS s r).map fun y => (y.1 + 1, y.2)
def entS (x : ByteArray × Int) : Value × Value := (.string x.1, .int .i64 x.2)
/-- A map from texts to numbers. -/
def mpS (g : Nat) (l : List (ByteArray × Int)) : HP := fun h => ∃ (es : Array MapEntry) (clock : Nat), es.toList.map (fun e => (e.key, e.val)) = l.map entS ∧ h = one g (.map es clock)
theorem bytes_eqb (a b : ByteArray) : (a == b) = decide (a = b) := by
  rw [Bool.eq_iff_iff, decide_eq_true_iff]
  exact MapKept.bytes_beq a b
theorem findNow_S (s : ByteArray) : ∀ (es : List MapEntry) (l : List (ByteArray × Int)) (i : Nat), es.map (fun e => (e.key, e.val)) = l.map entS → Instr.findNow .string (.string s) es i = some ((findS s l).map fun y => (i + y.1, .int .i64 y.2))
  | [], [], i, _ => rfl
  | [], _ :: _, i, h => by simp at h
  | _ :: _, [], i, h => by simp at h
  | e :: es, x :: l, i, h => by
    simp only [List.map_cons, List.cons.injEq] at h
    obtain ⟨h1, h2⟩ := h
    obtain ⟨hk, hv⟩ := Prod.mk.inj h1
    unfold Instr.findNow findS
    simp only [hk, Instr.sameNow, bytes_eqb]
    by_cases hs : s = x.1
    · subst hs
      simp [hv]
    · rw [decide_eq_false hs, if_neg hs]
      simp only
      rw [findNow_S s es l (i + 1) h2]
      cases findS s l with
      | none => rfl
      | some y => simp; omega
variable {w0 : World} {p : List HP} {Pn : PK} {K : Value → WP}
theorem Ent.mkMapS {t : TypeId} (h : ∀ g, Ent w0 (mpS g [] :: p) (K (.map (some g)))) : Ent w0 p (op PR Pn (S.mkMap t none) K) := fun w hs => by
  have e : (S.mkMap t none).run PR w = .ok (.value (.map (some w.heap.size))) { w with heap := w.heap.push (.map #[] 0) } := vv_run (by
    simp [Instr.makeMap, newObj, Sem.run])
  unfold op
  rw [e]
  exact h _ _ ((hs.new (.map #[] 0)).imp fun x hx => ⟨#[], 0, rfl, hx⟩)
theorem Ent.lkS {t kt et g : Nat} {s : ByteArray} {l : List (ByteArray × Int)} [ht : Und PR t (.map kt et)] [hk : Und PR kt .string] [hz : Zero PR et (.int .i64 0) 1]
    (h : Ent w0 (mpS g l :: p) (K (.int .i64 (match findS s l with | some y => y.2 | none => 0)))) : Ent w0 (mpS g l :: p) (op PR Pn (S.lk t (.map (some g)) (.string s) false) K) := fun w hs => by
  obtain ⟨x, ⟨es, clock, hes, hx⟩, hsub⟩ := hs.head
  have hb : w.heap[g]? = some (.map es clock) := hsub g _ (by rw [hx]; simp [one])
  obtain ⟨i, hi, hiz, _⟩ := zero_info (h := hz)
  have hf := findNow_S s es.toList l 0 hes
  have hc : ∀ b, (Instr.checkKey b 10000 kt (.string s)).run PR w = .ok () w := fun b => MapKept.run_checkKey (k := .string s) hk.out (by simp [MapKept.IsKey]) b 9999
  have e : (S.lk t (.map (some g)) (.string s) false).run PR w = .ok (.value (.int .i64 (match findS s l with | some y => y.2 | none => 0))) w := vv_run (by
    simp only [Instr.lookup, Sem.run_bind, und_run ht.out, Result.andThen_ok, MapKept.run_getObj_map hb, Sem.run_pure, hc, MapKept.run_findKey hk.out hf]
    cases findS s l with
    | none => simp [zeroValue, typeInfo, hi, hiz]
    | some y => simp)
  unfold op
  rw [e]
  exact h w hs
theorem modify_S {s : ByteArray} {v : Int} : ∀ (es : List MapEntry) (l : List (ByteArray × Int)) (j : Nat) (u : Int), es.map (fun e => (e.key, e.val)) = l.map entS → findS s l = some (j, u) →
    ∃ l', (es.modify j fun e => { e with key := .string s, val := .int .i64 v }).map (fun e => (e.key, e.val)) = l'.map entS ∧ findS s l' = some (j, v) ∧ (∃ e, es[j]? = some e ∧ e.key = .string s)
  | [], [], j, u, h, hf => by simp [findS] at hf
  | [], _ :: _, j, u, h, hf => by simp at h
  | _ :: _, [], j, u, h, hf => by simp at h
  | e :: es, x :: l, j, u, h, hf => by
    simp only [List.map_cons, List.cons.injEq] at h
    obtain ⟨h1, h2⟩ := h
    obtain ⟨hk, hv⟩ := Prod.mk.inj h1
    unfold findS at hf
    by_cases hs : s = x.1
    · rw [if_pos hs] at hf
      injection hf with hf
      injection hf with hj _
      subst hj
      refine ⟨(s, v) :: l, ?_, by simp [findS], e, rfl, by rw [hk, hs]⟩
      simp [h2, entS]
    · rw [if_neg hs] at hf
      obtain ⟨y, hy, he⟩ := Option.map_eq_some_iff.1 hf
      obtain ⟨y1, y2⟩ := y
      injection he with hj hu
      subst hj
      obtain ⟨l', h3, h4, e', h5, h6⟩ := modify_S (v := v) es l y1 y2 h2 hy
      refine ⟨x :: l', ?_, by unfold findS; rw [if_neg hs, h4]; rfl, e', by simpa using h5, h6⟩
      simp only [List.modify_succ_cons, List.map_cons, h3, entS]
      rw [hk, hv]
theorem Ent.muS {t kt et g : Nat} {s : ByteArray} {v : Int} {l : List (ByteArray × Int)} [ht : Und PR t (.map kt et)] [hk : Und PR kt .string]
    (hn : findS s l = none → Ent w0 (mpS g (l ++ [(s, v)]) :: p) (K undef)) (hy : ∀ l' j u, findS s l = some (j, u) → findS s l' = some (j, v) → Ent w0 (mpS g l' :: p) (K undef)) :
    Ent w0 (mpS g l :: p) (op PR Pn (S.mu t (.map (some g)) (.string s) (.int .i64 v)) K) := fun w hs => by
  obtain ⟨h0, x, ⟨y, z, ⟨es, clock, hes, hy'⟩, hz, h3, h4⟩, h5⟩ := hs
  have hs' : Sat (obj g (.map es clock) :: p) w0 w := ⟨h0, x, ⟨y, z, hy', hz, h3, h4⟩, h5⟩
  have hb := hs'.getObj
  have hf := findNow_S s es.toList l 0 hes
  have hc : (Instr.checkKey false 10000 kt (.string s)).run PR w = .ok () w := MapKept.run_checkKey (k := .string s) hk.out (by simp [MapKept.IsKey]) false 9999
  cases hfs : findS s l with
  | none =>
    rw [hfs] at hf
    have e : (S.mu t (.map (some g)) (.string s) (.int .i64 v)).run PR w = .ok .skip { w with heap := w.heap.setIfInBounds g (.map (es.push { key := .string s, val := .int .i64 v, born := clock }) (clock + 1)) } := uu_run (by
      simp [Instr.mapUpdate, und_run ht.out, MapKept.run_getObj_map hb, hc, MapKept.run_findKey hk.out hf, MapKept.run_setObj_map _ hb, Result.andThen])
    unfold op
    rw [e]
    exact hn hfs _ ((hs'.setObj).imp fun x hx => ⟨_, _, by simp [hes, entS], hx⟩)
  | some ju =>
    obtain ⟨j, u⟩ := ju
    rw [hfs] at hf
    obtain ⟨l', h6, h7, e', h8, h9⟩ := modify_S (v := v) es.toList l j u hes hfs
    have hkk : (((es[0 + j]?).map (·.key)).getD (.string s)) = .string s := by
      rw [Nat.zero_add, show es[j]? = some e' by simpa using h8]
      simp [h9]
    have e : (S.mu t (.map (some g)) (.string s) (.int .i64 v)).run PR w = .ok .skip { w with heap := w.heap.setIfInBounds g (.map (es.modify j fun e => { e with key := .string s, val := .int .i64 v }) clock) } := uu_run (by
      simp only [Instr.mapUpdate, und_run ht.out, MapKept.run_getObj_map hb, hc, MapKept.run_findKey hk.out hf, Sem.run_bind, Result.andThen_ok, Option.map_some]
      rw [hkk]
      simp [Instr.keyThatStays, Instr.sameBits, (MapKept.bytes_beq s s).2 rfl, MapKept.run_setObj_map _ hb, Result.andThen])
    unfold op
    rw [e]
    exact hy l' j u hfs h7 _ ((hs'.setObj).imp fun x hx => ⟨_, _, by simpa using h6, hx⟩)
end Go.Lt
