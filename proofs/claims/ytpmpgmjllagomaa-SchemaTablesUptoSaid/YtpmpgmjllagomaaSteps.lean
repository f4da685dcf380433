/- The steps of a walk: one lemma an operation, over the formulas of Lt.Base and the assertions of Lt.Sep. Conditions: none. -/
import Derived.Test.YtpmpgmjllagomaaSep
import Derived.Maps.AppendAt
set_option linter.unusedVariables false
set_option linter.unusedSimpArgs false
namespace Go.Lt
open Go
/-! ### Types -/
def aggB (P : Program) (t : TypeId) : Option Bool := (P.underlying t).map fun d => match d with | .struct _ | .array _ _ => true | _ => false
def sizeB (P : Program) (t : TypeId) : Option Nat := (P.info? t).map fun i => i.size
def foffB (P : Program) (t f : Nat) : Option Nat := match P.underlying t with
  | some (.struct fs) => match fs[f]? with
    | some fd => match P.info? fd.type with
      | some i => if i.size = 0 then none else some fd.offset
      | none => none
    | none => none
  | _ => none
def infoB (P : Program) (t : TypeId) : Option (Option Value × Nat × Bool) := (P.info? t).map fun i => (i.zero, i.size, Nat.ble 1 i.bytes && Nat.ble i.bytes 8192)
class Und (P : Program) (t : TypeId) (d : outParam TypeDesc) : Prop where out : P.underlying t = some d
/-- A type of one cell. -/
class Scal (P : Program) (t : TypeId) : Prop where
  agg : aggB P t = some false
  size : sizeB P t = some 1
class Agg (P : Program) (t : TypeId) (n : outParam Nat) : Prop where
  agg : aggB P t = some true
  size : sizeB P t = some n
class FOff (P : Program) (t f : Nat) (off : outParam Nat) : Prop where out : foffB P t f = some off
class Zero (P : Program) (t : TypeId) (z : outParam Value) (n : outParam Nat) : Prop where out : infoB P t = some (some z, n, true)
section
variable {P : Program} {t : TypeId}
theorem isAgg_run {b : Bool} (h : aggB P t = some b) (w : World) : (isAgg t).run P w = .ok b w := by
  obtain ⟨d, hd, he⟩ := Option.map_eq_some_iff.1 h
  subst he
  simp only [isAgg, underlying, program, Sem.run_bind]
  cases d <;> simp [Sem.run, hd]
theorem sizeOf_run {n : Nat} (h : sizeB P t = some n) (w : World) : (sizeOf t).run P w = .ok n w := by
  obtain ⟨i, hi, he⟩ := Option.map_eq_some_iff.1 h
  simp [sizeOf, typeInfo, hi, he]
theorem zero_info {z : Value} {n : Nat} [h : Zero P t z n] : ∃ i, P.info? t = some i ∧ i.zero = some z ∧ i.size = n ∧ 1 ≤ i.bytes ∧ i.bytes ≤ 8192 := by
  obtain ⟨i, hi, he⟩ := Option.map_eq_some_iff.1 h.out
  simp only [Prod.mk.injEq, Bool.and_eq_true] at he
  exact ⟨i, hi, he.1, he.2.1, Nat.le_of_ble_eq_true he.2.2.1, Nat.le_of_ble_eq_true he.2.2.2⟩
theorem und_run {d : TypeDesc} (h : P.underlying t = some d) (w : World) : (underlying t).run P w = .ok d w := by simp [underlying, h]
theorem foff_spec {f off : Nat} (h : foffB P t f = some off) : ∃ fs fd, P.underlying t = some (.struct fs) ∧ fs[f]? = some fd ∧ fd.offset = off ∧ ∃ n, sizeB P fd.type = some n ∧ n ≠ 0 := by
  unfold foffB at h
  split at h
  · rename_i fs hfs
    split at h
    · rename_i fd hfd
      split at h
      · rename_i i hi
        split at h
        · cases h
        · rename_i hn
          exact ⟨fs, fd, hfs, hfd, by simpa using h, i.size, by simp [sizeB, hi], hn⟩
      · cases h
    · cases h
  · cases h
end
/-! ### What a world holds -/
theorem Sat.getBlk {g : Nat} {cs : List Value} {p : List HP} {w0 w : World} (h : Sat (blk g cs :: p) w0 w) : ∃ t, w.heap[g]? = some (.cells cs.toArray t (0, 0)) := by
  obtain ⟨x, ⟨t, hx⟩, hs⟩ := h.head
  exact ⟨t, hs g _ (by rw [hx]; simp [one])⟩
theorem Sat.getObj {g : Nat} {o : Obj} {p : List HP} {w0 w : World} (h : Sat (obj g o :: p) w0 w) : w.heap[g]? = some o := by
  obtain ⟨x, hx, hs⟩ := h.head
  exact hs g _ (by rw [hx]; simp [one])
/-- A cell of a heaplet. -/
def hcell (x : HL) (a : Addr) (v : Value) : Prop := ∃ cs t fr, x a.block = some (.cells cs t fr) ∧ a.spot = none ∧ cs[a.off]? = some v
theorem hcell.world {x : HL} {a : Addr} {v : Value} {w : World} (h : hcell x a v) (hs : sub x w) : w.cell? a = some v := by
  obtain ⟨cs, t, fr, h1, h2, h3⟩ := h
  simp [World.cell?, hs _ _ h1, h2, h3]
class LoadAt (p : List HP) (a : Addr) (v : outParam Value) : Prop where out : ∀ w0 w, Sat p w0 w → w.cell? a = some v
class At (l : List Value) (n : Nat) (v : outParam Value) : Prop where out : l[n]? = some v
instance {v : Value} {l : List Value} : At (v :: l) 0 v := ⟨rfl⟩
instance {u v : Value} {l : List Value} {n : Nat} [h : At l n v] : At (u :: l) (n + 1) v := ⟨by simpa using h.out⟩
instance (priority := high) {g o : Nat} {cs : List Value} {p : List HP} {v : Value} [h : At cs o v] : LoadAt (blk g cs :: p) ⟨g, o, none⟩ v := ⟨fun w0 w hs => by
  obtain ⟨t, ht⟩ := hs.getBlk
  simp [World.cell?, ht, h.out]⟩
instance (priority := low) {c : HP} {p : List HP} {a : Addr} {v : Value} [h : LoadAt p a v] : LoadAt (c :: p) a v := ⟨fun w0 w hs => h.out w0 w hs.drop⟩
class HCell (x : HL) (a : Addr) (v : outParam Value) : Prop where out : hcell x a v
instance (priority := high) {x : HL} {a : Addr} {v : Value} {p : List HP} [h : HCell x a v] : LoadAt (exact x :: p) a v := ⟨fun w0 w hs => by
  obtain ⟨y, hy, hsub⟩ := hs.head
  cases hy
  exact h.out.world hsub⟩
/-- Several cells in a row. -/
class LoadN (p : List HP) (b o n : Nat) (vs : outParam (List Value)) : Prop where out : ∀ w0 w, Sat p w0 w → vs.length = n ∧ ∀ i v, vs[i]? = some v → w.cell? ⟨b, o + i, none⟩ = some v
class AtN (l : List Value) (o n : Nat) (vs : outParam (List Value)) : Prop where out : vs.length = n ∧ ∀ i v, vs[i]? = some v → l[o + i]? = some v
instance {l : List Value} {o : Nat} : AtN l o 0 [] := ⟨rfl, fun i v h => by simp at h⟩
instance {l vs : List Value} {v : Value} {n : Nat} [h : AtN l 0 n vs] : AtN (v :: l) 0 (n + 1) (v :: vs) := ⟨by simp [h.out.1], fun i u hu => by
  cases i with
  | zero => simpa using hu
  | succ i =>
    have := h.out.2 i u (by simpa using hu)
    simpa [Nat.zero_add] using this⟩
instance (priority := low) {l vs : List Value} {u : Value} {o n : Nat} [h : AtN l o (n + 1) vs] : AtN (u :: l) (o + 1) (n + 1) vs := ⟨h.out.1, fun i v hv => by
  have := h.out.2 i v hv
  rw [show o + 1 + i = (o + i) + 1 by omega]
  simpa using this⟩
instance (priority := high) {g o n : Nat} {cs vs : List Value} {p : List HP} [h : AtN cs o n vs] : LoadN (blk g cs :: p) g o n vs := ⟨fun w0 w hs => by
  obtain ⟨t, ht⟩ := hs.getBlk
  exact ⟨h.out.1, fun i v hv => by simp [World.cell?, ht, h.out.2 i v hv]⟩⟩
instance (priority := low) {c : HP} {p : List HP} {b o n : Nat} {vs : List Value} [h : LoadN p b o n vs] : LoadN (c :: p) b o n vs := ⟨fun w0 w hs => h.out w0 w hs.drop⟩
class HCells (x : HL) (b o n : Nat) (vs : outParam (List Value)) : Prop where out : vs.length = n ∧ ∀ i v, vs[i]? = some v → hcell x ⟨b, o + i, none⟩ v
instance (priority := high) {x : HL} {b o n : Nat} {vs : List Value} {p : List HP} [h : HCells x b o n vs] : LoadN (exact x :: p) b o n vs := ⟨fun w0 w hs => by
  obtain ⟨y, hy, hsub⟩ := hs.head
  cases hy
  exact ⟨h.out.1, fun i v hv => (h.out.2 i v hv).world hsub⟩⟩
theorem loadCells_run {P : Program} {w : World} (b : Nat) : ∀ (vs : List Value) (o i : Nat) (acc : Array Value), (∀ j v, vs[j]? = some v → w.cell? ⟨b, o + (i + j), none⟩ = some v) → (loadCellsFrom ⟨b, o, none⟩ i vs.length acc).run P w = .ok (acc ++ vs.toArray) w
  | [], o, i, acc, _ => by simp [loadCellsFrom]
  | v :: vs, o, i, acc, h => by
    have h0 := h 0 v rfl
    have ea : (⟨b, o, none⟩ : Addr).add i = ⟨b, o + i, none⟩ := by unfold Addr.add; split <;> simp_all
    simp only [List.length_cons, loadCellsFrom, Sem.run_bind]
    rw [ea]
    have hl : (load ⟨b, o + i, none⟩).run P w = .ok v w := by simp [load, Sem.run]; rw [Nat.add_zero] at h0; simp [h0]
    rw [hl]
    simp only [Result.andThen_ok]
    rw [loadCells_run b vs o (i + 1) (acc.push v) (fun j u hu => by
      have := h (j + 1) u (by simpa using hu)
      rw [show i + 1 + j = i + (j + 1) by omega]
      exact this)]
    simp
/-! ### Operations that only look -/
class Run (P : Program) (p : List HP) (s : Sem Next) (v : outParam Value) : Prop where out : ∀ w0 w, Sat p w0 w → s.run P w = .ok (.value v) w
section
variable {P : Program} {Pn : PK} {w0 : World} {p : List HP} {s : Sem Next} {v : Value}
theorem vv_run {s : Sem Value} {v : Value} {w w' : World} (h : s.run P w = .ok v w') : (vv s).run P w = .ok (.value v) w' := by simp [vv, h]
theorem uu_run {s : Sem Unit} {w w' : World} (h : s.run P w = .ok () w') : (uu s).run P w = .ok .skip w' := by simp [uu, h]
theorem Ent.run {K : Value → WP} [r : Run P p s v] (h : Ent w0 p (K v)) : Ent w0 p (op P Pn s K) := fun w hs => by
  unfold op
  rw [r.out w0 w hs]
  exact h w hs
theorem Ent.runL {K : Value → WP} [r : Run P p s v] (h : Ent w0 p (K v)) : Ent w0 p (lt P s K) := fun w hs => ⟨v, r.out w0 w hs, h w hs⟩
theorem Ent.runR {K : WP} [r : Run P p s v] (h : Ent w0 p K) : Ent w0 p (rc P s v K) := fun w hs => ⟨r.out w0 w hs, h w hs⟩
theorem Ent.gop_yes {K : Value → WP} {b : Bool} (h : Ent w0 p (op P Pn s K)) : Ent w0 p (gop P Pn (.bool b) b s K) := fun w hs => by unfold gop; rw [if_pos (show gb (.bool b) = some b from rfl)]; exact h w hs
theorem gb_ne {b c : Bool} (hb : b ≠ c) : gb (.bool b) ≠ some c := fun h => hb (Option.some.inj h)
theorem Ent.gop_no {K : Value → WP} {b c : Bool} (hb : b ≠ c) (h : Ent w0 p (K undef)) : Ent w0 p (gop P Pn (.bool b) c s K) := fun w hs => by unfold gop; rw [if_neg (gb_ne hb)]; exact h w hs
theorem Ent.gop_undef {K : Value → WP} {c : Bool} (h : Ent w0 p (K undef)) : Ent w0 p (gop P Pn undef c s K) := fun w hs => by unfold gop; rw [if_neg (fun h => by cases h)]; exact h w hs
theorem Ent.glt_undef {K : Value → WP} {c : Bool} (h : Ent w0 p (K undef)) : Ent w0 p (glt P undef c s K) := fun w hs => by unfold glt; rw [if_neg (fun h => by cases h)]; exact h w hs
theorem Ent.grc_undef {K : WP} {c : Bool} (h : Ent w0 p K) : Ent w0 p (grc P undef c s undef K) := fun w hs => ⟨by rw [if_neg (fun h => by cases h)], h w hs⟩
theorem Ent.glt_yes {K : Value → WP} {b : Bool} (h : Ent w0 p (lt P s K)) : Ent w0 p (glt P (.bool b) b s K) := fun w hs => by unfold glt; rw [if_pos (show gb (.bool b) = some b from rfl)]; exact h w hs
theorem Ent.glt_no {K : Value → WP} {b c : Bool} (hb : b ≠ c) (h : Ent w0 p (K undef)) : Ent w0 p (glt P (.bool b) c s K) := fun w hs => by unfold glt; rw [if_neg (gb_ne hb)]; exact h w hs
theorem Ent.grc_yes {K : WP} {b : Bool} (h : Ent w0 p (rc P s v K)) : Ent w0 p (grc P (.bool b) b s v K) := fun w hs => ⟨by rw [if_pos (show gb (.bool b) = some b from rfl)]; exact (h w hs).1, (h w hs).2⟩
theorem Ent.grc_no {K : WP} {b c : Bool} (hb : b ≠ c) (h : Ent w0 p K) : Ent w0 p (grc P (.bool b) c s undef K) := fun w hs => ⟨by rw [if_neg (gb_ne hb)], h w hs⟩
theorem Ent.drawn {K : WP} (h : Ent w0 p K) : Ent w0 p (drawn K) := fun w hs => h _ ⟨hs.1, hs.2⟩
theorem Ent.also {x y : WP} (h1 : Ent w0 p x) (h2 : Ent w0 p y) : Ent w0 p (also x y) := fun w hs => ⟨h1 w hs, h2 w hs⟩
theorem Ent.ite {b : Bool} {x y : WP} (h1 : b = true → Ent w0 p x) (h2 : b = false → Ent w0 p y) : Ent w0 p (ite' (.bool b) x y) := fun w hs => ⟨b, rfl, by
  cases b
  · exact h2 rfl w hs
  · exact h1 rfl w hs⟩
theorem Ent.ite_t {x y : WP} (h : Ent w0 p x) : Ent w0 p (ite' (.bool true) x y) := Ent.ite (fun _ => h) (fun h => by cases h)
theorem Ent.ite_f {x y : WP} (h : Ent w0 p y) : Ent w0 p (ite' (.bool false) x y) := Ent.ite (fun h => by cases h) (fun _ => h)
end
section
variable {P : Program} {p : List HP}
instance {x : Value} : Run P p (S.mv x) x := ⟨fun w0 w hs => rfl⟩
instance {a : Addr} : Run P p (S.nilc (.pointer (some a))) (.pointer (some a)) := ⟨fun w0 w hs => rfl⟩
instance {t : TypeId} {v : Value} : Run P p (S.nilc (.iface t v)) (.iface t v) := ⟨fun w0 w hs => rfl⟩
instance {f : FuncId} {a b : Array Value} : Run P p (S.nilc (.func (.func f) a b)) (.func (.func f) a b) := ⟨fun w0 w hs => rfl⟩
instance {b : Bool} {x y : Value} : Run P p (S.pick (.bool b) x y) (if b then x else y) := ⟨fun w0 w hs => by simp [S.pick, asBool]⟩
instance {b : Bool} : Run P p (S.un .not (.bool b)) (.bool !b) := ⟨fun w0 w hs => vv_run (by simp [Op.unary])⟩
instance {k : IntKind} {a : Int} : Run P p (S.un .neg (.int k a)) (.int k (k.wrap (-a))) := ⟨fun w0 w hs => vv_run (by simp [Op.unary, Op.intArith])⟩
theorem bin_run {op : BinOp} {t : TypeId} {ox oy : Operand} {x y v : Value} {w : World} (hg : (eqGuard op t ox oy x y).run P w = .ok () w) (h : (binOp op t x y).run P w = .ok v w) : (S.bin op t ox oy x y).run P w = .ok (.value v) w := by
  unfold S.bin
  refine vv_run ?_
  simp [hg, h]
theorem guard_int {op : BinOp} {t : TypeId} {ox oy : Operand} {k k' : IntKind} {a b : Int} {w : World} : (eqGuard op t ox oy (.int k a) (.int k' b)).run P w = .ok () w := by
  cases op <;> simp [eqGuard]
section
variable {t : TypeId} {ox oy : Operand} {k : IntKind} {a b : Int}
instance : Run P p (S.bin .lss t ox oy (.int k a) (.int k b)) (.bool (decide (a < b))) := ⟨fun w0 w hs => bin_run guard_int (by simp [binOp, Op.intCmp])⟩
instance : Run P p (S.bin .leq t ox oy (.int k a) (.int k b)) (.bool (decide (a ≤ b))) := ⟨fun w0 w hs => bin_run guard_int (by simp [binOp, Op.intCmp])⟩
instance : Run P p (S.bin .gtr t ox oy (.int k a) (.int k b)) (.bool (decide (b < a))) := ⟨fun w0 w hs => bin_run guard_int (by simp [binOp, Op.intCmp])⟩
instance : Run P p (S.bin .geq t ox oy (.int k a) (.int k b)) (.bool (decide (b ≤ a))) := ⟨fun w0 w hs => bin_run guard_int (by simp [binOp, Op.intCmp])⟩
instance : Run P p (S.bin .eql t ox oy (.int k a) (.int k b)) (.bool (decide (a = b))) := ⟨fun w0 w hs => bin_run guard_int (by simp [binOp, Op.intCmp]; rfl)⟩
instance : Run P p (S.bin .neq t ox oy (.int k a) (.int k b)) (.bool (!decide (a = b))) := ⟨fun w0 w hs => bin_run guard_int (by simp [binOp, Op.intCmp]; rfl)⟩
instance : Run P p (S.bin .add t ox oy (.int k a) (.int k b)) (.int k (k.wrap (a + b))) := ⟨fun w0 w hs => bin_run guard_int (by simp [binOp, Op.intArith])⟩
instance : Run P p (S.bin .sub t ox oy (.int k a) (.int k b)) (.int k (k.wrap (a - b))) := ⟨fun w0 w hs => bin_run guard_int (by simp [binOp, Op.intArith])⟩
instance : Run P p (S.bin .mul t ox oy (.int k a) (.int k b)) (.int k (k.wrap (a * b))) := ⟨fun w0 w hs => bin_run guard_int (by simp [binOp, Op.intArith])⟩
/-- The bits' operations on whole numbers. -/
def band (k : IntKind) (a b : Int) : Int := k.wrap (BitVec.ofInt k.bits a &&& BitVec.ofInt k.bits b).toNat
def bor (k : IntKind) (a b : Int) : Int := k.wrap (BitVec.ofInt k.bits a ||| BitVec.ofInt k.bits b).toNat
def bxor (k : IntKind) (a b : Int) : Int := k.wrap (BitVec.ofInt k.bits a ^^^ BitVec.ofInt k.bits b).toNat
def shlI (k : IntKind) (a b : Int) : Int := k.wrap (a * 2 ^ min b.toNat k.bits)
def shrI (k : IntKind) (a b : Int) : Int := a.fdiv (2 ^ min b.toNat k.bits)
theorem ofInt_nat (n : Nat) (m : Nat) (h : m < 2 ^ n) : (BitVec.ofInt n (m : Int)).toNat = m := by rw [BitVec.ofInt_natCast, BitVec.toNat_ofNat, Nat.mod_eq_of_lt h]
theorem band_nat {a b : Nat} (ha : a < 2 ^ k.bits) (hb : b < 2 ^ k.bits) : band k (a : Int) (b : Int) = k.wrap ((a &&& b : Nat) : Int) := by unfold band; rw [BitVec.toNat_and, ofInt_nat _ _ ha, ofInt_nat _ _ hb]
theorem bor_nat {a b : Nat} (ha : a < 2 ^ k.bits) (hb : b < 2 ^ k.bits) : bor k (a : Int) (b : Int) = k.wrap ((a ||| b : Nat) : Int) := by unfold bor; rw [BitVec.toNat_or, ofInt_nat _ _ ha, ofInt_nat _ _ hb]
theorem bxor_nat {a b : Nat} (ha : a < 2 ^ k.bits) (hb : b < 2 ^ k.bits) : bxor k (a : Int) (b : Int) = k.wrap ((a ^^^ b : Nat) : Int) := by unfold bxor; rw [BitVec.toNat_xor, ofInt_nat _ _ ha, ofInt_nat _ _ hb]
instance : Run P p (S.bin .and t ox oy (.int k a) (.int k b)) (.int k (band k a b)) := ⟨fun w0 w hs => bin_run guard_int (by simp [binOp, Op.intBits, band])⟩
instance : Run P p (S.bin .or t ox oy (.int k a) (.int k b)) (.int k (bor k a b)) := ⟨fun w0 w hs => bin_run guard_int (by simp [binOp, Op.intBits, bor])⟩
instance : Run P p (S.bin .xor t ox oy (.int k a) (.int k b)) (.int k (bxor k a b)) := ⟨fun w0 w hs => bin_run guard_int (by simp [binOp, Op.intBits, bxor])⟩
class Nneg (b : Int) : Prop where out : 0 ≤ b
class Nz (b : Int) : Prop where out : b ≠ 0
instance {a b : Int} [ha : Nneg a] [hb : Nneg b] : Nneg (a * b) := ⟨Int.mul_nonneg ha.out hb.out⟩
instance : Nneg 0 := ⟨by decide⟩
instance : Nneg 1 := ⟨by decide⟩
instance : Nneg 2 := ⟨by decide⟩
instance : Nneg 3 := ⟨by decide⟩
instance : Nneg 4 := ⟨by decide⟩
instance : Nneg 5 := ⟨by decide⟩
instance : Nneg 6 := ⟨by decide⟩
instance : Nneg 7 := ⟨by decide⟩
instance : Nneg 8 := ⟨by decide⟩
instance : Nneg 9 := ⟨by decide⟩
instance : Nneg 10 := ⟨by decide⟩
instance : Nneg 11 := ⟨by decide⟩
instance : Nneg 12 := ⟨by decide⟩
instance : Nneg 13 := ⟨by decide⟩
instance : Nneg 14 := ⟨by decide⟩
instance : Nneg 15 := ⟨by decide⟩
instance : Nneg 16 := ⟨by decide⟩
instance : Nneg 17 := ⟨by decide⟩
instance : Nneg 18 := ⟨by decide⟩
instance : Nneg 19 := ⟨by decide⟩
instance : Nneg 20 := ⟨by decide⟩
instance : Nneg 21 := ⟨by decide⟩
instance : Nneg 22 := ⟨by decide⟩
instance : Nneg 23 := ⟨by decide⟩
instance : Nneg 24 := ⟨by decide⟩
instance : Nneg 25 := ⟨by decide⟩
instance : Nneg 26 := ⟨by decide⟩
instance : Nneg 27 := ⟨by decide⟩
instance : Nneg 28 := ⟨by decide⟩
instance : Nneg 29 := ⟨by decide⟩
instance : Nneg 30 := ⟨by decide⟩
instance : Nneg 31 := ⟨by decide⟩
instance : Nneg 32 := ⟨by decide⟩
instance : Nneg 40 := ⟨by decide⟩
instance : Nneg 48 := ⟨by decide⟩
instance : Nneg 56 := ⟨by decide⟩
instance : Nneg 63 := ⟨by decide⟩
instance : Nneg 64 := ⟨by decide⟩
instance {n : Nat} : Nneg (n : Int) := ⟨by omega⟩
instance : Nz 1 := ⟨by decide⟩
instance : Nz 2 := ⟨by decide⟩
instance : Nz 3 := ⟨by decide⟩
instance : Nz 4 := ⟨by decide⟩
instance : Nz 5 := ⟨by decide⟩
instance : Nz 6 := ⟨by decide⟩
instance : Nz 7 := ⟨by decide⟩
instance : Nz 8 := ⟨by decide⟩
instance : Nz 9 := ⟨by decide⟩
instance : Nz 10 := ⟨by decide⟩
instance : Nz 11 := ⟨by decide⟩
instance : Nz 12 := ⟨by decide⟩
instance : Nz 13 := ⟨by decide⟩
instance : Nz 14 := ⟨by decide⟩
instance : Nz 15 := ⟨by decide⟩
instance : Nz 16 := ⟨by decide⟩
instance : Nz 32 := ⟨by decide⟩
instance : Nz 64 := ⟨by decide⟩
instance : Nz 128 := ⟨by decide⟩
instance : Nz 256 := ⟨by decide⟩
instance {k' : IntKind} [h : Nneg b] : Run P p (S.bin .shl t ox oy (.int k a) (.int k' b)) (.int k (shlI k a b)) := ⟨fun w0 w hs => bin_run guard_int (by
  have := h.out
  simp [binOp, Op.shift, shlI, show ¬ b < 0 by omega])⟩
instance {k' : IntKind} [h : Nneg b] : Run P p (S.bin .shr t ox oy (.int k a) (.int k' b)) (.int k (shrI k a b)) := ⟨fun w0 w hs => bin_run guard_int (by
  have := h.out
  simp [binOp, Op.shift, shrI, show ¬ b < 0 by omega])⟩
instance [h : Nz b] : Run P p (S.bin .quo t ox oy (.int k a) (.int k b)) (.int k (k.wrap (a.tdiv b))) := ⟨fun w0 w hs => bin_run guard_int (by simp [binOp, Op.intDiv, h.out])⟩
instance [h : Nz b] : Run P p (S.bin .rem t ox oy (.int k a) (.int k b)) (.int k (a.tmod b)) := ⟨fun w0 w hs => bin_run guard_int (by simp [binOp, Op.intDiv, h.out])⟩
theorem equal_run {x y : Value} {b : Bool} {w : World} (h : ∀ d, (Op.equalIn (d + 1) t x y).run P w = .ok b w) : (Op.equal t x y).run P w = .ok b w := h 9999
theorem eqB {a b : Bool} (h : P.underlying t = some .bool) (w : World) (d : Nat) : (Op.equalIn (d + 1) t (.bool a) (.bool b)).run P w = .ok (a == b) w := by simp [Op.equalIn, und_run h]
theorem eqS {e n c : Nat} {A : Option Addr} (h : P.underlying t = some (.slice e)) (w : World) (d : Nat) : (Op.equalIn (d + 1) t (.slice A n c) (.slice none 0 0)).run P w = .ok A.isNone w := by cases A <;> simp [Op.equalIn, und_run h]
theorem run_eqB {x y : Value} {b : Bool} {w : World} (h : (Op.equal t x y).run P w = .ok b w) : ((do pure (.bool (← Op.equal t x y)) : Sem Value)).run P w = .ok (.bool b) w := by simp [h]
theorem run_neB {x y : Value} {b : Bool} {w : World} (h : (Op.equal t x y).run P w = .ok b w) : ((do pure (.bool (!(← Op.equal t x y))) : Sem Value)).run P w = .ok (.bool !b) w := by simp [h]
instance {a b : Bool} [h : Und P t .bool] : Run P p (S.bin .eql t ox oy (.bool a) (.bool b)) (.bool (a == b)) := ⟨fun w0 w hs => bin_run (by simp [eqGuard]) (run_eqB (equal_run (eqB h.out w)))⟩
instance {a b : Bool} [h : Und P t .bool] : Run P p (S.bin .neq t ox oy (.bool a) (.bool b)) (.bool (!(a == b))) := ⟨fun w0 w hs => bin_run (by simp [eqGuard]) (run_neB (equal_run (eqB h.out w)))⟩
theorem str_eq (a b : ByteArray) : (a.toList == b.toList) = decide (a = b) := by
  rw [Bool.eq_iff_iff, beq_iff_eq, decide_eq_true_iff, ByteArray.toList_eq, ByteArray.toList_eq]
  exact ⟨fun h => ByteArray.ext (Array.toList_inj.1 h), fun h => by rw [h]⟩
instance {a b : ByteArray} : Run P p (S.bin .eql t ox oy (.string a) (.string b)) (.bool (decide (a = b))) := ⟨fun w0 w hs => bin_run (by simp [eqGuard]) (by rw [← str_eq, binOp_string_eql]; rfl)⟩
instance {a b : ByteArray} : Run P p (S.bin .neq t ox oy (.string a) (.string b)) (.bool (!decide (a = b))) := ⟨fun w0 w hs => bin_run (by simp [eqGuard]) (by rw [← str_eq, binOp_string_neq]; rfl)⟩
instance {e n c : Nat} {A : Option Addr} [h : Und P t (.slice e)] : Run P p (S.bin .eql t ox oy (.slice A n c) (.slice none 0 0)) (.bool A.isNone) := ⟨fun w0 w hs => bin_run (by simp [eqGuard]) (run_eqB (equal_run (eqS h.out w)))⟩
instance {e n c : Nat} {A : Option Addr} [h : Und P t (.slice e)] : Run P p (S.bin .neq t ox oy (.slice A n c) (.slice none 0 0)) (.bool (!A.isNone)) := ⟨fun w0 w hs => bin_run (by simp [eqGuard]) (run_neB (equal_run (eqS h.out w)))⟩
end
theorem add_none (b o n : Nat) : (⟨b, o, none⟩ : Addr).add n = ⟨b, o + n, none⟩ := by unfold Addr.add; split <;> simp_all
/-- A sum of small numbers, computed. -/
class NatAdd (a b : Nat) (c : outParam Nat) : Prop where out : a + b = c
instance (priority := low) {a b : Nat} : NatAdd a b (a + b) := ⟨rfl⟩
instance {b : Nat} : NatAdd 0 b b := ⟨Nat.zero_add b⟩
instance : NatAdd 1 0 1 := ⟨rfl⟩
instance : NatAdd 1 1 2 := ⟨rfl⟩
instance : NatAdd 1 2 3 := ⟨rfl⟩
instance : NatAdd 1 3 4 := ⟨rfl⟩
instance : NatAdd 1 4 5 := ⟨rfl⟩
instance : NatAdd 1 5 6 := ⟨rfl⟩
instance : NatAdd 1 6 7 := ⟨rfl⟩
instance : NatAdd 1 7 8 := ⟨rfl⟩
instance : NatAdd 1 8 9 := ⟨rfl⟩
instance : NatAdd 1 9 10 := ⟨rfl⟩
instance : NatAdd 1 10 11 := ⟨rfl⟩
instance : NatAdd 2 0 2 := ⟨rfl⟩
instance : NatAdd 2 1 3 := ⟨rfl⟩
instance : NatAdd 2 2 4 := ⟨rfl⟩
instance : NatAdd 2 3 5 := ⟨rfl⟩
instance : NatAdd 2 4 6 := ⟨rfl⟩
instance : NatAdd 2 5 7 := ⟨rfl⟩
instance : NatAdd 2 6 8 := ⟨rfl⟩
instance : NatAdd 2 7 9 := ⟨rfl⟩
instance : NatAdd 2 8 10 := ⟨rfl⟩
instance : NatAdd 2 9 11 := ⟨rfl⟩
instance : NatAdd 2 10 12 := ⟨rfl⟩
instance : NatAdd 3 0 3 := ⟨rfl⟩
instance : NatAdd 3 1 4 := ⟨rfl⟩
instance : NatAdd 3 2 5 := ⟨rfl⟩
instance : NatAdd 3 3 6 := ⟨rfl⟩
instance : NatAdd 3 4 7 := ⟨rfl⟩
instance : NatAdd 3 5 8 := ⟨rfl⟩
instance : NatAdd 3 6 9 := ⟨rfl⟩
instance : NatAdd 3 7 10 := ⟨rfl⟩
instance : NatAdd 3 8 11 := ⟨rfl⟩
instance : NatAdd 3 9 12 := ⟨rfl⟩
instance : NatAdd 3 10 13 := ⟨rfl⟩
instance : NatAdd 4 0 4 := ⟨rfl⟩
instance : NatAdd 4 1 5 := ⟨rfl⟩
instance : NatAdd 4 2 6 := ⟨rfl⟩
instance : NatAdd 4 3 7 := ⟨rfl⟩
instance : NatAdd 4 4 8 := ⟨rfl⟩
instance : NatAdd 4 5 9 := ⟨rfl⟩
instance : NatAdd 4 6 10 := ⟨rfl⟩
instance : NatAdd 4 7 11 := ⟨rfl⟩
instance : NatAdd 4 8 12 := ⟨rfl⟩
instance : NatAdd 4 9 13 := ⟨rfl⟩
instance : NatAdd 4 10 14 := ⟨rfl⟩
instance : NatAdd 5 0 5 := ⟨rfl⟩
instance : NatAdd 5 1 6 := ⟨rfl⟩
instance : NatAdd 5 2 7 := ⟨rfl⟩
instance : NatAdd 5 3 8 := ⟨rfl⟩
instance : NatAdd 5 4 9 := ⟨rfl⟩
instance : NatAdd 5 5 10 := ⟨rfl⟩
instance : NatAdd 5 6 11 := ⟨rfl⟩
instance : NatAdd 5 7 12 := ⟨rfl⟩
instance : NatAdd 5 8 13 := ⟨rfl⟩
instance : NatAdd 5 9 14 := ⟨rfl⟩
instance : NatAdd 5 10 15 := ⟨rfl⟩
instance : NatAdd 6 0 6 := ⟨rfl⟩
instance : NatAdd 6 1 7 := ⟨rfl⟩
instance : NatAdd 6 2 8 := ⟨rfl⟩
instance : NatAdd 6 3 9 := ⟨rfl⟩
instance : NatAdd 6 4 10 := ⟨rfl⟩
instance : NatAdd 6 5 11 := ⟨rfl⟩
instance : NatAdd 6 6 12 := ⟨rfl⟩
instance : NatAdd 6 7 13 := ⟨rfl⟩
instance : NatAdd 6 8 14 := ⟨rfl⟩
instance : NatAdd 6 9 15 := ⟨rfl⟩
instance : NatAdd 6 10 16 := ⟨rfl⟩
instance : NatAdd 7 0 7 := ⟨rfl⟩
instance : NatAdd 7 1 8 := ⟨rfl⟩
instance : NatAdd 7 2 9 := ⟨rfl⟩
instance : NatAdd 7 3 10 := ⟨rfl⟩
instance : NatAdd 7 4 11 := ⟨rfl⟩
instance : NatAdd 7 5 12 := ⟨rfl⟩
instance : NatAdd 7 6 13 := ⟨rfl⟩
instance : NatAdd 7 7 14 := ⟨rfl⟩
instance : NatAdd 7 8 15 := ⟨rfl⟩
instance : NatAdd 7 9 16 := ⟨rfl⟩
instance : NatAdd 7 10 17 := ⟨rfl⟩
instance : NatAdd 8 0 8 := ⟨rfl⟩
instance : NatAdd 8 1 9 := ⟨rfl⟩
instance : NatAdd 8 2 10 := ⟨rfl⟩
instance : NatAdd 8 3 11 := ⟨rfl⟩
instance : NatAdd 8 4 12 := ⟨rfl⟩
instance : NatAdd 8 5 13 := ⟨rfl⟩
instance : NatAdd 8 6 14 := ⟨rfl⟩
instance : NatAdd 8 7 15 := ⟨rfl⟩
instance : NatAdd 8 8 16 := ⟨rfl⟩
instance : NatAdd 8 9 17 := ⟨rfl⟩
instance : NatAdd 8 10 18 := ⟨rfl⟩
instance : NatAdd 9 0 9 := ⟨rfl⟩
instance : NatAdd 9 1 10 := ⟨rfl⟩
instance : NatAdd 9 2 11 := ⟨rfl⟩
instance : NatAdd 9 3 12 := ⟨rfl⟩
instance : NatAdd 9 4 13 := ⟨rfl⟩
instance : NatAdd 9 5 14 := ⟨rfl⟩
instance : NatAdd 9 6 15 := ⟨rfl⟩
instance : NatAdd 9 7 16 := ⟨rfl⟩
instance : NatAdd 9 8 17 := ⟨rfl⟩
instance : NatAdd 9 9 18 := ⟨rfl⟩
instance : NatAdd 9 10 19 := ⟨rfl⟩
instance : NatAdd 10 0 10 := ⟨rfl⟩
instance : NatAdd 10 1 11 := ⟨rfl⟩
instance : NatAdd 10 2 12 := ⟨rfl⟩
instance : NatAdd 10 3 13 := ⟨rfl⟩
instance : NatAdd 10 4 14 := ⟨rfl⟩
instance : NatAdd 10 5 15 := ⟨rfl⟩
instance : NatAdd 10 6 16 := ⟨rfl⟩
instance : NatAdd 10 7 17 := ⟨rfl⟩
instance : NatAdd 10 8 18 := ⟨rfl⟩
instance : NatAdd 10 9 19 := ⟨rfl⟩
instance : NatAdd 10 10 20 := ⟨rfl⟩
instance {t f off b o s : Nat} [h : FOff P t f off] [ha : NatAdd o off s] : Run P p (S.fa t (.pointer (some ⟨b, o, none⟩)) f) (.pointer (some ⟨b, s, none⟩)) := ⟨fun w0 w hs => vv_run (by
  obtain ⟨fs, fd, h1, h2, h3, n, h4, h5⟩ := foff_spec h.out
  have := ha.out
  simp [Instr.fieldAt, und_run h1, h2, Instr.sureAddr, fieldPlace, sizeOf_run h4, h5, add_none, h3, this])⟩
instance {t : TypeId} {a : Addr} {v : Value} [ht : Scal P t] [h : LoadAt p a v] : Run P p (S.load t (.pointer (some a))) v := ⟨fun w0 w hs => vv_run (by
  simp only [Instr.loadAt, Instr.sureAddr, Sem.run_bind, Sem.run_pure, Result.andThen_ok, loadVar, isAgg_run ht.agg]
  simp [load, Sem.run, h.out w0 w hs])⟩
instance {t b o n : Nat} {vs : List Value} [ht : Agg P t n] [h : LoadN p b o n vs] : Run P p (S.load t (.pointer (some ⟨b, o, none⟩))) (.agg vs.toArray) := ⟨fun w0 w hs => vv_run (by
  obtain ⟨h1, h2⟩ := h.out w0 w hs
  subst h1
  simp only [Instr.loadAt, Instr.sureAddr, Sem.run_bind, Sem.run_pure, Result.andThen_ok, loadVar, isAgg_run ht.agg, sizeOf_run ht.size, if_true, loadCells]
  rw [loadCells_run b vs o 0 #[] (fun j v hv => by rw [Nat.zero_add]; exact h2 j v hv)]
  simp)⟩
instance {t e : TypeId} {ty : TypeId} {cs : List Bool} {A : Option Addr} {n c : Nat} [h : Und P t (.slice e)] : Run P p (S.bi .len #[t] ty cs [.slice A n c]) (.int .i64 n) := ⟨fun w0 w hs => by
  simp [S.bi, Go.invoke, builtin, Builtin.len_, und_run h.out, goInt]⟩
instance {t : TypeId} {ty : TypeId} {cs : List Bool} {s : ByteArray} [h : Und P t .string] : Run P p (S.bi .len #[t] ty cs [.string s]) (.int .i64 s.size) := ⟨fun w0 w hs => by
  simp [S.bi, Go.invoke, builtin, Builtin.len_, und_run h.out, goInt]⟩
instance {ts : Array TypeId} {ty : TypeId} {cs : List Bool} {k : IntKind} {a b : Int} : Run P p (S.bi .max ts ty cs [.int k a, .int k b]) (.int k (max a b)) := ⟨fun w0 w hs => by
  simp only [S.bi, Go.invoke, builtin, Builtin.max_, Sem.run_bind]
  simp [Builtin.max2]; rw [Int.max_def]; split <;> split <;> omega⟩
instance {ts : Array TypeId} {ty : TypeId} {cs : List Bool} {k : IntKind} {a b : Int} : Run P p (S.bi .min ts ty cs [.int k a, .int k b]) (.int k (min a b)) := ⟨fun w0 w hs => by
  simp only [S.bi, Go.invoke, builtin, Builtin.min_, Sem.run_bind]
  simp [Builtin.min2]; rw [Int.min_def]; split <;> split <;> omega⟩
instance {l : List Value} {v : Value} {i : Nat} [h : At l i v] : Run P p (S.ext (.tuple l.toArray) i) v := ⟨fun w0 w hs => vv_run (by simp [Instr.extract, h.out])⟩
instance {s d : TypeId} {k k' : IntKind} {x : Int} [h : Und P s (.int k)] [h' : Und P d (.int k')] : Run P p (S.conv s d (.int k x)) (.int k' (k'.wrap x)) := ⟨fun w0 w hs => vv_run (by simp [convert, und_run h.out, und_run h'.out, Conv.intToInt])⟩
instance {s d : TypeId} {x : ByteArray} [h : Und P s .string] [h' : Und P d .string] : Run P p (S.conv s d (.string x)) (.string x) := ⟨fun w0 w hs => vv_run (by simp [convert, und_run h.out, und_run h'.out])⟩
class NotI (P : Program) (t : TypeId) : Prop where out : (P.underlying t).map (fun d => match d with | .interface _ => true | _ => false) = some false
instance {t : TypeId} {x : Value} [h : NotI P t] : Run P p (S.mkI t x) (.iface t x) := ⟨fun w0 w hs => vv_run (by
  obtain ⟨d, hd, he⟩ := Option.map_eq_some_iff.1 h.out
  simp only [Instr.makeInterface, Sem.run_bind, und_run hd, Result.andThen_ok]
  cases d <;> first | (simp; done) | (simp at he))⟩
instance {fn : Fn} {a b : List Value} : Run P p (S.mkF fn a b) (.func fn a.toArray b.toArray) := ⟨fun w0 w hs => vv_run (by simp [Instr.makeFunc])⟩
end

/-! ### Numbers that fit; bounds -/
theorem wrap_i64 {n : Int} (h1 : -9223372036854775808 ≤ n) (h2 : n ≤ 9223372036854775807) : IntKind.i64.wrap n = n := by
  unfold IntKind.wrap
  simp only [IntKind.bits, IntKind.signed]
  simp
  omega
theorem wrap_i32 {n : Int} (h1 : -2147483648 ≤ n) (h2 : n ≤ 2147483647) : IntKind.i32.wrap n = n := by
  unfold IntKind.wrap
  simp only [IntKind.bits, IntKind.signed]
  simp
  omega
theorem wrap_i16 {n : Int} (h1 : -32768 ≤ n) (h2 : n ≤ 32767) : IntKind.i16.wrap n = n := by
  unfold IntKind.wrap
  simp only [IntKind.bits, IntKind.signed]
  simp
  omega
theorem wrap_i8 {n : Int} (h1 : -128 ≤ n) (h2 : n ≤ 127) : IntKind.i8.wrap n = n := by
  unfold IntKind.wrap
  simp only [IntKind.bits, IntKind.signed]
  simp
  omega
theorem wrap_u8 {n : Int} (h1 : 0 ≤ n) (h2 : n < 256) : IntKind.u8.wrap n = n := by
  unfold IntKind.wrap
  simp only [IntKind.bits, IntKind.signed]
  simp
  omega
theorem wrap_u16 {n : Int} (h1 : 0 ≤ n) (h2 : n < 65536) : IntKind.u16.wrap n = n := by
  unfold IntKind.wrap
  simp only [IntKind.bits, IntKind.signed]
  simp
  omega
theorem wrap_u32 {n : Int} (h1 : 0 ≤ n) (h2 : n < 4294967296) : IntKind.u32.wrap n = n := by
  unfold IntKind.wrap
  simp only [IntKind.bits, IntKind.signed]
  simp
  omega
theorem wrap_u64 {n : Int} (h1 : 0 ≤ n) (h2 : n < 18446744073709551616) : IntKind.u64.wrap n = n := by
  unfold IntKind.wrap
  simp only [IntKind.bits, IntKind.signed]
  simp
  omega
section
variable {P : Program} {Pn : PK} {w0 : World} {p : List HP} {s : Sem Next} {k : IntKind} {n : Int}
theorem Ent.runW {K : Value → WP} [r : Run P p s (.int k (k.wrap n))] (hw : k.wrap n = n) (h : Ent w0 p (K (.int k n))) : Ent w0 p (op P Pn s K) := Ent.run (v := .int k (k.wrap n)) (by rw [hw]; exact h)
theorem Ent.runWL {K : Value → WP} [r : Run P p s (.int k (k.wrap n))] (hw : k.wrap n = n) (h : Ent w0 p (K (.int k n))) : Ent w0 p (lt P s K) := Ent.runL (v := .int k (k.wrap n)) (by rw [hw]; exact h)
theorem Ent.runWR {K : WP} [r : Run P p s (.int k (k.wrap n))] (hw : k.wrap n = n) (h : Ent w0 p K) : Ent w0 p (rc P s (.int k n) K) := by
  have := Ent.runR (P := P) (w0 := w0) (s := s) (v := .int k (k.wrap n)) h
  rw [hw] at this
  exact this
/-- An operation whose outcome is told by an equation. -/
theorem Ent.at_ {K : Value → WP} {v : Value} (r : ∀ w, Sat p w0 w → s.run P w = .ok (.value v) w) (h : Ent w0 p (K v)) : Ent w0 p (op P Pn s K) := fun w hs => by
  unfold op
  rw [r w hs]
  exact h w hs
theorem Ent.atL {K : Value → WP} {v : Value} (r : ∀ w, Sat p w0 w → s.run P w = .ok (.value v) w) (h : Ent w0 p (K v)) : Ent w0 p (lt P s K) := fun w hs => ⟨v, r w hs, h w hs⟩
theorem Ent.atR {K : WP} {v : Value} (r : ∀ w, Sat p w0 w → s.run P w = .ok (.value v) w) (h : Ent w0 p K) : Ent w0 p (rc P s v K) := fun w hs => ⟨r w hs, h w hs⟩
class SlE (P : Program) (t : TypeId) (e : outParam TypeId) : Prop where out : P.underlying t = some (.slice e)
/-- xs[i]'s address. -/
theorem ia_run {t e sz len c : Nat} {i : Int} {a : Addr} {w : World} {z : Value} [ht : SlE P t e] [hz : Zero P e z sz] (h0 : 0 ≤ i) (h1 : i < len) : (S.ia t (.slice (some a) len c) (.int k i)).run P w = .ok (.value (.pointer (some (a.add (i.toNat * sz))))) w := by
  obtain ⟨ti, hi, _, hsz, _⟩ := zero_info (h := hz)
  refine vv_run ?_
  simp [Instr.indexAt, asIntOf, und_run ht.out, h0, h1, sizeOf, typeInfo, hi, hsz]
def subA (sz : Nat) (A : Option Addr) (c l : Nat) : Option Addr := if c = l then A else A.map (·.add (l * sz))
theorem sl_run {t e sz n c l h : Nat} {A : Option Addr} {w : World} {z : Value} {lo hi : Option Value} [ht : SlE P t e] [hz : Zero P e z sz] (hlo : lo = some (.int k l) ∨ (lo = none ∧ l = 0)) (hhi : hi = some (.int k h) ∨ (hi = none ∧ h = n)) (h1 : l ≤ h) (h2 : h ≤ c) : (S.sl t (.slice A n c) lo hi none).run P w = .ok (.value (.slice (subA sz A c l) (h - l) (c - l))) w := by
  obtain ⟨ti, hti, _, hsz, _⟩ := zero_info (h := hz)
  refine vv_run ?_
  simp only [Instr.sliceAt, Sem.run_bind, und_run ht.out, Result.andThen_ok, Instr.slice, Instr.sliceBounds, Sem.run_pure, sizeOf, typeInfo]
  rcases hlo with rfl | ⟨rfl, rfl⟩ <;> rcases hhi with rfl | ⟨rfl, rfl⟩ <;> simp [Instr.sliceBound, asIntOf, h1, h2, hti, hsz, subA, und_run ht.out]
end
/-! ### Memory that is made or written -/
section
variable {P : Program} {Pn : PK} {w0 : World} {p : List HP}
theorem Sat.new {w : World} (hs : Sat p w0 w) (o : Obj) : Sat (obj w.heap.size o :: p) w0 { w with heap := w.heap.push o } := by
  obtain ⟨h0, x, h1, h2⟩ := hs
  have hnone : x w.heap.size = none := by
    cases hx : x w.heap.size with
    | none => rfl
    | some u => have := h2 _ _ hx; simp at this
  refine ⟨h0, fun i => (one w.heap.size o i).or (x i), ⟨one w.heap.size o, x, rfl, h1, fun i => ?_, fun i => rfl⟩, fun i u hu => ?_⟩
  · by_cases hi : i = w.heap.size
    · subst hi; exact .inr hnone
    · left; simp [one, hi]
  · by_cases hi : i = w.heap.size
    · subst hi
      simp [one] at hu
      subst hu
      simp
    · simp only [one, hi, if_false, Option.none_or] at hu
      have := h2 _ _ hu
      have hlt : i < w.heap.size := by
        rcases Nat.lt_or_ge i w.heap.size with h | h
        · exact h
        · simp [Array.getElem?_eq_none h] at this
      simp [Array.getElem?_push, hi, this]
theorem obj_blk {g : Nat} {cs : List Value} {t : TypeId} {x : HL} (h : obj g (.cells cs.toArray t (0, 0)) x) : blk g cs x := ⟨t, h⟩
class CellsOf (v : Value) (cs : outParam (List Value)) : Prop where out : v.cells = cs.toArray
instance (priority := high) {cs : List Value} : CellsOf (.agg cs.toArray) cs := ⟨rfl⟩
instance {k : IntKind} {n : Int} : CellsOf (.int k n) [.int k n] := ⟨rfl⟩
instance {b : Bool} : CellsOf (.bool b) [.bool b] := ⟨rfl⟩
instance {s : ByteArray} : CellsOf (.string s) [.string s] := ⟨rfl⟩
instance {a : Option Addr} : CellsOf (.pointer a) [.pointer a] := ⟨rfl⟩
instance {a : Option Addr} {n c : Nat} : CellsOf (.slice a n c) [.slice a n c] := ⟨rfl⟩
instance {r : Option Nat} : CellsOf (.map r) [.map r] := ⟨rfl⟩
instance {t : TypeId} {v : Value} : CellsOf (.iface t v) [.iface t v] := ⟨rfl⟩
instance : CellsOf .nilIface [.nilIface] := ⟨rfl⟩
instance : CellsOf .nilFunc [.nilFunc] := ⟨rfl⟩
instance {f : Fn} {a b : Array Value} : CellsOf (.func f a b) [.func f a b] := ⟨rfl⟩
theorem Ent.alloc {t : TypeId} {z : Value} {n : Nat} {cs : List Value} {K : Value → WP} [hz : Zero P t z n] [hc : CellsOf z cs] (h : ∀ g, Ent w0 (blk g cs :: p) (K (.pointer (some ⟨g, 0, none⟩)))) : Ent w0 p (op P Pn (S.alloc t) K) := fun w hs => by
  obtain ⟨i, hi, hiz, _⟩ := zero_info (h := hz)
  have e : (S.alloc t).run P w = .ok (.value (.pointer (some ⟨w.heap.size, 0, none⟩))) { w with heap := w.heap.push (.cells cs.toArray t (0, 0)) } := vv_run (by
    simp [Instr.alloc, zeroValue, typeInfo, hi, hiz, newVar, newRow, newObj, Sem.run, hc.out])
  unfold op
  rw [e]
  exact h _ _ ((hs.new _).imp (fun x hx => obj_blk hx))
theorem Ent.box {t : TypeId} {v : Value} {cs : List Value} {K : Value → WP} [hc : CellsOf v cs] (h : ∀ g, Ent w0 (blk g cs :: p) (K (.pointer (some ⟨g, 0, none⟩)))) : Ent w0 p (op P Pn (S.box t v) K) := fun w hs => by
  have e : (S.box t v).run P w = .ok (.value (.pointer (some ⟨w.heap.size, 0, none⟩))) { w with heap := w.heap.push (.cells cs.toArray t (0, 0)) } := vv_run (by
    simp [Instr.box, newVar, newRow, newObj, Sem.run, hc.out])
  unfold op
  rw [e]
  exact h _ _ ((hs.new _).imp (fun x hx => obj_blk hx))
/-- A block of p, written. -/
class StoreAt (p : List HP) (b o : Nat) (vs : List Value) (q : outParam (List HP)) : Prop where out : ∃ cs r, p.Perm (blk b cs :: r) ∧ o + vs.length ≤ cs.length ∧ q.Perm (blk b (cs.take o ++ vs ++ cs.drop (o + vs.length)) :: r)
class SetAt (cs : List Value) (o : Nat) (vs : List Value) (ds : outParam (List Value)) : Prop where out : o + vs.length ≤ cs.length ∧ ds = cs.take o ++ vs ++ cs.drop (o + vs.length)
instance {cs : List Value} : SetAt cs 0 [] cs := ⟨by simp, by simp⟩
instance {u v : Value} {cs vs ds : List Value} [h : SetAt cs 0 vs ds] : SetAt (u :: cs) 0 (v :: vs) (v :: ds) := ⟨by have := h.out.1; simp at this ⊢; omega, by have := h.out.2; simp at this ⊢; exact this⟩
instance (priority := low) {u : Value} {cs vs ds : List Value} {o : Nat} [h : SetAt cs o vs ds] : SetAt (u :: cs) (o + 1) vs (u :: ds) := ⟨by have := h.out.1; simp at this ⊢; omega, by
  rw [h.out.2, show o + 1 + vs.length = (o + vs.length) + 1 by omega]
  simp⟩
instance (priority := high) {b o : Nat} {cs vs ds : List Value} {p : List HP} [h : SetAt cs o vs ds] : StoreAt (blk b cs :: p) b o vs (blk b ds :: p) := ⟨⟨cs, p, List.Perm.refl _, h.out.1, by rw [h.out.2]⟩⟩
instance (priority := low) {a : HP} {b o : Nat} {vs : List Value} {p q : List HP} [h : StoreAt p b o vs q] : StoreAt (a :: p) b o vs (a :: q) := by
  obtain ⟨cs, r, h1, h2, h3⟩ := h.out
  exact ⟨⟨cs, a :: r, (List.Perm.cons a h1).trans (List.Perm.swap _ _ _), h2, (List.Perm.cons a h3).trans (List.Perm.swap _ _ _)⟩⟩
theorem Sat.write {w : World} {g : Nat} {cs ds : List Value} {t : TypeId} (hs : Sat (blk g cs :: p) w0 w) : ∃ t, w.heap[g]? = some (.cells cs.toArray t (0, 0)) ∧ Sat (blk g ds :: p) w0 { w with heap := w.heap.setIfInBounds g (.cells ds.toArray t (0, 0)) } := by
  obtain ⟨h0, x, ⟨y, z, ⟨t, hy⟩, hz, h3, h4⟩, h5⟩ := hs
  have hg : w.heap[g]? = some (.cells cs.toArray t (0, 0)) := h5 g _ (by rw [h4, hy]; simp [one])
  have hlt : g < w.heap.size := (Array.getElem?_eq_some_iff.1 hg).1
  refine ⟨t, hg, h0, fun i => (one g (.cells ds.toArray t (0, 0)) i).or (z i), ⟨_, z, ⟨t, rfl⟩, hz, fun i => ?_, fun i => rfl⟩, fun i u hu => ?_⟩
  · by_cases hi : i = g
    · subst hi
      rcases h3 i with h | h
      · rw [hy] at h; simp [one] at h
      · exact .inr h
    · left; simp [one, hi]
  · by_cases hi : i = g
    · subst hi
      simp [one] at hu
      subst hu
      simp [hlt]
    · simp only [one, hi, if_false, Option.none_or] at hu
      have : x i = some u := by rw [h4, hy]; simp [one, hi, hu]
      have := h5 _ _ this
      simp [Array.getElem?_setIfInBounds_ne (Ne.symm hi), this]
theorem storeCells_run {g : Nat} {t : TypeId} : ∀ (vs : List Value) (cs : List Value) (o i : Nat) (w : World), (∀ v ∈ vs, v.oneCell' = true) → w.heap[g]? = some (.cells cs.toArray t (0, 0)) → o + i + vs.length ≤ cs.length →
    (storeCells ⟨g, o, none⟩ vs i).run P w = .ok () { w with heap := w.heap.setIfInBounds g (.cells (cs.take (o + i) ++ vs ++ cs.drop (o + i + vs.length)).toArray t (0, 0)) }
  | [], cs, o, i, w, _, hg, hl => by
    have : w.heap.setIfInBounds g (.cells cs.toArray t (0, 0)) = w.heap := by
      refine Array.ext_getElem? fun j => ?_
      by_cases hj : g = j
      · subst hj
        have hlt := (Array.getElem?_eq_some_iff.1 hg).1
        simp [hlt]
        rw [Array.getElem?_eq_getElem hlt] at hg
        exact (Option.some.inj hg).symm
      · simp [Array.getElem?_setIfInBounds_ne hj]
    simp [storeCells, this]
  | v :: vs, cs, o, i, w, hv, hg, hl => by
    have hlt := (Array.getElem?_eq_some_iff.1 hg).1
    simp only [List.length_cons] at hl
    have hc : w.cell? ⟨g, o + i, none⟩ = some (cs[o + i]'(by omega)) := by simp [World.cell?, hg, show o + i < cs.length by omega]
    have hf : w.frozen? ⟨g, o + i, none⟩ = false := by simp [World.frozen?, hg]
    have h1 := hv v List.mem_cons_self
    have hset : w.setCell ⟨g, o + i, none⟩ v = { w with heap := w.heap.setIfInBounds g (.cells (cs.set (o + i) v).toArray t (0, 0)) } := by
      unfold World.setCell
      congr 1
      refine Array.ext_getElem? fun j => ?_
      by_cases hj : g = j
      · subst hj
        have hge : w.heap[g] = .cells cs.toArray t (0, 0) := by
          rw [Array.getElem?_eq_getElem hlt] at hg
          exact Option.some.inj hg
        rw [Array.getElem?_modify]
        simp [hge, hlt]
      · rw [Array.getElem?_modify, if_neg hj, Array.getElem?_setIfInBounds_ne hj]
    have hst : (store ⟨g, o + i, none⟩ v).run P w = .ok () (w.setCell ⟨g, o + i, none⟩ v) := by
      cases v <;> first | (simp [Value.oneCell'] at h1; done) | (simp [store, Sem.run, hc, hf])
    unfold storeCells
    rw [Sem.run_bind, add_none, hst, hset]
    simp only [Result.andThen_ok]
    have ih := storeCells_run (g := g) (t := t) vs (cs.set (o + i) v) o (i + 1) { w with heap := w.heap.setIfInBounds g (.cells (cs.set (o + i) v).toArray t (0, 0)) } (fun u hu => hv u (List.mem_cons_of_mem _ hu)) (by rw [Array.getElem?_setIfInBounds_self]; simp [hlt]) (by simp; omega)
    rw [ih]
    congr 2
    simp only [Array.setIfInBounds_setIfInBounds]
    congr 2
    rw [show o + (i + 1) = o + i + 1 by omega, List.take_succ_eq_append_getElem (by simp; omega)]
    simp only [List.getElem_set_self, List.take_set_of_le (Nat.le_refl _), List.append_assoc, List.cons_append, List.nil_append]
    rw [show o + i + 1 + vs.length = o + i + (vs.length + 1) by omega, List.drop_set_of_lt (by omega)]
    simp
class Ones (l : List Value) : Prop where out : ∀ v ∈ l, v.oneCell' = true
instance : Ones [] := ⟨by simp⟩
theorem Ones.cons {v : Value} {l : List Value} (h : v.oneCell' = true) (hl : Ones l) : Ones (v :: l) := ⟨fun u hu => by
  rcases List.mem_cons.1 hu with rfl | hu
  · exact h
  · exact hl.out u hu⟩
instance {l : List Value} [h : Ones l] {k : IntKind} {n : Int} : Ones (.int k n :: l) := .cons rfl h
instance {l : List Value} [h : Ones l] {b : Bool} : Ones (.bool b :: l) := .cons rfl h
instance {l : List Value} [h : Ones l] {s : ByteArray} : Ones (.string s :: l) := .cons rfl h
instance {l : List Value} [h : Ones l] {a : Option Addr} : Ones (.pointer a :: l) := .cons rfl h
instance {l : List Value} [h : Ones l] {a : Option Addr} {n c : Nat} : Ones (.slice a n c :: l) := .cons rfl h
instance {l : List Value} [h : Ones l] {a : Option Nat} : Ones (.map a :: l) := .cons rfl h
instance {l : List Value} [h : Ones l] {t : TypeId} {v : Value} : Ones (.iface t v :: l) := .cons rfl h
instance {l : List Value} [h : Ones l] : Ones (.nilIface :: l) := .cons rfl h
instance {l : List Value} [h : Ones l] : Ones (.nilFunc :: l) := .cons rfl h
instance {l : List Value} [h : Ones l] {f : Fn} {a b : Array Value} : Ones (.func f a b :: l) := .cons rfl h
theorem Ent.store {t b o : Nat} {x : Value} {cs : List Value} {q : List HP} {K : Value → WP} [hc : CellsOf x cs] [hst : StoreAt p b o cs q] [h2 : Ones cs] (h1 : sizeB P t = some cs.length) (h : Ent w0 q (K undef)) : Ent w0 p (op P Pn (S.store t (.pointer (some ⟨b, o, none⟩)) x) K) := fun w hs => by
  obtain ⟨ds, r, hp, hl, hq⟩ := hst.out
  obtain ⟨t', hg, hs'⟩ := Sat.write (ds := ds.take o ++ cs ++ ds.drop (o + cs.length)) (t := t) (hs.perm hp)
  have e : (S.store t (.pointer (some ⟨b, o, none⟩)) x).run P w = .ok .skip { w with heap := w.heap.setIfInBounds b (.cells (ds.take o ++ cs ++ ds.drop (o + cs.length)).toArray t' (0, 0)) } := uu_run (by
    simp only [Instr.storeAt, Instr.sureAddr, Sem.run_bind, Sem.run_pure, Result.andThen_ok, storeVar, sizeOf_run h1, hc.out]
    simp only [List.size_toArray, ne_eq, not_true_eq_false, if_false, Sem.run_bind, Sem.run_pure, Result.andThen_ok]
    have := storeCells_run (P := P) cs ds o 0 w h2.out hg (by simpa using hl)
    simpa using this)
  unfold op
  rw [e]
  exact h _ (hs'.perm hq.symm)

/-! ### Rows of one's own -/
/-- v is a slice of n elements, sz cells each, of type e; its array is nobody else's. -/
def row (e sz : Nat) (v : Value) (n : Nat) (cs : List Value) : HP := fun x => cs.length = n * sz ∧ ((v = .slice none 0 0 ∧ n = 0 ∧ emp x) ∨ ∃ g cap cur, v = .slice (some ⟨g, 0, none⟩) n cap ∧ n ≤ cap ∧ cap ≤ maxLen ∧ cur.size = cap * sz ∧ cur.toList.take (n * sz) = cs ∧ obj g (.cells cur e (0, 0)) x)
theorem row_nil (e sz : Nat) : row e sz (.slice none 0 0) 0 [] (fun _ => none) := ⟨by simp, .inl ⟨rfl, rfl, fun _ => rfl⟩⟩
theorem Sat.add {a : HP} {w : World} (h : a (fun _ => none)) (hs : Sat p w0 w) : Sat (a :: p) w0 w := by
  obtain ⟨h0, x, h1, h2⟩ := hs
  exact ⟨h0, x, ⟨fun _ => none, x, h, h1, fun _ => .inl rfl, fun _ => by simp⟩, h2⟩
theorem Ent.add {a : HP} {φ : WP} (ha : a (fun _ => none)) (h : Ent w0 (a :: p) φ) : Ent w0 p φ := fun w hs => h w (hs.add ha)
theorem Sat.owns {e sz n : Nat} {v : Value} {cs : List Value} {w : World} (hs : Sat (row e sz v n cs :: p) w0 w) : w.ownsRow 0 e sz v n cs := by
  obtain ⟨x, ⟨h1, h2⟩, hsub⟩ := hs.head
  refine ⟨h1, ?_⟩
  rcases h2 with ⟨h2, h3, _⟩ | ⟨g, cap, cur, h2, h3, h4, h5, h6, hx⟩
  · exact .inl ⟨h2, h3⟩
  · exact .inr ⟨g, cap, cur, h2, Nat.zero_le _, hsub g _ (by rw [hx]; simp [one]), h3, h4, h5, h6⟩
/-- A row that grew, the rest as it was. -/
theorem Sat.regrow {e sz n n' : Nat} {v v' : Value} {cs cs' : List Value} {w w' : World} (hs : Sat (row e sz v n cs :: p) w0 w) (ho : w'.ownsRow 0 e sz v' n' cs') (hg : w.grownBy w' v.ownBlock) (hb : v'.ownBlock = v.ownBlock ∨ v'.ownBlock = some w.heap.size) : Sat (row e sz v' n' cs' :: p) w0 w' := by
  obtain ⟨⟨a1, a2, a3⟩, x, ⟨y, z, ⟨h1, h2⟩, hz, h3, h4⟩, h5⟩ := hs
  have hzlt : ∀ i, z i ≠ none → i < w.heap.size := fun i hi => by
    cases hzi : z i with
    | none => exact absurd hzi hi
    | some o =>
      have := h5 i o (by
        rw [h4]
        rcases h3 i with h | h
        · rw [h, hzi]; rfl
        · rw [h] at hzi; cases hzi)
      exact (Array.getElem?_eq_some_iff.1 this).1
  have hzb : ∀ i, z i ≠ none → some i ≠ v.ownBlock := fun i hi hv => by
    rcases h2 with ⟨h2, _, _⟩ | ⟨g, cap, cur, h2, _, _, _, _, hx⟩
    · rw [h2] at hv; simp [Value.ownBlock] at hv
    · rw [h2] at hv
      simp only [Value.ownBlock, Option.some.injEq] at hv
      subst hv
      rcases h3 i with h | h
      · rw [hx] at h; simp [one] at h
      · exact hi h
  have hzs : sub z w' := fun i o hi => by
    have hne : z i ≠ none := by rw [hi]; simp
    have hw : w.heap[i]? = some o := h5 i o (by
      rw [h4]
      rcases h3 i with h | h
      · rw [h, hi]; rfl
      · rw [h] at hi; cases hi)
    rw [hg.block i (hzlt i hne) (hzb i hne)]
    exact hw
  refine ⟨⟨hg.os.trans a1, hg.tape.trans a2, hg.output.trans a3⟩, ?_⟩
  rcases ho.2 with ⟨hv, hn⟩ | ⟨g, cap, cur, hv, _, hh, h6, h7, h8, h9⟩
  · exact ⟨z, ⟨fun _ => none, z, ⟨ho.1, .inl ⟨hv, hn, fun _ => rfl⟩⟩, hz, fun _ => .inl rfl, fun _ => by simp⟩, hzs⟩
  · have hgz : z g = none := by
      cases hzg : z g with
      | none => rfl
      | some o =>
        exfalso
        have hne : z g ≠ none := by rw [hzg]; simp
        have e1 : v'.ownBlock = some g := by rw [hv]; rfl
        rcases hb with hb | hb
        · exact hzb g hne (by rw [← hb, e1])
        · have := hzlt g hne
          rw [e1] at hb
          injection hb with hb
          omega
    refine ⟨fun i => (one g (.cells cur e (0, 0)) i).or (z i), ⟨_, z, ⟨ho.1, .inr ⟨g, cap, cur, hv, h6, h7, h8, h9, rfl⟩⟩, hz, fun i => ?_, fun i => rfl⟩, fun i u hu => ?_⟩
    · by_cases hi : i = g
      · subst hi; exact .inr hgz
      · left; simp [one, hi]
    · by_cases hi : i = g
      · subst hi
        simp [one] at hu
        subst hu
        exact hh
      · simp only [one, hi, if_false, Option.none_or] at hu
        exact hzs _ _ hu
/-- What append takes its new elements from: m elements at an address. -/
class Src (p : List HP) (sz : Nat) (x : Value) (m : outParam Nat) (ds : outParam (List Value)) : Prop where
  out : ∀ w0 w, Sat p w0 w → ∃ A c, x = .slice A m c ∧ ∀ j u, ds[j]? = some u → ∃ a, A = some a ∧ w.cell? (a.add j) = some u
  len : ds.length = m * sz
  one : ∀ d ∈ ds, d.oneCell' = true
theorem Ent.append {t e sz m n : Nat} {z : Value} {v x : Value} {cs ds zs : List Value} {fl : List Bool} {ty : TypeId} {K : Value → WP} [ht : SlE P t e] [hz : Zero P e z sz] [hc : CellsOf z zs] [hx : Src p sz x m ds] (hzs : zs.length = sz) (hsz : 0 < sz) (hlen : n + m ≤ 4294967296)
    (h : ∀ A c, Ent w0 (row e sz (.slice A (n + m) c) (n + m) (cs ++ ds) :: p) (K (.slice A (n + m) c))) : Ent w0 (row e sz v n cs :: p) (op P Pn (S.bi .append #[t, t] ty fl [v, x]) K) := fun w hs => by
  obtain ⟨i, hi, hiz, hisz, hb1, hb2⟩ := zero_info (h := hz)
  obtain ⟨A, c, rfl, hsrc⟩ := hx.out w0 w hs.drop
  have hown := hs.owns
  have hmax : n + m ≤ maxLen := by simp only [maxLen]; omega
  have hbytes : (n + m) * i.bytes ≤ 140737488355328 := by
    have : (n + m) * i.bytes ≤ 4294967296 * 8192 := Nat.mul_le_mul hlen hb2
    omega
  have key : ∃ v' w', (Builtin.append_ #[t, t] ty #[v, .slice A m c]).run P w = .ok v' w' ∧ w'.ownsRow 0 e sz v' (n + m) (cs ++ ds) ∧ w.grownBy w' v.ownBlock ∧ (v'.ownBlock = v.ownBlock ∨ v'.ownBlock = some w.heap.size) := by
    cases A with
    | some a =>
      obtain ⟨v', w', h1, h2, h3, _, h4⟩ := run_append_own_at (P := P) w 0 t ty e i z sz i.bytes ht.out hi hiz hisz rfl (by rw [hc.out]; simpa using hzs) hsz v n cs hown a m c ds hx.len (fun j u hu => by
        obtain ⟨a', ha, hcell⟩ := hsrc j u hu
        injection ha with ha
        rw [ha]
        exact hcell) hx.one hmax hbytes (Nat.zero_le _)
      exact ⟨v', w', h1, h2, h3, h4⟩
    | none =>
      have hds : ds = [] := by
        cases ds with
        | nil => rfl
        | cons d r =>
          obtain ⟨a, ha, _⟩ := hsrc 0 d rfl
          cases ha
      have hm : m = 0 := by
        have := hx.len
        rw [hds, List.length_nil] at this
        exact (Nat.mul_eq_zero.1 this.symm).resolve_right (by omega)
      subst hm
      refine ⟨v, w, ?_, by rw [hds, List.append_nil]; exact hown, World.grownBy.refl w _, .inl rfl⟩
      rcases hown.2 with ⟨rfl, rfl⟩ | ⟨g, cap, cur, rfl, _, _, hnc, _⟩
      · simp [Builtin.append_, run_underlying ht.out, sizeOf, typeInfo, hi, Builtin.lenOf, Builtin.firstCells]
      · simp [Builtin.append_, run_underlying ht.out, sizeOf, typeInfo, hi, Builtin.lenOf, Builtin.firstCells, hnc, storeCells]
  obtain ⟨v', w', h1, h2, h3, h4⟩ := key
  unfold op
  have e : (S.bi .append #[t, t] ty fl [v, .slice A m c]).run P w = .ok (.value v') w' := by
    simp only [S.bi, Go.invoke, builtin, Sem.run_bind, h1, Result.andThen_ok, Sem.run_pure]
  rw [e]
  have hs' := hs.regrow h2 h3 h4
  rcases h2.2 with ⟨hv, hn⟩ | ⟨g, cap, cur, hv, _⟩
  · have : v' = .slice none (n + m) 0 := by rw [hn]; exact hv
    rw [this] at hs' ⊢
    exact h _ _ w' hs'
  · rw [hv] at hs' ⊢
    exact h _ _ w' hs'

/-- A literal slice: its cells. -/
class BS (P : Program) (t n : Nat) (parts : List (Nat × Value)) (e : outParam TypeId) (cells : outParam (List Value)) : Prop where
  out : ∀ w, (S.bslice t n parts).run P w = .ok (.value (.slice (some ⟨w.heap.size, 0, none⟩) n n)) { w with heap := w.heap.push (.cells cells.toArray e (0, 0)) }
theorem Ent.bslice {t n e : Nat} {parts : List (Nat × Value)} {cells : List Value} {K : Value → WP} [hb : BS P t n parts e cells] (h : ∀ g, Ent w0 (blk g cells :: p) (K (.slice (some ⟨g, 0, none⟩) n n))) : Ent w0 p (op P Pn (S.bslice t n parts) K) := fun w hs => by
  unfold op
  rw [hb.out]
  exact h _ _ ((hs.new _).imp (fun x hx => obj_blk hx))
theorem Ent.bsliceR {t n e sz : Nat} {parts : List (Nat × Value)} {cells : List Value} {K : Value → WP} [hb : BS P t n parts e cells] (hn : n ≤ 4294967296) (hl : cells.length = n * sz) (h : ∀ g, Ent w0 (row e sz (.slice (some ⟨g, 0, none⟩) n n) n cells :: p) (K (.slice (some ⟨g, 0, none⟩) n n))) : Ent w0 p (op P Pn (S.bslice t n parts) K) := fun w hs => by
  unfold op
  rw [hb.out]
  exact h _ _ ((hs.new _).imp (fun x hx => ⟨hl, .inr ⟨w.heap.size, n, cells.toArray, rfl, Nat.le_refl _, by simp only [maxLen]; omega, by simpa using hl, by rw [← hl]; simp, hx⟩⟩))
class LenIs (l : List Value) (n : outParam Nat) : Prop where out : l.length = n
instance : LenIs [] 0 := ⟨rfl⟩
instance {v : Value} {l : List Value} {n : Nat} [h : LenIs l n] : LenIs (v :: l) (n + 1) := ⟨by simp [h.out]⟩
theorem src_blk {g n c sz : Nat} {cells : List Value} (h : cells.length = n * sz) (h1 : ∀ d ∈ cells, d.oneCell' = true) : Src (blk g cells :: p) sz (.slice (some ⟨g, 0, none⟩) n c) n cells := ⟨fun w0 w hs => by
  obtain ⟨t, ht⟩ := hs.getBlk
  exact ⟨_, _, rfl, fun j u hu => ⟨_, rfl, by rw [add_none]; simp [World.cell?, ht, hu]⟩⟩, h, h1⟩
/-- append(v, x), x a block of one element that nobody keeps. -/
theorem Ent.append1 {t e sz n g c : Nat} {z : Value} {v : Value} {cs ds zs : List Value} {fl : List Bool} {ty : TypeId} {K : Value → WP} [ht : SlE P t e] [hz : Zero P e z sz] [hc : CellsOf z zs] [h1 : Ones ds] (hds : ds.length = sz) (hzs : zs.length = sz) (hsz : 0 < sz) (hlen : n + 1 ≤ 4294967296)
    (h : ∀ A c, Ent w0 (row e sz (.slice A (n + 1) c) (n + 1) (cs ++ ds) :: p) (K (.slice A (n + 1) c))) : Ent w0 (blk g ds :: row e sz v n cs :: p) (op P Pn (S.bi .append #[t, t] ty fl [v, .slice (some ⟨g, 0, none⟩) 1 c]) K) := by
  refine Ent.perm (List.Perm.swap _ _ _) ?_
  haveI := src_blk (p := p) (g := g) (c := c) (n := 1) (sz := sz) (cells := ds) (by omega) h1.out
  exact Ent.append hzs hsz hlen fun A c => Ent.perm (List.Perm.swap _ _ _) (Ent.drop (h A c))
/-- A method of a type, by its name and the number of its arguments. -/
class Meth (P : Program) (t : TypeId) (name : String) (args : List Value) (f : outParam FuncId) : Prop where out : ∀ v w, (S.invoke (.iface t v) name args).run P w = .ok (.enter f (v :: args).toArray) w
theorem op_meth {t : TypeId} {name : String} {args : List Value} {f : FuncId} {v : Value} {K : Value → WP} {w : World} [hm : Meth P t name args f] {fn : Func} (hf : P.funcs[f]? = some fn) (hn : (fn.name == "runtime.NumGoroutine") = false) (hb : fn.body.isNone = false) (h : op P Pn (S.fn f (v :: args)) K w) : op P Pn (S.invoke (.iface t v) name args) K w := by
  unfold op at h ⊢
  rw [hm.out]
  have e := callV_run (P := P) (args := v :: args) (first := []) (cap := []) w hf hn hb
  unfold S.fn at h
  rw [show (#[] : Array Value) = ([] : List Value).toArray from rfl, e] at h
  simpa using h
/-! ### Calls, cuts, loops -/
theorem Ent.call {s : Sem Next} {K : Value → WP} {φ : WP} (hw : ∀ w, φ w → op P Pn s K w) (h : Ent w0 p φ) : Ent w0 p (op P Pn s K) := fun w hs => hw w (h w hs)
theorem Ent.J0 {y : WP} {x : WP → WP} (h : ∀ k : WP, (∀ q, Ent w0 q y → Ent w0 q k) → Ent w0 p (x k)) : Ent w0 p (J0 y x) := fun w hs K hK => h (K []) (fun q hq w' hs' => hK w' fun _ => hq w' hs') w hs
theorem Ent.J1 {y : Value → WP} {x : (Value → WP) → WP} (h : ∀ k : Value → WP, (∀ a q, Ent w0 q (y a) → Ent w0 q (k a)) → Ent w0 p (x k)) : Ent w0 p (J1 y x) := fun w hs K hK => h (fun a => K [a]) (fun a q hq w' hs' => hK a w' fun _ => hq w' hs') w hs
theorem Ent.J2 {y : Value → Value → WP} {x : (Value → Value → WP) → WP} (h : ∀ k : Value → Value → WP, (∀ a b q, Ent w0 q (y a b) → Ent w0 q (k a b)) → Ent w0 p (x k)) : Ent w0 p (J2 y x) := fun w hs K hK => h (fun a b => K [a, b]) (fun a b q hq w' hs' => hK a b w' fun _ => hq w' hs') w hs
theorem Ent.J3 {y : Value → Value → Value → WP} {x : (Value → Value → Value → WP) → WP} (h : ∀ k : Value → Value → Value → WP, (∀ a b c q, Ent w0 q (y a b c) → Ent w0 q (k a b c)) → Ent w0 p (x k)) : Ent w0 p (J3 y x) := fun w hs K hK => h (fun a b c => K [a, b, c]) (fun a b c q hq w' hs' => hK a b c w' fun _ => hq w' hs') w hs
theorem has_least (p : Nat → Prop) (h : ∃ n, p n) : ∃ n, p n ∧ ∀ m, p m → n ≤ m := by
  obtain ⟨n, hn⟩ := h
  induction n using Nat.strongRecOn with
  | _ n ih =>
    by_cases hex : ∃ m, m < n ∧ p m
    · obtain ⟨m, hm, hp⟩ := hex
      exact ih m hm hp
    · exact ⟨n, hn, fun m hm => Nat.le_of_not_lt fun hlt => hex ⟨m, hlt, hm⟩⟩
open Classical in
noncomputable def least {σ : Type} (V : σ → List Value) (I : σ → WP) (μ : σ → Nat) (vs : List Value) (w : World) : Nat :=
  if h : ∃ n, ∃ s, V s = vs ∧ I s w ∧ μ s = n then (has_least _ h).choose else 0
theorem least_le {σ : Type} {V : σ → List Value} {I : σ → WP} {μ : σ → Nat} {w : World} (s : σ) (h : I s w) : least V I μ (V s) w ≤ μ s := by
  have hex : ∃ n, ∃ s', V s' = V s ∧ I s' w ∧ μ s' = n := ⟨μ s, s, rfl, h, rfl⟩
  unfold least
  rw [dif_pos hex]
  exact (has_least _ hex).choose_spec.2 _ ⟨s, rfl, h, rfl⟩
theorem least_at {σ : Type} {V : σ → List Value} {I : σ → WP} {μ : σ → Nat} {vs : List Value} {w : World} (h : ∃ s, V s = vs ∧ I s w) : ∃ s, V s = vs ∧ I s w ∧ μ s = least V I μ vs w := by
  obtain ⟨s, hv, hi⟩ := h
  have hex : ∃ n, ∃ s', V s' = vs ∧ I s' w ∧ μ s' = n := ⟨μ s, s, hv, hi, rfl⟩
  unfold least
  rw [dif_pos hex]
  exact (has_least _ hex).choose_spec.1
theorem Ent.L0 {σ : Type} {body : (WP) → WP} (I : σ → List HP) (μ : σ → Nat) (s : σ) (h0 : ∀ w, Sat p w0 w → Sat (I s) w0 w) (h : ∀ (s : σ) (k : WP), (∀ s', μ s' < μ s → Ent w0 (I s') (k)) → Ent w0 (I s) (body  k)) : Ent w0 p (L0  body) := by
  intro w hs
  refine ⟨fun vs w => ∃ s, (fun s => []) s = vs ∧ Sat (I s) w0 w, least (fun s => []) (fun s => Sat (I s) w0) μ, ⟨s, rfl, h0 w hs⟩, ?_⟩
  intro  w' hI _
  obtain ⟨s, hv, hi, hm⟩ := least_at (μ := μ) hI
  refine h s _ (fun s' hlt w'' hs' => ⟨⟨s', rfl, hs'⟩, ?_⟩) w' hi
  exact Nat.lt_of_le_of_lt (least_le (V := fun s => []) (I := fun s => Sat (I s) w0) (μ := μ) s' hs') (by rw [← hm]; exact hlt)
theorem Ent.L1 {σ : Type} {body : Value → (Value → WP) → WP} (f0 : σ → Value) (I : σ → List HP) (μ : σ → Nat) (s : σ) (h0 : ∀ w, Sat p w0 w → Sat (I s) w0 w) (h : ∀ (s : σ) (k : Value → WP), (∀ s', μ s' < μ s → Ent w0 (I s') (k (f0 s'))) → Ent w0 (I s) (body (f0 s) k)) : Ent w0 p (L1 (f0 s) body) := by
  intro w hs
  refine ⟨fun vs w => ∃ s, (fun s => [f0 s]) s = vs ∧ Sat (I s) w0 w, least (fun s => [f0 s]) (fun s => Sat (I s) w0) μ, ⟨s, rfl, h0 w hs⟩, ?_⟩
  intro a0 w' hI _
  obtain ⟨s, hv, hi, hm⟩ := least_at (μ := μ) hI
  simp only [List.cons.injEq, and_true] at hv
  obtain rfl := hv
  refine h s _ (fun s' hlt w'' hs' => ⟨⟨s', rfl, hs'⟩, ?_⟩) w' hi
  exact Nat.lt_of_le_of_lt (least_le (V := fun s => [f0 s]) (I := fun s => Sat (I s) w0) (μ := μ) s' hs') (by rw [← hm]; exact hlt)
theorem Ent.L2 {σ : Type} {body : Value → Value → (Value → Value → WP) → WP} (f0 f1 : σ → Value) (I : σ → List HP) (μ : σ → Nat) (s : σ) (h0 : ∀ w, Sat p w0 w → Sat (I s) w0 w) (h : ∀ (s : σ) (k : Value → Value → WP), (∀ s', μ s' < μ s → Ent w0 (I s') (k (f0 s') (f1 s'))) → Ent w0 (I s) (body (f0 s) (f1 s) k)) : Ent w0 p (L2 (f0 s) (f1 s) body) := by
  intro w hs
  refine ⟨fun vs w => ∃ s, (fun s => [f0 s, f1 s]) s = vs ∧ Sat (I s) w0 w, least (fun s => [f0 s, f1 s]) (fun s => Sat (I s) w0) μ, ⟨s, rfl, h0 w hs⟩, ?_⟩
  intro a0 a1 w' hI _
  obtain ⟨s, hv, hi, hm⟩ := least_at (μ := μ) hI
  simp only [List.cons.injEq, and_true] at hv
  obtain ⟨rfl, rfl⟩ := hv
  refine h s _ (fun s' hlt w'' hs' => ⟨⟨s', rfl, hs'⟩, ?_⟩) w' hi
  exact Nat.lt_of_le_of_lt (least_le (V := fun s => [f0 s, f1 s]) (I := fun s => Sat (I s) w0) (μ := μ) s' hs') (by rw [← hm]; exact hlt)
theorem Ent.L3 {σ : Type} {body : Value → Value → Value → (Value → Value → Value → WP) → WP} (f0 f1 f2 : σ → Value) (I : σ → List HP) (μ : σ → Nat) (s : σ) (h0 : ∀ w, Sat p w0 w → Sat (I s) w0 w) (h : ∀ (s : σ) (k : Value → Value → Value → WP), (∀ s', μ s' < μ s → Ent w0 (I s') (k (f0 s') (f1 s') (f2 s'))) → Ent w0 (I s) (body (f0 s) (f1 s) (f2 s) k)) : Ent w0 p (L3 (f0 s) (f1 s) (f2 s) body) := by
  intro w hs
  refine ⟨fun vs w => ∃ s, (fun s => [f0 s, f1 s, f2 s]) s = vs ∧ Sat (I s) w0 w, least (fun s => [f0 s, f1 s, f2 s]) (fun s => Sat (I s) w0) μ, ⟨s, rfl, h0 w hs⟩, ?_⟩
  intro a0 a1 a2 w' hI _
  obtain ⟨s, hv, hi, hm⟩ := least_at (μ := μ) hI
  simp only [List.cons.injEq, and_true] at hv
  obtain ⟨rfl, rfl, rfl⟩ := hv
  refine h s _ (fun s' hlt w'' hs' => ⟨⟨s', rfl, hs'⟩, ?_⟩) w' hi
  exact Nat.lt_of_le_of_lt (least_le (V := fun s => [f0 s, f1 s, f2 s]) (I := fun s => Sat (I s) w0) (μ := μ) s' hs') (by rw [← hm]; exact hlt)
theorem Ent.L4 {σ : Type} {body : Value → Value → Value → Value → (Value → Value → Value → Value → WP) → WP} (f0 f1 f2 f3 : σ → Value) (I : σ → List HP) (μ : σ → Nat) (s : σ) (h0 : ∀ w, Sat p w0 w → Sat (I s) w0 w) (h : ∀ (s : σ) (k : Value → Value → Value → Value → WP), (∀ s', μ s' < μ s → Ent w0 (I s') (k (f0 s') (f1 s') (f2 s') (f3 s'))) → Ent w0 (I s) (body (f0 s) (f1 s) (f2 s) (f3 s) k)) : Ent w0 p (L4 (f0 s) (f1 s) (f2 s) (f3 s) body) := by
  intro w hs
  refine ⟨fun vs w => ∃ s, (fun s => [f0 s, f1 s, f2 s, f3 s]) s = vs ∧ Sat (I s) w0 w, least (fun s => [f0 s, f1 s, f2 s, f3 s]) (fun s => Sat (I s) w0) μ, ⟨s, rfl, h0 w hs⟩, ?_⟩
  intro a0 a1 a2 a3 w' hI _
  obtain ⟨s, hv, hi, hm⟩ := least_at (μ := μ) hI
  simp only [List.cons.injEq, and_true] at hv
  obtain ⟨rfl, rfl, rfl, rfl⟩ := hv
  refine h s _ (fun s' hlt w'' hs' => ⟨⟨s', rfl, hs'⟩, ?_⟩) w' hi
  exact Nat.lt_of_le_of_lt (least_le (V := fun s => [f0 s, f1 s, f2 s, f3 s]) (I := fun s => Sat (I s) w0) (μ := μ) s' hs') (by rw [← hm]; exact hlt)
theorem Ent.L5 {σ : Type} {body : Value → Value → Value → Value → Value → (Value → Value → Value → Value → Value → WP) → WP} (f0 f1 f2 f3 f4 : σ → Value) (I : σ → List HP) (μ : σ → Nat) (s : σ) (h0 : ∀ w, Sat p w0 w → Sat (I s) w0 w) (h : ∀ (s : σ) (k : Value → Value → Value → Value → Value → WP), (∀ s', μ s' < μ s → Ent w0 (I s') (k (f0 s') (f1 s') (f2 s') (f3 s') (f4 s'))) → Ent w0 (I s) (body (f0 s) (f1 s) (f2 s) (f3 s) (f4 s) k)) : Ent w0 p (L5 (f0 s) (f1 s) (f2 s) (f3 s) (f4 s) body) := by
  intro w hs
  refine ⟨fun vs w => ∃ s, (fun s => [f0 s, f1 s, f2 s, f3 s, f4 s]) s = vs ∧ Sat (I s) w0 w, least (fun s => [f0 s, f1 s, f2 s, f3 s, f4 s]) (fun s => Sat (I s) w0) μ, ⟨s, rfl, h0 w hs⟩, ?_⟩
  intro a0 a1 a2 a3 a4 w' hI _
  obtain ⟨s, hv, hi, hm⟩ := least_at (μ := μ) hI
  simp only [List.cons.injEq, and_true] at hv
  obtain ⟨rfl, rfl, rfl, rfl, rfl⟩ := hv
  refine h s _ (fun s' hlt w'' hs' => ⟨⟨s', rfl, hs'⟩, ?_⟩) w' hi
  exact Nat.lt_of_le_of_lt (least_le (V := fun s => [f0 s, f1 s, f2 s, f3 s, f4 s]) (I := fun s => Sat (I s) w0) (μ := μ) s' hs') (by rw [← hm]; exact hlt)
theorem Ent.L6 {σ : Type} {body : Value → Value → Value → Value → Value → Value → (Value → Value → Value → Value → Value → Value → WP) → WP} (f0 f1 f2 f3 f4 f5 : σ → Value) (I : σ → List HP) (μ : σ → Nat) (s : σ) (h0 : ∀ w, Sat p w0 w → Sat (I s) w0 w) (h : ∀ (s : σ) (k : Value → Value → Value → Value → Value → Value → WP), (∀ s', μ s' < μ s → Ent w0 (I s') (k (f0 s') (f1 s') (f2 s') (f3 s') (f4 s') (f5 s'))) → Ent w0 (I s) (body (f0 s) (f1 s) (f2 s) (f3 s) (f4 s) (f5 s) k)) : Ent w0 p (L6 (f0 s) (f1 s) (f2 s) (f3 s) (f4 s) (f5 s) body) := by
  intro w hs
  refine ⟨fun vs w => ∃ s, (fun s => [f0 s, f1 s, f2 s, f3 s, f4 s, f5 s]) s = vs ∧ Sat (I s) w0 w, least (fun s => [f0 s, f1 s, f2 s, f3 s, f4 s, f5 s]) (fun s => Sat (I s) w0) μ, ⟨s, rfl, h0 w hs⟩, ?_⟩
  intro a0 a1 a2 a3 a4 a5 w' hI _
  obtain ⟨s, hv, hi, hm⟩ := least_at (μ := μ) hI
  simp only [List.cons.injEq, and_true] at hv
  obtain ⟨rfl, rfl, rfl, rfl, rfl, rfl⟩ := hv
  refine h s _ (fun s' hlt w'' hs' => ⟨⟨s', rfl, hs'⟩, ?_⟩) w' hi
  exact Nat.lt_of_le_of_lt (least_le (V := fun s => [f0 s, f1 s, f2 s, f3 s, f4 s, f5 s]) (I := fun s => Sat (I s) w0) (μ := μ) s' hs') (by rw [← hm]; exact hlt)
theorem Ent.L7 {σ : Type} {body : Value → Value → Value → Value → Value → Value → Value → (Value → Value → Value → Value → Value → Value → Value → WP) → WP} (f0 f1 f2 f3 f4 f5 f6 : σ → Value) (I : σ → List HP) (μ : σ → Nat) (s : σ) (h0 : ∀ w, Sat p w0 w → Sat (I s) w0 w) (h : ∀ (s : σ) (k : Value → Value → Value → Value → Value → Value → Value → WP), (∀ s', μ s' < μ s → Ent w0 (I s') (k (f0 s') (f1 s') (f2 s') (f3 s') (f4 s') (f5 s') (f6 s'))) → Ent w0 (I s) (body (f0 s) (f1 s) (f2 s) (f3 s) (f4 s) (f5 s) (f6 s) k)) : Ent w0 p (L7 (f0 s) (f1 s) (f2 s) (f3 s) (f4 s) (f5 s) (f6 s) body) := by
  intro w hs
  refine ⟨fun vs w => ∃ s, (fun s => [f0 s, f1 s, f2 s, f3 s, f4 s, f5 s, f6 s]) s = vs ∧ Sat (I s) w0 w, least (fun s => [f0 s, f1 s, f2 s, f3 s, f4 s, f5 s, f6 s]) (fun s => Sat (I s) w0) μ, ⟨s, rfl, h0 w hs⟩, ?_⟩
  intro a0 a1 a2 a3 a4 a5 a6 w' hI _
  obtain ⟨s, hv, hi, hm⟩ := least_at (μ := μ) hI
  simp only [List.cons.injEq, and_true] at hv
  obtain ⟨rfl, rfl, rfl, rfl, rfl, rfl, rfl⟩ := hv
  refine h s _ (fun s' hlt w'' hs' => ⟨⟨s', rfl, hs'⟩, ?_⟩) w' hi
  exact Nat.lt_of_le_of_lt (least_le (V := fun s => [f0 s, f1 s, f2 s, f3 s, f4 s, f5 s, f6 s]) (I := fun s => Sat (I s) w0) (μ := μ) s' hs') (by rw [← hm]; exact hlt)
theorem Ent.L8 {σ : Type} {body : Value → Value → Value → Value → Value → Value → Value → Value → (Value → Value → Value → Value → Value → Value → Value → Value → WP) → WP} (f0 f1 f2 f3 f4 f5 f6 f7 : σ → Value) (I : σ → List HP) (μ : σ → Nat) (s : σ) (h0 : ∀ w, Sat p w0 w → Sat (I s) w0 w) (h : ∀ (s : σ) (k : Value → Value → Value → Value → Value → Value → Value → Value → WP), (∀ s', μ s' < μ s → Ent w0 (I s') (k (f0 s') (f1 s') (f2 s') (f3 s') (f4 s') (f5 s') (f6 s') (f7 s'))) → Ent w0 (I s) (body (f0 s) (f1 s) (f2 s) (f3 s) (f4 s) (f5 s) (f6 s) (f7 s) k)) : Ent w0 p (L8 (f0 s) (f1 s) (f2 s) (f3 s) (f4 s) (f5 s) (f6 s) (f7 s) body) := by
  intro w hs
  refine ⟨fun vs w => ∃ s, (fun s => [f0 s, f1 s, f2 s, f3 s, f4 s, f5 s, f6 s, f7 s]) s = vs ∧ Sat (I s) w0 w, least (fun s => [f0 s, f1 s, f2 s, f3 s, f4 s, f5 s, f6 s, f7 s]) (fun s => Sat (I s) w0) μ, ⟨s, rfl, h0 w hs⟩, ?_⟩
  intro a0 a1 a2 a3 a4 a5 a6 a7 w' hI _
  obtain ⟨s, hv, hi, hm⟩ := least_at (μ := μ) hI
  simp only [List.cons.injEq, and_true] at hv
  obtain ⟨rfl, rfl, rfl, rfl, rfl, rfl, rfl, rfl⟩ := hv
  refine h s _ (fun s' hlt w'' hs' => ⟨⟨s', rfl, hs'⟩, ?_⟩) w' hi
  exact Nat.lt_of_le_of_lt (least_le (V := fun s => [f0 s, f1 s, f2 s, f3 s, f4 s, f5 s, f6 s, f7 s]) (I := fun s => Sat (I s) w0) (μ := μ) s' hs') (by rw [← hm]; exact hlt)
theorem Ent.L9 {σ : Type} {body : Value → Value → Value → Value → Value → Value → Value → Value → Value → (Value → Value → Value → Value → Value → Value → Value → Value → Value → WP) → WP} (f0 f1 f2 f3 f4 f5 f6 f7 f8 : σ → Value) (I : σ → List HP) (μ : σ → Nat) (s : σ) (h0 : ∀ w, Sat p w0 w → Sat (I s) w0 w) (h : ∀ (s : σ) (k : Value → Value → Value → Value → Value → Value → Value → Value → Value → WP), (∀ s', μ s' < μ s → Ent w0 (I s') (k (f0 s') (f1 s') (f2 s') (f3 s') (f4 s') (f5 s') (f6 s') (f7 s') (f8 s'))) → Ent w0 (I s) (body (f0 s) (f1 s) (f2 s) (f3 s) (f4 s) (f5 s) (f6 s) (f7 s) (f8 s) k)) : Ent w0 p (L9 (f0 s) (f1 s) (f2 s) (f3 s) (f4 s) (f5 s) (f6 s) (f7 s) (f8 s) body) := by
  intro w hs
  refine ⟨fun vs w => ∃ s, (fun s => [f0 s, f1 s, f2 s, f3 s, f4 s, f5 s, f6 s, f7 s, f8 s]) s = vs ∧ Sat (I s) w0 w, least (fun s => [f0 s, f1 s, f2 s, f3 s, f4 s, f5 s, f6 s, f7 s, f8 s]) (fun s => Sat (I s) w0) μ, ⟨s, rfl, h0 w hs⟩, ?_⟩
  intro a0 a1 a2 a3 a4 a5 a6 a7 a8 w' hI _
  obtain ⟨s, hv, hi, hm⟩ := least_at (μ := μ) hI
  simp only [List.cons.injEq, and_true] at hv
  obtain ⟨rfl, rfl, rfl, rfl, rfl, rfl, rfl, rfl, rfl⟩ := hv
  refine h s _ (fun s' hlt w'' hs' => ⟨⟨s', rfl, hs'⟩, ?_⟩) w' hi
  exact Nat.lt_of_le_of_lt (least_le (V := fun s => [f0 s, f1 s, f2 s, f3 s, f4 s, f5 s, f6 s, f7 s, f8 s]) (I := fun s => Sat (I s) w0) (μ := μ) s' hs') (by rw [← hm]; exact hlt)
theorem Ent.L10 {σ : Type} {body : Value → Value → Value → Value → Value → Value → Value → Value → Value → Value → (Value → Value → Value → Value → Value → Value → Value → Value → Value → Value → WP) → WP} (f0 f1 f2 f3 f4 f5 f6 f7 f8 f9 : σ → Value) (I : σ → List HP) (μ : σ → Nat) (s : σ) (h0 : ∀ w, Sat p w0 w → Sat (I s) w0 w) (h : ∀ (s : σ) (k : Value → Value → Value → Value → Value → Value → Value → Value → Value → Value → WP), (∀ s', μ s' < μ s → Ent w0 (I s') (k (f0 s') (f1 s') (f2 s') (f3 s') (f4 s') (f5 s') (f6 s') (f7 s') (f8 s') (f9 s'))) → Ent w0 (I s) (body (f0 s) (f1 s) (f2 s) (f3 s) (f4 s) (f5 s) (f6 s) (f7 s) (f8 s) (f9 s) k)) : Ent w0 p (L10 (f0 s) (f1 s) (f2 s) (f3 s) (f4 s) (f5 s) (f6 s) (f7 s) (f8 s) (f9 s) body) := by
  intro w hs
  refine ⟨fun vs w => ∃ s, (fun s => [f0 s, f1 s, f2 s, f3 s, f4 s, f5 s, f6 s, f7 s, f8 s, f9 s]) s = vs ∧ Sat (I s) w0 w, least (fun s => [f0 s, f1 s, f2 s, f3 s, f4 s, f5 s, f6 s, f7 s, f8 s, f9 s]) (fun s => Sat (I s) w0) μ, ⟨s, rfl, h0 w hs⟩, ?_⟩
  intro a0 a1 a2 a3 a4 a5 a6 a7 a8 a9 w' hI _
  obtain ⟨s, hv, hi, hm⟩ := least_at (μ := μ) hI
  simp only [List.cons.injEq, and_true] at hv
  obtain ⟨rfl, rfl, rfl, rfl, rfl, rfl, rfl, rfl, rfl, rfl⟩ := hv
  refine h s _ (fun s' hlt w'' hs' => ⟨⟨s', rfl, hs'⟩, ?_⟩) w' hi
  exact Nat.lt_of_le_of_lt (least_le (V := fun s => [f0 s, f1 s, f2 s, f3 s, f4 s, f5 s, f6 s, f7 s, f8 s, f9 s]) (I := fun s => Sat (I s) w0) (μ := μ) s' hs') (by rw [← hm]; exact hlt)
theorem Ent.L11 {σ : Type} {body : Value → Value → Value → Value → Value → Value → Value → Value → Value → Value → Value → (Value → Value → Value → Value → Value → Value → Value → Value → Value → Value → Value → WP) → WP} (f0 f1 f2 f3 f4 f5 f6 f7 f8 f9 f10 : σ → Value) (I : σ → List HP) (μ : σ → Nat) (s : σ) (h0 : ∀ w, Sat p w0 w → Sat (I s) w0 w) (h : ∀ (s : σ) (k : Value → Value → Value → Value → Value → Value → Value → Value → Value → Value → Value → WP), (∀ s', μ s' < μ s → Ent w0 (I s') (k (f0 s') (f1 s') (f2 s') (f3 s') (f4 s') (f5 s') (f6 s') (f7 s') (f8 s') (f9 s') (f10 s'))) → Ent w0 (I s) (body (f0 s) (f1 s) (f2 s) (f3 s) (f4 s) (f5 s) (f6 s) (f7 s) (f8 s) (f9 s) (f10 s) k)) : Ent w0 p (L11 (f0 s) (f1 s) (f2 s) (f3 s) (f4 s) (f5 s) (f6 s) (f7 s) (f8 s) (f9 s) (f10 s) body) := by
  intro w hs
  refine ⟨fun vs w => ∃ s, (fun s => [f0 s, f1 s, f2 s, f3 s, f4 s, f5 s, f6 s, f7 s, f8 s, f9 s, f10 s]) s = vs ∧ Sat (I s) w0 w, least (fun s => [f0 s, f1 s, f2 s, f3 s, f4 s, f5 s, f6 s, f7 s, f8 s, f9 s, f10 s]) (fun s => Sat (I s) w0) μ, ⟨s, rfl, h0 w hs⟩, ?_⟩
  intro a0 a1 a2 a3 a4 a5 a6 a7 a8 a9 a10 w' hI _
  obtain ⟨s, hv, hi, hm⟩ := least_at (μ := μ) hI
  simp only [List.cons.injEq, and_true] at hv
  obtain ⟨rfl, rfl, rfl, rfl, rfl, rfl, rfl, rfl, rfl, rfl, rfl⟩ := hv
  refine h s _ (fun s' hlt w'' hs' => ⟨⟨s', rfl, hs'⟩, ?_⟩) w' hi
  exact Nat.lt_of_le_of_lt (least_le (V := fun s => [f0 s, f1 s, f2 s, f3 s, f4 s, f5 s, f6 s, f7 s, f8 s, f9 s, f10 s]) (I := fun s => Sat (I s) w0) (μ := μ) s' hs') (by rw [← hm]; exact hlt)
theorem Ent.L12 {σ : Type} {body : Value → Value → Value → Value → Value → Value → Value → Value → Value → Value → Value → Value → (Value → Value → Value → Value → Value → Value → Value → Value → Value → Value → Value → Value → WP) → WP} (f0 f1 f2 f3 f4 f5 f6 f7 f8 f9 f10 f11 : σ → Value) (I : σ → List HP) (μ : σ → Nat) (s : σ) (h0 : ∀ w, Sat p w0 w → Sat (I s) w0 w) (h : ∀ (s : σ) (k : Value → Value → Value → Value → Value → Value → Value → Value → Value → Value → Value → Value → WP), (∀ s', μ s' < μ s → Ent w0 (I s') (k (f0 s') (f1 s') (f2 s') (f3 s') (f4 s') (f5 s') (f6 s') (f7 s') (f8 s') (f9 s') (f10 s') (f11 s'))) → Ent w0 (I s) (body (f0 s) (f1 s) (f2 s) (f3 s) (f4 s) (f5 s) (f6 s) (f7 s) (f8 s) (f9 s) (f10 s) (f11 s) k)) : Ent w0 p (L12 (f0 s) (f1 s) (f2 s) (f3 s) (f4 s) (f5 s) (f6 s) (f7 s) (f8 s) (f9 s) (f10 s) (f11 s) body) := by
  intro w hs
  refine ⟨fun vs w => ∃ s, (fun s => [f0 s, f1 s, f2 s, f3 s, f4 s, f5 s, f6 s, f7 s, f8 s, f9 s, f10 s, f11 s]) s = vs ∧ Sat (I s) w0 w, least (fun s => [f0 s, f1 s, f2 s, f3 s, f4 s, f5 s, f6 s, f7 s, f8 s, f9 s, f10 s, f11 s]) (fun s => Sat (I s) w0) μ, ⟨s, rfl, h0 w hs⟩, ?_⟩
  intro a0 a1 a2 a3 a4 a5 a6 a7 a8 a9 a10 a11 w' hI _
  obtain ⟨s, hv, hi, hm⟩ := least_at (μ := μ) hI
  simp only [List.cons.injEq, and_true] at hv
  obtain ⟨rfl, rfl, rfl, rfl, rfl, rfl, rfl, rfl, rfl, rfl, rfl, rfl⟩ := hv
  refine h s _ (fun s' hlt w'' hs' => ⟨⟨s', rfl, hs'⟩, ?_⟩) w' hi
  exact Nat.lt_of_le_of_lt (least_le (V := fun s => [f0 s, f1 s, f2 s, f3 s, f4 s, f5 s, f6 s, f7 s, f8 s, f9 s, f10 s, f11 s]) (I := fun s => Sat (I s) w0) (μ := μ) s' hs') (by rw [← hm]; exact hlt)
/-- A result that lies in memory. -/
theorem Ent.resN {t b o n : Nat} {vs : List Value} {K : Value → WP} [ht : Agg P t n] [h : LoadN p b o n vs] (hk : Ent w0 p (K (.agg vs.toArray))) : Ent w0 p (ldR P t (.pointer (some ⟨b, o, none⟩)) K) := fun w hs => by
  obtain ⟨h1, h2⟩ := h.out w0 w hs
  subst h1
  refine ⟨_, ?_, hk w hs⟩
  simp only [asAddr, Sem.run_bind, Sem.run_pure, Result.andThen_ok, loadVar, isAgg_run ht.agg, sizeOf_run ht.size, if_true, loadCells]
  rw [loadCells_run b vs o 0 #[] (fun j v hv => by rw [Nat.zero_add]; exact h2 j v hv)]
  simp
theorem Ent.res1 {t : TypeId} {a : Addr} {v : Value} {K : Value → WP} [ht : Scal P t] [h : LoadAt p a v] (hk : Ent w0 p (K v)) : Ent w0 p (ldR P t (.pointer (some a)) K) := fun w hs => by
  refine ⟨_, ?_, hk w hs⟩
  simp only [asAddr, Sem.run_bind, Sem.run_pure, Result.andThen_ok, loadVar, isAgg_run ht.agg]
  simp [load, Sem.run, h.out w0 w hs]
end
end Go.Lt
