/- A walk's meaning as a plain formula: 'den' turns a loaded function's code into a formula over values and worlds (Lt.den), and 'calls_of_den' says that the formula is enough for the call's contract. Conditions: none. -/
import Derived.WalkKit
namespace Go.Lt
open Go

abbrev WP := World → Prop
abbrev Kont := Array Value → WP
abbrev PK := List PanicEntry → WP

/-- What an operation has come to, handed on. -/
def upK (P : Program) (K : Value → WP) (Pn : PK) : Result Next → Prop
  | .ok (.value v) w' => K v w'
  | .ok .skip w' => K undef w'
  | .ok (.enter f args) w' => Calls P f args w' fun
      | .returned v, w'' => K v w''
      | .panicked ch, w'' => Pn ch w''
      | .outgrown, _ => False
  | .halt (.panic v) w' => Pn [{ v, recovered := false }] w'
  | _ => False
def op (P : Program) (Pn : PK) (s : Sem Next) (K : Value → WP) : WP := fun w => upK P K Pn (s.run P w)
/-- What a guard has yielded; a guard that was skipped yields nothing. -/
def gb : Value → Option Bool
  | .bool b => some b
  | _ => none
/-- The same, under a guard. -/
def gop (P : Program) (Pn : PK) (g : Value) (want : Bool) (s : Sem Next) (K : Value → WP) : WP := fun w => if gb g = some want then op P Pn s K w else K undef w
/-- An operation that only looks; in any order. -/
def lt (P : Program) (s : Sem Next) (K : Value → WP) : WP := fun w => ∃ v, s.run P w = .ok (.value v) w ∧ K v w
def glt (P : Program) (g : Value) (want : Bool) (s : Sem Next) (K : Value → WP) : WP := fun w => if gb g = some want then lt P s K w else K undef w
/-- It still yields v. -/
def rc (P : Program) (s : Sem Next) (v : Value) (K : WP) : WP := fun w => s.run P w = .ok (.value v) w ∧ K w
def grc (P : Program) (g : Value) (want : Bool) (s : Sem Next) (v : Value) (K : WP) : WP := fun w => (if gb g = some want then s.run P w = .ok (.value v) w else v = undef) ∧ K w
def ite' (c : Value) (x y : WP) : WP := fun w => ∃ t, c = .bool t ∧ if t then x w else y w
def also (x y : WP) : WP := fun w => x w ∧ y w
def drawn (x : WP) : WP := fun w => x { w with drawn := w.drawn + 1 }
def allVals : Nat → (List Value → Prop) → Prop
  | 0, f => f []
  | n + 1, f => ∀ v, allVals n fun r => f (v :: r)
theorem allVals_spec : ∀ {n : Nat} {f : List Value → Prop}, allVals n f → ∀ vs : List Value, vs.length = n → f vs
  | 0, _, h, [], _ => h
  | n + 1, _, h, v :: r, hl => allVals_spec (h v) r (by simpa using hl)

/-- A cut: 'y' is what follows; 'x' ends in K. -/
def join (y : List Value → WP) (n : Nat) (x : (List Value → WP) → WP) : WP := fun w => ∀ K : List Value → WP, (allVals n fun vs => ∀ w', y vs w' → K vs w') → x K w
/-- A loop: 'body' from the head's values; 'more' is the head again. -/
def loop (n : Nat) (s0 : List Value) (body : List Value → (List Value → WP) → WP) : WP := fun w =>
  ∃ (I : List Value → WP) (m : List Value → World → Nat), I s0 w ∧ allVals n fun vs => ∀ w', I vs w' → body vs (fun vs' w'' => I vs' w'' ∧ m vs' w'' < m vs w') w'

/-! The same by their number of values. -/
def J0 (y : WP) (x : (WP) → WP) : WP := fun w => ∀ K : List Value → WP, (∀ w', (∀ _ : Nat → Value, y  w') → K [] w') → x (K []) w
def L0 (body : (WP) → WP) : WP := fun w => ∃ (I : List Value → WP) (m : List Value → World → Nat), I [] w ∧ ∀ w', I [] w' → ∀ _ : Nat → Value, body  (fun w'' => I [] w'' ∧ m [] w'' < m [] w') w'
def J1 (y : Value → WP) (x : (Value → WP) → WP) : WP := fun w => ∀ K : List Value → WP, (∀ a0, ∀ w', (∀ _ : Nat → Value, y a0 w') → K [a0] w') → x (fun a0 => K [a0]) w
def L1 (s0 : Value) (body : Value → (Value → WP) → WP) : WP := fun w => ∃ (I : List Value → WP) (m : List Value → World → Nat), I [s0] w ∧ ∀ a0, ∀ w', I [a0] w' → ∀ _ : Nat → Value, body a0 (fun b0 w'' => I [b0] w'' ∧ m [b0] w'' < m [a0] w') w'
def J2 (y : Value → Value → WP) (x : (Value → Value → WP) → WP) : WP := fun w => ∀ K : List Value → WP, (∀ a0 a1, ∀ w', (∀ _ : Nat → Value, y a0 a1 w') → K [a0, a1] w') → x (fun a0 a1 => K [a0, a1]) w
def L2 (s0 s1 : Value) (body : Value → Value → (Value → Value → WP) → WP) : WP := fun w => ∃ (I : List Value → WP) (m : List Value → World → Nat), I [s0, s1] w ∧ ∀ a0 a1, ∀ w', I [a0, a1] w' → ∀ _ : Nat → Value, body a0 a1 (fun b0 b1 w'' => I [b0, b1] w'' ∧ m [b0, b1] w'' < m [a0, a1] w') w'
def J3 (y : Value → Value → Value → WP) (x : (Value → Value → Value → WP) → WP) : WP := fun w => ∀ K : List Value → WP, (∀ a0 a1 a2, ∀ w', (∀ _ : Nat → Value, y a0 a1 a2 w') → K [a0, a1, a2] w') → x (fun a0 a1 a2 => K [a0, a1, a2]) w
def L3 (s0 s1 s2 : Value) (body : Value → Value → Value → (Value → Value → Value → WP) → WP) : WP := fun w => ∃ (I : List Value → WP) (m : List Value → World → Nat), I [s0, s1, s2] w ∧ ∀ a0 a1 a2, ∀ w', I [a0, a1, a2] w' → ∀ _ : Nat → Value, body a0 a1 a2 (fun b0 b1 b2 w'' => I [b0, b1, b2] w'' ∧ m [b0, b1, b2] w'' < m [a0, a1, a2] w') w'
def J4 (y : Value → Value → Value → Value → WP) (x : (Value → Value → Value → Value → WP) → WP) : WP := fun w => ∀ K : List Value → WP, (∀ a0 a1 a2 a3, ∀ w', (∀ _ : Nat → Value, y a0 a1 a2 a3 w') → K [a0, a1, a2, a3] w') → x (fun a0 a1 a2 a3 => K [a0, a1, a2, a3]) w
def L4 (s0 s1 s2 s3 : Value) (body : Value → Value → Value → Value → (Value → Value → Value → Value → WP) → WP) : WP := fun w => ∃ (I : List Value → WP) (m : List Value → World → Nat), I [s0, s1, s2, s3] w ∧ ∀ a0 a1 a2 a3, ∀ w', I [a0, a1, a2, a3] w' → ∀ _ : Nat → Value, body a0 a1 a2 a3 (fun b0 b1 b2 b3 w'' => I [b0, b1, b2, b3] w'' ∧ m [b0, b1, b2, b3] w'' < m [a0, a1, a2, a3] w') w'
def J5 (y : Value → Value → Value → Value → Value → WP) (x : (Value → Value → Value → Value → Value → WP) → WP) : WP := fun w => ∀ K : List Value → WP, (∀ a0 a1 a2 a3 a4, ∀ w', (∀ _ : Nat → Value, y a0 a1 a2 a3 a4 w') → K [a0, a1, a2, a3, a4] w') → x (fun a0 a1 a2 a3 a4 => K [a0, a1, a2, a3, a4]) w
def L5 (s0 s1 s2 s3 s4 : Value) (body : Value → Value → Value → Value → Value → (Value → Value → Value → Value → Value → WP) → WP) : WP := fun w => ∃ (I : List Value → WP) (m : List Value → World → Nat), I [s0, s1, s2, s3, s4] w ∧ ∀ a0 a1 a2 a3 a4, ∀ w', I [a0, a1, a2, a3, a4] w' → ∀ _ : Nat → Value, body a0 a1 a2 a3 a4 (fun b0 b1 b2 b3 b4 w'' => I [b0, b1, b2, b3, b4] w'' ∧ m [b0, b1, b2, b3, b4] w'' < m [a0, a1, a2, a3, a4] w') w'
def J6 (y : Value → Value → Value → Value → Value → Value → WP) (x : (Value → Value → Value → Value → Value → Value → WP) → WP) : WP := fun w => ∀ K : List Value → WP, (∀ a0 a1 a2 a3 a4 a5, ∀ w', (∀ _ : Nat → Value, y a0 a1 a2 a3 a4 a5 w') → K [a0, a1, a2, a3, a4, a5] w') → x (fun a0 a1 a2 a3 a4 a5 => K [a0, a1, a2, a3, a4, a5]) w
def L6 (s0 s1 s2 s3 s4 s5 : Value) (body : Value → Value → Value → Value → Value → Value → (Value → Value → Value → Value → Value → Value → WP) → WP) : WP := fun w => ∃ (I : List Value → WP) (m : List Value → World → Nat), I [s0, s1, s2, s3, s4, s5] w ∧ ∀ a0 a1 a2 a3 a4 a5, ∀ w', I [a0, a1, a2, a3, a4, a5] w' → ∀ _ : Nat → Value, body a0 a1 a2 a3 a4 a5 (fun b0 b1 b2 b3 b4 b5 w'' => I [b0, b1, b2, b3, b4, b5] w'' ∧ m [b0, b1, b2, b3, b4, b5] w'' < m [a0, a1, a2, a3, a4, a5] w') w'
def J7 (y : Value → Value → Value → Value → Value → Value → Value → WP) (x : (Value → Value → Value → Value → Value → Value → Value → WP) → WP) : WP := fun w => ∀ K : List Value → WP, (∀ a0 a1 a2 a3 a4 a5 a6, ∀ w', (∀ _ : Nat → Value, y a0 a1 a2 a3 a4 a5 a6 w') → K [a0, a1, a2, a3, a4, a5, a6] w') → x (fun a0 a1 a2 a3 a4 a5 a6 => K [a0, a1, a2, a3, a4, a5, a6]) w
def L7 (s0 s1 s2 s3 s4 s5 s6 : Value) (body : Value → Value → Value → Value → Value → Value → Value → (Value → Value → Value → Value → Value → Value → Value → WP) → WP) : WP := fun w => ∃ (I : List Value → WP) (m : List Value → World → Nat), I [s0, s1, s2, s3, s4, s5, s6] w ∧ ∀ a0 a1 a2 a3 a4 a5 a6, ∀ w', I [a0, a1, a2, a3, a4, a5, a6] w' → ∀ _ : Nat → Value, body a0 a1 a2 a3 a4 a5 a6 (fun b0 b1 b2 b3 b4 b5 b6 w'' => I [b0, b1, b2, b3, b4, b5, b6] w'' ∧ m [b0, b1, b2, b3, b4, b5, b6] w'' < m [a0, a1, a2, a3, a4, a5, a6] w') w'
def J8 (y : Value → Value → Value → Value → Value → Value → Value → Value → WP) (x : (Value → Value → Value → Value → Value → Value → Value → Value → WP) → WP) : WP := fun w => ∀ K : List Value → WP, (∀ a0 a1 a2 a3 a4 a5 a6 a7, ∀ w', (∀ _ : Nat → Value, y a0 a1 a2 a3 a4 a5 a6 a7 w') → K [a0, a1, a2, a3, a4, a5, a6, a7] w') → x (fun a0 a1 a2 a3 a4 a5 a6 a7 => K [a0, a1, a2, a3, a4, a5, a6, a7]) w
def L8 (s0 s1 s2 s3 s4 s5 s6 s7 : Value) (body : Value → Value → Value → Value → Value → Value → Value → Value → (Value → Value → Value → Value → Value → Value → Value → Value → WP) → WP) : WP := fun w => ∃ (I : List Value → WP) (m : List Value → World → Nat), I [s0, s1, s2, s3, s4, s5, s6, s7] w ∧ ∀ a0 a1 a2 a3 a4 a5 a6 a7, ∀ w', I [a0, a1, a2, a3, a4, a5, a6, a7] w' → ∀ _ : Nat → Value, body a0 a1 a2 a3 a4 a5 a6 a7 (fun b0 b1 b2 b3 b4 b5 b6 b7 w'' => I [b0, b1, b2, b3, b4, b5, b6, b7] w'' ∧ m [b0, b1, b2, b3, b4, b5, b6, b7] w'' < m [a0, a1, a2, a3, a4, a5, a6, a7] w') w'
def J9 (y : Value → Value → Value → Value → Value → Value → Value → Value → Value → WP) (x : (Value → Value → Value → Value → Value → Value → Value → Value → Value → WP) → WP) : WP := fun w => ∀ K : List Value → WP, (∀ a0 a1 a2 a3 a4 a5 a6 a7 a8, ∀ w', (∀ _ : Nat → Value, y a0 a1 a2 a3 a4 a5 a6 a7 a8 w') → K [a0, a1, a2, a3, a4, a5, a6, a7, a8] w') → x (fun a0 a1 a2 a3 a4 a5 a6 a7 a8 => K [a0, a1, a2, a3, a4, a5, a6, a7, a8]) w
def L9 (s0 s1 s2 s3 s4 s5 s6 s7 s8 : Value) (body : Value → Value → Value → Value → Value → Value → Value → Value → Value → (Value → Value → Value → Value → Value → Value → Value → Value → Value → WP) → WP) : WP := fun w => ∃ (I : List Value → WP) (m : List Value → World → Nat), I [s0, s1, s2, s3, s4, s5, s6, s7, s8] w ∧ ∀ a0 a1 a2 a3 a4 a5 a6 a7 a8, ∀ w', I [a0, a1, a2, a3, a4, a5, a6, a7, a8] w' → ∀ _ : Nat → Value, body a0 a1 a2 a3 a4 a5 a6 a7 a8 (fun b0 b1 b2 b3 b4 b5 b6 b7 b8 w'' => I [b0, b1, b2, b3, b4, b5, b6, b7, b8] w'' ∧ m [b0, b1, b2, b3, b4, b5, b6, b7, b8] w'' < m [a0, a1, a2, a3, a4, a5, a6, a7, a8] w') w'
def J10 (y : Value → Value → Value → Value → Value → Value → Value → Value → Value → Value → WP) (x : (Value → Value → Value → Value → Value → Value → Value → Value → Value → Value → WP) → WP) : WP := fun w => ∀ K : List Value → WP, (∀ a0 a1 a2 a3 a4 a5 a6 a7 a8 a9, ∀ w', (∀ _ : Nat → Value, y a0 a1 a2 a3 a4 a5 a6 a7 a8 a9 w') → K [a0, a1, a2, a3, a4, a5, a6, a7, a8, a9] w') → x (fun a0 a1 a2 a3 a4 a5 a6 a7 a8 a9 => K [a0, a1, a2, a3, a4, a5, a6, a7, a8, a9]) w
def L10 (s0 s1 s2 s3 s4 s5 s6 s7 s8 s9 : Value) (body : Value → Value → Value → Value → Value → Value → Value → Value → Value → Value → (Value → Value → Value → Value → Value → Value → Value → Value → Value → Value → WP) → WP) : WP := fun w => ∃ (I : List Value → WP) (m : List Value → World → Nat), I [s0, s1, s2, s3, s4, s5, s6, s7, s8, s9] w ∧ ∀ a0 a1 a2 a3 a4 a5 a6 a7 a8 a9, ∀ w', I [a0, a1, a2, a3, a4, a5, a6, a7, a8, a9] w' → ∀ _ : Nat → Value, body a0 a1 a2 a3 a4 a5 a6 a7 a8 a9 (fun b0 b1 b2 b3 b4 b5 b6 b7 b8 b9 w'' => I [b0, b1, b2, b3, b4, b5, b6, b7, b8, b9] w'' ∧ m [b0, b1, b2, b3, b4, b5, b6, b7, b8, b9] w'' < m [a0, a1, a2, a3, a4, a5, a6, a7, a8, a9] w') w'
def J11 (y : Value → Value → Value → Value → Value → Value → Value → Value → Value → Value → Value → WP) (x : (Value → Value → Value → Value → Value → Value → Value → Value → Value → Value → Value → WP) → WP) : WP := fun w => ∀ K : List Value → WP, (∀ a0 a1 a2 a3 a4 a5 a6 a7 a8 a9 a10, ∀ w', (∀ _ : Nat → Value, y a0 a1 a2 a3 a4 a5 a6 a7 a8 a9 a10 w') → K [a0, a1, a2, a3, a4, a5, a6, a7, a8, a9, a10] w') → x (fun a0 a1 a2 a3 a4 a5 a6 a7 a8 a9 a10 => K [a0, a1, a2, a3, a4, a5, a6, a7, a8, a9, a10]) w
def L11 (s0 s1 s2 s3 s4 s5 s6 s7 s8 s9 s10 : Value) (body : Value → Value → Value → Value → Value → Value → Value → Value → Value → Value → Value → (Value → Value → Value → Value → Value → Value → Value → Value → Value → Value → Value → WP) → WP) : WP := fun w => ∃ (I : List Value → WP) (m : List Value → World → Nat), I [s0, s1, s2, s3, s4, s5, s6, s7, s8, s9, s10] w ∧ ∀ a0 a1 a2 a3 a4 a5 a6 a7 a8 a9 a10, ∀ w', I [a0, a1, a2, a3, a4, a5, a6, a7, a8, a9, a10] w' → ∀ _ : Nat → Value, body a0 a1 a2 a3 a4 a5 a6 a7 a8 a9 a10 (fun b0 b1 b2 b3 b4 b5 b6 b7 b8 b9 b10 w'' => I [b0, b1, b2, b3, b4, b5, b6, b7, b8, b9, b10] w'' ∧ m [b0, b1, b2, b3, b4, b5, b6, b7, b8, b9, b10] w'' < m [a0, a1, a2, a3, a4, a5, a6, a7, a8, a9, a10] w') w'
def J12 (y : Value → Value → Value → Value → Value → Value → Value → Value → Value → Value → Value → Value → WP) (x : (Value → Value → Value → Value → Value → Value → Value → Value → Value → Value → Value → Value → WP) → WP) : WP := fun w => ∀ K : List Value → WP, (∀ a0 a1 a2 a3 a4 a5 a6 a7 a8 a9 a10 a11, ∀ w', (∀ _ : Nat → Value, y a0 a1 a2 a3 a4 a5 a6 a7 a8 a9 a10 a11 w') → K [a0, a1, a2, a3, a4, a5, a6, a7, a8, a9, a10, a11] w') → x (fun a0 a1 a2 a3 a4 a5 a6 a7 a8 a9 a10 a11 => K [a0, a1, a2, a3, a4, a5, a6, a7, a8, a9, a10, a11]) w
def L12 (s0 s1 s2 s3 s4 s5 s6 s7 s8 s9 s10 s11 : Value) (body : Value → Value → Value → Value → Value → Value → Value → Value → Value → Value → Value → Value → (Value → Value → Value → Value → Value → Value → Value → Value → Value → Value → Value → Value → WP) → WP) : WP := fun w => ∃ (I : List Value → WP) (m : List Value → World → Nat), I [s0, s1, s2, s3, s4, s5, s6, s7, s8, s9, s10, s11] w ∧ ∀ a0 a1 a2 a3 a4 a5 a6 a7 a8 a9 a10 a11, ∀ w', I [a0, a1, a2, a3, a4, a5, a6, a7, a8, a9, a10, a11] w' → ∀ _ : Nat → Value, body a0 a1 a2 a3 a4 a5 a6 a7 a8 a9 a10 a11 (fun b0 b1 b2 b3 b4 b5 b6 b7 b8 b9 b10 b11 w'' => I [b0, b1, b2, b3, b4, b5, b6, b7, b8, b9, b10, b11] w'' ∧ m [b0, b1, b2, b3, b4, b5, b6, b7, b8, b9, b10, b11] w'' < m [a0, a1, a2, a3, a4, a5, a6, a7, a8, a9, a10, a11] w') w'

inductive Plan where
  | fin
  | ev (l r : List Nat) (rest : Plan)
  | hv (h : Nat) (rest : Plan)
  | fork (p q : Plan)
inductive Hint where
  | n
  | s (cut : Option (List Nat)) (a b : Hint)
  | c (a b : Hint)
  | bl (a : Hint)
  | lp (live : List Nat) (a : Hint)
  | rg (p : Plan) (anc : List (List Nat))

def evl (env : Array Value) : Operand → Value
  | .tmp t => env.getD t undef
  | .const v => v
  | .global g => .pointer (some ⟨g, 0, none⟩)
  | .func f => .func (.func f) #[] #[]
def put (env : Array Value) (d : Option Nat) (v : Value) : Array Value :=
  match d with
  | some d => env.setIfInBounds d v
  | none => env
/-- The slots that a code writes. -/
def mods : Code → List Nat
  | .region _ ops _ => ops.toList.filterMap fun o => o.dst
  | .seq a b => mods a ++ mods b
  | .cond _ a b => mods a ++ mods b
  | .block _ a => mods a
  | .loop a => mods a
  | _ => []
def junked (env : Array Value) (m : List Nat) (j : Nat → Value) : Array Value := m.foldl (fun e t => e.setIfInBounds t (j t)) env
def overs (env : Array Value) : List Nat → List Value → Array Value
  | t :: l, v :: vs => overs (env.setIfInBounds t v) l vs
  | _, _ => env
def gets (env : Array Value) (l : List Nat) : List Value := l.map fun t => env.getD t undef

/-! ### Operations in a form that the kernel computes -/
def S.callV (f : Value) (args : List Value) : Sem Next := do
  let d ← Deferred.ofValue f args.toArray
  Go.invoke d.target d.args
def S.invoke (r : Value) (m : String) (args : List Value) : Sem Next := Go.invoke (.fn (.method m) #[]) (r :: args).toArray
def S.bi (b : Builtin) (ts : Array TypeId) (ty : TypeId) (cs : List Bool) (args : List Value) : Sem Next := Go.invoke (.builtin b ts ty cs.toArray) args.toArray
def S.build (t : TypeId) (parts : List (Nat × Value)) : Sem Next := do pure (.value (← Instr.build t parts.toArray))
def S.bslice (t : TypeId) (n : Nat) (parts : List (Nat × Value)) : Sem Next := do pure (.value (← Instr.buildSlice t n parts.toArray))
def S.mkF (fn : Fn) (first captured : List Value) : Sem Next := do pure (.value (← Instr.makeFunc fn first.toArray captured.toArray))
def vv (s : Sem Value) : Sem Next := do pure (.value (← s))
def uu (s : Sem Unit) : Sem Next := do s; pure .skip
def S.mv (x : Value) : Sem Next := pure (.value x)
def S.pick (c a b : Value) : Sem Next := do pure (.value (if ← asBool c then a else b))
def S.alloc (e : TypeId) : Sem Next := vv (Instr.alloc e true (.tuple #[]))
def S.box (e : TypeId) (x : Value) : Sem Next := vv (Instr.box e x)
def S.load (t : TypeId) (a : Value) : Sem Next := vv (Instr.loadAt t a)
def S.store (t : TypeId) (a x : Value) : Sem Next := uu (Instr.storeAt t a x)
def S.nilc (x : Value) : Sem Next := execOp (fun _ => x) ⟨none, .nilCheck (.tmp 0), 0, "", #[], none⟩
def S.bin (op : BinOp) (t : TypeId) (ox oy : Operand) (x y : Value) : Sem Next := vv (do eqGuard op t ox oy x y; binOp op t x y)
def S.un (op : UnOp) (x : Value) : Sem Next := vv (Op.unary op x)
def S.conv (s d : TypeId) (x : Value) : Sem Next := vv (convert s d x)
def S.mkI (t : TypeId) (x : Value) : Sem Next := vv (Instr.makeInterface t x)
def S.mkMap (t : TypeId) (r : Option Value) : Sem Next := vv (Instr.makeMap t r)
def S.mkSl (t : TypeId) (l c : Value) : Sem Next := vv (Instr.makeSlice t l c)
def S.sl (t : TypeId) (x : Value) (lo hi mx : Option Value) : Sem Next := vv (Instr.sliceAt t x lo hi mx)
def S.fa (t : TypeId) (x : Value) (f : Nat) : Sem Next := vv (Instr.fieldAt t x f)
def S.fld (t : TypeId) (x : Value) (f : Nat) : Sem Next := vv (Instr.field t x f)
def S.ia (t : TypeId) (x i : Value) : Sem Next := vv (Instr.indexAt t x i)
def S.idx (t : TypeId) (x i : Value) : Sem Next := vv (Instr.index t x i)
def S.lk (t : TypeId) (x i : Value) (ok : Bool) : Sem Next := vv (Instr.lookup t x i ok)
def S.mu (t : TypeId) (m k x : Value) : Sem Next := uu (Instr.mapUpdate t m k x)
def S.me (t : TypeId) (m k : Value) : Sem Next := vv (Instr.mapEntry t m k)
def S.es (t : TypeId) (m s x : Value) : Sem Next := uu (Instr.entryStore t m s x)
def S.rng (t : TypeId) (x : Value) : Sem Next := vv (Instr.range t x)
def S.nxt (it : Value) (isStr : Bool) (ty : TypeId) : Sem Next := vv (Instr.next it isStr ty)
def S.ta (x : Value) (xt at_ : TypeId) (ok : Bool) : Sem Next := vv (Instr.typeAssert x xt at_ ok)
def S.ext (t : Value) (i : Nat) : Sem Next := vv (Instr.extract t i)
def S.pan (x : Value) : Sem Next := vv (Instr.panic x)
def isC : Operand → Bool
  | .const _ => true
  | _ => false
def xop (ρ : Operand → Value) (o : Oper) : Sem Next :=
  match o.op with
  | .call c => match c.callee with
    | .value f => S.callV (ρ f) (c.args.toList.map ρ)
    | .invoke r m => S.invoke (ρ r) m (c.args.toList.map ρ)
    | .builtin b => S.bi b c.argTypes o.type (c.args.toList.map isC) (c.args.toList.map ρ)
  | .build t ps => S.build t (ps.toList.map fun p => (p.1, ρ p.2))
  | .buildSlice t n ps => S.bslice t n (ps.toList.map fun p => (p.1, ρ p.2))
  | .makeFunc fn a b => S.mkF fn (a.toList.map ρ) (b.toList.map ρ)
  | _ => execOp ρ o
theorem toA {α β : Type} (l : Array α) (f : α → β) : (l.toList.map f).toArray = l.map f := by rw [← Array.toList_map]
theorem xop_eq (ρ : Operand → Value) (o : Oper) : xop ρ o = execOp ρ o := by
  obtain ⟨dst, op, type, pos, after, guard⟩ := o
  cases op <;> try rfl
  case call c =>
    obtain ⟨callee, args, ts⟩ := c
    cases callee with
    | value f => simp only [xop, execOp, S.callV, resolve, toA]
    | invoke r m =>
      simp only [xop, execOp, S.invoke, resolve]
      have : (ρ r :: args.toList.map ρ).toArray = #[ρ r] ++ args.map ρ := by rw [← toA]; simp
      rw [this]
      rfl
    | builtin b =>
      simp only [xop, execOp, S.bi, resolve, toA]
      have : isC = (fun x : Operand => match x with | .const _ => true | _ => false) := funext fun x => by cases x <;> rfl
      rw [this]
      rfl
  case build t ps => simp only [xop, execOp, S.build, toA]
  case buildSlice t n ps => simp only [xop, execOp, S.bslice, toA]
  case makeFunc fn a b => simp only [xop, execOp, S.mkF, toA]

def gslot (ops : List Oper) (j : Nat) (env : Array Value) : Value := match (ops[j]?).bind (·.dst) with
  | some d => env.getD d undef
  | none => undef
/-- The operations of a region in the text's order. -/
def denOps (P : Program) (Pn : PK) (all : List Oper) : List Oper → Kont → Kont
  | [], K, env => K env
  | o :: r, K, env => match o.guard with
    | none => op P Pn (xop (evl env) o) fun v => denOps P Pn all r K (put env o.dst v)
    | some (j, want) => gop P Pn (gslot all j env) want (xop (evl env) o) fun v => denOps P Pn all r K (put env o.dst v)
def denL (P : Program) (all : List Oper) : List Nat → Kont → Kont
  | [], K, env => K env
  | i :: r, K, env => match all[i]? with
    | none => fun _ => False
    | some o => match o.guard with
      | none => lt P (xop (evl env) o) fun v => denL P all r K (put env o.dst v)
      | some (j, want) => glt P (gslot all j env) want (xop (evl env) o) fun v => denL P all r K (put env o.dst v)
def denR (P : Program) (all : List Oper) : List Nat → WP → Array Value → WP
  | [], K, _ => K
  | i :: r, K, env => match all[i]? with
    | none => fun _ => False
    | some o => match o.dst with
      | none => fun _ => False
      | some d => match o.guard with
        | none => rc P (xop (evl env) o) (env.getD d undef) (denR P all r K env)
        | some (j, want) => grc P (gslot all j env) want (xop (evl env) o) (env.getD d undef) (denR P all r K env)
def denP (P : Program) (Pn : PK) (all : List Oper) : Plan → Kont → Kont
  | .fin, K, env => K env
  | .ev l r rest, K, env => denL P all l (fun env => denR P all r (denP P Pn all rest K env) env) env
  | .hv h rest, K, env => match all[h]? with
    | none => fun _ => False
    | some o => match o.guard with
      | none => op P Pn (xop (evl env) o) fun v => denP P Pn all rest K (put env o.dst v)
      | some (j, want) => gop P Pn (gslot all j env) want (xop (evl env) o) fun v => denP P Pn all rest K (put env o.dst v)
  | .fork p q, K, env => also (denP P Pn all p K env) (denP P Pn all q K env)

def den (P : Program) (Pn : PK) (R : Kont) : Code → Hint → (Nat → Kont) → Kont → Kont
  | .skip, _, _, N, env => N env
  | .region _ ops false, _, _, N, env => denOps P Pn ops.toList ops.toList N env
  | .region _ ops true, h, _, N, env => match h with
    | .rg p _ => drawn (denP P Pn ops.toList p N env)
    | _ => fun _ => False
  | .seq a b, h, X, N, env => match h with
    | .s none ha hb => den P Pn R a ha X (fun env => den P Pn R b hb X N env) env
    | .s (some l) ha hb => join (fun vs w => ∀ j : Nat → Value, den P Pn R b hb X N (overs (junked env (mods a) j) l vs) w) l.length (fun K => den P Pn R a ha X (fun env' => K (gets env' l)) env)
    | _ => fun _ => False
  | .cond c a b, h, X, N, env => match h with
    | .c ha hb => ite' (evl env c) (den P Pn R a ha X N env) (den P Pn R b hb X N env)
    | _ => fun _ => False
  | .block id a, h, X, N, env => match h with
    | .bl ha => den P Pn R a ha (fun i => if i = id then N else X i) N env
    | _ => fun _ => False
  | .loop a, h, X, _, env => match h with
    | .lp l ha => loop l.length (gets env l) (fun vs K w => ∀ j : Nat → Value, den P Pn R a ha X (fun env' => K (gets env' l)) (overs (junked env (mods a) j) l vs) w)
    | _ => fun _ => False
  | .exit id, _, X, _, env => X id env
  | .ret, _, _, _, env => R env
  | _, _, _, _, _ => fun _ => False

/-! ### The formula is enough -/
section
variable {P : Program} {Pn : PK}
def Same (M : List Nat) (e e' : Array Value) : Prop := e'.size = e.size ∧ ∀ t, t ∉ M → e'[t]? = e[t]?
theorem Same.refl (M : List Nat) (e : Array Value) : Same M e e := ⟨rfl, fun _ _ => rfl⟩
theorem Same.trans {M M' : List Nat} {e e' e'' : Array Value} (h : Same M e e') (h' : Same M' e' e'') : Same (M ++ M') e e'' :=
  ⟨h'.1.trans h.1, fun t ht => by
    simp only [List.mem_append, not_or] at ht
    exact (h'.2 t ht.2).trans (h.2 t ht.1)⟩
theorem Same.mono {M M' : List Nat} {e e' : Array Value} (h : Same M e e') (hs : ∀ t, t ∈ M → t ∈ M') : Same M' e e' := ⟨h.1, fun t ht => h.2 t fun hm => ht (hs t hm)⟩
theorem Same.put (e : Array Value) (d : Option Nat) (v : Value) (M : List Nat) (hd : ∀ t, d = some t → t ∈ M) : Same M e (put e d v) := by
  cases d with
  | none => exact Same.refl _ _
  | some d =>
    refine ⟨by simp [Lt.put], fun t ht => ?_⟩
    have : d ≠ t := fun he => ht (he ▸ hd d rfl)
    simp [Lt.put, Array.getElem?_setIfInBounds_ne this]
theorem evl_eq (env : Array Value) : (Act.mk env []).eval = evl env := funext fun x => by cases x <;> rfl
theorem put_eq (env : Array Value) (d : Option Nat) (v : Value) : (Act.mk env []).put d v = Act.mk (put env d v) [] := by cases d <;> rfl
theorem wp_of_op {o : Oper} {env : Array Value} {Q : Exit → Act → World → Prop} {N : Act → World → Prop} {K : Value → WP} {w : World} (hP : ∀ ch w', Pn ch w' → Q (.panic ch) ⟨env, []⟩ w')
    (hK : ∀ v w', K v w' → N ⟨put env o.dst v, []⟩ w') (h : op P Pn (execOp (evl env) o) K w) : o.wp P ⟨env, []⟩ w N Q := by
  unfold Oper.wp
  rw [evl_eq]
  unfold op at h
  generalize (execOp (evl env) o).run P w = r at h
  cases r with
  | ok n w' =>
    cases n with
    | value v => show N _ _; rw [put_eq]; exact hK _ _ h
    | skip => show N _ _; rw [put_eq]; exact hK _ _ h
    | enter f args =>
      refine Calls.mono h fun e w'' he => ?_
      cases e with
      | returned v => show N _ _; rw [put_eq]; exact hK _ _ he
      | panicked ch => exact hP _ _ he
      | outgrown => exact he.elim
    | _ => exact h.elim
  | halt x w' =>
    cases x with
    | panic v => exact hP _ _ h
    | _ => exact h.elim
theorem yielded_gb (ops : List Oper) (j : Nat) (env : Array Value) : yielded ops.toArray env j = gb (gslot ops j env) := by
  unfold gslot
  unfold yielded
  simp only [List.getElem?_toArray]
  cases hd : (ops[j]?).bind (·.dst) with
  | none => rfl
  | some d =>
    simp only [Option.bind_some]
    cases he : env[d]? with
    | none => simp [Array.getD_eq_getD_getElem?, he, gb, undef]
    | some v =>
      simp only [Array.getD_eq_getD_getElem?, he, Option.getD_some]
      cases v <;> rfl
theorem denOps_wp {all : List Oper} {Q : Exit → Act → World → Prop} {N : Kont} {env0 : Array Value} {M : List Nat} (hP : ∀ ch a w', a.defers = [] → Pn ch w' → Q (.panic ch) a w')
    (hN : ∀ e w', Same M env0 e → N e w' → Q .normal ⟨e, []⟩ w') : ∀ (l : List Oper) (env : Array Value) (w : World), (∀ o ∈ l, ∀ t, o.dst = some t → t ∈ M) → Same M env0 env →
      denOps P Pn all l N env w → wpList P all.toArray Q l ⟨env, []⟩ w
  | [], env, w, _, hs, h => hN _ _ hs h
  | o :: r, env, w, hm, hs, h => by
    have hput : ∀ v, Same M env0 (put env o.dst v) := fun v => ((hs.trans (Same.put env o.dst v M (hm o List.mem_cons_self))).mono (by simp))
    have rest : ∀ v w', denOps P Pn all r N (put env o.dst v) w' → wpList P all.toArray Q r ⟨put env o.dst v, []⟩ w' := fun v w' h' =>
      denOps_wp hP hN r _ _ (fun o' ho' => hm o' (List.mem_cons_of_mem _ ho')) (hput v) h'
    refine wpList_step fun K hK => ?_
    simp only [denOps, xop_eq] at h
    cases hg : o.guard with
    | none =>
      rw [hg] at h
      simp only [Region.wanted, hg, if_true]
      exact wp_of_op (fun ch w' hp => hP _ _ _ rfl hp) (fun v w' h' => hK _ _ (rest v w' h')) h
    | some g =>
      obtain ⟨j, want⟩ := g
      rw [hg] at h
      simp only [gop] at h
      simp only [Region.wanted, hg, yielded_gb]
      by_cases hbw : gb (gslot all j env) = some want
      · rw [if_pos hbw] at h
        rw [hbw]
        simp only [beq_self_eq_true, if_true]
        exact wp_of_op (fun ch w' hp => hP _ _ _ rfl hp) (fun v w' h' => hK _ _ (rest v w' h')) h
      · rw [if_neg hbw] at h
        have : (gb (gslot all j env) == some want) = false := by simp [hbw]
        rw [this]
        simp only [Bool.false_eq_true, if_false, put_eq]
        exact hK _ _ (rest _ _ h)

/-! ### Regions that draw -/
def needs (o : Oper) : List Nat := (o.after.toList.filter (fun e => Region.binds .any e)).map (fun e => e.on)
def needsAt (ops : List Oper) (i : Nat) : List Nat := match ops[i]? with | some o => needs o | none => []
def ancs (ops : List Oper) : Nat → Nat → List Nat
  | 0, _ => []
  | f + 1, i => (needsAt ops i).flatMap fun j => j :: ancs ops f j
def dstAt (ops : List Oper) (i : Nat) : Option Nat := (ops[i]?).bind (·.dst)
def looksAt (ops : List Oper) (i : Nat) : List Nat := match ops[i]? with | some o => o.looksAt ops.toArray | none => []
def heavies : Plan → List Nat
  | .fin => []
  | .ev _ _ p => heavies p
  | .hv h p => h :: heavies p
  | .fork p q => heavies p ++ heavies q
def branches : Plan → List Nat
  | .hv h _ => [h]
  | .fork p q => branches p ++ branches q
  | _ => []
def subset (a b : List Nat) : Bool := a.all fun x => b.contains x
/-- The table of ancestors is right enough: what it lists is listed by need. -/
def ancOk (ops : List Oper) (A : List (List Nat)) : Bool := A.length == ops.length && (List.range ops.length).all fun i => (A.getD i []).all fun j => (needsAt ops i).any fun k => k == j || (A.getD k []).contains j
def frameOk (ops : List Oper) (A : List (List Nat)) (hv : List Nat) : Bool :=
  (List.range ops.length).all fun i => ((needsAt ops i).all (fun j => decide (j < i)) && (match dstAt ops i with | some d => !(looksAt ops i).contains d | none => true)) &&
    (List.range ops.length).all fun j => i == j || (match dstAt ops j with
      | none => true
      | some d => !(dstAt ops i == some d) && (!(looksAt ops i).contains d || (A.getD i []).contains j || ((A.getD j []).contains i && hv.contains j)))
def evOk (nt : Nat) (ops : List Oper) (hv : List Nat) : List Nat → List Nat → Bool
  | _, [] => true
  | E, i :: r => decide (i < ops.length) && !hv.contains i && !E.contains i && (match dstAt ops i with | some d => !(looksAt ops i).contains d && decide (d < nt) | none => false) && subset (needsAt ops i) E && evOk nt ops hv (i :: E) r
def stab (ops : List Oper) (hv : List Nat) (E S F : List Nat) (p : Plan) : Bool :=
  (List.range ops.length).all fun i =>
    if E.contains i then hv.contains i || F.contains i || S.contains i
    else if hv.contains i then !(subset (needsAt ops i) E) || (branches p).contains i
    else !(subset (needsAt ops i) E)
/-- 'c': at a stage's begin. -/
def chk (nt : Nat) (ops : List Oper) (A : List (List Nat)) (hv : List Nat) : Plan → Bool → List Nat → List Nat → List Nat → Bool
  | .ev l r p, true, E, S, F => evOk nt ops hv E l && subset r (l ++ E) && r.all (fun i => !hv.contains i && decide (i < ops.length)) && chk nt ops A hv p true (l.reverse ++ E) S (l ++ r ++ F)
  | .ev _ _ _, false, _, _, _ => false
  | .fin, st, E, S, F => (!st || stab ops hv E S F .fin) && (List.range ops.length).all fun i => E.contains i
  | .hv h p, st, E, S, F => (!st || stab ops hv E S F (.hv h p)) && decide (h < ops.length) && hv.contains h && !E.contains h && subset (needsAt ops h) E && chk nt ops A hv p true (h :: E) (A.getD h [] ++ S) []
  | .fork p q, st, E, S, F => (!st || stab ops hv E S F (.fork p q)) && chk nt ops A hv p false E S F && chk nt ops A hv q false E S F
def okPlan (nt : Nat) (ops : List Oper) (A : List (List Nat)) (p : Plan) : Bool := Region.noSelect ops.toArray && ancOk ops A && frameOk ops A (heavies p) && chk nt ops A (heavies p) p true [] [] []

theorem subset_mem {a b : List Nat} (h : subset a b = true) : ∀ x ∈ a, x ∈ b := fun x hx => by
  have := List.all_eq_true.1 h x hx
  simpa using this
theorem evl_put {env : Array Value} {d : Option Nat} {v : Value} {x : Operand} (h : ∀ t, d = some t → x ≠ .tmp t) : evl (put env d v) x = evl env x := by
  have := Act.eval_put (a := ⟨env, []⟩) (dst := d) (v := v) (x := x) h
  rw [put_eq] at this
  rw [evl_eq, evl_eq] at this
  exact this
/-- What a light operation yields, in a frame and a world. -/
def Valid (P : Program) (ops : List Oper) (i : Nat) (c : Array Value) (w : World) : Prop := ∃ o d, ops[i]? = some o ∧ o.dst = some d ∧ match o.guard with
  | none => (execOp (evl c) o).run P w = .ok (.value (c.getD d undef)) w
  | some (j, want) => if gb (gslot ops j c) = some want then (execOp (evl c) o).run P w = .ok (.value (c.getD d undef)) w else c.getD d undef = undef
theorem looks_operand {ops : List Oper} {o : Oper} {t : Nat} (h : Operand.tmp t ∈ o.op.operands) : t ∈ o.looksAt ops.toArray := by
  unfold Oper.looksAt
  refine List.mem_append.2 (.inl (List.mem_filterMap.2 ⟨.tmp t, by simpa using h, rfl⟩))
theorem looks_guard {ops : List Oper} {o : Oper} {j d : Nat} {b : Bool} (h : o.guard = some (j, b)) (hd : (ops[j]?).bind (·.dst) = some d) : d ∈ o.looksAt ops.toArray := by
  unfold Oper.looksAt
  refine List.mem_append.2 (.inr ?_)
  rw [h]
  simp [hd]
/-- Two frames that agree on what an operation looks at. -/
def Agree (ops : List Oper) (o : Oper) (c c' : Array Value) : Prop := ∀ t ∈ o.looksAt ops.toArray, c'[t]? = c[t]?
theorem getD_of {c c' : Array Value} {t : Nat} (h : c'[t]? = c[t]?) : c'.getD t undef = c.getD t undef := by simp [Array.getD_eq_getD_getElem?, h]
theorem Agree.exec {ops : List Oper} {o : Oper} {c c' : Array Value} (hs : ∀ cs b, o.op ≠ .select cs b) (h : Agree ops o c c') : execOp (evl c') o = execOp (evl c) o :=
  execOp_congr o hs fun x hx => by
    cases x with
    | tmp t => exact getD_of (h t (looks_operand hx))
    | _ => rfl
theorem Agree.gslot {ops : List Oper} {o : Oper} {c c' : Array Value} {j : Nat} {b : Bool} (hg : o.guard = some (j, b)) (h : Agree ops o c c') : gslot ops j c' = gslot ops j c := by
  unfold Lt.gslot
  cases hd : (ops[j]?).bind (·.dst) with
  | none => rfl
  | some d => exact getD_of (h d (looks_guard hg hd))
theorem Agree.wanted {ops : List Oper} {o : Oper} {c c' : Array Value} (h : Agree ops o c c') : Region.wanted o (yielded ops.toArray c') = Region.wanted o (yielded ops.toArray c) := by
  unfold Region.wanted
  cases hg : o.guard with
  | none => rfl
  | some g =>
    obtain ⟨j, b⟩ := g
    simp only
    have : yielded ops.toArray c' j = yielded ops.toArray c j := by
      unfold yielded
      simp only [List.getElem?_toArray]
      cases hd : (ops[j]?).bind (·.dst) with
      | none => rfl
      | some d => simp only [Option.bind_some, h d (looks_guard hg hd)]
    rw [this]
theorem Valid.agree {ops : List Oper} {i : Nat} {c c' : Array Value} {w : World} (hs : Region.noSelect ops.toArray = true) (h : Valid P ops i c w) (ha : ∀ o, ops[i]? = some o → Agree ops o c c') (hd : ∀ d, dstAt ops i = some d → c'[d]? = c[d]?) : Valid P ops i c' w := by
  obtain ⟨o, d, ho, hdst, h⟩ := h
  have hsel : ∀ cs b, o.op ≠ .select cs b := fun cs b => Region.noSelect_spec hs i o cs b (by simpa using ho)
  have hA := ha o ho
  have hdd : c'.getD d undef = c.getD d undef := getD_of (hd d (by simp [dstAt, ho, hdst]))
  refine ⟨o, d, ho, hdst, ?_⟩
  cases hg : o.guard with
  | none =>
    rw [hg] at h
    simp only at h ⊢
    rw [hA.exec hsel, hdd]
    exact h
  | some g =>
    obtain ⟨j, want⟩ := g
    rw [hg] at h
    simp only at h ⊢
    rw [hA.gslot hg, hA.exec hsel, hdd]
    exact h

section
variable {ops : List Oper} {A : List (List Nat)} {hv : List Nat} {nt : Nat}
theorem anc_listed {D : Nat → Prop} (hA : ancOk ops A = true) (hlt : ∀ i, ∀ j ∈ needsAt ops i, j < i) (hcl : ∀ i, D i → ∀ j ∈ needsAt ops i, D j) : ∀ i, i < ops.length → (∀ j ∈ needsAt ops i, D j) → ∀ j ∈ A.getD i [], D j := by
  intro i
  induction i using Nat.strongRecOn with
  | _ i ih =>
    intro hi hn j hj
    unfold ancOk at hA
    rw [Bool.and_eq_true] at hA
    have h1 := List.all_eq_true.1 hA.2 i (List.mem_range.2 hi)
    have h2 := List.all_eq_true.1 h1 j hj
    obtain ⟨k, hk, h3⟩ := List.any_eq_true.1 h2
    rw [Bool.or_eq_true] at h3
    rcases h3 with h3 | h3
    · have : k = j := by simpa using h3
      exact this ▸ hn k hk
    · have hki := hlt i k hk
      exact ih k hki (by omega) (hcl k (hn k hk)) j (by simpa using h3)
/-- What a checked frame says of two operations. -/
theorem frame_spec (hF : frameOk ops A hv = true) : (∀ i, ∀ j ∈ needsAt ops i, j < i) ∧ ∀ i j d, i < ops.length → j < ops.length → i ≠ j → dstAt ops j = some d → dstAt ops i ≠ some d ∧ (d ∉ looksAt ops i ∨ j ∈ A.getD i [] ∨ (i ∈ A.getD j [] ∧ j ∈ hv)) := by
  unfold frameOk at hF
  rw [List.all_eq_true] at hF
  refine ⟨fun i j hj => ?_, fun i j d hi hj hne hd => ?_⟩
  · by_cases hi : i < ops.length
    · have := hF i (List.mem_range.2 hi)
      rw [Bool.and_eq_true, Bool.and_eq_true] at this
      have := List.all_eq_true.1 this.1.1 j hj
      simpa using this
    · have : ops[i]? = none := List.getElem?_eq_none (by omega)
      simp [needsAt, this] at hj
  · have := hF i (List.mem_range.2 hi)
    rw [Bool.and_eq_true] at this
    have h1 := List.all_eq_true.1 this.2 j (List.mem_range.2 hj)
    rw [Bool.or_eq_true] at h1
    rcases h1 with h1 | h1
    · exact absurd (by simpa using h1) hne
    · rw [hd] at h1
      simp only [Bool.and_eq_true, Bool.or_eq_true, Bool.not_eq_true', beq_eq_false_iff_ne, List.contains_iff_mem] at h1
      refine ⟨h1.1, ?_⟩
      rcases h1.2 with (h | h) | h
      · exact .inl (by simpa using h)
      · exact .inr (.inl h)
      · exact .inr (.inr h)
theorem frame_self (hF : frameOk ops A hv = true) (i d : Nat) (hi : i < ops.length) (hd : dstAt ops i = some d) : d ∉ looksAt ops i := by
  unfold frameOk at hF
  have := List.all_eq_true.1 hF i (List.mem_range.2 hi)
  rw [Bool.and_eq_true, Bool.and_eq_true, hd] at this
  simpa using this.1.2
/-- The state of a region under way. -/
structure Inv (P : Program) (ops : List Oper) (A : List (List Nat)) (hv : List Nat) (base : Array Value) (D : Nat → Prop) (a c : Array Value) (E S F : List Nat) (w : World) : Prop where
  closed : ∀ i, D i → ∀ j ∈ needsAt ops i, D j
  closedE : ∀ i, i ∈ E → ∀ j ∈ needsAt ops i, j ∈ E
  DE : ∀ i, D i → i ∈ E
  DL : ∀ i, D i → i < ops.length
  EL : ∀ i, i ∈ E → i < ops.length
  HV : ∀ h, h ∈ hv → h ∈ E → D h
  SD : ∀ i, i ∈ S → D i
  ain : ∀ i d, D i → dstAt ops i = some d → a[d]? = c[d]?
  aout : ∀ t, (∀ i, D i → dstAt ops i ≠ some t) → a[t]? = base[t]?
  cout : ∀ t, (∀ i, i ∈ E → dstAt ops i ≠ some t) → c[t]? = base[t]?
  sa : a.size = base.size
  sc : c.size = base.size
  val : ∀ i, i ∈ F → i ∈ E → Valid P ops i c w
  FE : ∀ i, i ∈ F → i ∈ E
  FH : ∀ i, i ∈ F → i ∉ hv
theorem mem_looks {i : Nat} {o : Oper} (ho : ops[i]? = some o) : looksAt ops i = o.looksAt ops.toArray := by simp [looksAt, ho]
theorem mem_needs {i : Nat} {o : Oper} (ho : ops[i]? = some o) : needsAt ops i = needs o := by simp [needsAt, ho]
/-- An operation that may come next looks at what the canonical frame holds. -/
theorem Inv.agree {base a c : Array Value} {D : Nat → Prop} {E S F : List Nat} {w : World} (I : Inv P ops A hv base D a c E S F w) (hA : ancOk ops A = true) (hF : frameOk ops A hv = true) (i : Nat) (hi : i < ops.length) (hr : ∀ j ∈ needsAt ops i, D j) (hnd : ¬ D i) : ∀ o, ops[i]? = some o → Agree ops o c a := by
  intro o ho t ht
  rw [← mem_looks ho] at ht
  obtain ⟨hlt, hfr⟩ := frame_spec hF
  have hup := anc_listed (D := D) hA hlt I.closed
  by_cases hex : ∃ j, j ∈ E ∧ dstAt ops j = some t
  · obtain ⟨j, hjE, hjd⟩ := hex
    have hjl := I.EL j hjE
    by_cases hij : i = j
    · subst hij
      exact absurd ht (frame_self hF i t hi hjd)
    · obtain ⟨_, h3⟩ := hfr i j t hi hjl hij hjd
      rcases h3 with h3 | h3 | h3
      · exact absurd ht h3
      · exact I.ain j t (hup i hi hr j h3) hjd
      · exfalso
        have hDj := I.HV j h3.2 hjE
        exact hnd (hup j hjl (I.closed j hDj) i h3.1)
  · have hex' : ∀ j, j ∈ E → dstAt ops j ≠ some t := fun j hj hd => hex ⟨j, hj, hd⟩
    rw [I.cout t hex', I.aout t fun j hj => hex' j (I.DE j hj)]
/-- Setting the slot of an operation that is not yet there leaves what the others look at. -/
theorem agree_put {base a c : Array Value} {D : Nat → Prop} {E S F : List Nat} {w : World} (I : Inv P ops A hv base D a c E S F w) (hA : ancOk ops A = true) (hF : frameOk ops A hv = true) {k d : Nat} (hk : k < ops.length) (hkE : k ∉ E) (hkd : dstAt ops k = some d) {i : Nat} (hiE : i ∈ E) (hkv : k ∈ hv → i ∉ A.getD k []) (v : Value) :
    (∀ o, ops[i]? = some o → Agree ops o c (c.setIfInBounds d v)) ∧ ∀ d', dstAt ops i = some d' → (c.setIfInBounds d v)[d']? = c[d']? := by
  obtain ⟨hlt, hfr⟩ := frame_spec hF
  have hne : i ≠ k := fun he => hkE (he ▸ hiE)
  obtain ⟨h1, h2⟩ := hfr i k d (I.EL i hiE) hk hne hkd
  have hup := anc_listed (D := fun x => x ∈ E) hA hlt I.closedE
  refine ⟨fun o ho t ht => ?_, fun d' hd' => ?_⟩
  · rw [← mem_looks ho] at ht
    have : d ≠ t := by
      rintro rfl
      rcases h2 with h2 | h2 | h2
      · exact h2 ht
      · exact hkE (hup i (I.EL i hiE) (I.closedE i hiE) k h2)
      · exact hkv h2.2 h2.1
    exact Array.getElem?_setIfInBounds_ne this
  · have : d ≠ d' := by
      rintro rfl
      exact h1 hd'
    exact Array.getElem?_setIfInBounds_ne this
/-- New light operations, evaluated in the canonical frame. -/
theorem evs {N : Kont} {base a : Array Value} {D : Nat → Prop} {S : List Nat} {w : World} (hs : Region.noSelect ops.toArray = true) (hA : ancOk ops A = true) (hF : frameOk ops A hv = true) (hnt : nt ≤ base.size) : ∀ (l : List Nat) (c : Array Value) (E F : List Nat), Inv P ops A hv base D a c E S F w → evOk nt ops hv E l = true → denL P ops l N c w →
    ∃ c', Inv P ops A hv base D a c' (l.reverse ++ E) S (l ++ F) w ∧ N c' w
  | [], c, E, F, I, _, h => ⟨c, I, h⟩
  | i :: r, c, E, F, I, hk, h => by
    simp only [evOk, Bool.and_eq_true, decide_eq_true_eq, Bool.not_eq_true'] at hk
    obtain ⟨⟨⟨⟨⟨hil, hiv⟩, hiE⟩, hself⟩, hneed⟩, hrest⟩ := hk
    have hiv : i ∉ hv := by simpa using hiv
    have hiE : i ∉ E := by simpa using hiE
    have hneed := subset_mem hneed
    have ho : ops[i]? = some ops[i] := List.getElem?_eq_getElem hil
    cases hd : dstAt ops i with
    | none => rw [hd] at hself; cases hself
    | some d =>
      rw [hd] at hself
      simp only [Bool.and_eq_true, Bool.not_eq_true', decide_eq_true_eq] at hself
      obtain ⟨hsl, hdn⟩ := hself
      have hsl : d ∉ looksAt ops i := by simpa using hsl
      have hdo : ops[i].dst = some d := by simpa [dstAt, ho] using hd
      have hdc : d < c.size := by rw [I.sc]; omega
      unfold denL at h
      rw [ho] at h
      simp only [xop_eq] at h
      have hag : ∀ v, Agree ops ops[i] c (c.setIfInBounds d v) := fun v t ht => by
        rw [← mem_looks ho] at ht
        exact Array.getElem?_setIfInBounds_ne (show d ≠ t from fun he => hsl (by rw [he]; exact ht))
      have hsel : ∀ cs b, ops[i].op ≠ .select cs b := fun cs b => Region.noSelect_spec hs i _ cs b (by simp)
      have hgd : ∀ v, (c.setIfInBounds d v).getD d undef = v := fun v => by simp [Array.getD_eq_getD_getElem?, hdc]
      have key : ∃ v, Valid P ops i (c.setIfInBounds d v) w ∧ denL P ops r N (c.setIfInBounds d v) w := by
        cases hg : ops[i].guard with
        | none =>
          rw [hg] at h
          obtain ⟨v, hrun, h⟩ := h
          refine ⟨v, ⟨_, d, ho, hdo, ?_⟩, by rw [hdo] at h; exact h⟩
          rw [hg]
          simp only
          rw [(hag v).exec hsel, hgd]
          exact hrun
        | some g =>
          obtain ⟨j, want⟩ := g
          rw [hg] at h
          simp only [glt] at h
          by_cases hbw : gb (gslot ops j c) = some want
          · rw [if_pos hbw] at h
            obtain ⟨v, hrun, h⟩ := h
            refine ⟨v, ⟨_, d, ho, hdo, ?_⟩, by rw [hdo] at h; exact h⟩
            rw [hg]
            simp only
            rw [(hag v).gslot hg, if_pos hbw, (hag v).exec hsel, hgd]
            exact hrun
          · rw [if_neg hbw] at h
            refine ⟨undef, ⟨_, d, ho, hdo, ?_⟩, by rw [hdo] at h; exact h⟩
            rw [hg]
            simp only
            rw [(hag undef).gslot hg, if_neg hbw, hgd]
      obtain ⟨v, hv1, h⟩ := key
      obtain ⟨_, hfr⟩ := frame_spec hF
      have I' : Inv P ops A hv base D a (c.setIfInBounds d v) (i :: E) S (i :: F) w := {
        closed := I.closed
        closedE := fun k hk j hj => by
          rcases List.mem_cons.1 hk with rfl | hk
          · exact List.mem_cons_of_mem _ (hneed j hj)
          · exact List.mem_cons_of_mem _ (I.closedE k hk j hj)
        DE := fun k hk => List.mem_cons_of_mem _ (I.DE k hk)
        DL := I.DL
        EL := fun k hk => by
          rcases List.mem_cons.1 hk with rfl | hk
          · exact hil
          · exact I.EL k hk
        HV := fun k hk hE => by
          rcases List.mem_cons.1 hE with rfl | hE
          · exact absurd hk hiv
          · exact I.HV k hk hE
        SD := I.SD
        ain := fun k e hk he => by
          rw [I.ain k e hk he]
          exact ((agree_put I hA hF hil hiE hd (I.DE k hk) (fun h => absurd h hiv) v).2 e he).symm
        aout := I.aout
        cout := fun t ht => by
          have hdt : d ≠ t := fun he => ht i List.mem_cons_self (he ▸ hd)
          rw [Array.getElem?_setIfInBounds_ne hdt]
          exact I.cout t fun k hk => ht k (List.mem_cons_of_mem _ hk)
        sa := I.sa
        sc := by rw [Array.size_setIfInBounds]; exact I.sc
        val := fun k hk _ => by
          rcases List.mem_cons.1 hk with rfl | hk
          · exact hv1
          · obtain ⟨h1, h2⟩ := agree_put I hA hF hil hiE hd (I.FE k hk) (fun h => absurd h hiv) v
            exact (I.val k hk (I.FE k hk)).agree hs h1 h2
        FE := fun k hk => by
          rcases List.mem_cons.1 hk with rfl | hk
          · exact List.mem_cons_self
          · exact List.mem_cons_of_mem _ (I.FE k hk)
        FH := fun k hk => by
          rcases List.mem_cons.1 hk with rfl | hk
          · exact hiv
          · exact I.FH k hk }
      obtain ⟨c', I'', hN⟩ := evs hs hA hF hnt r _ (i :: E) (i :: F) I' hrest h
      refine ⟨c', ?_, hN⟩
      have e1 : (i :: r).reverse ++ E = r.reverse ++ i :: E := by simp
      rw [e1]
      exact { I'' with
        val := fun k hk hE => by
          refine I''.val k ?_ hE
          simp only [List.cons_append, List.mem_cons, List.mem_append] at hk ⊢
          rcases hk with rfl | hk | hk
          · exact .inr (.inl rfl)
          · exact .inl hk
          · exact .inr (.inr hk)
        FE := fun k hk => by
          refine I''.FE k ?_
          simp only [List.cons_append, List.mem_cons, List.mem_append] at hk ⊢
          rcases hk with rfl | hk | hk
          · exact .inr (.inl rfl)
          · exact .inl hk
          · exact .inr (.inr hk)
        FH := fun k hk => by
          refine I''.FH k ?_
          simp only [List.cons_append, List.mem_cons, List.mem_append] at hk ⊢
          rcases hk with rfl | hk | hk
          · exact .inr (.inl rfl)
          · exact .inl hk
          · exact .inr (.inr hk) }
theorem recs {c : Array Value} {w : World} {K : WP} : ∀ (r : List Nat), denR P ops r K c w → (∀ i ∈ r, Valid P ops i c w) ∧ K w
  | [], h => ⟨fun _ hm => absurd hm (List.not_mem_nil), h⟩
  | i :: r, h => by
    unfold denR at h
    cases ho : ops[i]? with
    | none => rw [ho] at h; exact h.elim
    | some o =>
      rw [ho] at h
      simp only [xop_eq] at h
      cases hd : o.dst with
      | none => rw [hd] at h; exact h.elim
      | some d =>
        rw [hd] at h
        simp only at h
        cases hg : o.guard with
        | none =>
          rw [hg] at h
          obtain ⟨h1, h2⟩ := h
          obtain ⟨h3, h4⟩ := recs r h2
          refine ⟨fun k hk => ?_, h4⟩
          rcases List.mem_cons.1 hk with rfl | hk
          · exact ⟨o, d, ho, hd, by rw [hg]; exact h1⟩
          · exact h3 k hk
        | some g =>
          obtain ⟨j, want⟩ := g
          rw [hg] at h
          obtain ⟨h1, h2⟩ := h
          obtain ⟨h3, h4⟩ := recs r h2
          refine ⟨fun k hk => ?_, h4⟩
          rcases List.mem_cons.1 hk with rfl | hk
          · exact ⟨o, d, ho, hd, by rw [hg]; exact h1⟩
          · exact h3 k hk

/-- From a stage's begin to where a heavy operation (or the end) is next. -/
theorem stage {N : Kont} {base a : Array Value} {D : Nat → Prop} {S : List Nat} {w : World} (hs : Region.noSelect ops.toArray = true) (hA : ancOk ops A = true) (hF : frameOk ops A hv = true) (hnt : nt ≤ base.size) : ∀ (p : Plan) (c : Array Value) (E F : List Nat), Inv P ops A hv base D a c E S F w → chk nt ops A hv p true E S F = true → denP P Pn ops p N c w →
    ∃ p' c' E' F', Inv P ops A hv base D a c' E' S F' w ∧ stab ops hv E' S F' p' = true ∧ chk nt ops A hv p' false E' S F' = true ∧ denP P Pn ops p' N c' w
  | .ev l r p, c, E, F, I, hk, h => by
    simp only [chk, Bool.and_eq_true] at hk
    obtain ⟨⟨⟨hev, hsub⟩, hr⟩, hk⟩ := hk
    unfold denP at h
    obtain ⟨c1, I1, h1⟩ := evs hs hA hF hnt l c E F I hev h
    obtain ⟨hval, h2⟩ := recs r h1
    have hsub := subset_mem hsub
    have hr' : ∀ i ∈ r, i ∉ hv := fun i hi => by
      have := List.all_eq_true.1 hr i hi
      simp only [Bool.and_eq_true, Bool.not_eq_true'] at this
      simpa using this.1
    have hrE : ∀ i ∈ r, i ∈ l.reverse ++ E := fun i hi => by
      have := hsub i hi
      simp only [List.mem_append, List.mem_reverse] at this ⊢
      exact this
    have I2 : Inv P ops A hv base D a c1 (l.reverse ++ E) S (l ++ r ++ F) w := { I1 with
      val := fun k hk hE => by
        simp only [List.mem_append] at hk
        rcases hk with (hk | hk) | hk
        · exact I1.val k (List.mem_append.2 (.inl hk)) hE
        · exact hval k hk
        · exact I1.val k (List.mem_append.2 (.inr hk)) hE
      FE := fun k hk => by
        simp only [List.mem_append] at hk
        rcases hk with (hk | hk) | hk
        · exact I1.FE k (List.mem_append.2 (.inl hk))
        · exact hrE k hk
        · exact I1.FE k (List.mem_append.2 (.inr hk))
      FH := fun k hk => by
        simp only [List.mem_append] at hk
        rcases hk with (hk | hk) | hk
        · exact I1.FH k (List.mem_append.2 (.inl hk))
        · exact hr' k hk
        · exact I1.FH k (List.mem_append.2 (.inr hk)) }
    exact stage hs hA hF hnt p c1 _ _ I2 hk h2
  | .fin, c, E, F, I, hk, h => ⟨.fin, c, E, F, I, by simp only [chk, Bool.and_eq_true] at hk; simpa using hk.1, by simp only [chk, Bool.and_eq_true] at hk ⊢; exact ⟨by simp, hk.2⟩, h⟩
  | .hv k p, c, E, F, I, hk, h => ⟨.hv k p, c, E, F, I, by simp only [chk, Bool.and_eq_true] at hk; simpa using hk.1.1.1.1.1, by simp only [chk, Bool.and_eq_true] at hk ⊢; exact ⟨⟨⟨⟨⟨by simp, hk.1.1.1.1.2⟩, hk.1.1.1.2⟩, hk.1.1.2⟩, hk.1.2⟩, hk.2⟩, h⟩
  | .fork p q, c, E, F, I, hk, h => ⟨.fork p q, c, E, F, I, by simp only [chk, Bool.and_eq_true] at hk; simpa using hk.1.1, by simp only [chk, Bool.and_eq_true] at hk ⊢; exact ⟨⟨by simp, hk.1.2⟩, hk.2⟩, h⟩
theorem branch {N : Kont} {c : Array Value} {E S F : List Nat} {w : World} {k : Nat} : ∀ (p : Plan), chk nt ops A hv p false E S F = true → denP P Pn ops p N c w → k ∈ branches p → ∃ r, chk nt ops A hv (.hv k r) false E S F = true ∧ denP P Pn ops (.hv k r) N c w
  | .hv k' r, hc, h, hm => by
    have : k = k' := by simpa [branches] using hm
    subst this
    exact ⟨r, hc, h⟩
  | .fork p q, hc, h, hm => by
    simp only [chk, Bool.and_eq_true] at hc
    simp only [branches, List.mem_append] at hm
    rcases hm with hm | hm
    · exact branch p hc.1.2 h.1 hm
    · exact branch q hc.2 h.2 hm
  | .fin, _, _, hm => by simp [branches] at hm
  | .ev _ _ _, _, _, hm => by simp [branches] at hm
def left (n : Nat) (listed : Array Bool) : Nat := (List.range n).countP fun i => !listed.getD i true
theorem left_set {n i : Nat} {listed : Array Bool} (hi : i < n) (hs : listed.size = n) (h : listed.getD i true = false) : left n (listed.setIfInBounds i true) < left n listed := by
  unfold left
  have hin : i ∈ List.range n := List.mem_range.2 hi
  have hle : ∀ j, (!(listed.setIfInBounds i true).getD j true) = true → (!listed.getD j true) = true := fun j hj => by
    by_cases hji : j = i
    · subst hji; rw [h]; rfl
    · simpa [Array.getD_eq_getD_getElem?, Array.getElem?_setIfInBounds_ne (Ne.symm hji)] using hj
  have h1 : (!(listed.setIfInBounds i true).getD i true) = false := by simp [Array.getD_eq_getD_getElem?, hs, hi]
  have h2 : (!listed.getD i true) = true := by rw [h]; rfl
  generalize hp : (fun i => !listed.getD i true) = f at *
  generalize hq : (fun j => !(listed.setIfInBounds i true).getD j true) = g at *
  have hle : ∀ j, g j = true → f j = true := fun j hj => by
    subst hp; subst hq; exact hle j hj
  have h1 : g i = false := by subst hq; exact h1
  have h2 : f i = true := by subst hp; exact h2
  generalize List.range n = l at hin
  clear hp hq
  induction l with
  | nil => cases hin
  | cons x r ih =>
    rcases List.mem_cons.1 hin with rfl | hin
    · rw [List.countP_cons_of_pos h2, List.countP_cons_of_neg (by rw [h1]; simp)]
      exact Nat.lt_succ_of_le (List.countP_mono_left fun j _ hj => hle j hj)
    · have := ih hin
      simp only [List.countP_cons]
      by_cases hx : g x = true
      · rw [if_pos hx, if_pos (hle x hx)]; omega
      · rw [if_neg hx]; split <;> omega
theorem sim {N : Kont} {base : Array Value} {M : List Nat} {Q : Exit → Act → World → Prop} (hs : Region.noSelect ops.toArray = true) (hA : ancOk ops A = true) (hF : frameOk ops A hv = true) (hnt : nt ≤ base.size)
    (hP : ∀ ch a w', a.defers = [] → Pn ch w' → Q (.panic ch) a w') (hN : ∀ e w', Same M base e → N e w' → Q .normal ⟨e, []⟩ w') (hM : ∀ i d, dstAt ops i = some d → d ∈ M) :
    ∀ (fuel : Nat) (p : Plan) (a c : Array Value) (E S F : List Nat) (listed : Array Bool) (w : World), listed.size = ops.length → Inv P ops A hv base (fun i => listed.getD i false = true) a c E S F w → stab ops hv E S F p = true → chk nt ops A hv p false E S F = true → denP P Pn ops p N c w → left ops.length listed ≤ fuel →
      wpAny P .any ops.toArray Q fuel listed ⟨a, []⟩ w := by
  intro fuel
  have hgd : ∀ (listed : Array Bool) (i : Nat), listed.size = ops.length → i < ops.length → (listed.getD i true = listed.getD i false) := fun listed i hl hi => by simp [Array.getD_eq_getD_getElem?, hl, hi]
  have done : ∀ (p : Plan) (a c : Array Value) (E S F : List Nat) (listed : Array Bool) (w : World), listed.size = ops.length → Inv P ops A hv base (fun i => listed.getD i false = true) a c E S F w → chk nt ops A hv p false E S F = true → denP P Pn ops p N c w → Region.ready .any ops.toArray listed = [] → Q .normal ⟨a, []⟩ w := by
    intro p a c E S F listed w hl I hk h hr
    obtain ⟨hlt, _⟩ := frame_spec hF
    have all : ∀ i, i < ops.length → listed.getD i false = true := by
      intro i
      induction i using Nat.strongRecOn with
      | _ i ih =>
        intro hi
        by_cases hd : listed.getD i false = true
        · exact hd
        · exfalso
          have ho : ops[i]? = some ops[i] := List.getElem?_eq_getElem hi
          have : i ∈ Region.ready .any ops.toArray listed := mem_ready.2 ⟨by rw [hgd listed i hl hi]; simpa using hd, ops[i], by simp [ho], fun e he hb => by
            have hin : e.on ∈ needsAt ops i := by
              rw [mem_needs ho]
              unfold needs
              exact List.mem_map.2 ⟨e, List.mem_filter.2 ⟨by simpa using he, hb⟩, rfl⟩
            exact ih _ (hlt i _ hin) (by have := hlt i _ hin; omega)⟩
          rw [hr] at this
          cases this
    have hEall : ∀ i, i ∈ E → listed.getD i false = true := fun i hi => all i (I.EL i hi)
    have hac : a = c := by
      refine Array.ext_getElem? fun t => ?_
      by_cases hex : ∃ i, i ∈ E ∧ dstAt ops i = some t
      · obtain ⟨i, hi, hd⟩ := hex
        exact I.ain i t (hEall i hi) hd
      · have hex' : ∀ j, j ∈ E → dstAt ops j ≠ some t := fun j hj hd => hex ⟨j, hj, hd⟩
        rw [I.cout t hex', I.aout t fun j hj => hex' j (I.DE j hj)]
    subst hac
    have hsame : Same M base a := ⟨I.sa, fun t ht => I.aout t fun i _ hd => ht (hM i t hd)⟩
    have hbr : ∀ p : Plan, chk nt ops A hv p false E S F = true → denP P Pn ops p N a w → N a w := by
      intro p
      induction p with
      | fin => intro _ h; exact h
      | ev l r p ih => intro hk; simp [chk] at hk
      | hv k r ih =>
        intro hk
        simp only [chk, Bool.and_eq_true, decide_eq_true_eq, Bool.not_eq_true'] at hk
        have h1 : k ∈ E := I.DE k (all k hk.1.1.1.1.2)
        have h2 : k ∉ E := by simpa using hk.1.1.2
        exact absurd h1 h2
      | fork p q ih _ =>
        intro hk h
        simp only [chk, Bool.and_eq_true] at hk
        exact ih hk.1.2 h.1
    exact hN _ _ hsame (hbr p hk h)
  induction fuel with
  | zero =>
    intro p a c E S F listed w hl I hst hk h hf
    have hr : Region.ready .any ops.toArray listed = [] := by
      refine List.eq_nil_iff_forall_not_mem.2 fun i hi => ?_
      obtain ⟨h1, o, ho, _⟩ := mem_ready.1 hi
      have hil : i < ops.length := by
        have := (Array.getElem?_eq_some_iff.1 ho).1
        simpa using this
      have := left_set hil hl h1
      omega
    exact ⟨hr, done p a c E S F listed w hl I hk h hr⟩
  | succ fuel ih =>
    intro p a c E S F listed w hl I hst hk h hf
    refine ⟨fun hr => done p a c E S F listed w hl I hk h hr, fun i hi => ?_⟩
    obtain ⟨h1, o, ho, hall⟩ := mem_ready.1 hi
    have ho' : ops[i]? = some o := by simpa using ho
    have hil : i < ops.length := (List.getElem?_eq_some_iff.1 ho').1
    have hnd : ¬ listed.getD i false = true := by rw [hgd listed i hl hil] at h1; simp [h1]
    have hneed : ∀ j ∈ needsAt ops i, listed.getD j false = true := fun j hj => by
      rw [mem_needs ho'] at hj
      obtain ⟨e, he, rfl⟩ := List.mem_map.1 hj
      obtain ⟨he, hb⟩ := List.mem_filter.1 he
      exact hall e (by simpa using he) hb
    have hlf := left_set hil hl h1
    have hset : ∀ k, (listed.setIfInBounds i true).getD k false = true ↔ (k = i ∨ listed.getD k false = true) := fun k => by
      by_cases hki : k = i
      · subst hki; simp [Array.getD_eq_getD_getElem?, hl, hil]
      · have := Array.getElem?_setIfInBounds_ne (xs := listed) (a := true) (Ne.symm hki)
        simp [Array.getD_eq_getD_getElem?, this, hki]
    have hstab := List.all_eq_true.1 hst i (List.mem_range.2 hil)
    have hsel : ∀ cs b, o.op ≠ .select cs b := fun cs b => Region.noSelect_spec hs i o cs b ho
    unfold wpOp
    rw [ho]
    simp only
    by_cases hE : i ∈ E
    · -- a light one whose turn has come
      have hnv : i ∉ hv := fun hh => hnd (I.HV i hh hE)
      have hFi : i ∈ F := by
        rw [if_pos (by simpa using hE)] at hstab
        simp only [Bool.or_eq_true] at hstab
        rcases hstab with (hx | hx) | hx
        · exact absurd (by simpa using hx) hnv
        · simpa using hx
        · exact absurd (I.SD i (by simpa using hx)) hnd
      obtain ⟨o2, d, ho2, hd, hV⟩ := I.val i hFi hE
      rw [ho'] at ho2
      obtain rfl := Option.some.inj ho2
      have hag := I.agree hA hF i hil hneed hnd o ho'
      have hdi : dstAt ops i = some d := by simp [dstAt, ho', hd]
      have next : wpAny P .any ops.toArray Q fuel (listed.setIfInBounds i true) ⟨put a (some d) (c.getD d undef), []⟩ w := by
        refine ih p _ c E S F _ w (by simpa using hl) ?_ hst hk h (by omega)
        obtain ⟨_, hfr⟩ := frame_spec hF
        exact { I with
          closed := fun k hk' j hj => by
            rw [hset] at hk' ⊢
            rcases hk' with rfl | hk'
            · exact .inr (hneed j hj)
            · exact .inr (I.closed k hk' j hj)
          DE := fun k hk' => by
            rw [hset] at hk'
            rcases hk' with rfl | hk'
            · exact hE
            · exact I.DE k hk'
          DL := fun k hk' => by
            rw [hset] at hk'
            rcases hk' with rfl | hk'
            · exact hil
            · exact I.DL k hk'
          HV := fun k hk' hE' => by rw [hset]; exact .inr (I.HV k hk' hE')
          SD := fun k hk' => by rw [hset]; exact .inr (I.SD k hk')
          ain := fun k e hk' he => by
            rw [hset] at hk'
            by_cases hki : k = i
            · subst hki
              rw [hdi] at he
              obtain rfl := Option.some.inj he
              by_cases hlt : d < c.size
              · have : d < a.size := by rw [I.sa, ← I.sc]; exact hlt
                simp [Lt.put, this, Array.getD_eq_getD_getElem?, hlt]
              · have : ¬ d < a.size := by rw [I.sa, ← I.sc]; exact hlt
                simp [Lt.put, this, hlt]
            · have hDk : listed.getD k false = true := hk'.resolve_left hki
              have := (hfr i k e hil (I.DL k hDk) (Ne.symm hki) he).1
              have hde : d ≠ e := fun h => this (by rw [hdi, h])
              rw [show put a (some d) (c.getD d undef) = a.setIfInBounds d (c.getD d undef) from rfl, Array.getElem?_setIfInBounds_ne hde]
              exact I.ain k e hDk he
          aout := fun t ht => by
            have hdt : d ≠ t := fun he => ht i ((hset i).2 (.inl rfl)) (he ▸ hdi)
            rw [show put a (some d) (c.getD d undef) = a.setIfInBounds d (c.getD d undef) from rfl, Array.getElem?_setIfInBounds_ne hdt]
            exact I.aout t fun k hk' => ht k ((hset k).2 (.inr hk'))
          sa := by rw [← I.sa]; simp [Lt.put] }
      cases hg : o.guard with
      | none =>
        rw [hg] at hV
        simp only at hV
        simp only [Region.wanted, hg, if_true]
        refine .inl ?_
        unfold Oper.wp
        rw [evl_eq, hag.exec hsel, hV]
        show wpAny P .any ops.toArray Q fuel _ _ w
        rw [put_eq, hd]
        exact next
      | some g =>
        obtain ⟨j, want⟩ := g
        rw [hg] at hV
        simp only at hV
        rw [hag.wanted]
        simp only [Region.wanted, hg, yielded_gb]
        by_cases hbw : gb (gslot ops j c) = some want
        · rw [if_pos hbw] at hV
          rw [hbw]
          simp only [beq_self_eq_true, if_true]
          refine .inl ?_
          unfold Oper.wp
          rw [evl_eq, hag.exec hsel, hV]
          show wpAny P .any ops.toArray Q fuel _ _ w
          rw [put_eq, hd]
          exact next
        · rw [if_neg hbw] at hV
          have : (gb (gslot ops j c) == some want) = false := by simp [hbw]
          rw [this]
          simp only [Bool.false_eq_true, if_false, put_eq, hd]
          rw [hV] at next
          exact next
    · -- a heavy one
      have hsub : subset (needsAt ops i) E = true := List.all_eq_true.2 fun j hj => by simpa using I.DE j (hneed j hj)
      rw [if_neg (by simpa using hE)] at hstab
      have hbr : i ∈ branches p := by
        by_cases hv' : hv.contains i = true
        · rw [if_pos hv', hsub] at hstab
          simpa using hstab
        · rw [if_neg hv', hsub] at hstab
          simp at hstab
      obtain ⟨r, hkr, hr⟩ := branch p hk h hbr
      have hag := I.agree hA hF i hil hneed hnd o ho'
      unfold denP at hr
      rw [ho'] at hr
      simp only [xop_eq] at hr
      simp only [chk, Bool.and_eq_true] at hkr
      have next : ∀ v w', denP P Pn ops r N (put c o.dst v) w' → wpAny P .any ops.toArray Q fuel (listed.setIfInBounds i true) ⟨put a o.dst v, []⟩ w' := by
        intro v w' h'
        obtain ⟨hlt, hfr⟩ := frame_spec hF
        have hup := anc_listed (D := fun i => listed.getD i false = true) hA hlt I.closed
        have hdi : dstAt ops i = o.dst := by simp [dstAt, ho']
        have hput : ∀ (e : Array Value) (t : Nat), o.dst ≠ some t → (put e o.dst v)[t]? = e[t]? := fun e t ht => by
          cases hd : o.dst with
          | none => rfl
          | some d => rw [hd] at ht; exact Array.getElem?_setIfInBounds_ne (fun he => ht (by rw [he]))
        have hsz : ∀ e : Array Value, (put e o.dst v).size = e.size := fun e => by cases o.dst <;> simp [Lt.put]
        have I' : Inv P ops A hv base (fun i' => (listed.setIfInBounds i true).getD i' false = true) (put a o.dst v) (put c o.dst v) (i :: E) (A.getD i [] ++ S) [] w' := {
          closed := fun k hk' j hj => by
            rw [hset] at hk' ⊢
            rcases hk' with rfl | hk'
            · exact .inr (hneed j hj)
            · exact .inr (I.closed k hk' j hj)
          closedE := fun k hk' j hj => by
            rcases List.mem_cons.1 hk' with rfl | hk'
            · exact List.mem_cons_of_mem _ (I.DE j (hneed j hj))
            · exact List.mem_cons_of_mem _ (I.closedE k hk' j hj)
          DE := fun k hk' => by
            rw [hset] at hk'
            rcases hk' with rfl | hk'
            · exact List.mem_cons_self
            · exact List.mem_cons_of_mem _ (I.DE k hk')
          DL := fun k hk' => by
            rw [hset] at hk'
            rcases hk' with rfl | hk'
            · exact hil
            · exact I.DL k hk'
          EL := fun k hk' => by
            rcases List.mem_cons.1 hk' with rfl | hk'
            · exact hil
            · exact I.EL k hk'
          HV := fun k hk' hE' => by
            rw [hset]
            rcases List.mem_cons.1 hE' with rfl | hE'
            · exact .inl rfl
            · exact .inr (I.HV k hk' hE')
          SD := fun k hk' => by
            rw [hset]
            rcases List.mem_append.1 hk' with hk' | hk'
            · exact .inr (hup i hil hneed k hk')
            · exact .inr (I.SD k hk')
          ain := fun k e hk' he => by
            rw [hset] at hk'
            by_cases hki : k = i
            · subst hki
              rw [hdi] at he
              by_cases hlt : e < c.size
              · have h2 : e < a.size := by rw [I.sa, ← I.sc]; exact hlt
                simp [Lt.put, he, h2, hlt]
              · have h2 : ¬ e < a.size := by rw [I.sa, ← I.sc]; exact hlt
                simp [Lt.put, he, h2, hlt]
            · have hDk : listed.getD k false = true := hk'.resolve_left hki
              have := (hfr i k e hil (I.DL k hDk) (Ne.symm hki) he).1
              rw [hdi] at this
              rw [hput a e this, hput c e this]
              exact I.ain k e hDk he
          aout := fun t ht => by
            rw [hput a t (hdi ▸ ht i ((hset i).2 (.inl rfl)))]
            exact I.aout t fun k hk' => ht k ((hset k).2 (.inr hk'))
          cout := fun t ht => by
            rw [hput c t (hdi ▸ ht i List.mem_cons_self)]
            exact I.cout t fun k hk' => ht k (List.mem_cons_of_mem _ hk')
          sa := by rw [hsz, I.sa]
          sc := by rw [hsz, I.sc]
          val := fun k hk' => by cases hk'
          FE := fun k hk' => by cases hk'
          FH := fun k hk' => by cases hk' }
        obtain ⟨p', c', E', F', I'', hst', hck', hd'⟩ := stage hs hA hF hnt r _ _ _ I' hkr.2 h'
        exact ih p' _ c' E' _ F' _ w' (by simpa using hl) I'' hst' hck' hd' (by omega)
      cases hg : o.guard with
      | none =>
        rw [hg] at hr
        simp only [Region.wanted, hg, if_true]
        refine .inl (wp_of_op (Pn := Pn) (K := fun v => denP P Pn ops r N (put c o.dst v)) (fun ch w' hp => hP _ _ _ rfl hp) (fun v w' h' => next v w' h') ?_)
        rw [hag.exec hsel]
        exact hr
      | some g =>
        obtain ⟨j, want⟩ := g
        rw [hg] at hr
        simp only [gop] at hr
        rw [hag.wanted]
        simp only [Region.wanted, hg, yielded_gb]
        by_cases hbw : gb (gslot ops j c) = some want
        · rw [if_pos hbw] at hr
          rw [hbw]
          simp only [beq_self_eq_true, if_true]
          refine .inl (wp_of_op (Pn := Pn) (K := fun v => denP P Pn ops r N (put c o.dst v)) (fun ch w' hp => hP _ _ _ rfl hp) (fun v w' h' => next v w' h') ?_)
          rw [hag.exec hsel]
          exact hr
        · rw [if_neg hbw] at hr
          have : (gb (gslot ops j c) == some want) = false := by simp [hbw]
          rw [this]
          simp only [Bool.false_eq_true, if_false, put_eq]
          exact next _ _ hr

/-! ### Code -/
def planned (nt : Nat) : Code → Hint → Bool
  | .region _ ops true, h => match h with
    | .rg p a => okPlan nt ops.toList a p
    | _ => false
  | .seq a b, h => match h with
    | .s _ ha hb => planned nt a ha && planned nt b hb
    | _ => false
  | .cond _ a b, h => match h with
    | .c ha hb => planned nt a ha && planned nt b hb
    | _ => false
  | .block _ a, h => match h with
    | .bl ha => planned nt a ha
    | _ => false
  | .loop a, h => match h with
    | .lp _ ha => planned nt a ha
    | _ => false
  | _, _ => true
def QQ (M : List Nat) (env : Array Value) (Pn : PK) (R : Kont) (X : Nat → Kont) (N : Kont) : Exit → Act → World → Prop
  | .normal, a, w => a.defers = [] ∧ Same M env a.tmps ∧ N a.tmps w
  | .exit i, a, w => a.defers = [] ∧ Same M env a.tmps ∧ X i a.tmps w
  | .ret, a, w => a.defers = [] ∧ R a.tmps w
  | .panic ch, a, w => a.defers = [] ∧ Pn ch w
  | _, _, _ => False
theorem act_eq {a : Act} (h : a.defers = []) : a = ⟨a.tmps, []⟩ := by cases a; cases h; rfl
theorem junked_get : ∀ (m : List Nat) (env : Array Value) (j : Nat → Value) (t : Nat), (junked env m j).size = env.size ∧ (junked env m j)[t]? = if t ∈ m ∧ t < env.size then some (j t) else env[t]?
  | [], env, j, t => by simp [junked]
  | x :: m, env, j, t => by
    have ih := junked_get m (env.setIfInBounds x (j x)) j t
    have e : junked env (x :: m) j = junked (env.setIfInBounds x (j x)) m j := rfl
    rw [e]
    refine ⟨by rw [ih.1]; simp, ?_⟩
    rw [ih.2]
    simp only [Array.size_setIfInBounds, List.mem_cons]
    by_cases hx : x = t
    · subst hx
      by_cases hlt : x < env.size
      · by_cases hm : x ∈ m <;> simp [hm, hlt]
      · simp [hlt]
    · rw [Array.getElem?_setIfInBounds_ne hx]
      by_cases hm : t ∈ m <;> simp [hm, Ne.symm hx]
theorem overs_gets : ∀ (l : List Nat) (e : Array Value) (f : Array Value), e.size = f.size → (∀ t, t ∉ l → e[t]? = f[t]?) → overs e l (gets f l) = f
  | [], e, f, hs, h => Array.ext_getElem? fun t => h t (by simp)
  | x :: l, e, f, hs, h => by
    show overs (e.setIfInBounds x (f.getD x undef)) l (gets f l) = f
    refine overs_gets l _ f (by simpa using hs) fun t ht => ?_
    by_cases hx : x = t
    · subst hx
      by_cases hlt : x < f.size
      · simp [hs, hlt, Array.getD_eq_getD_getElem?]
      · simp [hs, hlt]
    · rw [Array.getElem?_setIfInBounds_ne hx]
      exact h t (by simp [Ne.symm hx, ht])
/-- A frame that differs from env in the slots of M alone is env with these slots filled. -/
theorem rebuild {M l : List Nat} {env e : Array Value} (h : Same M env e) : overs (junked env M fun t => e.getD t undef) l (gets e l) = e := by
  have hj := fun t => junked_get M env (fun t => e.getD t undef) t
  have : junked env M (fun t => e.getD t undef) = e := Array.ext_getElem? fun t => by
    rw [(hj t).2]
    by_cases hm : t ∈ M
    · by_cases hlt : t < env.size
      · rw [if_pos ⟨hm, hlt⟩]
        have : t < e.size := by rw [h.1]; exact hlt
        simp [Array.getD_eq_getD_getElem?, this]
      · rw [if_neg (fun hh => hlt hh.2)]
        have : ¬ t < e.size := by rw [h.1]; exact hlt
        simp [hlt, this]
    · rw [if_neg (fun hh => hm hh.1)]
      exact (h.2 t hm).symm
  rw [this]
  exact overs_gets l e e rfl fun _ _ => rfl
theorem gets_length (e : Array Value) (l : List Nat) : (gets e l).length = l.length := by simp [gets]
section
variable {P : Program} {Pn : PK} {R : Kont} {nt : Nat}
theorem den_wp (hm : P.follows .mixedOrders = true) : ∀ (c : Code) (h : Hint) (X : Nat → Kont) (N : Kont) (env : Array Value) (w : World), planned nt c h = true → nt ≤ env.size → den P Pn R c h X N env w → c.wp P (QQ (mods c) env Pn R X N) ⟨env, []⟩ w := by
  intro c
  induction c with
  | skip => intro h X N env w _ _ hd; exact wp_skip ⟨rfl, Same.refl _ _, hd⟩
  | region id ops draw =>
    intro h X N env w hp hn hd
    cases draw with
    | false =>
      refine wp_region_list ?_
      exact denOps_wp (env0 := env) (M := mods (.region id ops false)) (fun ch a w' h1 h2 => ⟨h1, h2⟩) (fun e w' h1 h2 => ⟨rfl, h1, h2⟩) ops.toList env w
        (fun o ho t ht => by simp only [mods, List.mem_filterMap]; exact ⟨o, ho, ht⟩) (Same.refl _ _) hd
    | true =>
      cases h with
      | rg p a =>
        refine wp_region_any hm ?_
        simp only [planned, okPlan, Bool.and_eq_true] at hp
        obtain ⟨⟨⟨h1, h2⟩, h3⟩, h4⟩ := hp
        have hd : denP P Pn ops.toList p N env { w with drawn := w.drawn + 1 } := hd
        have hgd : ∀ i, ¬ (Array.replicate ops.size false).getD i false = true := fun i => by
          by_cases hi : i < ops.size <;> simp [Array.getD_eq_getD_getElem?, hi]
        have I : Inv P ops.toList a (heavies p) env (fun i => (Array.replicate ops.size false).getD i false = true) env env [] [] [] { w with drawn := w.drawn + 1 } := {
          closed := fun i hi => absurd hi (hgd i)
          closedE := fun i hi => by cases hi
          DE := fun i hi => absurd hi (hgd i)
          DL := fun i hi => absurd hi (hgd i)
          EL := fun i hi => by cases hi
          HV := fun i _ hi => by cases hi
          SD := fun i hi => by cases hi
          ain := fun i d hi => absurd hi (hgd i)
          aout := fun _ _ => rfl
          cout := fun _ _ => rfl
          sa := rfl
          sc := rfl
          val := fun i hi => by cases hi
          FE := fun i hi => by cases hi
          FH := fun i hi => by cases hi }
        obtain ⟨p', c', E', F', I', hst, hck, hd'⟩ := stage h1 h2 h3 hn p _ _ _ I h4 hd
        have := sim (M := mods (.region id ops true)) (Q := QQ (mods (.region id ops true)) env Pn R X N) h1 h2 h3 hn (fun ch a w' x y => ⟨x, y⟩) (fun e w' x y => ⟨rfl, x, y⟩)
          (fun i d hd => by
            simp only [mods, List.mem_filterMap]
            unfold dstAt at hd
            cases ho : ops.toList[i]? with
            | none => rw [ho] at hd; cases hd
            | some o => rw [ho] at hd; exact ⟨o, List.mem_of_getElem? ho, hd⟩) ops.size p' _ c' E' _ F' (Array.replicate ops.size false) _ (by simp) I' hst hck hd'
          (by unfold left; exact Nat.le_trans List.countP_le_length (by simp))
        exact this
      | _ => simp [planned] at hp
  | seq a b iha ihb =>
    intro h X N env w hp hn hd
    cases h with
    | s cut ha hb =>
      simp only [planned, Bool.and_eq_true] at hp
      refine wp_seq ?_
      have after : ∀ (K : Kont), (∀ e w', Same (mods a) env e → K e w' → den P Pn R b hb X N e w') → ∀ e (x : Act) w', QQ (mods a) env Pn R X K e x w' → (Exit.then (b.wp P (QQ (mods (a.seq b)) env Pn R X N)) (QQ (mods (a.seq b)) env Pn R X N)) e x w' := by
        intro K hK e x w' hq
        cases e with
        | normal =>
          obtain ⟨h1, h2, h3⟩ := hq
          have hx := act_eq h1
          have hb' := ihb hb X N x.tmps w' hp.2 (by rw [h2.1]; exact hn) (hK _ _ h2 h3)
          rw [← hx] at hb'
          refine Code.wp_mono (fun e y w'' hq => ?_) hb'
          cases e with
          | normal => exact ⟨hq.1, h2.trans hq.2.1, hq.2.2⟩
          | exit i => exact ⟨hq.1, h2.trans hq.2.1, hq.2.2⟩
          | ret => exact hq
          | panic ch => exact hq
          | _ => exact hq.elim
        | exit i => exact ⟨hq.1, hq.2.1.mono fun t ht => List.mem_append.2 (.inl ht), hq.2.2⟩
        | ret => exact hq
        | panic ch => exact hq
        | _ => exact hq.elim
      cases cut with
      | none => exact Code.wp_mono (after _ fun e w' _ h => h) (iha ha X _ env w hp.1 hn hd)
      | some l =>
        have hd : join (fun vs w => ∀ j : Nat → Value, den P Pn R b hb X N (overs (junked env (mods a) j) l vs) w) l.length (fun K => den P Pn R a ha X (fun env' => K (gets env' l)) env) w := hd
        have h1 := hd (fun vs w' => ∀ e, Same (mods a) env e → gets e l = vs → den P Pn R b hb X N e w') ?_
        · exact Code.wp_mono (after _ fun e w' hs h => h e hs rfl) (iha ha X _ env w hp.1 hn h1)
        · have : ∀ (n : Nat) (f : List Value → Prop), (∀ vs, f vs) → allVals n f := by
            intro n
            induction n with
            | zero => intro f hf; exact hf []
            | succ n ih => intro f hf v; exact ih _ fun r => hf (v :: r)
          refine this _ _ fun vs w' hall e hs hg => ?_
          have := hall fun t => e.getD t undef
          rw [← hg, rebuild hs] at this
          exact this
    | _ => simp [planned] at hp
  | cond c a b iha ihb =>
    intro h X N env w hp hn hd
    cases h with
    | c ha hb =>
      simp only [planned, Bool.and_eq_true] at hp
      obtain ⟨t, ht, hd⟩ := hd
      refine wp_cond (t := t) (by rw [evl_eq]; exact ht) ?_
      have up : ∀ (m : List Nat), (∀ x, x ∈ m → x ∈ mods (.cond c a b)) → ∀ e (x : Act) w', QQ m env Pn R X N e x w' → QQ (mods (.cond c a b)) env Pn R X N e x w' := fun m hm' e x w' hq => by
        cases e with
        | normal => exact ⟨hq.1, hq.2.1.mono hm', hq.2.2⟩
        | exit i => exact ⟨hq.1, hq.2.1.mono hm', hq.2.2⟩
        | ret => exact hq
        | panic ch => exact hq
        | _ => exact hq.elim
      cases t with
      | true => exact Code.wp_mono (up _ fun t ht => List.mem_append.2 (.inl ht)) (iha ha X N env w hp.1 hn hd)
      | false => exact Code.wp_mono (up _ fun t ht => List.mem_append.2 (.inr ht)) (ihb hb X N env w hp.2 hn hd)
    | _ => simp [planned] at hp
  | block id a ih =>
    intro h X N env w hp hn hd
    cases h with
    | bl ha =>
      refine wp_block (Code.wp_mono (fun e x w' hq => ?_) (ih ha _ N env w hp hn hd))
      cases e with
      | normal => exact hq
      | exit i =>
        obtain ⟨h1, h2, h3⟩ := hq
        by_cases hi : i = id
        · simp only [Exit.inBlock, hi, if_true] at h3 ⊢
          exact ⟨h1, h2, h3⟩
        · simp only [Exit.inBlock, hi, if_false] at h3 ⊢
          exact ⟨h1, h2, h3⟩
      | ret => exact hq
      | panic ch => exact hq
      | _ => exact hq.elim
    | _ => simp [planned] at hp
  | loop a ih =>
    intro h X N env w hp hn hd
    cases h with
    | lp l ha =>
      obtain ⟨I, m, h0, hr⟩ := hd
      have hr := fun vs hvs => allVals_spec hr vs hvs
      refine wp_loop (fun x w' => x.defers = [] ∧ Same (mods a) env x.tmps ∧ I (gets x.tmps l) w') (fun x w' => m (gets x.tmps l) w') ⟨rfl, Same.refl _ _, h0⟩ ?_
      rintro x w' ⟨h1, h2, h3⟩
      have hd := hr (gets x.tmps l) (gets_length _ _) w' h3 fun t => x.tmps.getD t undef
      rw [rebuild h2] at hd
      have hx := act_eq h1
      have hb := ih ha X _ x.tmps w' hp (by rw [h2.1]; exact hn) hd
      rw [← hx] at hb
      refine Code.wp_mono (fun e y w'' hq => ?_) hb
      cases e with
      | normal => exact ⟨⟨hq.1, (h2.trans hq.2.1).mono (by simp), hq.2.2.1⟩, hq.2.2.2⟩
      | exit i => exact ⟨hq.1, (h2.trans hq.2.1).mono (by simp [mods]), hq.2.2⟩
      | ret => exact hq
      | panic ch => exact hq
      | _ => exact hq.elim
    | _ => simp [planned] at hp
  | exit id => intro h X N env w _ _ hd; exact wp_exit ⟨rfl, Same.refl _ _, hd⟩
  | ret => intro h X N env w _ _ hd; exact wp_ret ⟨rfl, hd⟩
  | _ => intro h X N env w _ _ hd; exact hd.elim
/-- What a function hands back. -/
def ldR (P : Program) (t : TypeId) (x : Value) (K : Value → WP) : WP := fun w => ∃ v, ((do loadVar t (← asAddr x)) : Sem Value).run P w = .ok v w ∧ K v w
def resK (P : Program) : List ResultVar → Array Value → (List Value → WP) → WP
  | [], _, K => K []
  | .tmp t :: r, env, K => resK P r env fun vs => K (env.getD t undef :: vs)
  | .cell a t :: r, env, K => ldR P t (env.getD a undef) fun v => resK P r env fun vs => K (v :: vs)
def tup : List Value → Value
  | [v] => v
  | vs => .tuple vs.toArray
def retK (P : Program) (rs : Array ResultVar) (K : Value → WP) : Kont := fun env => resK P rs.toList env fun vs => K (tup vs)
def rvS (env : Array Value) : ResultVar → Sem Value
  | .tmp t => pure (env.getD t undef)
  | .cell a t => do loadVar t (← asAddr (env.getD a undef))
theorem resK_run : ∀ (rs : List ResultVar) (env : Array Value) (K : List Value → WP) (w : World), resK P rs env K w → ∃ vs, (rs.mapM (rvS env)).run P w = .ok vs w ∧ K vs w
  | [], env, K, w, h => ⟨[], by simp, h⟩
  | .tmp t :: r, env, K, w, h => by
    obtain ⟨vs, h1, h2⟩ := resK_run r env _ w h
    refine ⟨_, ?_, h2⟩
    rw [List.mapM_cons, Sem.run_bind, show rvS env (.tmp t) = pure (env.getD t undef) from rfl]
    simp only [Sem.run_pure, Result.andThen_ok, Sem.run_bind, h1]
  | .cell a t :: r, env, K, w, h => by
    obtain ⟨v, hv, h⟩ := h
    obtain ⟨vs, h1, h2⟩ := resK_run r env _ w h
    refine ⟨v :: vs, ?_, h2⟩
    rw [List.mapM_cons, Sem.run_bind, show rvS env (.cell a t) = (do loadVar t (← asAddr (env.getD a undef))) from rfl, hv]
    simp only [Result.andThen_ok, Sem.run_bind, h1, Sem.run_pure]
theorem retK_run {fn : Func} {K : Value → WP} {env : Array Value} {w : World} (h : retK P fn.results K env w) : ∃ v, (results fn env).run P w = .ok v w ∧ K v w := by
  obtain ⟨vs, h1, h2⟩ := resK_run _ _ _ _ h
  refine ⟨tup vs, ?_, h2⟩
  have e : results fn env = (do
      let vs ← fn.results.mapM (rvS env)
      pure (if h : vs.size = 1 then vs[0] else .tuple vs)) := by
    unfold results
    congr 1
  rw [e, show fn.results = fn.results.toList.toArray by simp, List.mapM_toArray]
  simp only [Sem.run_bind, Sem.run_map, h1]
  cases vs with
  | nil => rfl
  | cons v r =>
    cases r with
    | nil => rfl
    | cons u r => simp [tup]
theorem calls_of_den (hm : P.follows .mixedOrders = true) {f : FuncId} {fn : Func} {args : List Value} {w : World} {h : Hint} {K : Value → WP} (hf : P.funcs[f]? = some fn) (hb : fn.body.isSome = true) (hp : planned fn.ntmps (fn.body.getD .skip) h = true)
    (hd : den P Pn (retK P fn.results K) (fn.body.getD .skip) h (fun _ _ _ => False) (retK P fn.results K) (args ++ List.replicate (fn.ntmps - args.length) undef).toArray w) :
    Calls P f args.toArray w fun e w' => match e with
      | .returned v => K v w'
      | .panicked ch => Pn ch w'
      | .outgrown => False := by
  obtain ⟨c, hb⟩ := Option.isSome_iff_exists.1 hb
  rw [hb] at hp hd
  simp only [Option.getD_some] at hp hd
  have e : args.toArray ++ Array.replicate (fn.ntmps - args.toArray.size) undef = (args ++ List.replicate (fn.ntmps - args.length) undef).toArray := by simp
  refine calls_of_wp hf hb (Code.wp_mono (fun e a w' hq => ?_) (by rw [e]; exact den_wp hm c h _ _ _ w hp (by simp; omega) hd))
  cases e with
  | normal =>
    obtain ⟨h1, _, h⟩ := hq
    exact ⟨h1, retK_run h⟩
  | ret =>
    obtain ⟨h1, h⟩ := hq
    exact ⟨h1, retK_run h⟩
  | panic ch => exact hq
  | exit i => exact hq.2.2.elim
  | _ => exact hq.elim

/-! ### The same over a frame that is a function: this is what the kernel computes -/
abbrev Fr := Nat → Value
abbrev FK := Fr → WP
def fput (e : Fr) (d : Option Nat) (v : Value) : Fr := match d with
  | some d => fun i => cond (Nat.beq i d) v (e i)
  | none => e
def fev (e : Fr) : Operand → Value
  | .tmp t => e t
  | .const v => v
  | .global g => .pointer (some ⟨g, 0, none⟩)
  | .func f => .func (.func f) #[] #[]
def fjunk (e : Fr) (m : List Nat) (j : Nat → Value) : Fr := fun i => cond (m.any fun x => Nat.beq i x) (j i) (e i)
def fover (e : Fr) : List Nat → List Value → Fr
  | t :: l, v :: vs => fover (fun i => cond (Nat.beq i t) v (e i)) l vs
  | _, _ => e
def fgets (e : Fr) (l : List Nat) : List Value := l.map e
def xs (ρ : Operand → Value) (o : Oper) : Sem Next :=
  match o.op with
  | .move x | .assign x => S.mv (ρ x)
  | .pick c a b => S.pick (ρ c) (ρ a) (ρ b)
  | .alloc e => S.alloc e
  | .box e x => S.box e (ρ x)
  | .load t a => S.load t (ρ a)
  | .store t a x => S.store t (ρ a) (ρ x)
  | .nilCheck x => S.nilc (ρ x)
  | .binOp op t x y _ => S.bin op t x y (ρ x) (ρ y)
  | .unOp op _ x => S.un op (ρ x)
  | .convert s d x => S.conv s d (ρ x)
  | .makeInterface t x => S.mkI t (ρ x)
  | .makeMap t r => S.mkMap t (match r with | some r => some (ρ r) | none => none)
  | .makeSlice t l c => S.mkSl t (ρ l) (ρ c)
  | .slice t x lo hi mx => S.sl t (ρ x) (match lo with | some r => some (ρ r) | none => none) (match hi with | some r => some (ρ r) | none => none) (match mx with | some r => some (ρ r) | none => none)
  | .fieldAddr t x f => S.fa t (ρ x) f
  | .field t x f => S.fld t (ρ x) f
  | .indexAddr t x i => S.ia t (ρ x) (ρ i)
  | .index t x i => S.idx t (ρ x) (ρ i)
  | .lookup t x i ok => S.lk t (ρ x) (ρ i) ok
  | .mapUpdate t m k x | .insert t m k x => S.mu t (ρ m) (ρ k) (ρ x)
  | .mapEntry t m k => S.me t (ρ m) (ρ k)
  | .entryStore t m s x => S.es t (ρ m) (ρ s) (ρ x)
  | .range t x => S.rng t (ρ x)
  | .next it b => S.nxt (ρ it) b o.type
  | .typeAssert x xt at_ ok => S.ta (ρ x) xt at_ ok
  | .extract t i => S.ext (ρ t) i
  | .panic x => S.pan (ρ x)
  | _ => xop ρ o
theorem xs_eq (ρ : Operand → Value) (o : Oper) : xs ρ o = xop ρ o := by
  obtain ⟨dst, op, type, pos, after, guard⟩ := o
  cases op <;> try rfl
  case makeMap t r => cases r <;> rfl
  case slice t x lo hi mx => cases lo <;> cases hi <;> cases mx <;> rfl
def fslot (ops : List Oper) (j : Nat) (e : Fr) : Value := match (ops[j]?).bind (·.dst) with
  | some d => e d
  | none => undef
def fOps (P : Program) (Pn : PK) (all : List Oper) : List Oper → FK → FK
  | [], K, e => K e
  | o :: r, K, e => match o.guard with
    | none => op P Pn (xs (fev e) o) fun v => fOps P Pn all r K (fput e o.dst v)
    | some (j, want) => gop P Pn (fslot all j e) want (xs (fev e) o) fun v => fOps P Pn all r K (fput e o.dst v)
/-- A move is no step of its own, where the order is the text's. -/
def fOps' (P : Program) (Pn : PK) (all : List Oper) : List Oper → FK → FK
  | [], K, e => K e
  | o :: r, K, e => match o.guard with
    | none => match o.op with
      | .move x | .assign x => fOps' P Pn all r K (fput e o.dst (fev e x))
      | _ => op P Pn (xs (fev e) o) fun v => fOps' P Pn all r K (fput e o.dst v)
    | some (j, want) => gop P Pn (fslot all j e) want (xs (fev e) o) fun v => fOps' P Pn all r K (fput e o.dst v)
theorem fOps_eq (P : Program) (Pn : PK) (all : List Oper) : ∀ (l : List Oper) (K : FK) (e : Fr), fOps' P Pn all l K e = fOps P Pn all l K e
  | [], _, _ => rfl
  | o :: r, K, e => by
    unfold fOps' fOps
    cases hg : o.guard with
    | none =>
      simp only
      obtain ⟨dst, op, type, pos, after, guard⟩ := o
      cases op <;> simp only [fOps_eq P Pn all r] <;> rfl
    | some g => simp only [fOps_eq P Pn all r]
def fL (P : Program) (all : List Oper) : List Nat → FK → FK
  | [], K, e => K e
  | i :: r, K, e => match all[i]? with
    | none => fun _ => False
    | some o => match o.guard with
      | none => lt P (xs (fev e) o) fun v => fL P all r K (fput e o.dst v)
      | some (j, want) => glt P (fslot all j e) want (xs (fev e) o) fun v => fL P all r K (fput e o.dst v)
def fR (P : Program) (all : List Oper) : List Nat → WP → Fr → WP
  | [], K, _ => K
  | i :: r, K, e => match all[i]? with
    | none => fun _ => False
    | some o => match o.dst with
      | none => fun _ => False
      | some d => match o.guard with
        | none => rc P (xs (fev e) o) (e d) (fR P all r K e)
        | some (j, want) => grc P (fslot all j e) want (xs (fev e) o) (e d) (fR P all r K e)
def fP (P : Program) (Pn : PK) (all : List Oper) : Plan → FK → FK
  | .fin, K, e => K e
  | .ev l r rest, K, e => fL P all l (fun e => fR P all r (fP P Pn all rest K e) e) e
  | .hv h rest, K, e => match all[h]? with
    | none => fun _ => False
    | some o => match o.guard with
      | none => op P Pn (xs (fev e) o) fun v => fP P Pn all rest K (fput e o.dst v)
      | some (j, want) => gop P Pn (fslot all j e) want (xs (fev e) o) fun v => fP P Pn all rest K (fput e o.dst v)
  | .fork p q, K, e => also (fP P Pn all p K e) (fP P Pn all q K e)
def denF (P : Program) (Pn : PK) (R : FK) : Code → Hint → (Nat → FK) → FK → FK
  | .skip, _, _, N, e => N e
  | .region _ ops false, _, _, N, e => fOps' P Pn ops.toList ops.toList N e
  | .region _ ops true, h, _, N, e => match h with
    | .rg p _ => drawn (fP P Pn ops.toList p N e)
    | _ => fun _ => False
  | .seq a b, h, X, N, e => match h with
    | .s none ha hb => denF P Pn R a ha X (fun e => denF P Pn R b hb X N e) e
    | .s (some l) ha hb => join (fun vs w => ∀ j : Nat → Value, denF P Pn R b hb X N (fover (fjunk e (mods a) j) l vs) w) l.length (fun K => denF P Pn R a ha X (fun e' => K (fgets e' l)) e)
    | _ => fun _ => False
  | .cond c a b, h, X, N, e => match h with
    | .c ha hb => ite' (fev e c) (denF P Pn R a ha X N e) (denF P Pn R b hb X N e)
    | _ => fun _ => False
  | .block id a, h, X, N, e => match h with
    | .bl ha => denF P Pn R a ha (fun i => cond (Nat.beq i id) N (X i)) N e
    | _ => fun _ => False
  | .loop a, h, X, _, e => match h with
    | .lp l ha => loop l.length (fgets e l) (fun vs K w => ∀ j : Nat → Value, denF P Pn R a ha X (fun e' => K (fgets e' l)) (fover (fjunk e (mods a) j) l vs) w)
    | _ => fun _ => False
  | .exit id, _, X, _, e => X id e
  | .ret, _, _, _, e => R e
  | _, _, _, _, _ => fun _ => False
def fres (P : Program) : List ResultVar → Fr → (List Value → WP) → WP
  | [], _, K => K []
  | .tmp t :: r, e, K => fres P r e fun vs => K (e t :: vs)
  | .cell a t :: r, e, K => ldR P t (e a) fun v => fres P r e fun vs => K (v :: vs)
def fret (P : Program) (rs : Array ResultVar) (K : Value → WP) : FK := fun e => fres P rs.toList e fun vs => K (tup vs)
def fargs : List Value → Nat → Fr
  | [], _ => fun _ => undef
  | v :: vs, k => fun i => cond (Nat.beq i k) v (fargs vs (k + 1) i)
def small (nt : Nat) : Code → Bool
  | .region _ ops _ => ops.toList.all fun o => match o.dst with | some d => Nat.blt d nt | none => true
  | .seq a b => small nt a && small nt b
  | .cond _ a b => small nt a && small nt b
  | .block _ a => small nt a
  | .loop a => small nt a
  | _ => true
/-- The frame as a function is the frame. -/
def Rel (nt : Nat) (e : Fr) (a : Array Value) : Prop := nt ≤ a.size ∧ ∀ t, a.getD t undef = e t
section
variable {P : Program} {Pn : PK} {nt : Nat}
theorem beqf {i j : Nat} (h : i ≠ j) : Nat.beq i j = false := Bool.eq_false_iff.2 fun hb => h (Nat.eq_of_beq_eq_true hb)
theorem Rel.ev {e : Fr} {a : Array Value} (h : Rel nt e a) : fev e = evl a := funext fun x => by cases x <;> first | rfl | exact (h.2 _).symm
theorem Rel.put {e : Fr} {a : Array Value} (h : Rel nt e a) (d : Option Nat) (v : Value) (hd : ∀ t, d = some t → t < nt) : Rel nt (fput e d v) (put a d v) := by
  cases d with
  | none => exact h
  | some d =>
    have hlt : d < a.size := Nat.lt_of_lt_of_le (hd d rfl) h.1
    refine ⟨by simp [Lt.put, h.1], fun t => ?_⟩
    by_cases ht : t = d
    · subst ht; simp [Lt.put, fput, Array.getD_eq_getD_getElem?, hlt]
    · have hb : Nat.beq t d = false := beqf ht
      simp only [Lt.put, fput, hb, cond_false]
      rw [← h.2 t]
      simp [Array.getD_eq_getD_getElem?, Array.getElem?_setIfInBounds_ne (Ne.symm ht)]
theorem Rel.slot {e : Fr} {a : Array Value} (h : Rel nt e a) (ops : List Oper) (j : Nat) : fslot ops j e = gslot ops j a := by
  unfold fslot gslot
  cases (ops[j]?).bind (·.dst) with
  | none => rfl
  | some d => exact (h.2 d).symm
theorem Rel.gets {e : Fr} {a : Array Value} (h : Rel nt e a) (l : List Nat) : fgets e l = gets a l := List.map_congr_left fun t _ => (h.2 t).symm
theorem op_mono {s : Sem Next} {K K' : Value → WP} {w : World} (hk : ∀ v w, K v w → K' v w) (h : op P Pn s K w) : op P Pn s K' w := by
  unfold op at *
  cases hr : s.run P w with
  | ok n w' =>
    rw [hr] at h
    cases n with
    | value v => exact hk _ _ h
    | skip => exact hk _ _ h
    | enter f args => exact Calls.mono h fun e w'' he => by cases e <;> first | exact hk _ _ he | exact he
    | _ => exact h.elim
  | halt x w' =>
    rw [hr] at h
    cases x with
    | panic v => exact h
    | _ => exact h.elim
theorem gop_mono {g : Value} {b : Bool} {s : Sem Next} {K K' : Value → WP} {w : World} (hk : ∀ v w, K v w → K' v w) (h : gop P Pn g b s K w) : gop P Pn g b s K' w := by
  unfold gop at h ⊢
  split at h
  · rename_i hb; rw [if_pos hb]; exact op_mono hk h
  · rename_i hb; rw [if_neg hb]; exact hk _ _ h
theorem fOps_den {all : List Oper} {K : FK} {N : Kont} (hK : ∀ e a w, Rel nt e a → K e w → N a w) : ∀ (l : List Oper) (e : Fr) (a : Array Value) (w : World), (∀ o ∈ l, ∀ t, o.dst = some t → t < nt) → Rel nt e a → fOps P Pn all l K e w → denOps P Pn all l N a w
  | [], e, a, w, _, hr, h => hK e a w hr h
  | o :: r, e, a, w, hs, hr, h => by
    have next : ∀ v w', fOps P Pn all r K (fput e o.dst v) w' → denOps P Pn all r N (put a o.dst v) w' := fun v w' h' =>
      fOps_den hK r _ _ w' (fun o' ho' => hs o' (List.mem_cons_of_mem _ ho')) (hr.put o.dst v (hs o List.mem_cons_self)) h'
    unfold fOps at h
    unfold denOps
    rw [hr.ev, xs_eq] at h
    cases hg : o.guard with
    | none => rw [hg] at h; exact op_mono next h
    | some g =>
      obtain ⟨j, want⟩ := g
      rw [hg] at h
      simp only [hr.slot] at h
      exact gop_mono next h
theorem fL_den {all : List Oper} {K : FK} {N : Kont} (hK : ∀ e a w, Rel nt e a → K e w → N a w) (hs : ∀ o ∈ all, ∀ t, o.dst = some t → t < nt) : ∀ (l : List Nat) (e : Fr) (a : Array Value) (w : World), Rel nt e a → fL P all l K e w → denL P all l N a w
  | [], e, a, w, hr, h => hK e a w hr h
  | i :: r, e, a, w, hr, h => by
    unfold fL at h
    unfold denL
    cases ho : all[i]? with
    | none => rw [ho] at h; exact h
    | some o =>
      rw [ho] at h
      simp only at h ⊢
      have hd := hs o (List.mem_of_getElem? ho)
      have next : ∀ v w', fL P all r K (fput e o.dst v) w' → denL P all r N (put a o.dst v) w' := fun v w' h' => fL_den hK hs r _ _ w' (hr.put o.dst v hd) h'
      rw [hr.ev, xs_eq] at h
      cases hg : o.guard with
      | none =>
        rw [hg] at h
        obtain ⟨v, h1, h2⟩ := h
        exact ⟨v, h1, next _ _ h2⟩
      | some g =>
        obtain ⟨j, want⟩ := g
        rw [hg] at h
        simp only [hr.slot] at h
        simp only [glt] at h ⊢
        split at h
        · rename_i hbw
          rw [if_pos hbw]
          obtain ⟨v, h1, h2⟩ := h
          exact ⟨v, h1, next _ _ h2⟩
        · rename_i hbw
          rw [if_neg hbw]
          exact next _ _ h
theorem fR_den {all : List Oper} {K N : WP} {e : Fr} {a : Array Value} {w : World} (hr : Rel nt e a) (hK : K w → N w) : ∀ (l : List Nat), fR P all l K e w → denR P all l N a w
  | [], h => hK h
  | i :: r, h => by
    unfold fR at h
    unfold denR
    cases ho : all[i]? with
    | none => rw [ho] at h; exact h
    | some o =>
      rw [ho] at h
      simp only at h ⊢
      cases hd : o.dst with
      | none => rw [hd] at h; exact h
      | some d =>
        rw [hd] at h
        simp only at h ⊢
        rw [hr.ev, xs_eq] at h
        cases hg : o.guard with
        | none =>
          rw [hg] at h
          obtain ⟨h1, h2⟩ := h
          exact ⟨by rw [hr.2 d]; exact h1, fR_den hr hK r h2⟩
        | some g =>
          obtain ⟨j, want⟩ := g
          rw [hg] at h
          simp only [hr.slot] at h
          obtain ⟨h1, h2⟩ := h
          exact ⟨by rw [hr.2 d]; exact h1, fR_den hr hK r h2⟩
theorem fP_den {all : List Oper} {K : FK} {N : Kont} (hK : ∀ e a w, Rel nt e a → K e w → N a w) (hs : ∀ o ∈ all, ∀ t, o.dst = some t → t < nt) : ∀ (p : Plan) (e : Fr) (a : Array Value) (w : World), Rel nt e a → fP P Pn all p K e w → denP P Pn all p N a w := by
  intro p
  induction p with
  | fin => intro e a w hr h; exact hK e a w hr h
  | ev l r p ih => intro e a w hr h; exact fL_den (fun e a w hr h => fR_den hr (fun h => ih e a w hr h) r h) hs l e a w hr h
  | hv k p ih =>
    intro e a w hr h
    unfold fP at h
    unfold denP
    cases ho : all[k]? with
    | none => rw [ho] at h; exact h
    | some o =>
      rw [ho] at h
      simp only at h ⊢
      have hd := hs o (List.mem_of_getElem? ho)
      rw [hr.ev, xs_eq] at h
      cases hg : o.guard with
      | none => rw [hg] at h; exact op_mono (fun v w h => ih _ _ w (hr.put o.dst v hd) h) h
      | some g =>
        obtain ⟨j, want⟩ := g
        rw [hg] at h
        simp only [hr.slot] at h
        exact gop_mono (fun v w h => ih _ _ w (hr.put o.dst v hd) h) h
  | fork p q ihp ihq => intro e a w hr h; exact ⟨ihp e a w hr h.1, ihq e a w hr h.2⟩
theorem any_beq (m : List Nat) (i : Nat) : (m.any fun x => Nat.beq i x) = true ↔ i ∈ m := by
  rw [List.any_eq_true]
  constructor
  · rintro ⟨x, hx, hb⟩
    rw [Nat.eq_of_beq_eq_true hb]
    exact hx
  · intro h
    exact ⟨i, h, Nat.beq_refl i⟩
theorem Rel.junk {e : Fr} {a : Array Value} (h : Rel nt e a) (m : List Nat) (hm : ∀ t ∈ m, t < nt) (j : Nat → Value) : Rel nt (fjunk e m j) (junked a m j) := by
  have hj := fun t => junked_get m a j t
  refine ⟨by rw [(hj 0).1]; exact h.1, fun t => ?_⟩
  simp only [Array.getD_eq_getD_getElem?, (hj t).2, fjunk]
  by_cases hmem : t ∈ m
  · have := (any_beq m t).2 hmem
    rw [this, if_pos ⟨hmem, Nat.lt_of_lt_of_le (hm t hmem) h.1⟩]
    rfl
  · have : (m.any fun x => Nat.beq t x) = false := by
      rw [Bool.eq_false_iff]
      exact fun hh => hmem ((any_beq m t).1 hh)
    rw [this, if_neg (fun hh => hmem hh.1)]
    have := h.2 t
    rw [Array.getD_eq_getD_getElem?] at this
    exact this
theorem Rel.over : ∀ (l : List Nat) {e : Fr} {a : Array Value} (vs : List Value), Rel nt e a → (∀ t ∈ l, t < nt) → Rel nt (fover e l vs) (overs a l vs)
  | [], _, _, vs, h, _ => by cases vs <;> exact h
  | t :: l, _, _, [], h, _ => h
  | t :: l, e, a, v :: vs, h, hl => Rel.over l vs (h.put (some t) v (fun t' ht' => by obtain rfl := Option.some.inj ht'; exact hl _ List.mem_cons_self)) (fun t' ht' => hl t' (List.mem_cons_of_mem _ ht'))
theorem small_mods : ∀ (c : Code), small nt c = true → ∀ t ∈ mods c, t < nt := by
  intro c
  induction c with
  | region id ops draw =>
    intro h t ht
    simp only [mods, List.mem_filterMap] at ht
    obtain ⟨o, ho, hd⟩ := ht
    have := List.all_eq_true.1 h o ho
    rw [hd] at this
    simp only [Nat.blt] at this
    exact Nat.le_of_ble_eq_true this
  | seq a b iha ihb =>
    intro h t ht
    simp only [small, Bool.and_eq_true] at h
    rcases List.mem_append.1 ht with ht | ht
    · exact iha h.1 t ht
    · exact ihb h.2 t ht
  | cond c a b iha ihb =>
    intro h t ht
    simp only [small, Bool.and_eq_true] at h
    rcases List.mem_append.1 ht with ht | ht
    · exact iha h.1 t ht
    · exact ihb h.2 t ht
  | block id a ih => exact fun h t ht => ih h t ht
  | loop a ih => exact fun h t ht => ih h t ht
  | _ => intro _ t ht; cases ht
def cutOk : Code → Hint → Bool
  | .seq a b, h => match h with
    | .s none ha hb => cutOk a ha && cutOk b hb
    | .s (some l) ha hb => (l.all fun t => (mods a).any fun x => Nat.beq t x) && cutOk a ha && cutOk b hb
    | _ => false
  | .cond _ a b, h => match h with
    | .c ha hb => cutOk a ha && cutOk b hb
    | _ => false
  | .block _ a, h => match h with
    | .bl ha => cutOk a ha
    | _ => false
  | .loop a, h => match h with
    | .lp l ha => (l.all fun t => (mods a).any fun x => Nat.beq t x) && cutOk a ha
    | _ => false
  | _, _ => true
theorem cut_mem {a : Code} {l : List Nat} (h : (l.all fun t => (mods a).any fun x => Nat.beq t x) = true) : ∀ t ∈ l, t ∈ mods a := fun t ht => (any_beq _ _).1 (List.all_eq_true.1 h t ht)
theorem denF_den {R : FK} {R' : Kont} (hR : ∀ e a w, Rel nt e a → R e w → R' a w) : ∀ (c : Code) (h : Hint) (X : Nat → FK) (X' : Nat → Kont) (N : FK) (N' : Kont) (e : Fr) (a : Array Value) (w : World), small nt c = true → cutOk c h = true → (∀ i e a w, Rel nt e a → X i e w → X' i a w) → (∀ e a w, Rel nt e a → N e w → N' a w) → Rel nt e a →
    denF P Pn R c h X N e w → den P Pn R' c h X' N' a w := by
  intro c
  induction c with
  | skip => intro h X X' N N' e a w _ _ _ hN hr hd; exact hN _ _ _ hr hd
  | region id ops draw =>
    intro h X X' N N' e a w hsm _ _ hN hr hd
    have hs : ∀ o ∈ ops.toList, ∀ t, o.dst = some t → t < nt := fun o ho t ht => small_mods (.region id ops draw) hsm t (by simp only [mods, List.mem_filterMap]; exact ⟨o, ho, ht⟩)
    cases draw with
    | false =>
      unfold denF at hd
      rw [fOps_eq] at hd
      exact fOps_den hN _ _ _ _ hs hr hd
    | true =>
      cases h with
      | rg p t => exact fP_den hN hs p e a _ hr hd
      | _ => exact hd
  | seq x y ihx ihy =>
    intro h X X' N N' e a w hsm hc hX hN hr hd
    simp only [small, Bool.and_eq_true] at hsm
    cases h with
    | s cut hx hy =>
      cases cut with
      | none =>
        simp only [cutOk, Bool.and_eq_true] at hc
        exact ihx hx X X' _ _ e a w hsm.1 hc.1 hX (fun e a w hr hd => ihy hy X X' N N' e a w hsm.2 hc.2 hX hN hr hd) hr hd
      | some l =>
        simp only [cutOk, Bool.and_eq_true] at hc
        obtain ⟨⟨hl, hcx⟩, hcy⟩ := hc
        have hl := cut_mem hl
        have hlm := fun t ht => small_mods x hsm.1 t (hl t ht)
        intro K hK
        refine ihx hx X X' _ _ e a w hsm.1 hcx hX (fun e' a' w' hr' h' => by rw [← hr'.gets]; exact h') hr (hd K ?_)
        have conv : ∀ (n : Nat) (f g : List Value → Prop), (∀ vs, g vs → f vs) → allVals n g → allVals n f := by
          intro n
          induction n with
          | zero => intro f g hfg h; exact hfg _ h
          | succ n ih => intro f g hfg h v; exact ih _ _ (fun r hr => hfg _ hr) (h v)
        refine conv _ _ _ (fun vs hg w' hy' => hg w' fun j => ?_) hK
        exact ihy hy X X' N N' _ _ w' hsm.2 hcy hX hN (Rel.over l vs (hr.junk _ (small_mods x hsm.1) j) hlm) (hy' j)
    | _ => exact hd
  | cond c x y ihx ihy =>
    intro h X X' N N' e a w hsm hc hX hN hr hd
    simp only [small, Bool.and_eq_true] at hsm
    cases h with
    | c hx hy =>
      simp only [cutOk, Bool.and_eq_true] at hc
      obtain ⟨t, ht, hd⟩ := hd
      refine ⟨t, by rw [← hr.ev]; exact ht, ?_⟩
      cases t with
      | true => exact ihx hx X X' N N' e a w hsm.1 hc.1 hX hN hr hd
      | false => exact ihy hy X X' N N' e a w hsm.2 hc.2 hX hN hr hd
    | _ => exact hd
  | block id x ih =>
    intro h X X' N N' e a w hsm hc hX hN hr hd
    cases h with
    | bl hx =>
      refine ih hx _ _ N N' e a w hsm hc (fun i e a w hr h => ?_) hN hr hd
      by_cases hi : i = id
      · subst hi
        simp only [Nat.beq_refl, cond_true] at h
        simp only [if_true]
        exact hN _ _ _ hr h
      · have hb : Nat.beq i id = false := beqf hi
        simp only [hb, cond_false] at h
        simp only [hi, if_false]
        exact hX _ _ _ _ hr h
    | _ => exact hd
  | loop x ih =>
    intro h X X' N N' e a w hsm hc hX hN hr hd
    cases h with
    | lp l hx =>
      simp only [cutOk, Bool.and_eq_true] at hc
      have hl := cut_mem hc.1
      have hlm := fun t ht => small_mods x hsm t (hl t ht)
      obtain ⟨I, m, h0, hb⟩ := hd
      refine ⟨I, m, by rw [← hr.gets]; exact h0, ?_⟩
      have conv : ∀ (n : Nat) (f g : List Value → Prop), (∀ vs, g vs → f vs) → allVals n g → allVals n f := by
        intro n
        induction n with
        | zero => intro f g hfg h; exact hfg _ h
        | succ n ih => intro f g hfg h v; exact ih _ _ (fun r hr => hfg _ hr) (h v)
      refine conv _ _ _ (fun vs hg w' hI j => ?_) hb
      exact ih hx X X' _ _ _ _ w' hsm hc.2 hX (fun e' a' w'' hr' h' => by rw [← hr'.gets]; exact h') (Rel.over l vs (hr.junk _ (small_mods x hsm) j) hlm) (hg w' hI j)
    | _ => exact hd
  | exit id => intro h X X' N N' e a w _ _ hX _ hr hd; exact hX _ _ _ _ hr hd
  | ret => intro h X X' N N' e a w _ _ _ _ hr hd; exact hR _ _ _ hr hd
  | _ => intro h X X' N N' e a w _ _ _ _ _ hd; exact hd.elim
theorem fres_den : ∀ (rs : List ResultVar) (e : Fr) (a : Array Value) (w : World) (K : List Value → WP), Rel nt e a → fres P rs e K w → resK P rs a K w
  | [], _, _, _, _, _, h => h
  | .tmp t :: r, e, a, w, K, hr, h => by
    unfold resK
    rw [hr.2 t]
    exact fres_den r e a w _ hr h
  | .cell x t :: r, e, a, w, K, hr, h => by
    unfold resK
    rw [hr.2 x]
    obtain ⟨v, h1, h2⟩ := h
    exact ⟨v, h1, fres_den r e a w _ hr h2⟩
theorem fargs_get : ∀ (args : List Value) (k i : Nat), fargs args k i = if k ≤ i then (args[i - k]?).getD undef else undef
  | [], k, i => by simp [fargs]
  | v :: vs, k, i => by
    unfold fargs
    rw [fargs_get vs (k + 1) i]
    by_cases hi : i = k
    · subst hi; simp [Nat.beq_refl]
    · have hb : Nat.beq i k = false := beqf hi
      rw [hb, cond_false]
      by_cases hk : k ≤ i
      · rw [if_pos hk, if_pos (by omega)]
        obtain ⟨d, rfl⟩ : ∃ d, i = k + (d + 1) := ⟨i - k - 1, by omega⟩
        rw [show k + (d + 1) - k = d + 1 by omega, show k + (d + 1) - (k + 1) = d by omega]
        simp
      · rw [if_neg hk, if_neg (by omega)]
def fine (nt : Nat) (c : Code) (h : Hint) : Bool := small nt c && cutOk c h && planned nt c h
theorem calls_of_denF (hm : P.follows .mixedOrders = true) {f : FuncId} {fn : Func} {args : List Value} {w : World} {h : Hint} {K : Value → WP} (hf : P.funcs[f]? = some fn) (hb : fn.body.isSome = true) (hp : fine fn.ntmps (fn.body.getD .skip) h = true)
    (hd : denF P Pn (fret P fn.results K) (fn.body.getD .skip) h (fun _ _ _ => False) (fret P fn.results K) (fargs args 0) w) :
    Calls P f args.toArray w fun e w' => match e with
      | .returned v => K v w'
      | .panicked ch => Pn ch w'
      | .outgrown => False := by
  simp only [fine, Bool.and_eq_true] at hp
  have hret : ∀ e a w, Rel fn.ntmps e a → fret P fn.results K e w → retK P fn.results K a w := fun e a w hr h => fres_den _ _ _ _ _ hr h
  refine calls_of_den hm hf hb hp.2 (denF_den (nt := fn.ntmps) hret _ _ (fun _ _ _ => False) (fun _ _ _ => False) _ _ (fargs args 0) _ w hp.1.1 hp.1.2 (fun _ _ _ _ _ h => h) hret ⟨by rw [List.size_toArray, List.length_append, List.length_replicate]; omega, fun t => ?_⟩ hd)
  rw [fargs_get, if_pos (Nat.zero_le _), Nat.sub_zero, Array.getD_eq_getD_getElem?, List.getElem?_toArray]
  by_cases ht : t < args.length
  · rw [List.getElem?_append_left ht]
  · rw [List.getElem?_append_right (by omega), List.getElem?_eq_none (l := args) (by omega), List.getElem?_replicate]
    split <;> rfl
end
/-- The call of a Go function, by its number. -/
def S.fn (f : FuncId) (args : List Value) : Sem Next := S.callV (.func (.func f) #[] #[]) args
theorem callFunc_run {f : FuncId} {fn : Func} {args : Array Value} (w : World) (hf : P.funcs[f]? = some fn) (hn : (fn.name == "runtime.NumGoroutine") = false) (hb : fn.body.isNone = false) : (callFunc f args).run P w = .ok (.enter f args) w := by
  have hn' : fn.name ≠ "runtime.NumGoroutine" := by simpa using hn
  have hb' : fn.body ≠ none := by intro h; rw [h] at hb; simp at hb
  unfold callFunc
  simp [hf, hn', hb']
theorem callV_run {f : FuncId} {fn : Func} {args cap first : List Value} (w : World) (hf : P.funcs[f]? = some fn) (hn : (fn.name == "runtime.NumGoroutine") = false) (hb : fn.body.isNone = false) : (S.callV (.func (.func f) first.toArray cap.toArray) args).run P w = .ok (.enter f (first ++ args ++ cap).toArray) w := by
  unfold S.callV
  simp only [Deferred.ofValue, Sem.run_bind, Sem.run_pure, Result.andThen_ok, Go.invoke]
  rw [callFunc_run w hf hn hb]
  simp
/-- A closure's call, or a function's. -/
theorem op_call {f : FuncId} {fn : Func} {args cap first : List Value} {K : Value → WP} {w : World} (hf : P.funcs[f]? = some fn) (hn : (fn.name == "runtime.NumGoroutine") = false) (hb : fn.body.isNone = false)
    (h : Calls P f (first ++ args ++ cap).toArray w fun e w' => match e with | .returned v => K v w' | .panicked ch => Pn ch w' | .outgrown => False) : op P Pn (S.callV (.func (.func f) first.toArray cap.toArray) args) K w := by
  unfold op
  rw [callV_run w hf hn hb]
  exact Calls.mono h fun e w' he => by cases e <;> exact he
end
end
end
end Go.Lt
