/- A small separation logic over the model's memory: exclusive blocks, frozen frames, and the steps of a walk. Conditions: none. -/
import Derived.Test.YtpmpgmjllagomaaLtBase
set_option linter.unusedVariables false
set_option linter.unusedSimpArgs false
namespace Go.Lt
open Go

abbrev HL := Nat → Option Obj
def HP := HL → Prop
def sub (h : HL) (w : World) : Prop := ∀ i o, h i = some o → w.heap[i]? = some o
def emp : HP := fun h => ∀ i, h i = none
def sep (p q : HP) : HP := fun h => ∃ a b, p a ∧ q b ∧ (∀ i, a i = none ∨ b i = none) ∧ ∀ i, h i = (a i).or (b i)
def sepL : List HP → HP
  | [] => emp
  | p :: r => sep p (sepL r)
/-- The world reads as p somewhere; but for the memory it is as w0. -/
def Sat (p : List HP) (w0 w : World) : Prop := (w.os = w0.os ∧ w.tape = w0.tape ∧ w.output = w0.output) ∧ ∃ h, sepL p h ∧ sub h w
def Ent (w0 : World) (p : List HP) (φ : WP) : Prop := ∀ w, Sat p w0 w → φ w

section
variable {w0 w : World} {p q r : List HP} {φ : WP} {a b c : HP}
theorem sep_comm {a b : HP} {h : HL} (hs : sep a b h) : sep b a h := by
  obtain ⟨x, y, h1, h2, h3, h4⟩ := hs
  refine ⟨y, x, h2, h1, fun i => (h3 i).symm, fun i => ?_⟩
  rw [h4 i]
  rcases h3 i with h | h <;> rw [h] <;> simp
theorem sep_assoc {a b c : HP} {h : HL} (hs : sep (sep a b) c h) : sep a (sep b c) h := by
  obtain ⟨x, z, ⟨x1, x2, h1, h2, h3, h4⟩, h5, h6, h7⟩ := hs
  refine ⟨x1, fun i => (x2 i).or (z i), h1, ⟨x2, z, h2, h5, fun i => ?_, fun i => rfl⟩, fun i => ?_, fun i => ?_⟩
  · have := h6 i
    rw [h4 i] at this
    rcases this with h | h
    · left
      cases hx : x1 i <;> simp [hx] at h ⊢
      exact h
    · exact .inr h
  · rcases h3 i with h | h
    · exact .inl h
    · have := h6 i
      rw [h4 i, h] at this
      simp only [Option.or_none] at this
      rcases this with h' | h'
      · exact .inl h'
      · right; simp [h, h']
  · rw [h7 i, h4 i, Option.or_assoc]
theorem sep_assoc' {a b c : HP} {h : HL} (hs : sep a (sep b c) h) : sep (sep a b) c h := sep_comm (sep_assoc (sep_comm (sep_assoc (sep_comm hs))))
theorem sep_mono {a b a' b' : HP} {h : HL} (ha : ∀ h, a h → a' h) (hb : ∀ h, b h → b' h) (hs : sep a b h) : sep a' b' h := by
  obtain ⟨x, y, h1, h2, h3, h4⟩ := hs
  exact ⟨x, y, ha _ h1, hb _ h2, h3, h4⟩
theorem sep_emp {a : HP} {h : HL} (hs : a h) : sep a emp h := ⟨h, fun _ => none, hs, fun _ => rfl, fun _ => .inr rfl, fun i => by simp⟩
theorem sepL_append : ∀ {p q : List HP} {h : HL}, sepL (p ++ q) h ↔ sep (sepL p) (sepL q) h
  | [], q, h => ⟨fun hs => sep_comm (sep_emp hs), fun hs => by
      obtain ⟨x, y, h1, h2, h3, h4⟩ := hs
      have : h = y := funext fun i => by rw [h4 i, h1 i]; simp
      exact this ▸ h2⟩
  | a :: p, q, h => ⟨fun hs => sep_assoc' (sep_mono (fun _ h => h) (fun _ h => sepL_append.1 h) hs), fun hs => sep_mono (fun _ h => h) (fun _ h => sepL_append.2 h) (sep_assoc hs)⟩
theorem sepL_perm {p q : List HP} (hp : p.Perm q) : ∀ {h : HL}, sepL p h → sepL q h := by
  induction hp with
  | nil => exact id
  | cons x _ ih => exact fun hs => sep_mono (fun _ h => h) (fun _ h => ih h) hs
  | swap x y l => exact fun hs => sep_assoc (sep_mono (fun _ h => sep_comm h) (fun _ h => h) (sep_assoc' hs))
  | trans _ _ ih1 ih2 => exact fun hs => ih2 (ih1 hs)
theorem Sat.perm (hp : p.Perm q) (h : Sat p w0 w) : Sat q w0 w := ⟨h.1, let ⟨x, h1, h2⟩ := h.2; ⟨x, sepL_perm hp h1, h2⟩⟩
theorem Ent.perm (hp : p.Perm q) (h : Ent w0 q φ) : Ent w0 p φ := fun w hs => h w (hs.perm hp)
theorem sub_left {x y h : HL} (h4 : ∀ i, h i = (x i).or (y i)) (hs : sub h w) : sub x w := fun i o hi => hs i o (by rw [h4, hi]; rfl)
theorem sub_right {x y h : HL} (h3 : ∀ i, x i = none ∨ y i = none) (h4 : ∀ i, h i = (x i).or (y i)) (hs : sub h w) : sub y w := fun i o hi => hs i o (by
  rw [h4]
  rcases h3 i with h | h
  · rw [h, hi]; rfl
  · rw [h] at hi; cases hi)
theorem Sat.drop (h : Sat (a :: p) w0 w) : Sat p w0 w := by
  obtain ⟨h0, x, ⟨y, z, h1, h2, h3, h4⟩, h5⟩ := h
  exact ⟨h0, z, h2, sub_right h3 h4 h5⟩
theorem Sat.head (h : Sat (a :: p) w0 w) : ∃ x, a x ∧ sub x w := by
  obtain ⟨h0, x, ⟨y, z, h1, h2, h3, h4⟩, h5⟩ := h
  exact ⟨y, h1, sub_left h4 h5⟩
theorem Ent.drop (h : Ent w0 p φ) : Ent w0 (a :: p) φ := fun w hs => h w hs.drop
theorem Sat.imp (h : Sat (a :: p) w0 w) (hi : ∀ x, a x → b x) : Sat (b :: p) w0 w := ⟨h.1, let ⟨x, h1, h2⟩ := h.2; ⟨x, sep_mono hi (fun _ h => h) h1, h2⟩⟩
theorem Ent.imp (hi : ∀ x, a x → b x) (h : Ent w0 (b :: p) φ) : Ent w0 (a :: p) φ := fun w hs => h w (hs.imp hi)
theorem Ent.mono {φ ψ : WP} (h : Ent w0 p φ) (hi : ∀ w, φ w → ψ w) : Ent w0 p ψ := fun w hs => hi _ (h w hs)
/-! ### Chunks -/
def one (g : Nat) (o : Obj) : HL := fun i => if i = g then some o else none
def obj (g : Nat) (o : Obj) : HP := fun h => h = one g o
def blk (g : Nat) (cs : List Value) : HP := fun h => ∃ t, h = one g (.cells cs.toArray t (0, 0))
def exact (x : HL) : HP := fun h => h = x
def pure' (φ : Prop) : HP := fun h => φ ∧ emp h
def ex {α : Type} (q : α → HP) : HP := fun h => ∃ x, q x h
def both (p : List HP) : HP := sepL p
theorem Ent.pure {φ' : Prop} (h : φ' → Ent w0 p φ) : Ent w0 (pure' φ' :: p) φ := fun w hs => h (let ⟨_, h1, _⟩ := hs.head; h1.1) w hs.drop
theorem Ent.ex {α : Type} {q : α → HP} (h : ∀ x, Ent w0 (q x :: p) φ) : Ent w0 (ex q :: p) φ := fun w hs => by
  obtain ⟨h0, x, ⟨y, z, ⟨v, h1⟩, h2⟩, h5⟩ := hs
  exact h v w ⟨h0, x, ⟨y, z, h1, h2⟩, h5⟩
theorem Ent.split (h : Ent w0 (q ++ p) φ) : Ent w0 (both q :: p) φ := fun w hs => h w ⟨hs.1, let ⟨x, h1, h2⟩ := hs.2; ⟨x, sepL_append.2 h1, h2⟩⟩
theorem Ent.join' (h : Ent w0 (both q :: p) φ) : Ent w0 (q ++ p) φ := fun w hs => h w ⟨hs.1, let ⟨x, h1, h2⟩ := hs.2; ⟨x, sepL_append.1 h1, h2⟩⟩
/-- A chunk, looked into: it stays as it is, and what it holds is known. -/
theorem Ent.freeze (h : ∀ x, a x → Ent w0 (exact x :: p) φ) : Ent w0 (a :: p) φ := fun w hs => by
  obtain ⟨h0, x, ⟨y, z, h1, h2⟩, h5⟩ := hs
  exact h y h1 w ⟨h0, x, ⟨y, z, rfl, h2⟩, h5⟩
theorem Ent.thaw {x : HL} (hx : a x) (h : Ent w0 (a :: p) φ) : Ent w0 (exact x :: p) φ := Ent.imp (fun y hy => by cases hy; exact hx) h
/-- The whole rest, looked into. -/
theorem Ent.freezeAll (h : ∀ x, sepL p x → Ent w0 [exact x] φ) : Ent w0 p φ := fun w hs => by
  obtain ⟨h0, x, h1, h2⟩ := hs
  exact h x h1 w ⟨h0, x, sep_emp rfl, h2⟩
theorem sepL_one {x : HL} (h : sepL [a] x) : a x := by
  obtain ⟨y, z, h1, h2, h3, h4⟩ := h
  have : x = y := funext fun i => by rw [h4 i, h2 i]; simp
  exact this ▸ h1
theorem Ent.thawAll {x : HL} (hx : sepL p x) (h : Ent w0 (q ++ p) φ) : Ent w0 (q ++ [exact x]) φ := fun w hs => by
  obtain ⟨h0, y, h1, h2⟩ := hs
  refine h w ⟨h0, y, sepL_append.2 (sep_mono (fun _ h => h) (fun z hz => ?_) (sepL_append.1 h1)), h2⟩
  have : z = x := sepL_one (a := exact x) hz
  exact this ▸ hx
end
/-! ### Taking a chunk to the front -/
class Pick {ι α : Type} (c : ι → α → HP) (i : ι) (p : List HP) (x : outParam α) (r : outParam (List HP)) : Prop where out : p.Perm (c i x :: r)
instance (priority := high) {ι α : Type} {c : ι → α → HP} {i : ι} {x : α} {r : List HP} : Pick c i (c i x :: r) x r := ⟨List.Perm.refl _⟩
instance (priority := low) {ι α : Type} {c : ι → α → HP} {i : ι} {x : α} {a : HP} {p r : List HP} [h : Pick c i p x r] : Pick c i (a :: p) x (a :: r) := ⟨(List.Perm.cons a h.out).trans (List.Perm.swap _ _ _)⟩
theorem Ent.pick {ι α : Type} (c : ι → α → HP) (i : ι) {w0 : World} {p r : List HP} {x : α} {φ : WP} [hp : Pick c i p x r] (h : Ent w0 (c i x :: r) φ) : Ent w0 p φ := Ent.perm hp.out h
end Go.Lt
