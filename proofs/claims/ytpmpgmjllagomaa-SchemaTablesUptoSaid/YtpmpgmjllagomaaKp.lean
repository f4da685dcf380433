/- Chunks that are kept, the rest let go. Conditions: none. -/
import Derived.Test.YtpmpgmjllagomaaCur
import Derived.Test.YtpmpgmjllagomaaData
set_option linter.unusedVariables false
set_option maxHeartbeats 4000000
set_option linter.unusedSimpArgs false
set_option maxRecDepth 100000
namespace Go.Lt
open Go
attribute [local irreducible] op gop lt glt rc grc ite' drawn also ldR
class Has (a : HP) (p : List HP) (r : outParam (List HP)) : Prop where out : p.Perm (a :: r)
instance (priority := high) {a : HP} {r : List HP} : Has a (a :: r) r := ⟨List.Perm.refl _⟩
instance (priority := low) {a b : HP} {p r : List HP} [h : Has a p r] : Has a (b :: p) (b :: r) := ⟨(List.Perm.cons b h.out).trans (List.Perm.swap _ _ _)⟩
class Keep (p q : List HP) : Prop where out : ∃ r, p.Perm (q ++ r)
instance (priority := high) {p : List HP} : Keep p p := ⟨[], by rw [List.append_nil]⟩
instance {a : HP} {p q r : List HP} [h : Has a p r] [k : Keep r q] : Keep p (a :: q) := ⟨let ⟨s, hs⟩ := k.out; ⟨s, h.out.trans (List.Perm.cons a hs)⟩⟩
instance (priority := low) {a : HP} {p q : List HP} [k : Keep p q] : Keep (a :: p) q := ⟨let ⟨s, hs⟩ := k.out; ⟨a :: s, (List.Perm.cons a hs).trans List.perm_middle.symm⟩⟩
instance (priority := high) {P : Program} {p : List HP} {x y : Value} : Run P p (S.pick (.bool true) x y) x := ⟨fun w0 w hs => by simp [S.pick, asBool]⟩
instance (priority := high) {P : Program} {p : List HP} {x y : Value} : Run P p (S.pick (.bool false) x y) y := ⟨fun w0 w hs => by simp [S.pick, asBool]⟩
instance (priority := high) {P : Program} {p : List HP} {x y : Value} : Run P p (S.pick (.bool (!false)) x y) x := ⟨fun w0 w hs => by simp [S.pick, asBool]⟩
instance (priority := high) {P : Program} {p : List HP} {x y : Value} : Run P p (S.pick (.bool (!true)) x y) y := ⟨fun w0 w hs => by simp [S.pick, asBool]⟩
section
variable {w0 : World} {p q : List HP} {φ : WP}
theorem Ent.drops : ∀ (r : List HP), Ent w0 q φ → Ent w0 (r ++ q) φ
  | [], h => h
  | _ :: r, h => Ent.drop (Ent.drops r h)
theorem Ent.keep [k : Keep p q] (h : Ent w0 q φ) : Ent w0 p φ := by
  obtain ⟨r, hr⟩ := k.out
  exact Ent.perm (hr.trans List.perm_append_comm) (Ent.drops r h)
theorem Ent.take (a : HP) {r : List HP} [h : Has a p r] (hk : Ent w0 (a :: r) φ) : Ent w0 p φ := Ent.perm h.out hk
theorem Sat.keep {w : World} [k : Keep p q] (h : Sat p w0 w) : Sat q w0 w := Ent.keep (p := p) (q := q) (φ := fun w => Sat q w0 w) (fun w h => h) w h
end
theorem RdD.keep {p q : List HP} [k : Keep q p] {d : D} {cs : List Value} (h : RdD p d cs) : RdD q d cs := Rd.mono (fun a u hu w0 w hs => hu w0 w (Sat.keep hs)) _ _ h
theorem LoadN.keep {p q : List HP} [k : Keep q p] {b o n : Nat} {vs : List Value} (h : LoadN p b o n vs) : LoadN q b o n vs := ⟨fun w0 w hs => h.out w0 w (Sat.keep hs)⟩
theorem LoadAt.keep {p q : List HP} [k : Keep q p] {a : Addr} {v : Value} (h : LoadAt p a v) : LoadAt q a v := ⟨fun w0 w hs => h.out w0 w (Sat.keep hs)⟩
theorem RdB.keep {p q : List HP} [k : Keep q p] {v : Value} {bs : List UInt8} (h : RdB p v bs) : RdB q v bs := by
  obtain ⟨A, c, h1, h2, h3, h4⟩ := h
  exact ⟨A, c, h1, h2, h3, h4.imp id fun ⟨b, o, h5, h6⟩ => ⟨b, o, h5, fun w0 w hs i u hu => h6 w0 w (Sat.keep hs) i u hu⟩⟩
variable {w0 : World} {p : List HP} {Pn : PK} {K : Value → WP}
/-- append(v, b). -/
theorem pushB {t : Nat} {v : Value} {b : UInt8} {bs : List UInt8} {fl : List Bool} {ty : TypeId} [ht : SlE PR t T.u8] [hb : BS PR t 1 [(0, u8 b)] T.u8 [u8 b]] (hl : bs.length + 1 ≤ 4294967296)
    (hk : ∀ A c, Ent w0 (ownB T.u8 (.slice A (bs.length + 1) c) (bs ++ [b]) :: p) (K (.slice A (bs.length + 1) c))) :
    Ent w0 (ownB T.u8 v bs :: p) (op PR Pn (S.bslice t 1 [(0, u8 b)]) fun x => op PR Pn (S.bi .append #[t, t] ty fl [v, x]) K) := by
  refine Ent.bslice fun g => ?_
  haveI : Zero PR T.u8 (.int .u8 0) 1 := ⟨by kernel_rfl⟩
  unfold ownB at hk ⊢
  refine Ent.append1 (e := T.u8) (z := .int .u8 0) rfl rfl (by omega) hl fun A c => ?_
  have := hk A c
  rw [List.map_append, List.length_append] at this
  exact this
end Go.Lt
