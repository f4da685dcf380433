/- The lists of bytes in a tree, as they lie. Conditions: none. -/
import Derived.Test.YtpmpgmjllagomaaGrow
import Derived.Test.YtpmpgmjllagomaaRalike
set_option linter.unusedVariables false
set_option maxHeartbeats 4000000
set_option linter.unusedSimpArgs false
set_option maxRecDepth 100000
namespace Go.Lt
open Go
attribute [local irreducible] op gop lt glt rc grc ite' drawn also ldR
/-- A tree's places: its data are slices' values. -/
inductive Sk where
  | mk (k n : Int) (b : Bool) (v : Value) (l : List Sk)
def Sk.v : Sk → Value | .mk _ _ _ v _ => v
def Sk.list : Sk → List Sk | .mk _ _ _ _ l => l
mutual
def skD : Sk → D
  | .mk k n b v l => .st [.sc (.int .i64 k), .sc (.int .i64 n), .sc (.bool b), .sc v, .sl T.api_Node 5 (sksD l)]
def sksD : List Sk → List D
  | [] => []
  | n :: r => skD n :: sksD r
end
theorem sksD_length (l : List Sk) : (sksD l).length = l.length := by
  induction l with
  | nil => rfl
  | cons x r ih => simp [sksD, ih]
theorem sksD_get : ∀ {l : List Sk} {i : Nat} (h : i < l.length), (sksD l)[i]? = some (skD l[i])
  | x :: r, 0, h => rfl
  | x :: r, i + 1, h => by
    simp only [sksD, List.getElem?_cons_succ, List.getElem_cons_succ]
    exact sksD_get (by simpa using h)
mutual
def Sk.slots : Sk → List Value
  | .mk _ _ _ v l => v :: slotsL l
def slotsL : List Sk → List Value
  | [] => []
  | s :: r => s.slots ++ slotsL r
end
mutual
/-- A tree's lists of bytes. -/
def Nd.flat : Nd → List (List UInt8)
  | .mk _ _ _ d l => d :: flatL l
def flatL : List Nd → List (List UInt8)
  | [] => []
  | s :: r => s.flat ++ flatL r
end
def ownBs : List Value → List (List UInt8) → HP
  | [], [] => emp
  | v :: vs, d :: ds => sep (ownB T.u8 v d) (ownBs vs ds)
  | _, _ => fun _ => False
section
variable {w0 : World} {p : List HP} {Pn : PK} {K : Value → WP} {φ : WP}
theorem Ent.empI (h : Ent w0 (emp :: p) φ) : Ent w0 p φ := Ent.add (a := emp) (fun _ => rfl) h
theorem ownBs_app : ∀ {vs us : List Value} {ds es : List (List UInt8)} {x : HL}, sep (ownBs vs ds) (ownBs us es) x → ownBs (vs ++ us) (ds ++ es) x
  | [], us, [], es, x, h => by
    obtain ⟨y, z, hy, hz, h3, h4⟩ := h
    have : x = z := funext fun i => by rw [h4, hy]; rfl
    exact this ▸ hz
  | v :: vs, us, d :: ds, es, x, h => sep_mono (fun _ h => h) (fun _ h => ownBs_app h) (sep_assoc h)
  | [], us, _ :: _, es, x, h => by obtain ⟨y, z, hy, _⟩ := h; exact hy.elim
  | _ :: _, us, [], es, x, h => by obtain ⟨y, z, hy, _⟩ := h; exact hy.elim
theorem sc_slice {v : Value} {e : Nat} {bs : List UInt8} {x : HL} (h : ownB e v bs x) : v.oneCell' = true := by
  obtain ⟨A, c, rfl, _⟩ := ownB_rd h
  rfl
mutual
/-- A tree of one's own, taken apart: its places, and its bytes. -/
theorem split_nd : ∀ (x : Nd) {w0 : World} {p : List HP} {φ : WP} {cs : List Value}, (∀ s : Sk, s.slots.length = x.flat.length → Ent w0 (Ow (skD s) cs :: ownBs s.slots x.flat :: p) φ) → Ent w0 (Ow (ndD x) cs :: p) φ
  | .mk k n b d l, w0, p, φ, cs, h => by
    unfold ndD
    -- the parts
    refine Ent.ex fun a1 => Ent.ex fun b1 => both_three (Ent.pure fun e1 => Ent.pure fun ⟨f1, _⟩ => ?_)
    refine Ent.ex fun a2 => Ent.ex fun b2 => both_three (Ent.pure fun e2 => Ent.pure fun ⟨f2, _⟩ => ?_)
    refine Ent.ex fun a3 => Ent.ex fun b3 => both_three (Ent.pure fun e3 => Ent.pure fun ⟨f3, _⟩ => ?_)
    refine Ent.ex fun a4 => Ent.ex fun b4 => both_three (Ent.pure fun e4 => ?_)
    refine Ent.freeze fun y hy => ?_
    obtain ⟨v4, rfl⟩ : ∃ v4, a4 = [v4] := by
      obtain ⟨A, c, hc, _⟩ := Ow.rd _ _ _ hy
      exact ⟨_, hc⟩
    have hyB : ownB T.u8 v4 d y := ownB_ofD hy
    have hv4 := sc_slice hyB
    refine Ent.perm (List.Perm.swap _ _ _) ?_
    refine Ent.ex fun a5 => Ent.ex fun b5 => both_three (Ent.pure fun e5 => ?_)
    refine Ent.perm (List.Perm.swap _ _ _) (Ent.pure fun f5 => ?_)
    subst e1 f1 e2 f2 e3 f3 e4 e5 f5
    refine Ent.freeze fun z hz => ?_
    obtain ⟨v5, rfl⟩ : ∃ v5, a5 = [v5] := by
      obtain ⟨A, c, hc, _⟩ := Ow.rd _ _ _ hz
      exact ⟨_, hc⟩
    refine Ent.thaw hz (Ow.open_sl fun i => ?_)
    refine Ent.perm (List.Perm.swap _ _ _) ?_
    refine split_nds l fun ss hss hsl => ?_
    refine Ent.take (row T.api_Node 5 v5 (ndsD l).length i.flatten) ?_
    rw [ndsD_length, ← hss, ← sksD_length ss]
    refine Ent.take (OwC 5 (sksD ss) i) (Ent.take (row T.api_Node 5 v5 (sksD ss).length i.flatten) (Ow.close_sl ?_))
    refine Ent.imp (b := Ow (skD (.mk k n b v4 ss)) ([.int .i64 k] ++ ([.int .i64 n] ++ ([.bool b] ++ ([v4] ++ ([v5] ++ []))))) ) (fun u hu => ?_) ?_
    · refine OwP.sc rfl (OwP.sc rfl (OwP.sc rfl (OwP.sc hv4 ?_)))
      exact OwP.cons (a := [v5]) (b := []) (sep_mono (fun _ h => h) (fun _ h => ⟨rfl, h⟩) (sep_emp hu))
    · refine Ent.take (exact y) (Ent.thaw (a := ownB T.u8 v4 d) hyB ?_)
      refine Ent.take (ownBs (slotsL ss) (flatL l)) (Ent.take (ownB T.u8 v4 d) (Ent.sepI ?_))
      have := h (.mk k n b v4 ss) (by unfold Sk.slots Nd.flat; simp [hsl])
      refine Ent.perm (List.Perm.swap _ _ _) ?_
      exact this
theorem split_nds : ∀ (l : List Nd) {w0 : World} {p : List HP} {φ : WP} {i : List (List Value)}, (∀ ss : List Sk, ss.length = l.length → (slotsL ss).length = (flatL l).length → Ent w0 (OwC 5 (sksD ss) i :: ownBs (slotsL ss) (flatL l) :: p) φ) → Ent w0 (OwC 5 (ndsD l) i :: p) φ
  | [], w0, p, φ, i, h => Ent.imp (b := OwC 5 (sksD []) i) (fun x hx => hx) (by
      have := h [] rfl rfl
      exact Ent.empI (Ent.perm (List.Perm.swap _ _ _) this))
  | x :: r, w0, p, φ, i, h => by
    unfold ndsD
    refine Ent.ex fun a => Ent.ex fun b => both_three (Ent.pure fun e1 => ?_)
    refine split_nd x fun s hsl => ?_
    refine Ent.take (OwC 5 (ndsD r) b) (split_nds r fun ss hss hssl => ?_)
    refine Ent.take (OwC 5 (sksD ss) b) (Ent.take (Ow (skD s) a) (Ent.sepI ?_))
    refine Ent.imp (b := OwC 5 (sksD (s :: ss)) i) (fun u hu => ⟨a, b, pure_and e1 (sep_mono (fun _ h => h) (fun _ h => sep_emp h) hu)⟩) ?_
    refine Ent.take (ownBs (slotsL ss) (flatL r)) (Ent.take (ownBs s.slots x.flat) (Ent.sepI ?_))
    refine Ent.imp (b := ownBs (slotsL (s :: ss)) (flatL (x :: r))) (fun u hu => ?_) ?_
    · unfold slotsL flatL
      exact ownBs_app hu
    · exact Ent.perm (List.Perm.swap _ _ _) (h (s :: ss) (by simp [hss]) (by unfold slotsL flatL; simp [hsl, hssl]))
end
end
mutual
/-- The same of a tree that is read. -/
theorem rd_sk {C : Addr → Value → Prop} : ∀ (x : Nd) {cs : List Value}, Rd C (ndD x) cs → ∃ s : Sk, Rd C (skD s) cs ∧ s.slots.length = x.flat.length ∧ ∀ (i : Nat) (v : Value) (d : List UInt8), s.slots[i]? = some v → x.flat[i]? = some d → Rd C (bytesD T.u8 d) [v]
  | .mk k n b d l, cs, h => by
    unfold ndD at h
    obtain ⟨x1, y1, rfl, ⟨rfl, _⟩, x2, y2, rfl, ⟨rfl, _⟩, x3, y3, rfl, ⟨rfl, _⟩, x4, y4, rfl, h4, x5, y5, rfl, h5, rfl⟩ := h
    obtain ⟨A, c, rfl, h6⟩ := id h4
    obtain ⟨A2, c2, rfl, h7, h8, h9⟩ := h5
    have key : ∃ ss : List Sk, ss.length = l.length ∧ (slotsL ss).length = (flatL l).length ∧ (∀ (i : Nat) (v : Value) (d : List UInt8), (slotsL ss)[i]? = some v → (flatL l)[i]? = some d → Rd C (bytesD T.u8 d) [v]) ∧ (l = [] ∨ ∃ b o, A2 = some ⟨b, o, none⟩ ∧ RdC C 5 (sksD ss) b o) := by
      rcases h9 with h9 | ⟨b, o, h10, h11⟩
      · have hl : l = [] := List.eq_nil_of_length_eq_zero (by rw [← ndsD_length, h9]; rfl)
        subst hl
        exact ⟨[], rfl, rfl, fun i v d hv => by simp [slotsL] at hv, .inl rfl⟩
      · obtain ⟨ss, e1, e2, e3, e4⟩ := rds_sk l h11
        exact ⟨ss, e1, e2, e3, .inr ⟨b, o, h10, e4⟩⟩
    obtain ⟨ss, e1, e2, e3, e4⟩ := key
    refine ⟨.mk k n b (.slice A (d.length) c) ss, ?_, ?_, ?_⟩
    · refine ⟨_, _, rfl, ⟨rfl, rfl⟩, _, _, rfl, ⟨rfl, rfl⟩, _, _, rfl, ⟨rfl, rfl⟩, [_], _, rfl, ⟨?_, rfl⟩, [_], [], rfl, ⟨A2, c2, ?_, ?_, h8, ?_⟩, rfl⟩
      · simp
      · rw [sksD_length, e1, ndsD_length]
      · rw [sksD_length, e1]; rw [ndsD_length] at h7; exact h7
      · rcases e4 with e4 | ⟨b, o, h10, h11⟩
        · subst e4
          left
          have : ss = [] := List.eq_nil_of_length_eq_zero e1
          subst this
          rfl
        · exact .inr ⟨b, o, h10, h11⟩
    · unfold Sk.slots Nd.flat
      simp [e2]
    · intro i v dd hv hd
      unfold Sk.slots at hv
      unfold Nd.flat at hd
      cases i with
      | zero =>
        simp at hv hd
        subst hv; subst hd
        have : d.length = (d.map fun b => D.sc (u8 b)).length := by simp
        rw [this]
        exact h4
      | succ i => exact e3 i v dd (by simpa using hv) (by simpa using hd)
theorem rds_sk {C : Addr → Value → Prop} : ∀ (l : List Nd) {b o : Nat}, RdC C 5 (ndsD l) b o → ∃ ss : List Sk, ss.length = l.length ∧ (slotsL ss).length = (flatL l).length ∧ (∀ (i : Nat) (v : Value) (d : List UInt8), (slotsL ss)[i]? = some v → (flatL l)[i]? = some d → Rd C (bytesD T.u8 d) [v]) ∧ RdC C 5 (sksD ss) b o
  | [], b, o, h => ⟨[], rfl, rfl, fun i v d hv => by simp [slotsL] at hv, trivial⟩
  | x :: r, b, o, h => by
    obtain ⟨⟨cs, h1, h2, h3⟩, h4⟩ := h
    obtain ⟨s, e1, e2, e3⟩ := rd_sk x h1
    obtain ⟨ss, f1, f2, f3, f4⟩ := rds_sk r h4
    refine ⟨s :: ss, by simp [f1], by unfold slotsL flatL; simp [e2, f2], fun i v d hv hd => ?_, ⟨⟨cs, e1, h2, h3⟩, f4⟩⟩
    unfold slotsL at hv
    unfold flatL at hd
    by_cases hi : i < s.slots.length
    · rw [List.getElem?_append_left hi] at hv
      rw [List.getElem?_append_left (by omega)] at hd
      exact e3 i v d hv hd
    · rw [List.getElem?_append_right (by omega)] at hv
      rw [List.getElem?_append_right (by omega), ← e2] at hd
      exact f3 _ v d hv hd
end
end Go.Lt
