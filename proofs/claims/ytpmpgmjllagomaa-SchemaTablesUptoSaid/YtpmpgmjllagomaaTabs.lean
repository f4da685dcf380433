/- The tables of the keys: what the functions hand out (printed by tabs.py). Conditions: none. -/
import Derived.Test.YtpmpgmjllagomaaStab3
import Derived.Test.YtpmpgmjllagomaaRtree
import Derived.Test.YtpmpgmjllagomaaRalikeF
set_option linter.unusedVariables false
set_option maxHeartbeats 4000000
set_option linter.unusedSimpArgs false
set_option maxRecDepth 100000
namespace Go.Lt
open Go
attribute [local irreducible] op gop lt glt rc grc ite' drawn also ldR
section
variable {w0 : World} {p r : List HP} {Pn : PK} {K : Value → WP}
def fldP (cs : List Value) (f : Fld) : HP := Ow (fldD f) cs
def flsP (v : Value) (l : List Fld) : HP := Ow (.sl T.api_Field 5 (fldsD l)) [v]
/-- A list of fields that is owned, or nil. -/
class Fls (v : Value) (p : List HP) (e : outParam (List Fld)) (r : outParam (List HP)) : Prop where out : ∀ (w0 : World) (φ : WP), Ent w0 (flsP v e :: r) φ → Ent w0 p φ
theorem own_nilF {φ : WP} (h : Ent w0 (flsP (.slice none 0 0) [] :: p) φ) : Ent w0 p φ := by
  refine Ent.add (a := flsP (.slice none 0 0) []) ?_ h
  exact Ow.nil _ _
instance (priority := high) {p : List HP} : Fls (.slice none 0 0) p [] p := ⟨fun w0 φ h => own_nilF h⟩
instance (priority := low) {v : Value} {p r : List HP} {e : List Fld} [h : Pick flsP v p e r] : Fls v p e r := ⟨fun w0 φ hk => Ent.perm h.out hk⟩
theorem fld_own {nm : ByteArray} {k f t : Int} {A : Option Addr} {n c : Nat} {e : List Fld} {φ : WP} (h : Ent w0 (fldP [.string nm, .int .i64 k, .int .i64 f, .int .i64 t, .slice A n c] (.mk nm k f t e) :: p) φ) : Ent w0 (flsP (.slice A n c) e :: p) φ := by
  intro w hs
  have hs' := hs
  obtain ⟨y, hy, hys⟩ := hs.head
  have := Ow.rd _ _ _ hy
  obtain ⟨A', c', he, _⟩ := this
  rw [fldsD_length] at he
  injection he with he _
  injection he with h1 h2 h3
  subst h1; subst h2; subst h3
  exact fld_close (f := .mk nm k f t e) h w hs'
theorem since_spec {nm : ByteArray} {k f : Int} {A : Option Addr} {n c : Nat} {e : List Fld} [hf : Fls (.slice A n c) p e r]
    (h : Ent w0 (fldP [.string nm, .int .i64 k, .int .i64 f, .int .i64 3, .slice A n c] (.mk nm k f 3 e) :: r) (K (.agg #[.string nm, .int .i64 k, .int .i64 f, .int .i64 3, .slice A n c]))) :
    Ent w0 p (op PR Pn (S.fn F.schema_since [.int .i64 f, .string nm, .int .i64 k, .slice A n c]) K) := by
  refine Ent.call (fun w h => enter.schema_since h) ?_
  unfold W.schema_since
  refine hf.out _ _ (fld_own (nm := nm) (k := k) (f := f) (t := 3) ?_)
  refine Ent.alloc fun g => ?_
  repeat (first | refine Ent.runW (wrap_i64 (by omega) (by omega)) ?_ | refine Ent.runWL (wrap_i64 (by omega) (by omega)) ?_ | refine Ent.runWR (wrap_i64 (by omega) (by omega)) ?_ | refine Ent.run ?_ | refine Ent.runL ?_ | refine Ent.runR ?_ | refine Ent.drawn ?_ | refine Ent.store (by kernel_rfl) ?_ | refine Ent.resN ?_ | refine Ent.res1 ?_ | refine Ent.gop_yes ?_ | refine Ent.gop_no (by decide) ?_ | refine Ent.gop_undef ?_ | refine Ent.glt_undef ?_ | refine Ent.grc_undef ?_ | refine Ent.glt_yes ?_ | refine Ent.glt_no (by decide) ?_ | refine Ent.grc_yes ?_ | refine Ent.grc_no (by decide) ?_)
  exact Ent.keep h
theorem all_spec {nm : ByteArray} {k : Int} {A : Option Addr} {n c : Nat} {e : List Fld} [hf : Fls (.slice A n c) p e r]
    (h : Ent w0 (fldP [.string nm, .int .i64 k, .int .i64 0, .int .i64 3, .slice A n c] (.mk nm k 0 3 e) :: r) (K (.agg #[.string nm, .int .i64 k, .int .i64 0, .int .i64 3, .slice A n c]))) :
    Ent w0 p (op PR Pn (S.fn F.schema_all [.string nm, .int .i64 k, .slice A n c]) K) := by
  refine Ent.call (fun w h => enter.schema_all h) ?_
  unfold W.schema_all
  refine hf.out _ _ ?_
  refine Ent.alloc fun g => ?_
  repeat (first | refine Ent.runW (wrap_i64 (by omega) (by omega)) ?_ | refine Ent.runWL (wrap_i64 (by omega) (by omega)) ?_ | refine Ent.runWR (wrap_i64 (by omega) (by omega)) ?_ | refine Ent.run ?_ | refine Ent.runL ?_ | refine Ent.runR ?_ | refine Ent.drawn ?_ | refine Ent.store (by kernel_rfl) ?_ | refine Ent.resN ?_ | refine Ent.res1 ?_ | refine Ent.gop_yes ?_ | refine Ent.gop_no (by decide) ?_ | refine Ent.gop_undef ?_ | refine Ent.glt_undef ?_ | refine Ent.grc_undef ?_ | refine Ent.glt_yes ?_ | refine Ent.glt_no (by decide) ?_ | refine Ent.grc_yes ?_ | refine Ent.grc_no (by decide) ?_)
  refine since_spec ?_
  repeat (first | refine Ent.runW (wrap_i64 (by omega) (by omega)) ?_ | refine Ent.runWL (wrap_i64 (by omega) (by omega)) ?_ | refine Ent.runWR (wrap_i64 (by omega) (by omega)) ?_ | refine Ent.run ?_ | refine Ent.runL ?_ | refine Ent.runR ?_ | refine Ent.drawn ?_ | refine Ent.store (by kernel_rfl) ?_ | refine Ent.resN ?_ | refine Ent.res1 ?_ | refine Ent.gop_yes ?_ | refine Ent.gop_no (by decide) ?_ | refine Ent.gop_undef ?_ | refine Ent.glt_undef ?_ | refine Ent.grc_undef ?_ | refine Ent.glt_yes ?_ | refine Ent.glt_no (by decide) ?_ | refine Ent.grc_yes ?_ | refine Ent.grc_no (by decide) ?_)
  exact Ent.keep h
theorem first_spec {nm : ByteArray} {k : Int} {A : Option Addr} {n c : Nat} {e : List Fld} [hf : Fls (.slice A n c) p e r]
    (h : Ent w0 (fldP [.string nm, .int .i64 k, .int .i64 0, .int .i64 0, .slice A n c] (.mk nm k 0 0 e) :: r) (K (.agg #[.string nm, .int .i64 k, .int .i64 0, .int .i64 0, .slice A n c]))) :
    Ent w0 p (op PR Pn (S.callV (.func (.func F.schema_list_1) #[] #[]) [.string nm, .int .i64 k, .slice A n c]) K) := by
  change Ent w0 p (op PR Pn (S.fn F.schema_list_1 [.string nm, .int .i64 k, .slice A n c]) K)
  refine Ent.call (fun w h => enter.schema_list_1 h) ?_
  unfold W.schema_list_1
  refine hf.out _ _ (fld_own (nm := nm) (k := k) (f := 0) (t := 0) ?_)
  refine Ent.alloc fun g => ?_
  repeat (first | refine Ent.runW (wrap_i64 (by omega) (by omega)) ?_ | refine Ent.runWL (wrap_i64 (by omega) (by omega)) ?_ | refine Ent.runWR (wrap_i64 (by omega) (by omega)) ?_ | refine Ent.run ?_ | refine Ent.runL ?_ | refine Ent.runR ?_ | refine Ent.drawn ?_ | refine Ent.store (by kernel_rfl) ?_ | refine Ent.resN ?_ | refine Ent.res1 ?_ | refine Ent.gop_yes ?_ | refine Ent.gop_no (by decide) ?_ | refine Ent.gop_undef ?_ | refine Ent.glt_undef ?_ | refine Ent.grc_undef ?_ | refine Ent.glt_yes ?_ | refine Ent.glt_no (by decide) ?_ | refine Ent.grc_yes ?_ | refine Ent.grc_no (by decide) ?_)
  exact Ent.keep h
theorem one_spec {nm : ByteArray} {k f t : Int}
    (h : Ent w0 (fldP [.string nm, .int .i64 k, .int .i64 f, .int .i64 t, .slice none 0 0] (.mk nm k f t []) :: p) (K (.agg #[.string nm, .int .i64 k, .int .i64 f, .int .i64 t, .slice none 0 0]))) :
    Ent w0 p (op PR Pn (S.fn F.leatref10_one [.string nm, .int .i64 k, .int .i64 f, .int .i64 t]) K) := by
  refine Ent.call (fun w h => enter.leatref10_one h) ?_
  unfold W.leatref10_one
  refine own_nilF (fld_own (nm := nm) (k := k) (f := f) (t := t) ?_)
  refine Ent.alloc fun g => ?_
  repeat (first | refine Ent.runW (wrap_i64 (by omega) (by omega)) ?_ | refine Ent.runWL (wrap_i64 (by omega) (by omega)) ?_ | refine Ent.runWR (wrap_i64 (by omega) (by omega)) ?_ | refine Ent.run ?_ | refine Ent.runL ?_ | refine Ent.runR ?_ | refine Ent.drawn ?_ | refine Ent.store (by kernel_rfl) ?_ | refine Ent.resN ?_ | refine Ent.res1 ?_ | refine Ent.gop_yes ?_ | refine Ent.gop_no (by decide) ?_ | refine Ent.gop_undef ?_ | refine Ent.glt_undef ?_ | refine Ent.grc_undef ?_ | refine Ent.glt_yes ?_ | refine Ent.glt_no (by decide) ?_ | refine Ent.grc_yes ?_ | refine Ent.grc_no (by decide) ?_)
  exact Ent.keep h
theorem owc_nil {sz : Nat} {φ : WP} (h : Ent w0 (OwC sz [] [] :: p) φ) : Ent w0 p φ := by
  refine Ent.add (a := OwC sz [] []) ?_ h
  exact ⟨rfl, fun _ => rfl⟩
theorem owc_cons {sz : Nat} {d : D} {l : List D} {cs : List Value} {i : List (List Value)} {φ : WP} (hl : cs.length = sz) (h : Ent w0 (OwC sz (d :: l) (cs :: i) :: p) φ) : Ent w0 (Ow d cs :: OwC sz l i :: p) φ := by
  refine Ent.join' (q := [Ow d cs, OwC sz l i]) ?_
  exact Ent.imp (fun x hx => ⟨cs, i, pure_and ⟨rfl, hl⟩ hx⟩) h
def ownZ : List Fld → List (List Value) → List HP
  | f :: fs, c :: cs => Ow (fldD f) c :: ownZ fs cs
  | _, _ => []
theorem owc_all : ∀ {fs : List Fld} {is : List (List Value)} {q : List HP} {φ : WP}, (∀ c ∈ is, c.length = 5) → Ent w0 (OwC 5 (fldsD fs) is :: q) φ → fs.length = is.length → Ent w0 (ownZ fs is ++ q) φ
  | [], [], q, φ, _, h, _ => owc_nil h
  | f :: fs, c :: is, q, φ, hc, h, hl => by
    refine Ent.perm (q := ownZ fs is ++ (Ow (fldD f) c :: q)) (List.perm_middle.symm) (owc_all (fun x hx => hc x (List.mem_cons_of_mem _ hx)) (Ent.perm (List.Perm.swap _ _ _) (owc_cons (hc c List.mem_cons_self) h)) (by simpa using hl))
  | [], _ :: _, _, _, _, _, hl => by simp at hl
  | _ :: _, [], _, _, _, _, hl => by simp at hl

theorem bsl1 {n1 : ByteArray} {k1 f1 t1 : Int} {A1 : Option Addr} {m1 c1 : Nat} {x1 : Fld} {r1 : List HP} [q1 : Pick fldP [.string n1, .int .i64 k1, .int .i64 f1, .int .i64 t1, .slice A1 m1 c1] p x1 r1]
    (h : ∀ g, Ent w0 (flsP (.slice (some ⟨g, 0, none⟩) 1 1) [x1] :: r1) (K (.slice (some ⟨g, 0, none⟩) 1 1))) : Ent w0 p (op PR Pn (S.bslice T.L_api_Field 1 [(0, .agg #[.string n1, .int .i64 k1, .int .i64 f1, .int .i64 t1, .slice A1 m1 c1])]) K) := by
  refine Ent.perm (q1.out) ?_
  refine Ent.bsliceR (sz := 5) (by omega) rfl fun g => ?_
  refine Ent.perm (q := [Ow (fldD x1) [.string n1, .int .i64 k1, .int .i64 f1, .int .i64 t1, .slice A1 m1 c1]] ++ (row T.api_Field 5 (.slice (some ⟨g, 0, none⟩) 1 1) 1 [[.string n1, .int .i64 k1, .int .i64 f1, .int .i64 t1, .slice A1 m1 c1]].flatten :: r1)) (List.perm_middle (l₁ := [Ow (fldD x1) [.string n1, .int .i64 k1, .int .i64 f1, .int .i64 t1, .slice A1 m1 c1]])).symm ?_
  refine owc_all (fs := [x1]) (is := [[.string n1, .int .i64 k1, .int .i64 f1, .int .i64 t1, .slice A1 m1 c1]]) (q := row T.api_Field 5 (.slice (some ⟨g, 0, none⟩) 1 1) 1 _ :: r1) ?_ ?_ ?_
  · intro c hc
    simp only [List.mem_cons, List.not_mem_nil, or_false] at hc
    rcases hc with rfl <;> rfl
  · exact Ent.perm (List.Perm.swap _ _ _) (Ow.close_sl (l := fldsD [x1]) (h g))
  · rfl
theorem bsl2 {n1 : ByteArray} {k1 f1 t1 : Int} {A1 : Option Addr} {m1 c1 : Nat} {x1 : Fld} {n2 : ByteArray} {k2 f2 t2 : Int} {A2 : Option Addr} {m2 c2 : Nat} {x2 : Fld} {r1 : List HP} {r2 : List HP} [q1 : Pick fldP [.string n1, .int .i64 k1, .int .i64 f1, .int .i64 t1, .slice A1 m1 c1] p x1 r1] [q2 : Pick fldP [.string n2, .int .i64 k2, .int .i64 f2, .int .i64 t2, .slice A2 m2 c2] r1 x2 r2]
    (h : ∀ g, Ent w0 (flsP (.slice (some ⟨g, 0, none⟩) 2 2) [x1, x2] :: r2) (K (.slice (some ⟨g, 0, none⟩) 2 2))) : Ent w0 p (op PR Pn (S.bslice T.L_api_Field 2 [(0, .agg #[.string n1, .int .i64 k1, .int .i64 f1, .int .i64 t1, .slice A1 m1 c1]), (1, .agg #[.string n2, .int .i64 k2, .int .i64 f2, .int .i64 t2, .slice A2 m2 c2])]) K) := by
  refine Ent.perm (q1.out) ?_
  refine Ent.perm (List.Perm.cons _ (q2.out)) ?_
  refine Ent.bsliceR (sz := 5) (by omega) rfl fun g => ?_
  refine Ent.perm (q := [Ow (fldD x1) [.string n1, .int .i64 k1, .int .i64 f1, .int .i64 t1, .slice A1 m1 c1], Ow (fldD x2) [.string n2, .int .i64 k2, .int .i64 f2, .int .i64 t2, .slice A2 m2 c2]] ++ (row T.api_Field 5 (.slice (some ⟨g, 0, none⟩) 2 2) 2 [[.string n1, .int .i64 k1, .int .i64 f1, .int .i64 t1, .slice A1 m1 c1], [.string n2, .int .i64 k2, .int .i64 f2, .int .i64 t2, .slice A2 m2 c2]].flatten :: r2)) (List.perm_middle (l₁ := [Ow (fldD x1) [.string n1, .int .i64 k1, .int .i64 f1, .int .i64 t1, .slice A1 m1 c1], Ow (fldD x2) [.string n2, .int .i64 k2, .int .i64 f2, .int .i64 t2, .slice A2 m2 c2]])).symm ?_
  refine owc_all (fs := [x1, x2]) (is := [[.string n1, .int .i64 k1, .int .i64 f1, .int .i64 t1, .slice A1 m1 c1], [.string n2, .int .i64 k2, .int .i64 f2, .int .i64 t2, .slice A2 m2 c2]]) (q := row T.api_Field 5 (.slice (some ⟨g, 0, none⟩) 2 2) 2 _ :: r2) ?_ ?_ ?_
  · intro c hc
    simp only [List.mem_cons, List.not_mem_nil, or_false] at hc
    rcases hc with rfl | rfl <;> rfl
  · exact Ent.perm (List.Perm.swap _ _ _) (Ow.close_sl (l := fldsD [x1, x2]) (h g))
  · rfl
theorem bsl3 {n1 : ByteArray} {k1 f1 t1 : Int} {A1 : Option Addr} {m1 c1 : Nat} {x1 : Fld} {n2 : ByteArray} {k2 f2 t2 : Int} {A2 : Option Addr} {m2 c2 : Nat} {x2 : Fld} {n3 : ByteArray} {k3 f3 t3 : Int} {A3 : Option Addr} {m3 c3 : Nat} {x3 : Fld} {r1 : List HP} {r2 : List HP} {r3 : List HP} [q1 : Pick fldP [.string n1, .int .i64 k1, .int .i64 f1, .int .i64 t1, .slice A1 m1 c1] p x1 r1] [q2 : Pick fldP [.string n2, .int .i64 k2, .int .i64 f2, .int .i64 t2, .slice A2 m2 c2] r1 x2 r2] [q3 : Pick fldP [.string n3, .int .i64 k3, .int .i64 f3, .int .i64 t3, .slice A3 m3 c3] r2 x3 r3]
    (h : ∀ g, Ent w0 (flsP (.slice (some ⟨g, 0, none⟩) 3 3) [x1, x2, x3] :: r3) (K (.slice (some ⟨g, 0, none⟩) 3 3))) : Ent w0 p (op PR Pn (S.bslice T.L_api_Field 3 [(0, .agg #[.string n1, .int .i64 k1, .int .i64 f1, .int .i64 t1, .slice A1 m1 c1]), (1, .agg #[.string n2, .int .i64 k2, .int .i64 f2, .int .i64 t2, .slice A2 m2 c2]), (2, .agg #[.string n3, .int .i64 k3, .int .i64 f3, .int .i64 t3, .slice A3 m3 c3])]) K) := by
  refine Ent.perm (q1.out) ?_
  refine Ent.perm (List.Perm.cons _ (q2.out)) ?_
  refine Ent.perm (List.Perm.cons _ (List.Perm.cons _ (q3.out))) ?_
  refine Ent.bsliceR (sz := 5) (by omega) rfl fun g => ?_
  refine Ent.perm (q := [Ow (fldD x1) [.string n1, .int .i64 k1, .int .i64 f1, .int .i64 t1, .slice A1 m1 c1], Ow (fldD x2) [.string n2, .int .i64 k2, .int .i64 f2, .int .i64 t2, .slice A2 m2 c2], Ow (fldD x3) [.string n3, .int .i64 k3, .int .i64 f3, .int .i64 t3, .slice A3 m3 c3]] ++ (row T.api_Field 5 (.slice (some ⟨g, 0, none⟩) 3 3) 3 [[.string n1, .int .i64 k1, .int .i64 f1, .int .i64 t1, .slice A1 m1 c1], [.string n2, .int .i64 k2, .int .i64 f2, .int .i64 t2, .slice A2 m2 c2], [.string n3, .int .i64 k3, .int .i64 f3, .int .i64 t3, .slice A3 m3 c3]].flatten :: r3)) (List.perm_middle (l₁ := [Ow (fldD x1) [.string n1, .int .i64 k1, .int .i64 f1, .int .i64 t1, .slice A1 m1 c1], Ow (fldD x2) [.string n2, .int .i64 k2, .int .i64 f2, .int .i64 t2, .slice A2 m2 c2], Ow (fldD x3) [.string n3, .int .i64 k3, .int .i64 f3, .int .i64 t3, .slice A3 m3 c3]])).symm ?_
  refine owc_all (fs := [x1, x2, x3]) (is := [[.string n1, .int .i64 k1, .int .i64 f1, .int .i64 t1, .slice A1 m1 c1], [.string n2, .int .i64 k2, .int .i64 f2, .int .i64 t2, .slice A2 m2 c2], [.string n3, .int .i64 k3, .int .i64 f3, .int .i64 t3, .slice A3 m3 c3]]) (q := row T.api_Field 5 (.slice (some ⟨g, 0, none⟩) 3 3) 3 _ :: r3) ?_ ?_ ?_
  · intro c hc
    simp only [List.mem_cons, List.not_mem_nil, or_false] at hc
    rcases hc with rfl | rfl | rfl <;> rfl
  · exact Ent.perm (List.Perm.swap _ _ _) (Ow.close_sl (l := fldsD [x1, x2, x3]) (h g))
  · rfl
theorem bsl4 {n1 : ByteArray} {k1 f1 t1 : Int} {A1 : Option Addr} {m1 c1 : Nat} {x1 : Fld} {n2 : ByteArray} {k2 f2 t2 : Int} {A2 : Option Addr} {m2 c2 : Nat} {x2 : Fld} {n3 : ByteArray} {k3 f3 t3 : Int} {A3 : Option Addr} {m3 c3 : Nat} {x3 : Fld} {n4 : ByteArray} {k4 f4 t4 : Int} {A4 : Option Addr} {m4 c4 : Nat} {x4 : Fld} {r1 : List HP} {r2 : List HP} {r3 : List HP} {r4 : List HP} [q1 : Pick fldP [.string n1, .int .i64 k1, .int .i64 f1, .int .i64 t1, .slice A1 m1 c1] p x1 r1] [q2 : Pick fldP [.string n2, .int .i64 k2, .int .i64 f2, .int .i64 t2, .slice A2 m2 c2] r1 x2 r2] [q3 : Pick fldP [.string n3, .int .i64 k3, .int .i64 f3, .int .i64 t3, .slice A3 m3 c3] r2 x3 r3] [q4 : Pick fldP [.string n4, .int .i64 k4, .int .i64 f4, .int .i64 t4, .slice A4 m4 c4] r3 x4 r4]
    (h : ∀ g, Ent w0 (flsP (.slice (some ⟨g, 0, none⟩) 4 4) [x1, x2, x3, x4] :: r4) (K (.slice (some ⟨g, 0, none⟩) 4 4))) : Ent w0 p (op PR Pn (S.bslice T.L_api_Field 4 [(0, .agg #[.string n1, .int .i64 k1, .int .i64 f1, .int .i64 t1, .slice A1 m1 c1]), (1, .agg #[.string n2, .int .i64 k2, .int .i64 f2, .int .i64 t2, .slice A2 m2 c2]), (2, .agg #[.string n3, .int .i64 k3, .int .i64 f3, .int .i64 t3, .slice A3 m3 c3]), (3, .agg #[.string n4, .int .i64 k4, .int .i64 f4, .int .i64 t4, .slice A4 m4 c4])]) K) := by
  refine Ent.perm (q1.out) ?_
  refine Ent.perm (List.Perm.cons _ (q2.out)) ?_
  refine Ent.perm (List.Perm.cons _ (List.Perm.cons _ (q3.out))) ?_
  refine Ent.perm (List.Perm.cons _ (List.Perm.cons _ (List.Perm.cons _ (q4.out)))) ?_
  refine Ent.bsliceR (sz := 5) (by omega) rfl fun g => ?_
  refine Ent.perm (q := [Ow (fldD x1) [.string n1, .int .i64 k1, .int .i64 f1, .int .i64 t1, .slice A1 m1 c1], Ow (fldD x2) [.string n2, .int .i64 k2, .int .i64 f2, .int .i64 t2, .slice A2 m2 c2], Ow (fldD x3) [.string n3, .int .i64 k3, .int .i64 f3, .int .i64 t3, .slice A3 m3 c3], Ow (fldD x4) [.string n4, .int .i64 k4, .int .i64 f4, .int .i64 t4, .slice A4 m4 c4]] ++ (row T.api_Field 5 (.slice (some ⟨g, 0, none⟩) 4 4) 4 [[.string n1, .int .i64 k1, .int .i64 f1, .int .i64 t1, .slice A1 m1 c1], [.string n2, .int .i64 k2, .int .i64 f2, .int .i64 t2, .slice A2 m2 c2], [.string n3, .int .i64 k3, .int .i64 f3, .int .i64 t3, .slice A3 m3 c3], [.string n4, .int .i64 k4, .int .i64 f4, .int .i64 t4, .slice A4 m4 c4]].flatten :: r4)) (List.perm_middle (l₁ := [Ow (fldD x1) [.string n1, .int .i64 k1, .int .i64 f1, .int .i64 t1, .slice A1 m1 c1], Ow (fldD x2) [.string n2, .int .i64 k2, .int .i64 f2, .int .i64 t2, .slice A2 m2 c2], Ow (fldD x3) [.string n3, .int .i64 k3, .int .i64 f3, .int .i64 t3, .slice A3 m3 c3], Ow (fldD x4) [.string n4, .int .i64 k4, .int .i64 f4, .int .i64 t4, .slice A4 m4 c4]])).symm ?_
  refine owc_all (fs := [x1, x2, x3, x4]) (is := [[.string n1, .int .i64 k1, .int .i64 f1, .int .i64 t1, .slice A1 m1 c1], [.string n2, .int .i64 k2, .int .i64 f2, .int .i64 t2, .slice A2 m2 c2], [.string n3, .int .i64 k3, .int .i64 f3, .int .i64 t3, .slice A3 m3 c3], [.string n4, .int .i64 k4, .int .i64 f4, .int .i64 t4, .slice A4 m4 c4]]) (q := row T.api_Field 5 (.slice (some ⟨g, 0, none⟩) 4 4) 4 _ :: r4) ?_ ?_ ?_
  · intro c hc
    simp only [List.mem_cons, List.not_mem_nil, or_false] at hc
    rcases hc with rfl | rfl | rfl | rfl <;> rfl
  · exact Ent.perm (List.Perm.swap _ _ _) (Ow.close_sl (l := fldsD [x1, x2, x3, x4]) (h g))
  · rfl
theorem bsl5 {n1 : ByteArray} {k1 f1 t1 : Int} {A1 : Option Addr} {m1 c1 : Nat} {x1 : Fld} {n2 : ByteArray} {k2 f2 t2 : Int} {A2 : Option Addr} {m2 c2 : Nat} {x2 : Fld} {n3 : ByteArray} {k3 f3 t3 : Int} {A3 : Option Addr} {m3 c3 : Nat} {x3 : Fld} {n4 : ByteArray} {k4 f4 t4 : Int} {A4 : Option Addr} {m4 c4 : Nat} {x4 : Fld} {n5 : ByteArray} {k5 f5 t5 : Int} {A5 : Option Addr} {m5 c5 : Nat} {x5 : Fld} {r1 : List HP} {r2 : List HP} {r3 : List HP} {r4 : List HP} {r5 : List HP} [q1 : Pick fldP [.string n1, .int .i64 k1, .int .i64 f1, .int .i64 t1, .slice A1 m1 c1] p x1 r1] [q2 : Pick fldP [.string n2, .int .i64 k2, .int .i64 f2, .int .i64 t2, .slice A2 m2 c2] r1 x2 r2] [q3 : Pick fldP [.string n3, .int .i64 k3, .int .i64 f3, .int .i64 t3, .slice A3 m3 c3] r2 x3 r3] [q4 : Pick fldP [.string n4, .int .i64 k4, .int .i64 f4, .int .i64 t4, .slice A4 m4 c4] r3 x4 r4] [q5 : Pick fldP [.string n5, .int .i64 k5, .int .i64 f5, .int .i64 t5, .slice A5 m5 c5] r4 x5 r5]
    (h : ∀ g, Ent w0 (flsP (.slice (some ⟨g, 0, none⟩) 5 5) [x1, x2, x3, x4, x5] :: r5) (K (.slice (some ⟨g, 0, none⟩) 5 5))) : Ent w0 p (op PR Pn (S.bslice T.L_api_Field 5 [(0, .agg #[.string n1, .int .i64 k1, .int .i64 f1, .int .i64 t1, .slice A1 m1 c1]), (1, .agg #[.string n2, .int .i64 k2, .int .i64 f2, .int .i64 t2, .slice A2 m2 c2]), (2, .agg #[.string n3, .int .i64 k3, .int .i64 f3, .int .i64 t3, .slice A3 m3 c3]), (3, .agg #[.string n4, .int .i64 k4, .int .i64 f4, .int .i64 t4, .slice A4 m4 c4]), (4, .agg #[.string n5, .int .i64 k5, .int .i64 f5, .int .i64 t5, .slice A5 m5 c5])]) K) := by
  refine Ent.perm (q1.out) ?_
  refine Ent.perm (List.Perm.cons _ (q2.out)) ?_
  refine Ent.perm (List.Perm.cons _ (List.Perm.cons _ (q3.out))) ?_
  refine Ent.perm (List.Perm.cons _ (List.Perm.cons _ (List.Perm.cons _ (q4.out)))) ?_
  refine Ent.perm (List.Perm.cons _ (List.Perm.cons _ (List.Perm.cons _ (List.Perm.cons _ (q5.out))))) ?_
  refine Ent.bsliceR (sz := 5) (by omega) rfl fun g => ?_
  refine Ent.perm (q := [Ow (fldD x1) [.string n1, .int .i64 k1, .int .i64 f1, .int .i64 t1, .slice A1 m1 c1], Ow (fldD x2) [.string n2, .int .i64 k2, .int .i64 f2, .int .i64 t2, .slice A2 m2 c2], Ow (fldD x3) [.string n3, .int .i64 k3, .int .i64 f3, .int .i64 t3, .slice A3 m3 c3], Ow (fldD x4) [.string n4, .int .i64 k4, .int .i64 f4, .int .i64 t4, .slice A4 m4 c4], Ow (fldD x5) [.string n5, .int .i64 k5, .int .i64 f5, .int .i64 t5, .slice A5 m5 c5]] ++ (row T.api_Field 5 (.slice (some ⟨g, 0, none⟩) 5 5) 5 [[.string n1, .int .i64 k1, .int .i64 f1, .int .i64 t1, .slice A1 m1 c1], [.string n2, .int .i64 k2, .int .i64 f2, .int .i64 t2, .slice A2 m2 c2], [.string n3, .int .i64 k3, .int .i64 f3, .int .i64 t3, .slice A3 m3 c3], [.string n4, .int .i64 k4, .int .i64 f4, .int .i64 t4, .slice A4 m4 c4], [.string n5, .int .i64 k5, .int .i64 f5, .int .i64 t5, .slice A5 m5 c5]].flatten :: r5)) (List.perm_middle (l₁ := [Ow (fldD x1) [.string n1, .int .i64 k1, .int .i64 f1, .int .i64 t1, .slice A1 m1 c1], Ow (fldD x2) [.string n2, .int .i64 k2, .int .i64 f2, .int .i64 t2, .slice A2 m2 c2], Ow (fldD x3) [.string n3, .int .i64 k3, .int .i64 f3, .int .i64 t3, .slice A3 m3 c3], Ow (fldD x4) [.string n4, .int .i64 k4, .int .i64 f4, .int .i64 t4, .slice A4 m4 c4], Ow (fldD x5) [.string n5, .int .i64 k5, .int .i64 f5, .int .i64 t5, .slice A5 m5 c5]])).symm ?_
  refine owc_all (fs := [x1, x2, x3, x4, x5]) (is := [[.string n1, .int .i64 k1, .int .i64 f1, .int .i64 t1, .slice A1 m1 c1], [.string n2, .int .i64 k2, .int .i64 f2, .int .i64 t2, .slice A2 m2 c2], [.string n3, .int .i64 k3, .int .i64 f3, .int .i64 t3, .slice A3 m3 c3], [.string n4, .int .i64 k4, .int .i64 f4, .int .i64 t4, .slice A4 m4 c4], [.string n5, .int .i64 k5, .int .i64 f5, .int .i64 t5, .slice A5 m5 c5]]) (q := row T.api_Field 5 (.slice (some ⟨g, 0, none⟩) 5 5) 5 _ :: r5) ?_ ?_ ?_
  · intro c hc
    simp only [List.mem_cons, List.not_mem_nil, or_false] at hc
    rcases hc with rfl | rfl | rfl | rfl | rfl <;> rfl
  · exact Ent.perm (List.Perm.swap _ _ _) (Ow.close_sl (l := fldsD [x1, x2, x3, x4, x5]) (h g))
  · rfl
theorem bsl6 {n1 : ByteArray} {k1 f1 t1 : Int} {A1 : Option Addr} {m1 c1 : Nat} {x1 : Fld} {n2 : ByteArray} {k2 f2 t2 : Int} {A2 : Option Addr} {m2 c2 : Nat} {x2 : Fld} {n3 : ByteArray} {k3 f3 t3 : Int} {A3 : Option Addr} {m3 c3 : Nat} {x3 : Fld} {n4 : ByteArray} {k4 f4 t4 : Int} {A4 : Option Addr} {m4 c4 : Nat} {x4 : Fld} {n5 : ByteArray} {k5 f5 t5 : Int} {A5 : Option Addr} {m5 c5 : Nat} {x5 : Fld} {n6 : ByteArray} {k6 f6 t6 : Int} {A6 : Option Addr} {m6 c6 : Nat} {x6 : Fld} {r1 : List HP} {r2 : List HP} {r3 : List HP} {r4 : List HP} {r5 : List HP} {r6 : List HP} [q1 : Pick fldP [.string n1, .int .i64 k1, .int .i64 f1, .int .i64 t1, .slice A1 m1 c1] p x1 r1] [q2 : Pick fldP [.string n2, .int .i64 k2, .int .i64 f2, .int .i64 t2, .slice A2 m2 c2] r1 x2 r2] [q3 : Pick fldP [.string n3, .int .i64 k3, .int .i64 f3, .int .i64 t3, .slice A3 m3 c3] r2 x3 r3] [q4 : Pick fldP [.string n4, .int .i64 k4, .int .i64 f4, .int .i64 t4, .slice A4 m4 c4] r3 x4 r4] [q5 : Pick fldP [.string n5, .int .i64 k5, .int .i64 f5, .int .i64 t5, .slice A5 m5 c5] r4 x5 r5] [q6 : Pick fldP [.string n6, .int .i64 k6, .int .i64 f6, .int .i64 t6, .slice A6 m6 c6] r5 x6 r6]
    (h : ∀ g, Ent w0 (flsP (.slice (some ⟨g, 0, none⟩) 6 6) [x1, x2, x3, x4, x5, x6] :: r6) (K (.slice (some ⟨g, 0, none⟩) 6 6))) : Ent w0 p (op PR Pn (S.bslice T.L_api_Field 6 [(0, .agg #[.string n1, .int .i64 k1, .int .i64 f1, .int .i64 t1, .slice A1 m1 c1]), (1, .agg #[.string n2, .int .i64 k2, .int .i64 f2, .int .i64 t2, .slice A2 m2 c2]), (2, .agg #[.string n3, .int .i64 k3, .int .i64 f3, .int .i64 t3, .slice A3 m3 c3]), (3, .agg #[.string n4, .int .i64 k4, .int .i64 f4, .int .i64 t4, .slice A4 m4 c4]), (4, .agg #[.string n5, .int .i64 k5, .int .i64 f5, .int .i64 t5, .slice A5 m5 c5]), (5, .agg #[.string n6, .int .i64 k6, .int .i64 f6, .int .i64 t6, .slice A6 m6 c6])]) K) := by
  refine Ent.perm (q1.out) ?_
  refine Ent.perm (List.Perm.cons _ (q2.out)) ?_
  refine Ent.perm (List.Perm.cons _ (List.Perm.cons _ (q3.out))) ?_
  refine Ent.perm (List.Perm.cons _ (List.Perm.cons _ (List.Perm.cons _ (q4.out)))) ?_
  refine Ent.perm (List.Perm.cons _ (List.Perm.cons _ (List.Perm.cons _ (List.Perm.cons _ (q5.out))))) ?_
  refine Ent.perm (List.Perm.cons _ (List.Perm.cons _ (List.Perm.cons _ (List.Perm.cons _ (List.Perm.cons _ (q6.out)))))) ?_
  refine Ent.bsliceR (sz := 5) (by omega) rfl fun g => ?_
  refine Ent.perm (q := [Ow (fldD x1) [.string n1, .int .i64 k1, .int .i64 f1, .int .i64 t1, .slice A1 m1 c1], Ow (fldD x2) [.string n2, .int .i64 k2, .int .i64 f2, .int .i64 t2, .slice A2 m2 c2], Ow (fldD x3) [.string n3, .int .i64 k3, .int .i64 f3, .int .i64 t3, .slice A3 m3 c3], Ow (fldD x4) [.string n4, .int .i64 k4, .int .i64 f4, .int .i64 t4, .slice A4 m4 c4], Ow (fldD x5) [.string n5, .int .i64 k5, .int .i64 f5, .int .i64 t5, .slice A5 m5 c5], Ow (fldD x6) [.string n6, .int .i64 k6, .int .i64 f6, .int .i64 t6, .slice A6 m6 c6]] ++ (row T.api_Field 5 (.slice (some ⟨g, 0, none⟩) 6 6) 6 [[.string n1, .int .i64 k1, .int .i64 f1, .int .i64 t1, .slice A1 m1 c1], [.string n2, .int .i64 k2, .int .i64 f2, .int .i64 t2, .slice A2 m2 c2], [.string n3, .int .i64 k3, .int .i64 f3, .int .i64 t3, .slice A3 m3 c3], [.string n4, .int .i64 k4, .int .i64 f4, .int .i64 t4, .slice A4 m4 c4], [.string n5, .int .i64 k5, .int .i64 f5, .int .i64 t5, .slice A5 m5 c5], [.string n6, .int .i64 k6, .int .i64 f6, .int .i64 t6, .slice A6 m6 c6]].flatten :: r6)) (List.perm_middle (l₁ := [Ow (fldD x1) [.string n1, .int .i64 k1, .int .i64 f1, .int .i64 t1, .slice A1 m1 c1], Ow (fldD x2) [.string n2, .int .i64 k2, .int .i64 f2, .int .i64 t2, .slice A2 m2 c2], Ow (fldD x3) [.string n3, .int .i64 k3, .int .i64 f3, .int .i64 t3, .slice A3 m3 c3], Ow (fldD x4) [.string n4, .int .i64 k4, .int .i64 f4, .int .i64 t4, .slice A4 m4 c4], Ow (fldD x5) [.string n5, .int .i64 k5, .int .i64 f5, .int .i64 t5, .slice A5 m5 c5], Ow (fldD x6) [.string n6, .int .i64 k6, .int .i64 f6, .int .i64 t6, .slice A6 m6 c6]])).symm ?_
  refine owc_all (fs := [x1, x2, x3, x4, x5, x6]) (is := [[.string n1, .int .i64 k1, .int .i64 f1, .int .i64 t1, .slice A1 m1 c1], [.string n2, .int .i64 k2, .int .i64 f2, .int .i64 t2, .slice A2 m2 c2], [.string n3, .int .i64 k3, .int .i64 f3, .int .i64 t3, .slice A3 m3 c3], [.string n4, .int .i64 k4, .int .i64 f4, .int .i64 t4, .slice A4 m4 c4], [.string n5, .int .i64 k5, .int .i64 f5, .int .i64 t5, .slice A5 m5 c5], [.string n6, .int .i64 k6, .int .i64 f6, .int .i64 t6, .slice A6 m6 c6]]) (q := row T.api_Field 5 (.slice (some ⟨g, 0, none⟩) 6 6) 6 _ :: r6) ?_ ?_ ?_
  · intro c hc
    simp only [List.mem_cons, List.not_mem_nil, or_false] at hc
    rcases hc with rfl | rfl | rfl | rfl | rfl | rfl <;> rfl
  · exact Ent.perm (List.Perm.swap _ _ _) (Ow.close_sl (l := fldsD [x1, x2, x3, x4, x5, x6]) (h g))
  · rfl
end
end Go.Lt
