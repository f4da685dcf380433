/- schema's tables: codecs made of fields. Conditions: none. -/
import Derived.Test.YtpmpgmjllagomaaSroot
import Derived.Test.YtpmpgmjllagomaaMap
set_option linter.unusedVariables false
set_option maxHeartbeats 4000000
set_option linter.unusedSimpArgs false
set_option maxRecDepth 100000
namespace Go.Lt
open Go
attribute [local irreducible] op gop lt glt rc grc ite' drawn also ldR
section
variable {P : Program} {w0 : World} {p : List HP} {Pn : PK} {s1 s2 : Sem Next} {b c : Bool}
theorem Ent.orJ {y : Value → WP} [r1 : Run P p s1 (.bool b)] [r2 : Run P p s2 (.bool c)] (h : Ent w0 p (y (.bool (b || c)))) :
    Ent w0 p (Go.Lt.J1 y (fun xk => op P Pn s1 fun x => ite' x (xk x) (op P Pn s2 fun z => xk z))) := by
  refine Ent.J1 fun kk hkk => ?_
  refine Ent.run (v := .bool b) ?_
  cases b
  · refine Ent.ite_f ?_
    refine Ent.run (v := .bool c) ?_
    exact hkk _ _ h
  · exact Ent.ite_t (hkk _ _ h)
theorem both_exact {a b : HP} {u : HL} (h : both [a, b] u) : ∃ x y, a x ∧ b y ∧ (∀ i o, x i = some o → u i = some o) ∧ (∀ i o, y i = some o → u i = some o) := by
  obtain ⟨x, r, hx, ⟨y, e, hy, he, h4, h5⟩, h6, h7⟩ := h
  refine ⟨x, y, hx, hy, fun i o hi => by rw [h7, hi]; rfl, fun i o hi => ?_⟩
  have : r i = some o := by rw [h5, hi]; rfl
  rw [h7]
  rcases h6 i with h | h
  · rw [h, this]; rfl
  · rw [h] at this; cases this
/-- Two frozen chunks as one. -/
theorem Ent.merge {x y : HL} {φ : WP} (h : ∀ z : HL, (∀ i o, x i = some o → z i = some o) → (∀ i o, y i = some o → z i = some o) → Ent w0 (exact z :: p) φ) : Ent w0 (exact x :: exact y :: p) φ := by
  refine Ent.join' (q := [exact x, exact y]) (Ent.freeze fun z hz => ?_)
  obtain ⟨x', y', h1, h2, h3, h4⟩ := both_exact hz
  have h1 : x' = x := h1
  have h2 : y' = y := h2
  subst h1
  subst h2
  exact h z h3 h4
end
mutual
def compileF (v : Int) : Fld → Cd
  | .mk _ k _ _ e => if k = 5 ∨ k = 6 then .txt k else if k = 7 ∨ k = 8 then .blb k else if k = 9 then .arr (firstF v e) else if k = 10 then .rcd (wholeF v e) else .num k
def firstF (v : Int) : List Fld → Cd
  | [] => .num 0
  | f :: _ => compileF v f
def wholeF (v : Int) : List Fld → List Cd
  | [] => []
  | f :: r => if hereF f v then compileF v f :: wholeF v r else wholeF v r
end
theorem wholeF_map (v : Int) : ∀ l : List Fld, wholeF v l = (hereL l v).map (compileF v)
  | [] => by simp [wholeF, hereL]
  | f :: r => by
    have := wholeF_map v r
    unfold wholeF
    unfold hereL at this ⊢
    rw [List.filter_cons]
    split
    · rw [List.map_cons, this]
    · exact this
/-- What a checked table's fields are. -/
inductive Fld.tab : Fld → Prop
  | mk {n : ByteArray} {k a b : Int} {e : List Fld} (h1 : k = 9 → e.length = 1) (h2 : e.length ≤ 16) (h3 : ∀ x ∈ e, Fld.tab x) : Fld.tab (.mk n k a b e)
def WholeOk (fs : List Fld) : Prop := ∀ (w0 : World) (p : List HP) (Pn : PK) (K : Value → WP) (A : Option Addr) (c : Nat) (v : Int), RdD p (.sl T.api_Field 5 (fldsD fs)) [.slice A fs.length c] → fs.length ≤ 16 →
  (∀ A c x, cdV (hcell x) (.rcd (wholeF v fs)) (.iface T.schema_record (.agg [.slice A (wholeF v fs).length c].toArray)) → Ent w0 (exact x :: p) (K (.agg [.slice A (wholeF v fs).length c].toArray))) →
  Ent w0 p (op PR Pn (S.fn F.schema_whole [.slice A fs.length c, .int .i64 v]) K)
def CompOk (f : Fld) : Prop := ∀ (w0 : World) (p : List HP) (Pn : PK) (K : Value → WP) (A : Option Addr) (c : Nat) (v : Int), RdD p (fldD f) (fldC f A c) →
  (∀ u x, cdV (hcell x) (compileF v f) u → Ent w0 (exact x :: p) (K u)) →
  Ent w0 p (op PR Pn (S.fn F.schema_compile [.agg (fldC f A c).toArray, .int .i64 v]) K)
variable {w0 : World} {p : List HP} {Pn : PK} {K : Value → WP}
theorem emp_exact : exact (fun _ => none) (fun _ => none) := rfl
theorem comp_ok {n : ByteArray} {k a b : Int} {e : List Fld} (h9 : k = 9 → e.length = 1) (h16 : e.length ≤ 16) (ihw : WholeOk e) (ihc : ∀ x ∈ e, CompOk x) : CompOk (.mk n k a b e) := fun w0 p Pn K A c v hf hk => by
  obtain ⟨A', c', he, hel⟩ := fld_open hf
  simp only [fldC, List.cons.injEq, Value.slice.injEq, and_true, true_and] at he
  obtain ⟨rfl, _, rfl⟩ := he
  refine Ent.call (fun w h => enter.schema_compile h) ?_
  unfold W.schema_compile
  unfold fldC at *
  simp only [Fld.name, Fld.kind, Fld.frm, Fld.to, Fld.elem] at *
  refine Ent.box fun g1 => ?_
  unfold compileF at hk
  refine Ent.run ?_
  refine Ent.run ?_
  refine Ent.orJ ?_
  refine Ent.ite (fun hq => ?_) (fun hq => ?_)
  · have hq : k = 5 ∨ k = 6 := by simpa using hq
    rw [if_pos hq] at hk
    repeat (first | refine Ent.runW (wrap_i64 (by omega) (by omega)) ?_ | refine Ent.runWL (wrap_i64 (by omega) (by omega)) ?_ | refine Ent.runWR (wrap_i64 (by omega) (by omega)) ?_ | refine Ent.run ?_ | refine Ent.runL ?_ | refine Ent.runR ?_ | refine Ent.drawn ?_ | refine Ent.store (by kernel_rfl) ?_ | refine Ent.resN ?_ | refine Ent.res1 ?_ | refine Ent.gop_yes ?_ | refine Ent.gop_no (by decide) ?_ | refine Ent.gop_undef ?_ | refine Ent.glt_undef ?_ | refine Ent.grc_undef ?_ | refine Ent.glt_yes ?_ | refine Ent.glt_no (by decide) ?_ | refine Ent.grc_yes ?_ | refine Ent.grc_no (by decide) ?_)
    refine Ent.pick blk g1 (Ent.drop (Ent.add emp_exact (hk _ _ ?_)))
    exact rfl
  have hq : ¬ (k = 5 ∨ k = 6) := by simpa using hq
  rw [if_neg hq] at hk
  refine Ent.orJ ?_
  refine Ent.ite (fun hq => ?_) (fun hq => ?_)
  · have hq : k = 7 ∨ k = 8 := by simpa using hq
    rw [if_pos hq] at hk
    repeat (first | refine Ent.runW (wrap_i64 (by omega) (by omega)) ?_ | refine Ent.runWL (wrap_i64 (by omega) (by omega)) ?_ | refine Ent.runWR (wrap_i64 (by omega) (by omega)) ?_ | refine Ent.run ?_ | refine Ent.runL ?_ | refine Ent.runR ?_ | refine Ent.drawn ?_ | refine Ent.store (by kernel_rfl) ?_ | refine Ent.resN ?_ | refine Ent.res1 ?_ | refine Ent.gop_yes ?_ | refine Ent.gop_no (by decide) ?_ | refine Ent.gop_undef ?_ | refine Ent.glt_undef ?_ | refine Ent.grc_undef ?_ | refine Ent.glt_yes ?_ | refine Ent.glt_no (by decide) ?_ | refine Ent.grc_yes ?_ | refine Ent.grc_no (by decide) ?_)
    refine Ent.pick blk g1 (Ent.drop (Ent.add emp_exact (hk _ _ ?_)))
    exact rfl
  have hq : ¬ (k = 7 ∨ k = 8) := by simpa using hq
  rw [if_neg hq] at hk
  refine Ent.run ?_
  refine Ent.ite (fun hq => ?_) (fun hq => ?_)
  · have hq : k = 9 := by simpa using hq
    rw [if_pos hq] at hk
    have h1 := h9 hq
    obtain ⟨e0, rfl⟩ : ∃ x, e = [x] := List.length_eq_one_iff.1 h1
    repeat (first | refine Ent.runW (wrap_i64 (by omega) (by omega)) ?_ | refine Ent.runWL (wrap_i64 (by omega) (by omega)) ?_ | refine Ent.runWR (wrap_i64 (by omega) (by omega)) ?_ | refine Ent.run ?_ | refine Ent.runL ?_ | refine Ent.runR ?_ | refine Ent.drawn ?_ | refine Ent.store (by kernel_rfl) ?_ | refine Ent.resN ?_ | refine Ent.res1 ?_ | refine Ent.gop_yes ?_ | refine Ent.gop_no (by decide) ?_ | refine Ent.gop_undef ?_ | refine Ent.glt_undef ?_ | refine Ent.grc_undef ?_ | refine Ent.glt_yes ?_ | refine Ent.glt_no (by decide) ?_ | refine Ent.grc_yes ?_ | refine Ent.grc_no (by decide) ?_)
    obtain ⟨b2, o2, cs, hia, hcs, hcl2, hld⟩ := RdD.index (P := PR) (t := T.L_api_Field) (k := .i64) (i := 0) hel (by omega) (by simp) (fldsD_get (l := [e0]) (i := 0) (by simp))
    refine Ent.at_ (fun w _ => hia w) ?_
    obtain ⟨A3, c3, rfl, _⟩ := fld_open hcs
    haveI := hld
    repeat (first | refine Ent.runW (wrap_i64 (by omega) (by omega)) ?_ | refine Ent.runWL (wrap_i64 (by omega) (by omega)) ?_ | refine Ent.runWR (wrap_i64 (by omega) (by omega)) ?_ | refine Ent.run ?_ | refine Ent.runL ?_ | refine Ent.runR ?_ | refine Ent.drawn ?_ | refine Ent.store (by kernel_rfl) ?_ | refine Ent.resN ?_ | refine Ent.res1 ?_ | refine Ent.gop_yes ?_ | refine Ent.gop_no (by decide) ?_ | refine Ent.gop_undef ?_ | refine Ent.glt_undef ?_ | refine Ent.grc_undef ?_ | refine Ent.glt_yes ?_ | refine Ent.glt_no (by decide) ?_ | refine Ent.grc_yes ?_ | refine Ent.grc_no (by decide) ?_)
    refine ihc e0 (by simp) w0 _ _ _ A3 c3 v hcs.skip fun u x hu => ?_
    obtain ⟨t, y, rfl⟩ := cdV_iface hu
    repeat (first | refine Ent.runW (wrap_i64 (by omega) (by omega)) ?_ | refine Ent.runWL (wrap_i64 (by omega) (by omega)) ?_ | refine Ent.runWR (wrap_i64 (by omega) (by omega)) ?_ | refine Ent.run ?_ | refine Ent.runL ?_ | refine Ent.runR ?_ | refine Ent.drawn ?_ | refine Ent.store (by kernel_rfl) ?_ | refine Ent.resN ?_ | refine Ent.res1 ?_ | refine Ent.gop_yes ?_ | refine Ent.gop_no (by decide) ?_ | refine Ent.gop_undef ?_ | refine Ent.glt_undef ?_ | refine Ent.grc_undef ?_ | refine Ent.glt_yes ?_ | refine Ent.glt_no (by decide) ?_ | refine Ent.grc_yes ?_ | refine Ent.grc_no (by decide) ?_)
    refine Ent.perm (List.Perm.swap _ _ _) (Ent.drop (hk _ x ?_))
    exact ⟨_, rfl, by simpa [firstF] using hu, t, y, rfl⟩
  have hq : ¬ k = 9 := by simpa using hq
  rw [if_neg hq] at hk
  refine Ent.run ?_
  refine Ent.ite (fun hq => ?_) (fun hq => ?_)
  · have hq : k = 10 := by simpa using hq
    rw [if_pos hq] at hk
    repeat (first | refine Ent.runW (wrap_i64 (by omega) (by omega)) ?_ | refine Ent.runWL (wrap_i64 (by omega) (by omega)) ?_ | refine Ent.runWR (wrap_i64 (by omega) (by omega)) ?_ | refine Ent.run ?_ | refine Ent.runL ?_ | refine Ent.runR ?_ | refine Ent.drawn ?_ | refine Ent.store (by kernel_rfl) ?_ | refine Ent.resN ?_ | refine Ent.res1 ?_ | refine Ent.gop_yes ?_ | refine Ent.gop_no (by decide) ?_ | refine Ent.gop_undef ?_ | refine Ent.glt_undef ?_ | refine Ent.grc_undef ?_ | refine Ent.glt_yes ?_ | refine Ent.glt_no (by decide) ?_ | refine Ent.grc_yes ?_ | refine Ent.grc_no (by decide) ?_)
    refine ihw w0 _ _ _ A c v hel.skip h16 fun A1 c1 x hx => ?_
    repeat (first | refine Ent.runW (wrap_i64 (by omega) (by omega)) ?_ | refine Ent.runWL (wrap_i64 (by omega) (by omega)) ?_ | refine Ent.runWR (wrap_i64 (by omega) (by omega)) ?_ | refine Ent.run ?_ | refine Ent.runL ?_ | refine Ent.runR ?_ | refine Ent.drawn ?_ | refine Ent.store (by kernel_rfl) ?_ | refine Ent.resN ?_ | refine Ent.res1 ?_ | refine Ent.gop_yes ?_ | refine Ent.gop_no (by decide) ?_ | refine Ent.gop_undef ?_ | refine Ent.glt_undef ?_ | refine Ent.grc_undef ?_ | refine Ent.glt_yes ?_ | refine Ent.glt_no (by decide) ?_ | refine Ent.grc_yes ?_ | refine Ent.grc_no (by decide) ?_)
    exact Ent.perm (List.Perm.swap _ _ _) (Ent.drop (hk _ x hx))
  · have hq : ¬ k = 10 := by simpa using hq
    rw [if_neg hq] at hk
    repeat (first | refine Ent.runW (wrap_i64 (by omega) (by omega)) ?_ | refine Ent.runWL (wrap_i64 (by omega) (by omega)) ?_ | refine Ent.runWR (wrap_i64 (by omega) (by omega)) ?_ | refine Ent.run ?_ | refine Ent.runL ?_ | refine Ent.runR ?_ | refine Ent.drawn ?_ | refine Ent.store (by kernel_rfl) ?_ | refine Ent.resN ?_ | refine Ent.res1 ?_ | refine Ent.gop_yes ?_ | refine Ent.gop_no (by decide) ?_ | refine Ent.gop_undef ?_ | refine Ent.glt_undef ?_ | refine Ent.grc_undef ?_ | refine Ent.glt_yes ?_ | refine Ent.glt_no (by decide) ?_ | refine Ent.grc_yes ?_ | refine Ent.grc_no (by decide) ?_)
    refine Ent.pick blk g1 (Ent.drop (Ent.add emp_exact (hk _ _ ?_)))
    exact rfl
theorem cdC.mk {C : Addr → Value → Prop} : ∀ {l : List Cd} {b o : Nat}, (∀ i c, l[i]? = some c → ∃ v, cdV C c v ∧ (∃ t x, v = .iface t x) ∧ C ⟨b, o + i, none⟩ v) → cdC C l b o
  | [], b, o, h => trivial
  | x :: r, b, o, h => by
    refine ⟨by simpa using h 0 x rfl, cdC.mk fun i d hi => ?_⟩
    have := h (i + 1) d (by simpa using hi)
    rwa [show o + (i + 1) = o + 1 + i by omega] at this
theorem whole_ok {fs : List Fld} (ihc : ∀ x ∈ fs, CompOk x) : WholeOk fs := fun w0 p Pn K A c v hf h16 hk => by
  refine Ent.call (fun w h => enter.schema_whole h) ?_
  unfold W.schema_whole
  refine Ent.alloc fun g1 => Ent.alloc fun g2 => ?_
  refine present_spec hf (by omega) fun A1 c1 x hx => ?_
  refine Ent.run ?_
  have hl : (hereL fs v).length ≤ 16 := Nat.le_trans (List.length_filter_le _ _) h16
  have hmem : ∀ i (h : i < (hereL fs v).length), (hereL fs v)[i] ∈ fs := fun i h => (List.mem_filter.1 (List.getElem_mem h)).1
  rw [wholeF_map] at hk
  generalize hh : hereL fs v = hs at hx hl hmem hk
  refine Ent.L1 (σ := Nat × List Value × Option Addr × Nat × HL) (fun s => .int .i64 s.1)
    (fun s => pure' (s.1 ≤ hs.length ∧ s.2.1.length = s.1 ∧ ∀ (j : Nat) (cd : Cd) (u : Value), (hs.map (compileF v))[j]? = some cd → s.2.1[j]? = some u → cdV (hcell s.2.2.2.2) cd u) :: row T.schema_codec 1 (.slice s.2.2.1 s.1 s.2.2.2.1) s.1 s.2.1 :: exact s.2.2.2.2 :: exact x :: blk g2 [.slice s.2.2.1 s.1 s.2.2.2.1] :: blk g1 [.slice none 0 0] :: p)
    (fun s => hs.length - s.1) (0, [], none, 0, fun _ => none) ?_ ?_
  · intro w hs
    refine Sat.add ?_ (Sat.add (row_nil T.schema_codec 1) (Sat.add emp_exact hs))
    exact ⟨⟨Nat.zero_le _, rfl, fun j cd u hj hc => by simp at hc⟩, fun _ => rfl⟩
  rintro ⟨i, us, B, d, X⟩ k hrec
  refine Ent.pure fun hp => ?_
  obtain ⟨hi, hul, hus⟩ := hp
  simp only at hi hul hus hrec ⊢
  repeat (first | refine Ent.runW (wrap_i64 (by omega) (by omega)) ?_ | refine Ent.runWL (wrap_i64 (by omega) (by omega)) ?_ | refine Ent.runWR (wrap_i64 (by omega) (by omega)) ?_ | refine Ent.run ?_ | refine Ent.runL ?_ | refine Ent.runR ?_ | refine Ent.drawn ?_ | refine Ent.store (by kernel_rfl) ?_ | refine Ent.resN ?_ | refine Ent.res1 ?_ | refine Ent.gop_yes ?_ | refine Ent.gop_no (by decide) ?_ | refine Ent.gop_undef ?_ | refine Ent.glt_undef ?_ | refine Ent.grc_undef ?_ | refine Ent.glt_yes ?_ | refine Ent.glt_no (by decide) ?_ | refine Ent.grc_yes ?_ | refine Ent.grc_no (by decide) ?_)
  refine Ent.ite (fun hq => ?_) (fun hq => ?_)
  · have hlt : i < hs.length := by simpa using hq
    have hx3 : RdD (row T.schema_codec 1 (.slice B i d) i us :: exact X :: exact x :: blk g2 [.slice B i d] :: blk g1 [.slice none 0 0] :: p) (.sl T.api_Field 5 (fldsD hs)) [.slice A1 hs.length c1] := by
      exact hx.keep
    obtain ⟨b2, o2, cs, hia, hcs, hcl2, hld⟩ := RdD.index (P := PR) (t := T.L_api_Field) (k := .i64) (i := i) hx3 (by omega) (by omega) (fldsD_get hlt)
    refine Ent.at_ (fun w _ => hia w) ?_
    obtain ⟨A3, c3, rfl, _⟩ := fld_open hcs
    haveI := hld
    repeat (first | refine Ent.runW (wrap_i64 (by omega) (by omega)) ?_ | refine Ent.runWL (wrap_i64 (by omega) (by omega)) ?_ | refine Ent.runWR (wrap_i64 (by omega) (by omega)) ?_ | refine Ent.run ?_ | refine Ent.runL ?_ | refine Ent.runR ?_ | refine Ent.drawn ?_ | refine Ent.store (by kernel_rfl) ?_ | refine Ent.resN ?_ | refine Ent.res1 ?_ | refine Ent.gop_yes ?_ | refine Ent.gop_no (by decide) ?_ | refine Ent.gop_undef ?_ | refine Ent.glt_undef ?_ | refine Ent.grc_undef ?_ | refine Ent.glt_yes ?_ | refine Ent.glt_no (by decide) ?_ | refine Ent.grc_yes ?_ | refine Ent.grc_no (by decide) ?_)
    refine Ent.alloc fun g4 => ?_
    unfold fldC at *
    repeat (first | refine Ent.runW (wrap_i64 (by omega) (by omega)) ?_ | refine Ent.runWL (wrap_i64 (by omega) (by omega)) ?_ | refine Ent.runWR (wrap_i64 (by omega) (by omega)) ?_ | refine Ent.run ?_ | refine Ent.runL ?_ | refine Ent.runR ?_ | refine Ent.drawn ?_ | refine Ent.store (by kernel_rfl) ?_ | refine Ent.resN ?_ | refine Ent.res1 ?_ | refine Ent.gop_yes ?_ | refine Ent.gop_no (by decide) ?_ | refine Ent.gop_undef ?_ | refine Ent.glt_undef ?_ | refine Ent.grc_undef ?_ | refine Ent.glt_yes ?_ | refine Ent.glt_no (by decide) ?_ | refine Ent.grc_yes ?_ | refine Ent.grc_no (by decide) ?_)
    refine ihc _ (hmem i hlt) w0 _ _ _ A3 c3 v hcs.skip fun u y hu => ?_
    obtain ⟨t, z, rfl⟩ := cdV_iface hu
    repeat (first | refine Ent.runW (wrap_i64 (by omega) (by omega)) ?_ | refine Ent.runWL (wrap_i64 (by omega) (by omega)) ?_ | refine Ent.runWR (wrap_i64 (by omega) (by omega)) ?_ | refine Ent.run ?_ | refine Ent.runL ?_ | refine Ent.runR ?_ | refine Ent.drawn ?_ | refine Ent.store (by kernel_rfl) ?_ | refine Ent.resN ?_ | refine Ent.res1 ?_ | refine Ent.gop_yes ?_ | refine Ent.gop_no (by decide) ?_ | refine Ent.gop_undef ?_ | refine Ent.glt_undef ?_ | refine Ent.grc_undef ?_ | refine Ent.glt_yes ?_ | refine Ent.glt_no (by decide) ?_ | refine Ent.grc_yes ?_ | refine Ent.grc_no (by decide) ?_)
    refine Ent.bslice fun g5 => ?_
    repeat (first | refine Ent.runW (wrap_i64 (by omega) (by omega)) ?_ | refine Ent.runWL (wrap_i64 (by omega) (by omega)) ?_ | refine Ent.runWR (wrap_i64 (by omega) (by omega)) ?_ | refine Ent.run ?_ | refine Ent.runL ?_ | refine Ent.runR ?_ | refine Ent.drawn ?_ | refine Ent.store (by kernel_rfl) ?_ | refine Ent.resN ?_ | refine Ent.res1 ?_ | refine Ent.gop_yes ?_ | refine Ent.gop_no (by decide) ?_ | refine Ent.gop_undef ?_ | refine Ent.glt_undef ?_ | refine Ent.grc_undef ?_ | refine Ent.glt_yes ?_ | refine Ent.glt_no (by decide) ?_ | refine Ent.grc_yes ?_ | refine Ent.grc_no (by decide) ?_)
    refine Ent.pick blk g5 (Ent.take (row T.schema_codec 1 (.slice B i d) i us) (Ent.pick blk g5 ?_))
    refine Ent.append1 (sz := 1) rfl rfl (by omega) (by omega) fun B' d' => ?_
    repeat (first | refine Ent.runW (wrap_i64 (by omega) (by omega)) ?_ | refine Ent.runWL (wrap_i64 (by omega) (by omega)) ?_ | refine Ent.runWR (wrap_i64 (by omega) (by omega)) ?_ | refine Ent.run ?_ | refine Ent.runL ?_ | refine Ent.runR ?_ | refine Ent.drawn ?_ | refine Ent.store (by kernel_rfl) ?_ | refine Ent.resN ?_ | refine Ent.res1 ?_ | refine Ent.gop_yes ?_ | refine Ent.gop_no (by decide) ?_ | refine Ent.gop_undef ?_ | refine Ent.glt_undef ?_ | refine Ent.grc_undef ?_ | refine Ent.glt_yes ?_ | refine Ent.glt_no (by decide) ?_ | refine Ent.grc_yes ?_ | refine Ent.grc_no (by decide) ?_)
    refine Ent.pick blk g4 (Ent.drop ?_)
    refine Ent.take (exact X) (Ent.take (exact y) (Ent.merge fun Z hyZ hXZ => ?_))
    have := hrec (i + 1, us ++ [.iface t z], B', d', Z) (by simp only; omega)
    simp only [Int.natCast_add, Int.natCast_one] at this
    refine Ent.keep (Ent.add ?_ this)
    refine ⟨⟨hlt, by simp [hul], fun j cd u' hj hu' => ?_⟩, fun _ => rfl⟩
    by_cases hjl : j < us.length
    · rw [List.getElem?_append_left hjl] at hu'
      exact cdV.mono (fun _ _ h => hcell.mono hXZ h) _ _ (hus j cd u' hj hu')
    · rw [List.getElem?_append_right (by omega)] at hu'
      have hji : j = i := by
        have := (List.getElem?_eq_some_iff.1 hu').1
        simp at this
        omega
      subst hji
      rw [hul, Nat.sub_self] at hu'
      injection hu' with hu'
      subst hu'
      rw [List.getElem?_map, List.getElem?_eq_getElem hlt] at hj
      injection hj with hj
      subst hj
      exact cdV.mono (fun _ _ h => hcell.mono hyZ h) _ _ hu
  · have hlt : i = hs.length := by
      have : ¬ (i : Int) < hs.length := by simpa using hq
      omega
    subst hlt
    repeat (first | refine Ent.runW (wrap_i64 (by omega) (by omega)) ?_ | refine Ent.runWL (wrap_i64 (by omega) (by omega)) ?_ | refine Ent.runWR (wrap_i64 (by omega) (by omega)) ?_ | refine Ent.run ?_ | refine Ent.runL ?_ | refine Ent.runR ?_ | refine Ent.drawn ?_ | refine Ent.store (by kernel_rfl) ?_ | refine Ent.resN ?_ | refine Ent.res1 ?_ | refine Ent.gop_yes ?_ | refine Ent.gop_no (by decide) ?_ | refine Ent.gop_undef ?_ | refine Ent.glt_undef ?_ | refine Ent.grc_undef ?_ | refine Ent.glt_yes ?_ | refine Ent.glt_no (by decide) ?_ | refine Ent.grc_yes ?_ | refine Ent.grc_no (by decide) ?_)
    refine Ent.take (row T.schema_codec 1 (.slice B hs.length d) hs.length us) (Ent.freeze fun r hr => ?_)
    refine Ent.take (exact X) (Ent.take (exact r) (Ent.merge fun Z hrZ hXZ => ?_))
    have hlm : (hs.map (compileF v)).length = hs.length := List.length_map _
    rw [← hlm]
    refine Ent.keep (hk B d Z ?_)
    obtain ⟨h1, ⟨h2, h3, _⟩ | ⟨g, cap, cur, h2, h3, h4, h5, h6, h7⟩⟩ := hr
    · injection h2 with e1 e2 e3
      have : hs = [] := List.eq_nil_of_length_eq_zero h3
      subst this
      exact ⟨_, _, rfl, by simp, by subst e3; simp [maxLen], by simp, .inl rfl⟩
    · injection h2 with e1 e2 e3
      subst e1
      subst e3
      refine ⟨_, _, rfl, by omega, h4, by omega, .inr ⟨g, 0, rfl, cdC.mk fun j cd hj => ?_⟩⟩
      have hjl : j < us.length := by
        have := (List.getElem?_eq_some_iff.1 hj).1
        omega
      have hv := hus j cd us[j] hj (List.getElem?_eq_getElem hjl)
      have hv2 := cdV.mono (fun _ _ h => hcell.mono hXZ h) _ _ hv
      refine ⟨us[j], hv2, cdV_iface hv2, ?_⟩
      refine hcell.mono hrZ ⟨cur, T.schema_codec, (0, 0), by rw [h7]; simp [one], rfl, ?_⟩
      have : us[j]? = some us[j] := List.getElem?_eq_getElem hjl
      rw [← this, ← h6, List.getElem?_take, if_pos (by omega), Nat.zero_add]
      simp
mutual
theorem compile_spec : ∀ f : Fld, f.tab → CompOk f
  | .mk n k a b e, h => by
    cases h with
    | mk h1 h2 h3 => exact comp_ok h1 h2 (whole_ok (compiles_spec e h3)) (compiles_spec e h3)
theorem compiles_spec : ∀ l : List Fld, (∀ x ∈ l, x.tab) → ∀ x ∈ l, CompOk x
  | [], _, x, hx => by cases hx
  | f :: r, h, x, hx => by
    have hf := compile_spec f (h f List.mem_cons_self)
    have hr := compiles_spec r (fun y hy => h y (List.mem_cons_of_mem _ hy))
    rcases List.mem_cons.1 hx with h' | h'
    · exact h' ▸ hf
    · exact hr x h'
end
end Go.Lt
