/- schema's tables: what is there in a version, and its codecs. Conditions: none. -/
import Derived.Test.YtpmpgmjllagomaaSput3
import Derived.Test.YtpmpgmjllagomaaKp
set_option linter.unusedVariables false
set_option maxHeartbeats 4000000
set_option linter.unusedSimpArgs false
set_option maxRecDepth 100000
namespace Go.Lt
open Go
attribute [local irreducible] op gop lt glt rc grc ite' drawn also ldR
variable {w0 : World} {p : List HP} {Pn : PK} {K : Value → WP}
theorem row_rdD {e sz n : Nat} {v : Value} {css : List (List Value)} {l : List D} {x : HL} (hx : row e sz v n css.flatten x) (hc : css.length = n) (hl : l.length = n)
    (h : ∀ (i : Nat) (d : D) (cs : List Value), l[i]? = some d → css[i]? = some cs → RdD p d cs ∧ cs.length = sz) : RdD (exact x :: p) (.sl e sz l) [v] := by
  subst hl
  obtain ⟨h1, ⟨rfl, h2, _⟩ | ⟨g, cap, cur, rfl, h2, h3, h4, h5, h6⟩⟩ := hx
  · have : l = [] := List.eq_nil_of_length_eq_zero h2
    subst this
    exact ⟨none, 0, rfl, by simp, by simp [maxLen], .inl rfl⟩
  · have hall : ∀ y ∈ css, y.length = sz := fun y hy => by
      obtain ⟨i, hi, rfl⟩ := List.mem_iff_getElem.1 hy
      exact (h i l[i] css[i] (List.getElem?_eq_getElem (by omega)) (List.getElem?_eq_getElem hi)).2
    refine ⟨_, cap, rfl, h2, h3, .inr ⟨g, 0, rfl, ?_⟩⟩
    have hrow : ∀ k c, css.flatten[k]? = some c → hcell x ⟨g, k, none⟩ c := fun k c hk => by
      refine ⟨cur, e, (0, 0), by rw [h6]; simp [one], rfl, ?_⟩
      rw [← h5, List.getElem?_take] at hk
      split at hk
      · simpa using hk
      · cases hk
    exact RdC.mk fun m d hm => by
      have hm' : m < css.length := by rw [hc]; exact (List.getElem?_eq_some_iff.1 hm).1
      have him : css[m]? = some css[m] := List.getElem?_eq_getElem hm'
      obtain ⟨hd, hs⟩ := h m d css[m] hm him
      refine ⟨css[m], hd.skip, hs, fun j c hc => ?_⟩
      rw [Nat.zero_add]
      exact PC.here (hrow _ _ (flatten_get css m css[m] hall him j c hc))
/-- A field's cells. -/
def fldC (f : Fld) (A : Option Addr) (c : Nat) : List Value := [.string f.name, .int .i64 f.kind, .int .i64 f.frm, .int .i64 f.to, .slice A f.elem.length c]
theorem fld_open {f : Fld} {cs : List Value} (h : RdD p (fldD f) cs) : ∃ A c, cs = fldC f A c ∧ RdD p (.sl T.api_Field 5 (fldsD f.elem)) [.slice A f.elem.length c] := by
  cases f with
  | mk n k a b l =>
    unfold fldD at h
    obtain ⟨x1, y1, rfl, ⟨rfl, _⟩, x2, y2, rfl, ⟨rfl, _⟩, x3, y3, rfl, ⟨rfl, _⟩, x4, y4, rfl, ⟨rfl, _⟩, x5, y5, rfl, h5, rfl⟩ := h
    obtain ⟨A2, c2, rfl, h7⟩ := h5
    refine ⟨A2, c2, by simp [fldC, Fld.name, Fld.kind, Fld.frm, Fld.to, Fld.elem, fldsD_length], ?_⟩
    exact ⟨A2, c2, by simp [Fld.elem, fldsD_length], h7⟩
def hereF (f : Fld) (v : Int) : Bool := decide (f.frm ≤ v) && decide (v ≤ f.to)
theorem here_spec {f : Fld} {v : Int} {A : Option Addr} {c : Nat} (h : Ent w0 p (K (.bool (hereF f v)))) : Ent w0 p (op PR Pn (S.fn F.schema_here [.agg (fldC f A c).toArray, .int .i64 v]) K) := by
  refine Ent.call (fun w h => enter.schema_here h) ?_
  unfold W.schema_here
  unfold fldC
  refine Ent.box fun g => ?_
  repeat (first | refine Ent.runW (wrap_i64 (by omega) (by omega)) ?_ | refine Ent.runWL (wrap_i64 (by omega) (by omega)) ?_ | refine Ent.runWR (wrap_i64 (by omega) (by omega)) ?_ | refine Ent.run ?_ | refine Ent.runL ?_ | refine Ent.runR ?_ | refine Ent.drawn ?_ | refine Ent.store (by kernel_rfl) ?_ | refine Ent.resN ?_ | refine Ent.res1 ?_ | refine Ent.gop_yes ?_ | refine Ent.gop_no (by decide) ?_ | refine Ent.gop_undef ?_ | refine Ent.glt_undef ?_ | refine Ent.grc_undef ?_ | refine Ent.glt_yes ?_ | refine Ent.glt_no (by decide) ?_ | refine Ent.grc_yes ?_ | refine Ent.grc_no (by decide) ?_)
  unfold hereF at h
  cases h1 : decide (f.frm ≤ v)
  · rw [h1] at h
    repeat (first | refine Ent.runW (wrap_i64 (by omega) (by omega)) ?_ | refine Ent.runWL (wrap_i64 (by omega) (by omega)) ?_ | refine Ent.runWR (wrap_i64 (by omega) (by omega)) ?_ | refine Ent.run ?_ | refine Ent.runL ?_ | refine Ent.runR ?_ | refine Ent.drawn ?_ | refine Ent.store (by kernel_rfl) ?_ | refine Ent.resN ?_ | refine Ent.res1 ?_ | refine Ent.gop_yes ?_ | refine Ent.gop_no (by decide) ?_ | refine Ent.gop_undef ?_ | refine Ent.glt_undef ?_ | refine Ent.grc_undef ?_ | refine Ent.glt_yes ?_ | refine Ent.glt_no (by decide) ?_ | refine Ent.grc_yes ?_ | refine Ent.grc_no (by decide) ?_)
    exact Ent.pick blk g (Ent.drop h)
  · rw [h1] at h
    repeat (first | refine Ent.runW (wrap_i64 (by omega) (by omega)) ?_ | refine Ent.runWL (wrap_i64 (by omega) (by omega)) ?_ | refine Ent.runWR (wrap_i64 (by omega) (by omega)) ?_ | refine Ent.run ?_ | refine Ent.runL ?_ | refine Ent.runR ?_ | refine Ent.drawn ?_ | refine Ent.store (by kernel_rfl) ?_ | refine Ent.resN ?_ | refine Ent.res1 ?_ | refine Ent.gop_yes ?_ | refine Ent.gop_no (by decide) ?_ | refine Ent.gop_undef ?_ | refine Ent.glt_undef ?_ | refine Ent.grc_undef ?_ | refine Ent.glt_yes ?_ | refine Ent.glt_no (by decide) ?_ | refine Ent.grc_yes ?_ | refine Ent.grc_no (by decide) ?_)
    exact Ent.pick blk g (Ent.drop h)
def hereL (fs : List Fld) (v : Int) : List Fld := fs.filter fun f => hereF f v
theorem fldsD_get {l : List Fld} {i : Nat} (h : i < l.length) : (fldsD l)[i]? = some (fldD l[i]) := by
  rw [fldsD_map, List.getElem?_map, List.getElem?_eq_getElem h]
  rfl
theorem fldsD_snoc (l : List Fld) (f : Fld) : fldsD (l ++ [f]) = fldsD l ++ [fldD f] := by simp [fldsD_map]
theorem present_spec {q : List HP} [kp : Keep q p] {c : Nat} {A : Option Addr} {fs : List Fld} {v : Int} (h : RdD p (.sl T.api_Field 5 (fldsD fs)) [.slice A fs.length c]) (hl : fs.length ≤ 1048576)
    (hk : ∀ A c x, RdD (exact x :: p) (.sl T.api_Field 5 (fldsD (hereL fs v))) [.slice A (hereL fs v).length c] → Ent w0 (exact x :: q) (K (.slice A (hereL fs v).length c))) :
    Ent w0 q (op PR Pn (S.fn F.schema_present [.slice A fs.length c, .int .i64 v]) K) := by
  refine Ent.call (fun w h => enter.schema_present h) ?_
  unfold W.schema_present
  repeat (first | refine Ent.runW (wrap_i64 (by omega) (by omega)) ?_ | refine Ent.runWL (wrap_i64 (by omega) (by omega)) ?_ | refine Ent.runWR (wrap_i64 (by omega) (by omega)) ?_ | refine Ent.run ?_ | refine Ent.runL ?_ | refine Ent.runR ?_ | refine Ent.drawn ?_ | refine Ent.store (by kernel_rfl) ?_ | refine Ent.resN ?_ | refine Ent.res1 ?_ | refine Ent.gop_yes ?_ | refine Ent.gop_no (by decide) ?_ | refine Ent.gop_undef ?_ | refine Ent.glt_undef ?_ | refine Ent.grc_undef ?_ | refine Ent.glt_yes ?_ | refine Ent.glt_no (by decide) ?_ | refine Ent.grc_yes ?_ | refine Ent.grc_no (by decide) ?_)
  refine Ent.L2 (σ := Nat × List (List Value) × Option Addr × Nat) (fun s => .slice s.2.2.1 s.2.1.length s.2.2.2) (fun s => .int .i64 s.1)
    (fun s => pure' (s.1 ≤ fs.length ∧ s.2.1.length = (hereL (fs.take s.1) v).length ∧ ∀ (j : Nat) (d : D) (cs : List Value), (fldsD (hereL (fs.take s.1) v))[j]? = some d → s.2.1[j]? = some cs → RdD p d cs ∧ cs.length = 5) :: row T.api_Field 5 (.slice s.2.2.1 s.2.1.length s.2.2.2) s.2.1.length s.2.1.flatten :: q)
    (fun s => fs.length - s.1) (0, [], none, 0) ?_ ?_
  · intro w hs
    refine Sat.add ?_ (hs.add (row_nil T.api_Field 5))
    exact ⟨⟨Nat.zero_le _, by simp [hereL], fun j d cs hj hc => by simp at hc⟩, fun _ => rfl⟩
  · intro s k hrec
    obtain ⟨i, css, A1, c1⟩ := s
    refine Ent.pure fun hf => ?_
    obtain ⟨hf1, hf2, hf3⟩ := hf
    simp only at hf1 hf2 hf3 hrec ⊢
    have hcl : css.length ≤ i := by
      rw [hf2]
      exact Nat.le_trans (List.length_filter_le _ _) (by simp; omega)
    repeat (first | refine Ent.runW (wrap_i64 (by omega) (by omega)) ?_ | refine Ent.runWL (wrap_i64 (by omega) (by omega)) ?_ | refine Ent.runWR (wrap_i64 (by omega) (by omega)) ?_ | refine Ent.run ?_ | refine Ent.runL ?_ | refine Ent.runR ?_ | refine Ent.drawn ?_ | refine Ent.store (by kernel_rfl) ?_ | refine Ent.resN ?_ | refine Ent.res1 ?_ | refine Ent.gop_yes ?_ | refine Ent.gop_no (by decide) ?_ | refine Ent.gop_undef ?_ | refine Ent.glt_undef ?_ | refine Ent.grc_undef ?_ | refine Ent.glt_yes ?_ | refine Ent.glt_no (by decide) ?_ | refine Ent.grc_yes ?_ | refine Ent.grc_no (by decide) ?_)
    refine Ent.ite (fun hq => ?_) (fun hq => ?_)
    · have hlt : i < fs.length := by simpa using hq
      obtain ⟨b2, o2, cs, hia, hcs, hcl2, hld⟩ := RdD.index (P := PR) (t := 22) (k := .i64) (i := i) h (by omega) (by omega) (fldsD_get hlt)
      refine Ent.J1 fun kk hkk => ?_
      refine Ent.at_ (fun w _ => hia w) ?_
      obtain ⟨A3, c3, rfl, _⟩ := fld_open hcs
      haveI := LoadN.keep (q := q) hld
      repeat (first | refine Ent.runW (wrap_i64 (by omega) (by omega)) ?_ | refine Ent.runWL (wrap_i64 (by omega) (by omega)) ?_ | refine Ent.runWR (wrap_i64 (by omega) (by omega)) ?_ | refine Ent.run ?_ | refine Ent.runL ?_ | refine Ent.runR ?_ | refine Ent.drawn ?_ | refine Ent.store (by kernel_rfl) ?_ | refine Ent.resN ?_ | refine Ent.res1 ?_ | refine Ent.gop_yes ?_ | refine Ent.gop_no (by decide) ?_ | refine Ent.gop_undef ?_ | refine Ent.glt_undef ?_ | refine Ent.grc_undef ?_ | refine Ent.glt_yes ?_ | refine Ent.glt_no (by decide) ?_ | refine Ent.grc_yes ?_ | refine Ent.grc_no (by decide) ?_)
      refine Ent.alloc fun g4 => ?_
      unfold fldC at *
      repeat (first | refine Ent.runW (wrap_i64 (by omega) (by omega)) ?_ | refine Ent.runWL (wrap_i64 (by omega) (by omega)) ?_ | refine Ent.runWR (wrap_i64 (by omega) (by omega)) ?_ | refine Ent.run ?_ | refine Ent.runL ?_ | refine Ent.runR ?_ | refine Ent.drawn ?_ | refine Ent.store (by kernel_rfl) ?_ | refine Ent.resN ?_ | refine Ent.res1 ?_ | refine Ent.gop_yes ?_ | refine Ent.gop_no (by decide) ?_ | refine Ent.gop_undef ?_ | refine Ent.glt_undef ?_ | refine Ent.grc_undef ?_ | refine Ent.glt_yes ?_ | refine Ent.glt_no (by decide) ?_ | refine Ent.grc_yes ?_ | refine Ent.grc_no (by decide) ?_)
      refine here_spec (f := fs[i]) (v := v) (A := A3) (c := c3) ?_
      have htk : hereL (fs.take (i + 1)) v = hereL (fs.take i) v ++ (if hereF fs[i] v then [fs[i]] else []) := by
        unfold hereL
        rw [List.take_succ_eq_append_getElem hlt, List.filter_append, List.filter_cons, List.filter_nil]
      refine Ent.ite (fun hh => ?_) (fun hh => ?_)
      · repeat (first | refine Ent.runW (wrap_i64 (by omega) (by omega)) ?_ | refine Ent.runWL (wrap_i64 (by omega) (by omega)) ?_ | refine Ent.runWR (wrap_i64 (by omega) (by omega)) ?_ | refine Ent.run ?_ | refine Ent.runL ?_ | refine Ent.runR ?_ | refine Ent.drawn ?_ | refine Ent.store (by kernel_rfl) ?_ | refine Ent.resN ?_ | refine Ent.res1 ?_ | refine Ent.gop_yes ?_ | refine Ent.gop_no (by decide) ?_ | refine Ent.gop_undef ?_ | refine Ent.glt_undef ?_ | refine Ent.grc_undef ?_ | refine Ent.glt_yes ?_ | refine Ent.glt_no (by decide) ?_ | refine Ent.grc_yes ?_ | refine Ent.grc_no (by decide) ?_)
        refine Ent.bslice fun g5 => ?_
        refine Ent.pick blk g4 (Ent.drop (Ent.pick blk g5 ?_))
        refine Ent.append1 (sz := 5) rfl rfl (by omega) (by omega) fun A4 c4 => ?_
        refine hkk _ _ ?_
        repeat (first | refine Ent.runW (wrap_i64 (by omega) (by omega)) ?_ | refine Ent.runWL (wrap_i64 (by omega) (by omega)) ?_ | refine Ent.runWR (wrap_i64 (by omega) (by omega)) ?_ | refine Ent.run ?_ | refine Ent.runL ?_ | refine Ent.runR ?_ | refine Ent.drawn ?_ | refine Ent.store (by kernel_rfl) ?_ | refine Ent.resN ?_ | refine Ent.res1 ?_ | refine Ent.gop_yes ?_ | refine Ent.gop_no (by decide) ?_ | refine Ent.gop_undef ?_ | refine Ent.glt_undef ?_ | refine Ent.grc_undef ?_ | refine Ent.glt_yes ?_ | refine Ent.glt_no (by decide) ?_ | refine Ent.grc_yes ?_ | refine Ent.grc_no (by decide) ?_)
        have := hrec (i + 1, css ++ [fldC fs[i] A3 c3], A4, c4) (by simp only; omega)
        simp only [List.length_append, List.length_cons, List.length_nil, Nat.zero_add, Int.natCast_add, Int.natCast_one, List.flatten_append, List.flatten_cons, List.flatten_nil, List.append_nil] at this
        refine Ent.add ?_ this
        rw [htk, if_pos hh]
        refine ⟨⟨hlt, by simp [hf2], fun j d cs hj hc => ?_⟩, fun _ => rfl⟩
        rw [fldsD_snoc] at hj
        by_cases hjl : j < css.length
        · rw [List.getElem?_append_left hjl] at hc
          rw [List.getElem?_append_left (by rw [fldsD_length]; omega)] at hj
          exact hf3 j d cs hj hc
        · rw [List.getElem?_append_right (by omega)] at hc
          rw [List.getElem?_append_right (by rw [fldsD_length]; omega), fldsD_length, ← hf2] at hj
          cases hjj : j - css.length with
          | zero =>
            rw [hjj] at hc hj
            simp at hc hj
            subst hc
            subst hj
            exact ⟨hcs, rfl⟩
          | succ m => rw [hjj] at hc; simp at hc
      · refine Ent.pick blk g4 (Ent.drop ?_)
        refine hkk _ _ ?_
        repeat (first | refine Ent.runW (wrap_i64 (by omega) (by omega)) ?_ | refine Ent.runWL (wrap_i64 (by omega) (by omega)) ?_ | refine Ent.runWR (wrap_i64 (by omega) (by omega)) ?_ | refine Ent.run ?_ | refine Ent.runL ?_ | refine Ent.runR ?_ | refine Ent.drawn ?_ | refine Ent.store (by kernel_rfl) ?_ | refine Ent.resN ?_ | refine Ent.res1 ?_ | refine Ent.gop_yes ?_ | refine Ent.gop_no (by decide) ?_ | refine Ent.gop_undef ?_ | refine Ent.glt_undef ?_ | refine Ent.grc_undef ?_ | refine Ent.glt_yes ?_ | refine Ent.glt_no (by decide) ?_ | refine Ent.grc_yes ?_ | refine Ent.grc_no (by decide) ?_)
        have := hrec (i + 1, css, A1, c1) (by simp only; omega)
        simp only [Int.natCast_add, Int.natCast_one] at this
        refine Ent.add ?_ this
        rw [htk, if_neg (by simp [hh]), List.append_nil]
        exact ⟨⟨hlt, hf2, hf3⟩, fun _ => rfl⟩
    · have hlt : i = fs.length := by
        have : ¬ (i : Int) < fs.length := by simpa using hq
        omega
      rw [List.take_of_length_le (by omega)] at hf2 hf3
      refine Ent.freeze fun x hx => ?_
      have := row_rdD (p := p) hx rfl (by rw [fldsD_length]; exact hf2.symm) hf3
      rw [hf2] at this ⊢
      exact hk A1 c1 x this
end Go.Lt
