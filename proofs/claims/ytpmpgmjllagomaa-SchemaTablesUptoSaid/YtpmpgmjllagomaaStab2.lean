/- The reference's check of tables. Conditions: none. -/
import Derived.Test.YtpmpgmjllagomaaStab
set_option linter.unusedVariables false
set_option maxHeartbeats 4000000
set_option linter.unusedSimpArgs false
set_option maxRecDepth 100000
namespace Go.Lt
open Go
attribute [local irreducible] op gop lt glt rc grc ite' drawn also ldR
variable {w0 : World} {p : List HP} {Pn : PK} {K : Value → WP}
theorem rhere_spec {f : Fld} {v : Int} {A : Option Addr} {c : Nat} (h : Ent w0 p (K (.bool (hereF f v)))) : Ent w0 p (op PR Pn (S.fn F.leatref10_here [.agg (fldC f A c).toArray, .int .i64 v]) K) := by
  refine Ent.call (fun w h => enter.leatref10_here h) ?_
  unfold W.leatref10_here
  unfold fldC
  refine Ent.box fun g => ?_
  unfold hereF at h
  refine Ent.run (Ent.run (Ent.runB (fun h1 => ?_) (fun h1 => ?_)))
  · rw [h1, Bool.true_and] at h
    repeat (first | refine Ent.runW (wrap_i64 (by omega) (by omega)) ?_ | refine Ent.runWL (wrap_i64 (by omega) (by omega)) ?_ | refine Ent.runWR (wrap_i64 (by omega) (by omega)) ?_ | refine Ent.run ?_ | refine Ent.runL ?_ | refine Ent.runR ?_ | refine Ent.drawn ?_ | refine Ent.store (by kernel_rfl) ?_ | refine Ent.resN ?_ | refine Ent.res1 ?_ | refine Ent.gop_yes ?_ | refine Ent.gop_no (by decide) ?_ | refine Ent.gop_undef ?_ | refine Ent.glt_undef ?_ | refine Ent.grc_undef ?_ | refine Ent.glt_yes ?_ | refine Ent.glt_no (by decide) ?_ | refine Ent.grc_yes ?_ | refine Ent.grc_no (by decide) ?_)
    exact Ent.keep h
  · rw [h1, Bool.false_and] at h
    repeat (first | refine Ent.runW (wrap_i64 (by omega) (by omega)) ?_ | refine Ent.runWL (wrap_i64 (by omega) (by omega)) ?_ | refine Ent.runWR (wrap_i64 (by omega) (by omega)) ?_ | refine Ent.run ?_ | refine Ent.runL ?_ | refine Ent.runR ?_ | refine Ent.drawn ?_ | refine Ent.store (by kernel_rfl) ?_ | refine Ent.resN ?_ | refine Ent.res1 ?_ | refine Ent.gop_yes ?_ | refine Ent.gop_no (by decide) ?_ | refine Ent.gop_undef ?_ | refine Ent.glt_undef ?_ | refine Ent.grc_undef ?_ | refine Ent.glt_yes ?_ | refine Ent.glt_no (by decide) ?_ | refine Ent.grc_yes ?_ | refine Ent.grc_no (by decide) ?_)
    exact Ent.keep h
theorem RHere_spec {q : List HP} [kp : Keep q p] {c : Nat} {A : Option Addr} {fs : List Fld} {v : Int} (h : RdD p (.sl T.api_Field 5 (fldsD fs)) [.slice A fs.length c]) (hl : fs.length ≤ 1048576)
    (hk : ∀ A c x, RdD (exact x :: p) (.sl T.api_Field 5 (fldsD (hereL fs v))) [.slice A (hereL fs v).length c] → Ent w0 (exact x :: q) (K (.slice A (hereL fs v).length c))) :
    Ent w0 q (op PR Pn (S.fn F.leatref10_Here [.slice A fs.length c, .int .i64 v]) K) := by
  refine Ent.call (fun w h => enter.leatref10_Here h) ?_
  unfold W.leatref10_Here
  refine Ent.bsliceR (sz := 5) (by omega) rfl fun g => ?_
  refine Ent.L2 (σ := Nat × List (List Value) × Option Addr × Nat) (fun s => .slice s.2.2.1 s.2.1.length s.2.2.2) (fun s => .int .i64 s.1)
    (fun s => pure' (s.1 ≤ fs.length ∧ s.2.1.length = (hereL (fs.take s.1) v).length ∧ ∀ (j : Nat) (d : D) (cs : List Value), (fldsD (hereL (fs.take s.1) v))[j]? = some d → s.2.1[j]? = some cs → RdD p d cs ∧ cs.length = 5) :: row T.api_Field 5 (.slice s.2.2.1 s.2.1.length s.2.2.2) s.2.1.length s.2.1.flatten :: q)
    (fun s => fs.length - s.1) (0, [], some ⟨g, 0, none⟩, 0) ?_ ?_
  · intro w hs
    refine Sat.add (a := pure' _) ?_ hs
    exact ⟨⟨Nat.zero_le _, by simp [hereL], fun j d cs hj hc => by simp at hc⟩, fun _ => rfl⟩
  · intro s k hrec
    obtain ⟨i, css, A1, c1⟩ := s
    refine Ent.pure fun hf => ?_
    obtain ⟨hf1, hf2, hf3⟩ := hf
    simp only at hf1 hf2 hf3 hrec ⊢
    have hcl : css.length ≤ i := by
      rw [hf2]
      exact Nat.le_trans (List.length_filter_le _ _) (by simp; omega)
    repeat (first | refine Ent.runW (wrap_i64 (by omega) (by omega)) ?_ | refine Ent.runWL (wrap_i64 (by omega) (by omega)) ?_ | refine Ent.runWR (wrap_i64 (by omega) (by omega)) ?_ | refine Ent.run ?_ | refine Ent.runL ?_ | refine Ent.runR ?_ | refine Ent.drawn ?_ | refine Ent.store (by kernel_rfl) ?_ | refine Ent.resN ?_ | refine Ent.res1 ?_ | refine Ent.gop_yes ?_ | refine Ent.gop_no (by decide) ?_ | refine Ent.gop_undef ?_ | refine Ent.glt_undef ?_ | refine Ent.grc_undef ?_ | refine Ent.glt_yes ?_ | refine Ent.glt_no (by decide) ?_ | refine Ent.grc_yes ?_ | refine Ent.grc_no (by decide) ?_)
    refine Ent.ite (fun hq => ?_) (fun hq => ?_)
    · have hlt : i < fs.length := by simpa using hq
      obtain ⟨b2, o2, cs, hia, hcs, hcl2, hld⟩ := RdD.index (P := PR) (t := T.L_api_Field) (k := .i64) (i := i) h (by omega) (by omega) (fldsD_get hlt)
      refine Ent.J1 fun kk hkk => ?_
      refine Ent.at_ (fun w _ => hia w) ?_
      obtain ⟨A3, c3, rfl, _⟩ := fld_open hcs
      haveI := LoadN.keep (q := q) hld
      unfold fldC at *
      refine Ent.run ?_
      refine rhere_spec (f := fs[i]) (v := v) (A := A3) (c := c3) ?_
      have htk : hereL (fs.take (i + 1)) v = hereL (fs.take i) v ++ (if hereF fs[i] v then [fs[i]] else []) := by
        unfold hereL
        rw [List.take_succ_eq_append_getElem hlt, List.filter_append, List.filter_cons, List.filter_nil]
      refine Ent.ite (fun hh => ?_) (fun hh => ?_)
      · refine Ent.at_ (fun w _ => hia w) ?_
        refine Ent.run ?_
        refine Ent.bslice fun g5 => ?_
        refine Ent.append1 (sz := 5) rfl rfl (by omega) (by omega) fun A4 c4 => ?_
        refine hkk _ _ ?_
        repeat (first | refine Ent.runW (wrap_i64 (by omega) (by omega)) ?_ | refine Ent.runWL (wrap_i64 (by omega) (by omega)) ?_ | refine Ent.runWR (wrap_i64 (by omega) (by omega)) ?_ | refine Ent.run ?_ | refine Ent.runL ?_ | refine Ent.runR ?_ | refine Ent.drawn ?_ | refine Ent.store (by kernel_rfl) ?_ | refine Ent.resN ?_ | refine Ent.res1 ?_ | refine Ent.gop_yes ?_ | refine Ent.gop_no (by decide) ?_ | refine Ent.gop_undef ?_ | refine Ent.glt_undef ?_ | refine Ent.grc_undef ?_ | refine Ent.glt_yes ?_ | refine Ent.glt_no (by decide) ?_ | refine Ent.grc_yes ?_ | refine Ent.grc_no (by decide) ?_)
        have := hrec (i + 1, css ++ [fldC fs[i] A3 c3], A4, c4) (by simp only; omega)
        simp only [List.length_append, List.length_cons, List.length_nil, Nat.zero_add, Int.natCast_add, Int.natCast_one, List.flatten_append, List.flatten_cons, List.flatten_nil, List.append_nil] at this
        refine Ent.add ?_ this
        rw [htk, if_pos hh]
        refine ⟨⟨hlt, by simp [hf2], fun j d cs hj hc => ?_⟩, fun _ => rfl⟩
        rw [fldsD_snoc] at hj
        by_cases hjl : j < css.length
        · rw [List.getElem?_append_left hjl] at hc
          rw [List.getElem?_append_left (by rw [fldsD_length]; omega)] at hj
          exact hf3 j d cs hj hc
        · rw [List.getElem?_append_right (by omega)] at hc
          rw [List.getElem?_append_right (by rw [fldsD_length]; omega), fldsD_length, ← hf2] at hj
          cases hjj : j - css.length with
          | zero =>
            rw [hjj] at hc hj
            simp at hc hj
            subst hc
            subst hj
            exact ⟨hcs, rfl⟩
          | succ m => rw [hjj] at hc; simp at hc
      · refine hkk _ _ ?_
        repeat (first | refine Ent.runW (wrap_i64 (by omega) (by omega)) ?_ | refine Ent.runWL (wrap_i64 (by omega) (by omega)) ?_ | refine Ent.runWR (wrap_i64 (by omega) (by omega)) ?_ | refine Ent.run ?_ | refine Ent.runL ?_ | refine Ent.runR ?_ | refine Ent.drawn ?_ | refine Ent.store (by kernel_rfl) ?_ | refine Ent.resN ?_ | refine Ent.res1 ?_ | refine Ent.gop_yes ?_ | refine Ent.gop_no (by decide) ?_ | refine Ent.gop_undef ?_ | refine Ent.glt_undef ?_ | refine Ent.grc_undef ?_ | refine Ent.glt_yes ?_ | refine Ent.glt_no (by decide) ?_ | refine Ent.grc_yes ?_ | refine Ent.grc_no (by decide) ?_)
        have := hrec (i + 1, css, A1, c1) (by simp only; omega)
        simp only [Int.natCast_add, Int.natCast_one] at this
        refine Ent.add ?_ this
        rw [htk, if_neg (by simp [hh]), List.append_nil]
        exact ⟨⟨hlt, hf2, hf3⟩, fun _ => rfl⟩
    · have hlt : i = fs.length := by
        have : ¬ (i : Int) < fs.length := by simpa using hq
        omega
      rw [List.take_of_length_le (by omega)] at hf2 hf3
      refine Ent.freeze fun x hx => ?_
      have := row_rdD (p := p) hx rfl (by rw [fldsD_length]; exact hf2.symm) hf3
      rw [hf2] at this ⊢
      exact hk A1 c1 x this
theorem rlist_ok {fs : List Fld} (ih : ∀ f ∈ fs, FieldOk F.leatref10_field true f) : TabOk F.leatref10_list fs := fun w0 p Pn K A c d hf hl hd hy hn => by
  refine Ent.call (fun w h => enter.leatref10_list h) ?_
  unfold W.leatref10_list
  refine Ent.run ?_
  refine Ent.runB (fun h1 => ?_) (fun h1 => ?_)
  · have h1 : (fs.length : Int) < 1 := by simpa using h1
    repeat (first | refine Ent.runW (wrap_i64 (by omega) (by omega)) ?_ | refine Ent.runWL (wrap_i64 (by omega) (by omega)) ?_ | refine Ent.runWR (wrap_i64 (by omega) (by omega)) ?_ | refine Ent.run ?_ | refine Ent.runL ?_ | refine Ent.runR ?_ | refine Ent.drawn ?_ | refine Ent.store (by kernel_rfl) ?_ | refine Ent.resN ?_ | refine Ent.res1 ?_ | refine Ent.gop_yes ?_ | refine Ent.gop_no (by decide) ?_ | refine Ent.gop_undef ?_ | refine Ent.glt_undef ?_ | refine Ent.grc_undef ?_ | refine Ent.glt_yes ?_ | refine Ent.glt_no (by decide) ?_ | refine Ent.grc_yes ?_ | refine Ent.grc_no (by decide) ?_)
    exact Ent.ite_t (hn (fun h => by have := h.1; omega))
  have h1 : ¬ (fs.length : Int) < 1 := by simpa using h1
  refine Ent.gop_yes (Ent.run (Ent.gop_yes (Ent.run (Ent.gop_yes (Ent.runB (fun h2 => ?_) (fun h2 => ?_))))))
  · have h2 : (16 : Int) < fs.length := by simpa using h2
    repeat (first | refine Ent.runW (wrap_i64 (by omega) (by omega)) ?_ | refine Ent.runWL (wrap_i64 (by omega) (by omega)) ?_ | refine Ent.runWR (wrap_i64 (by omega) (by omega)) ?_ | refine Ent.run ?_ | refine Ent.runL ?_ | refine Ent.runR ?_ | refine Ent.drawn ?_ | refine Ent.store (by kernel_rfl) ?_ | refine Ent.resN ?_ | refine Ent.res1 ?_ | refine Ent.gop_yes ?_ | refine Ent.gop_no (by decide) ?_ | refine Ent.gop_undef ?_ | refine Ent.glt_undef ?_ | refine Ent.grc_undef ?_ | refine Ent.glt_yes ?_ | refine Ent.glt_no (by decide) ?_ | refine Ent.grc_yes ?_ | refine Ent.grc_no (by decide) ?_)
    exact Ent.ite_t (hn (fun h => by have := h.2.1; omega))
  have h2 : ¬ (16 : Int) < fs.length := by simpa using h2
  refine Ent.run (Ent.gop_yes (Ent.run (Ent.gop_yes (Ent.runB (fun h3 => ?_) (fun h3 => ?_)))))
  · have h3 : (8 : Int) < d := by simpa using h3
    repeat (first | refine Ent.runW (wrap_i64 (by omega) (by omega)) ?_ | refine Ent.runWL (wrap_i64 (by omega) (by omega)) ?_ | refine Ent.runWR (wrap_i64 (by omega) (by omega)) ?_ | refine Ent.run ?_ | refine Ent.runL ?_ | refine Ent.runR ?_ | refine Ent.drawn ?_ | refine Ent.store (by kernel_rfl) ?_ | refine Ent.resN ?_ | refine Ent.res1 ?_ | refine Ent.gop_yes ?_ | refine Ent.gop_no (by decide) ?_ | refine Ent.gop_undef ?_ | refine Ent.glt_undef ?_ | refine Ent.grc_undef ?_ | refine Ent.glt_yes ?_ | refine Ent.glt_no (by decide) ?_ | refine Ent.grc_yes ?_ | refine Ent.grc_no (by decide) ?_)
    exact Ent.ite_t (hn (fun h => by have := h.2.2.1; omega))
  have h3 : ¬ (8 : Int) < d := by simpa using h3
  repeat (first | refine Ent.runW (wrap_i64 (by omega) (by omega)) ?_ | refine Ent.runWL (wrap_i64 (by omega) (by omega)) ?_ | refine Ent.runWR (wrap_i64 (by omega) (by omega)) ?_ | refine Ent.run ?_ | refine Ent.runL ?_ | refine Ent.runR ?_ | refine Ent.drawn ?_ | refine Ent.store (by kernel_rfl) ?_ | refine Ent.resN ?_ | refine Ent.res1 ?_ | refine Ent.gop_yes ?_ | refine Ent.gop_no (by decide) ?_ | refine Ent.gop_undef ?_ | refine Ent.glt_undef ?_ | refine Ent.grc_undef ?_ | refine Ent.glt_yes ?_ | refine Ent.glt_no (by decide) ?_ | refine Ent.grc_yes ?_ | refine Ent.grc_no (by decide) ?_)
  refine Ent.ite_f ?_
  refine Ent.L2 (σ := Nat) (fun _ => .bool false) (fun i => .int .i64 i)
    (fun i => pure' (i ≤ fs.length ∧ ((fs.take i).map Fld.name).Nodup ∧ (∀ f ∈ fs.take i, f.name.size ≠ 0) ∧ ∀ f ∈ fs.take i, f.good d) :: p)
    (fun i => fs.length - i) 0 (fun w hs => Sat.add (a := pure' _) ⟨⟨Nat.zero_le _, by simp, fun f hf => by simp at hf, fun f hf => by simp at hf⟩, fun _ => rfl⟩ hs) ?_
  intro i k hrec
  refine Ent.pure fun hi => ?_
  obtain ⟨hi1, hi2, hi3, hi4⟩ := hi
  repeat (first | refine Ent.runW (wrap_i64 (by omega) (by omega)) ?_ | refine Ent.runWL (wrap_i64 (by omega) (by omega)) ?_ | refine Ent.runWR (wrap_i64 (by omega) (by omega)) ?_ | refine Ent.run ?_ | refine Ent.runL ?_ | refine Ent.runR ?_ | refine Ent.drawn ?_ | refine Ent.store (by kernel_rfl) ?_ | refine Ent.resN ?_ | refine Ent.res1 ?_ | refine Ent.gop_yes ?_ | refine Ent.gop_no (by decide) ?_ | refine Ent.gop_undef ?_ | refine Ent.glt_undef ?_ | refine Ent.grc_undef ?_ | refine Ent.glt_yes ?_ | refine Ent.glt_no (by decide) ?_ | refine Ent.grc_yes ?_ | refine Ent.grc_no (by decide) ?_)
  refine Ent.ite (fun hq => ?_) (fun hq => ?_)
  · have hlt : i < fs.length := by simpa using hq
    have hall : tabOk d fs → fs[i].name ∉ (fs.take i).map Fld.name ∧ fs[i].name.size ≠ 0 ∧ fs[i].good d := fun h => by
      obtain ⟨_, _, _, h4, h5, h6⟩ := h
      refine ⟨?_, h5 _ (List.getElem_mem hlt), (goods_iff d fs).1 h6 _ (List.getElem_mem hlt)⟩
      have h7 : ((fs.take (i + 1)).map Fld.name).Nodup := by
        rw [List.map_take]
        exact h4.sublist (List.take_sublist _ _)
      exact ((nodup_snoc hlt).1 h7).2
    obtain ⟨b2, o2, cs, hia, hcs, hcl2, hld⟩ := RdD.index (P := PR) (t := T.L_api_Field) (k := .i64) (i := i) hf (by omega) (by omega) (fldsD_get hlt)
    obtain ⟨A3, c3, rfl, _⟩ := fld_open hcs
    refine Ent.L2 (σ := Nat) (fun _ => .bool false) (fun j => .int .i64 j) (fun j => pure' (j ≤ i ∧ ∀ m (h : m < j), (fs[m]?).map Fld.name ≠ some fs[i].name) :: p) (fun j => i - j) 0 (fun w hs => Sat.add (a := pure' _) ⟨⟨Nat.zero_le _, fun m h => by omega⟩, fun _ => rfl⟩ hs) ?_
    intro j k2 hrec2
    refine Ent.pure fun hj => ?_
    obtain ⟨hj1, hj2⟩ := hj
    repeat (first | refine Ent.runW (wrap_i64 (by omega) (by omega)) ?_ | refine Ent.runWL (wrap_i64 (by omega) (by omega)) ?_ | refine Ent.runWR (wrap_i64 (by omega) (by omega)) ?_ | refine Ent.run ?_ | refine Ent.runL ?_ | refine Ent.runR ?_ | refine Ent.drawn ?_ | refine Ent.store (by kernel_rfl) ?_ | refine Ent.resN ?_ | refine Ent.res1 ?_ | refine Ent.gop_yes ?_ | refine Ent.gop_no (by decide) ?_ | refine Ent.gop_undef ?_ | refine Ent.glt_undef ?_ | refine Ent.grc_undef ?_ | refine Ent.glt_yes ?_ | refine Ent.glt_no (by decide) ?_ | refine Ent.grc_yes ?_ | refine Ent.grc_no (by decide) ?_)
    refine Ent.ite (fun hq => ?_) (fun hq => ?_)
    · have hji : j < i := by simpa using hq
      have hjl : j < fs.length := by omega
      obtain ⟨b4, o4, cs', hia', hcs', hcl4, hld'⟩ := RdD.index (P := PR) (t := T.L_api_Field) (k := .i64) (i := j) hf (by omega) (by omega) (fldsD_get hjl)
      obtain ⟨A5, c5, rfl, _⟩ := fld_open hcs'
      have hldn : LoadAt p ⟨b2, o2 + 0, none⟩ (.string fs[i].name) := ⟨fun w0 w hs => (hld.out w0 w hs).2 0 _ rfl⟩
      have hldn' : LoadAt p ⟨b4, o4 + 0, none⟩ (.string fs[j].name) := ⟨fun w0 w hs => (hld'.out w0 w hs).2 0 _ rfl⟩
      refine Ent.drawn (Ent.runL (Ent.runL (Ent.atL (fun w _ => hia' w) ?_)))
      repeat (first | refine Ent.runW (wrap_i64 (by omega) (by omega)) ?_ | refine Ent.runWL (wrap_i64 (by omega) (by omega)) ?_ | refine Ent.runWR (wrap_i64 (by omega) (by omega)) ?_ | refine Ent.run ?_ | refine Ent.runL ?_ | refine Ent.runR ?_ | refine Ent.drawn ?_ | refine Ent.store (by kernel_rfl) ?_ | refine Ent.resN ?_ | refine Ent.res1 ?_ | refine Ent.gop_yes ?_ | refine Ent.gop_no (by decide) ?_ | refine Ent.gop_undef ?_ | refine Ent.glt_undef ?_ | refine Ent.grc_undef ?_ | refine Ent.glt_yes ?_ | refine Ent.glt_no (by decide) ?_ | refine Ent.grc_yes ?_ | refine Ent.grc_no (by decide) ?_)
      refine Ent.atL (fun w _ => hia w) ?_
      repeat (first | refine Ent.runW (wrap_i64 (by omega) (by omega)) ?_ | refine Ent.runWL (wrap_i64 (by omega) (by omega)) ?_ | refine Ent.runWR (wrap_i64 (by omega) (by omega)) ?_ | refine Ent.run ?_ | refine Ent.runL ?_ | refine Ent.runR ?_ | refine Ent.drawn ?_ | refine Ent.store (by kernel_rfl) ?_ | refine Ent.resN ?_ | refine Ent.res1 ?_ | refine Ent.gop_yes ?_ | refine Ent.gop_no (by decide) ?_ | refine Ent.gop_undef ?_ | refine Ent.glt_undef ?_ | refine Ent.grc_undef ?_ | refine Ent.glt_yes ?_ | refine Ent.glt_no (by decide) ?_ | refine Ent.grc_yes ?_ | refine Ent.grc_no (by decide) ?_)
      refine Ent.ite (fun h4 => ?_) (fun h4 => ?_)
      · have h4 : fs[j].name = fs[i].name := by simpa using h4
        refine hn fun h => (hall h).1 ?_
        rw [← h4]
        exact List.mem_map.2 ⟨fs[j], List.mem_take_iff_getElem.2 ⟨j, by omega, rfl⟩, rfl⟩
      · have h4 : ¬ fs[j].name = fs[i].name := by simpa using h4
        repeat (first | refine Ent.runW (wrap_i64 (by omega) (by omega)) ?_ | refine Ent.runWL (wrap_i64 (by omega) (by omega)) ?_ | refine Ent.runWR (wrap_i64 (by omega) (by omega)) ?_ | refine Ent.run ?_ | refine Ent.runL ?_ | refine Ent.runR ?_ | refine Ent.drawn ?_ | refine Ent.store (by kernel_rfl) ?_ | refine Ent.resN ?_ | refine Ent.res1 ?_ | refine Ent.gop_yes ?_ | refine Ent.gop_no (by decide) ?_ | refine Ent.gop_undef ?_ | refine Ent.glt_undef ?_ | refine Ent.grc_undef ?_ | refine Ent.glt_yes ?_ | refine Ent.glt_no (by decide) ?_ | refine Ent.grc_yes ?_ | refine Ent.grc_no (by decide) ?_)
        have := hrec2 (j + 1) (by omega)
        simp only [Int.natCast_add, Int.natCast_one] at this
        refine Ent.add ⟨⟨hji, fun m hm => ?_⟩, fun _ => rfl⟩ this
        by_cases hmj : m = j
        · subst hmj
          rw [List.getElem?_eq_getElem hjl]
          simpa using h4
        · exact hj2 m (by omega)
    · have hji : j = i := by
        have : ¬ (j : Int) < i := by simpa using hq
        omega
      subst hji
      refine Ent.at_ (fun w _ => hia w) ?_
      haveI := hld
      refine Ent.run ?_
      refine ih _ (List.getElem_mem hlt) w0 p _ _ A3 c3 d hcs (by omega) (fun h5 => ?_) (fun h5 => ?_)
      · repeat (first | refine Ent.runW (wrap_i64 (by omega) (by omega)) ?_ | refine Ent.runWL (wrap_i64 (by omega) (by omega)) ?_ | refine Ent.runWR (wrap_i64 (by omega) (by omega)) ?_ | refine Ent.run ?_ | refine Ent.runL ?_ | refine Ent.runR ?_ | refine Ent.drawn ?_ | refine Ent.store (by kernel_rfl) ?_ | refine Ent.resN ?_ | refine Ent.res1 ?_ | refine Ent.gop_yes ?_ | refine Ent.gop_no (by decide) ?_ | refine Ent.gop_undef ?_ | refine Ent.glt_undef ?_ | refine Ent.grc_undef ?_ | refine Ent.glt_yes ?_ | refine Ent.glt_no (by decide) ?_ | refine Ent.grc_yes ?_ | refine Ent.grc_no (by decide) ?_)
        refine Ent.ite_f ?_
        repeat (first | refine Ent.runW (wrap_i64 (by omega) (by omega)) ?_ | refine Ent.runWL (wrap_i64 (by omega) (by omega)) ?_ | refine Ent.runWR (wrap_i64 (by omega) (by omega)) ?_ | refine Ent.run ?_ | refine Ent.runL ?_ | refine Ent.runR ?_ | refine Ent.drawn ?_ | refine Ent.store (by kernel_rfl) ?_ | refine Ent.resN ?_ | refine Ent.res1 ?_ | refine Ent.gop_yes ?_ | refine Ent.gop_no (by decide) ?_ | refine Ent.gop_undef ?_ | refine Ent.glt_undef ?_ | refine Ent.grc_undef ?_ | refine Ent.glt_yes ?_ | refine Ent.glt_no (by decide) ?_ | refine Ent.grc_yes ?_ | refine Ent.grc_no (by decide) ?_)
        have := hrec (j + 1) (by omega)
        simp only [Int.natCast_add, Int.natCast_one] at this
        refine Ent.add ⟨⟨hlt, (nodup_snoc hlt).2 ⟨hi2, fun hm => ?_⟩, (tab_snoc (d := d) hlt).2 ⟨hi3, h5.2 rfl⟩, (tab_snoc (d := d) hlt).2 ⟨hi4, h5.1⟩⟩, fun _ => rfl⟩ this
        obtain ⟨f, hf1, hf2⟩ := List.mem_map.1 hm
        obtain ⟨m, hm1, rfl⟩ := List.mem_take_iff_getElem.1 hf1
        refine hj2 m (by omega) ?_
        rw [List.getElem?_eq_getElem (by omega)]
        exact congrArg some hf2
      · repeat (first | refine Ent.runW (wrap_i64 (by omega) (by omega)) ?_ | refine Ent.runWL (wrap_i64 (by omega) (by omega)) ?_ | refine Ent.runWR (wrap_i64 (by omega) (by omega)) ?_ | refine Ent.run ?_ | refine Ent.runL ?_ | refine Ent.runR ?_ | refine Ent.drawn ?_ | refine Ent.store (by kernel_rfl) ?_ | refine Ent.resN ?_ | refine Ent.res1 ?_ | refine Ent.gop_yes ?_ | refine Ent.gop_no (by decide) ?_ | refine Ent.gop_undef ?_ | refine Ent.glt_undef ?_ | refine Ent.grc_undef ?_ | refine Ent.glt_yes ?_ | refine Ent.glt_no (by decide) ?_ | refine Ent.grc_yes ?_ | refine Ent.grc_no (by decide) ?_)
        exact Ent.ite_t (hn fun h => h5 ⟨(hall h).2.2, fun _ => (hall h).2.1⟩)
  · have hlt : i = fs.length := by
      have : ¬ (i : Int) < fs.length := by simpa using hq
      omega
    subst hlt
    rw [List.take_of_length_le (by omega)] at *
    exact (hy ⟨by omega, by omega, by omega, hi2, hi3, (goods_iff d fs).2 hi4⟩)
end Go.Lt
