/- Trees as they are handed in. Conditions: none. -/
import Derived.Test.YtpmpgmjllagomaaRow1
import Derived.Test.YtpmpgmjllagomaaRenc2
set_option linter.unusedVariables false
set_option maxHeartbeats 4000000
set_option linter.unusedSimpArgs false
set_option maxRecDepth 100000
namespace Go.Lt
open Go
attribute [local irreducible] op gop lt glt rc grc ite' drawn also ldR
section
variable {H : Type} {enc : TypeId × Value → H} {W : World}
theorem open_sl2 {t e sz n : Nat} (hz : 0 < sz) {cs : List Value} {x : DataW H × List MemPlace} (ht : PR.underlying t = some (.slice e)) (hsz : PR.cellsOf e = sz) (h : DataW.trod enc PR W 0 (fun _ => true) true n t cs = some x) :
    ∃ (A : Option Addr) (elems : List (DataW H × List MemPlace)) (c : Nat), cs = [.slice A elems.length c] ∧ elems.length ≤ c ∧ c ≤ maxLen ∧ Go.Proofs.Ytpmpgmjllagomaa.Rows.uptoBulkAll (elems.map (·.1)) + 1 ≤ Go.Proofs.Ytpmpgmjllagomaa.Rows.uptoBulk x.1 ∧
      (elems = [] ∨ ∃ b o m, A = some ⟨b, o, none⟩ ∧ n = m + 1 ∧ ∀ i (hi : i < elems.length), ∃ ds, DataW.trod enc PR W 0 (fun _ => true) true m e ds = some elems[i] ∧ ds.length = sz ∧ (∀ j u, ds[j]? = some u → CW W ⟨b, o + i * sz + j, none⟩ u)) := by
  have h0 := h
  rcases DataW.trod_slice ht h with ⟨rfl, rfl⟩ | ⟨a, len, cap, elems, rest, m, rfl, rfl, rfl, _, h1, h2, rfl, h3, _⟩
  · exact ⟨none, [], 0, rfl, by simp, by simp [maxLen], by simp [Go.Proofs.Ytpmpgmjllagomaa.Rows.uptoBulk, Go.Proofs.Ytpmpgmjllagomaa.Rows.uptoBulkAll], .inl rfl⟩
  · refine ⟨some a, elems, cap, rfl, h1, h2, by simp only [Go.Proofs.Ytpmpgmjllagomaa.Rows.uptoBulk]; omega, ?_⟩
    obtain ⟨A', elems', c', e1, _, _, _, _, e2⟩ := open_sl hz ht hsz h0
    by_cases he : elems = []
    · exact .inl he
    right
    have hpos : 0 < elems.length := List.length_pos_iff.2 he
    have key : ∀ i (hi : i < elems.length), ∃ ds, DataW.trod enc PR W 0 (fun _ => true) true m e ds = some elems[i] ∧ ds.length = sz ∧ (∀ j u, ds[j]? = some u → W.cell? ((a.add (i * sz)).add j) = some u) := fun i hi => by
      have := h3 i hi
      rw [List.getElem?_eq_getElem hi, hsz] at this
      obtain ⟨ds, h4, h5⟩ := Option.bind_eq_some_iff.1 this
      obtain ⟨_, h6, h7⟩ := World.cells?_some h4
      refine ⟨ds, h5, h6, fun j u hu => ?_⟩
      have hj := (List.getElem?_eq_some_iff.1 hu).1
      rw [h7 j (by omega)]
      exact hu
    obtain ⟨ds, _, hds, hc⟩ := key 0 hpos
    have hsp := cell_spot (hc 0 ds[0] (List.getElem?_eq_getElem (by omega)))
    rw [Nat.zero_mul, add_zero, add_zero] at hsp
    have ha := spot_mk hsp
    refine ⟨a.block, a.off, m, by rw [← ha], rfl, fun i hi => ?_⟩
    obtain ⟨ds, h4, h5, h6⟩ := key i hi
    refine ⟨ds, h4, h5, fun j u hu => ?_⟩
    have := h6 j u hu
    rw [ha, add_none, add_none] at this
    exact this
theorem open_st2 {t sz n : Nat} {lay : List (TypeId × Nat × Nat)} {cs : List Value} {x : DataW H × List MemPlace} (hl : layB PR t = some lay) (hsz : PR.cellsOf t = sz) (h : DataW.trod enc PR W 0 (fun _ => true) true n t cs = some x) :
    ∃ (xs : List (DataW H × List MemPlace)) (m : Nat), n = m + 1 ∧ cs.length = sz ∧ xs.length = lay.length ∧ Go.Proofs.Ytpmpgmjllagomaa.Rows.uptoBulkAll (xs.map (·.1)) + 1 = Go.Proofs.Ytpmpgmjllagomaa.Rows.uptoBulk x.1 ∧
      ∀ (i : Nat) (ft off s : Nat), lay[i]? = some (ft, off, s) → ∃ y, xs[i]? = some y ∧ DataW.trod enc PR W 0 (fun _ => true) true m ft ((cs.drop off).take s) = some y := by
  unfold layB at hl
  split at hl
  · rename_i fs hfs
    injection hl with hl
    subst hl
    obtain ⟨xs, m, hm, hx, hcl, hxl, hxs⟩ := DataW.trod_struct hfs h
    refine ⟨xs, m, hm, by rw [hcl, hsz], by simp [hxl], by rw [hx]; simp only [Go.Proofs.Ytpmpgmjllagomaa.Rows.uptoBulk], fun i ft off s hi => ?_⟩
    rw [List.getElem?_map] at hi
    obtain ⟨f, hf, he⟩ := Option.map_eq_some_iff.1 hi
    have := hxs i f (by simpa using hf)
    obtain ⟨rfl, e2⟩ := Prod.mk.inj he
    obtain ⟨rfl, rfl⟩ := Prod.mk.inj e2
    have hil : i < xs.length := by
      have := (List.getElem?_eq_some_iff.1 hf).1
      rw [hxl]
      simpa using this
    exact ⟨xs[i], List.getElem?_eq_getElem hil, by rw [this, List.getElem?_eq_getElem hil]⟩
  · cases hl
theorem bulks_le {l : List Nd} : ∀ {es : List (DataW H)}, l.length = es.length → (∀ (i : Nat) (m : Nd) (d : DataW H), l[i]? = some m → es[i]? = some d → m.bulk ≤ 8 * Go.Proofs.Ytpmpgmjllagomaa.Rows.uptoBulk d) → Nd.bulks l ≤ 8 * Go.Proofs.Ytpmpgmjllagomaa.Rows.uptoBulkAll es := by
  induction l with
  | nil => intro es h _; unfold Nd.bulks; omega
  | cons x r ih =>
    intro es h hb
    cases es with
    | nil => simp at h
    | cons d es =>
      have h1 := hb 0 x d rfl rfl
      have h2 := ih (by simpa using h) (fun i m d hm hd => hb (i + 1) m d (by simpa using hm) (by simpa using hd))
      unfold Nd.bulks
      simp only [Go.Proofs.Ytpmpgmjllagomaa.Rows.uptoBulkAll]
      omega
/-- A tree that is handed in. -/
theorem open_nd : ∀ (n : Nat), ∀ (cs : List Value) (x : DataW H × List MemPlace), DataW.trod enc PR W 0 (fun _ => true) true n T.api_Node cs = some x → Go.Proofs.Ytpmpgmjllagomaa.Rows.uptoBulk x.1 ≤ 1048576 →
    ∃ m : Nd, Rd (CW W) (ndD m) cs ∧ cs.length = 5 ∧ m.ok ∧ m.sm ∧ m.bulk ≤ 8 * Go.Proofs.Ytpmpgmjllagomaa.Rows.uptoBulk x.1 := by
  intro n
  induction n using Nat.strongRecOn with
  | _ n ih =>
  intro ds x h hk
  obtain ⟨xs, m', hm', hdl, hxl, hxb, hxs⟩ := open_st2 (lay := [(T.int, 0, 1), (T.int64, 1, 1), (T.bool, 2, 1), (T.L_uint8, 3, 1), (T.L_api_Node, 4, 1)]) (sz := 5) (by kernel_rfl) (by kernel_rfl) h
  match ds, hdl with
  | [v0, v1, v2, v3, v4], _ =>
    obtain ⟨y0, hy0, e0⟩ := hxs 0 _ _ _ rfl
    obtain ⟨y1, hy1, e1⟩ := hxs 1 _ _ _ rfl
    obtain ⟨y2, hy2, e2⟩ := hxs 2 _ _ _ rfl
    obtain ⟨y3, hy3, e3⟩ := hxs 3 _ _ _ rfl
    obtain ⟨y4, hy4, e4⟩ := hxs 4 _ _ _ rfl
    have hxe : xs = [y0, y1, y2, y3, y4] := by
      match xs, hxl with
      | [z0, z1, z2, z3, z4], _ =>
        injection hy0 with hy0
        injection hy1 with hy1
        injection hy2 with hy2
        injection hy3 with hy3
        injection hy4 with hy4
        subst hy0; subst hy1; subst hy2; subst hy3; subst hy4
        rfl
    subst hxe
    simp only [List.map_cons, List.map_nil, Go.Proofs.Ytpmpgmjllagomaa.Rows.uptoBulkAll] at hxb
    have b0 := bulk_one y0.1
    have b1 := bulk_one y1.1
    have b2 := bulk_one y2.1
    obtain ⟨k0, c0, _, hw0⟩ := DataW.trod_int (k := .i64) (by kernel_rfl) e0
    obtain ⟨k1, c1, _, hw1⟩ := DataW.trod_int (k := .i64) (by kernel_rfl) e1
    obtain ⟨b, c2, _⟩ := DataW.trod_bool (by kernel_rfl) e2
    obtain ⟨bs, hbs, hbl⟩ := open_B e3
    obtain rfl : v0 = .int .i64 k0 := List.head_eq_of_cons_eq c0
    obtain rfl : v1 = .int .i64 k1 := List.head_eq_of_cons_eq c1
    obtain rfl : v2 = .bool b := List.head_eq_of_cons_eq c2
    have hbs : Rd (CW W) (bytesD T.u8 bs) [v3] := hbs
    obtain ⟨A, elems, c, hc4, h1, h2, h3, h5⟩ := open_sl2 (sz := 5) (e := T.api_Node) (by decide) (by kernel_rfl) (by kernel_rfl) e4
    have hc4 : [v4] = [.slice A elems.length c] := hc4
    obtain rfl : v4 = .slice A elems.length c := List.head_eq_of_cons_eq hc4
    have hlen := bulk_len (elems.map (·.1))
    rw [List.length_map] at hlen
    have key : ∀ j, j ≤ elems.length → ∃ l : List Nd, l.length = j ∧ (∀ y ∈ l, y.ok ∧ y.sm) ∧ (∀ (i : Nat) (m : Nd), l[i]? = some m → ∀ (d : DataW H × List MemPlace), elems[i]? = some d → m.bulk ≤ 8 * Go.Proofs.Ytpmpgmjllagomaa.Rows.uptoBulk d.1) ∧
        ∀ (i : Nat) (m : Nd), l[i]? = some m → ∃ b o, A = some ⟨b, o, none⟩ ∧ ∃ ds, Rd (CW W) (ndD m) ds ∧ ds.length = 5 ∧ ∀ j u, ds[j]? = some u → CW W ⟨b, o + i * 5 + j, none⟩ u := by
      intro j
      induction j with
      | zero => exact fun _ => ⟨[], rfl, fun y hy => (by cases hy), fun i m hm => by simp at hm, fun i m hm => by simp at hm⟩
      | succ j ihj =>
        intro hj
        obtain ⟨l, hl, hlo, hlb, hld⟩ := ihj (by omega)
        rcases h5 with h5 | ⟨bb, o, m2, hA, hm2, h6⟩
        · subst h5; simp at hj
        obtain ⟨es, h7, h8, h9⟩ := h6 j (by omega)
        have hbe := bulk_mem (d := elems[j].1) (l := elems.map (·.1)) (List.mem_map_of_mem (List.getElem_mem (by omega)))
        obtain ⟨m, hm1, _, hm3, hm4, hm5⟩ := ih m2 (by omega) es elems[j] h7 (by omega)
        refine ⟨l ++ [m], by simp [hl], fun y hy => ?_, fun i y hy d hd => ?_, fun i y hy => ?_⟩
        · rcases List.mem_append.1 hy with hy | hy
          · exact hlo y hy
          · exact (List.mem_singleton.1 hy) ▸ ⟨hm3, hm4⟩
        · by_cases hi : i < l.length
          · rw [List.getElem?_append_left hi] at hy
            exact hlb i y hy d hd
          · have hii := (List.getElem?_eq_some_iff.1 hy).1
            simp at hii
            have : i = j := by omega
            subst this
            rw [List.getElem?_append_right (by omega), hl, Nat.sub_self] at hy
            injection hy with hy
            subst hy
            rw [List.getElem?_eq_getElem (by omega)] at hd
            injection hd with hd
            subst hd
            exact hm5
        · by_cases hi : i < l.length
          · rw [List.getElem?_append_left hi] at hy
            exact hld i y hy
          · have hii := (List.getElem?_eq_some_iff.1 hy).1
            simp at hii
            have : i = j := by omega
            subst this
            rw [List.getElem?_append_right (by omega), hl, Nat.sub_self] at hy
            injection hy with hy
            subst hy
            exact ⟨bb, o, hA, es, hm1, h8, h9⟩
    obtain ⟨l, hl, hlo, hlb, hld⟩ := key elems.length (Nat.le_refl _)
    have hbk : Nd.bulks l ≤ 8 * Go.Proofs.Ytpmpgmjllagomaa.Rows.uptoBulkAll (elems.map (·.1)) := bulks_le (by simp [hl]) fun i m d hm hd => by
      rw [List.getElem?_map] at hd
      obtain ⟨y, hy, rfl⟩ := Option.map_eq_some_iff.1 hd
      exact hlb i m hm y hy
    refine ⟨.mk k0 k1 b bs l, RdP.sc rfl (RdP.sc rfl (RdP.sc rfl (RdP.cons1 hbs (RdP.cons1 ?_ rfl)))), rfl, .mk (wf_i64 hw1) (by omega) (fun y hy => (hlo y hy).1), .mk (by omega) (by omega) (fun y hy => (hlo y hy).2), ?_⟩
    · refine ⟨A, c, by rw [ndsD_length, hl], by rw [ndsD_length, hl]; exact h1, h2, ?_⟩
      by_cases hne : l = []
      · subst hne; exact .inl rfl
      · right
        have hpos : 0 < l.length := List.length_pos_iff.2 hne
        obtain ⟨bb, o, hA, _⟩ := hld 0 _ (List.getElem?_eq_getElem hpos)
        refine ⟨bb, o, hA, RdC.mk fun i d hd => ?_⟩
        rw [ndsD_map, List.getElem?_map] at hd
        obtain ⟨m, hm, rfl⟩ := Option.map_eq_some_iff.1 hd
        obtain ⟨bb', o', hA', hh⟩ := hld i m hm
        rw [hA] at hA'
        injection hA' with hA'
        injection hA' with e1 e2
        subst e1; subst e2
        exact hh
    · rw [Nd.bulk_eq]
      simp only [Nd.data, Nd.list]
      omega
theorem okWide_agg {t : TypeId} {lay : List (TypeId × Nat × Nat)} {w : World} {r : Reach} {base : Nat} {v : Value} (hl : layB PR t = some lay) (h : Value.okWide PR w r base t v) : ∃ cs, v = .agg cs := by
  unfold layB at hl
  split at hl
  · rename_i fs hfs
    obtain ⟨cs, hc, _⟩ := WideShapes.okWide_struct hfs h
    exact ⟨cs, hc⟩
  · cases hl
end
end Go.Lt
