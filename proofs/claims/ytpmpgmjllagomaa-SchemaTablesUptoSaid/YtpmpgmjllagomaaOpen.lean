/- Arguments as they are handed in, read as plain data. Conditions: none. -/
import Derived.Test.YtpmpgmjllagomaaAlive2
import Derived.Test.YtpmpgmjllagomaaRows
import Derived.Below
import Derived.Carry
import Derived.WalkKit
import Derived.ProofKit
import Derived.OpenShut
import Derived.JoinedCond
import Derived.Deep.Slices
set_option linter.unusedVariables false
set_option maxHeartbeats 4000000
set_option linter.unusedSimpArgs false
set_option maxRecDepth 100000
namespace Go.Lt
open Go
attribute [local irreducible] op gop lt glt rc grc ite' drawn also ldR
section
variable {H : Type} {enc : TypeId × Value → H} {W : World}
def CW (W : World) (a : Addr) (v : Value) : Prop := W.cell? a = some v
theorem cell_spot {a : Addr} {v : Value} (h : W.cell? a = some v) : a.spot = none := by
  unfold World.cell? at h
  split at h
  · split at h
    · cases h
    · rename_i hs
      simpa using hs
  · cases h
theorem add_zero (a : Addr) : a.add 0 = a := by unfold Addr.add; rw [if_pos rfl]
theorem spot_mk {a : Addr} (h : a.spot = none) : a = ⟨a.block, a.off, none⟩ := by
  obtain ⟨b, o, s⟩ := a
  have h : s = none := h
  subst h
  rfl
theorem bulk_mem {d : DataW H} {l : List (DataW H)} (h : d ∈ l) : Go.Proofs.Ytpmpgmjllagomaa.Rows.uptoBulk d ≤ Go.Proofs.Ytpmpgmjllagomaa.Rows.uptoBulkAll l := by
  induction l with
  | nil => cases h
  | cons x r ih =>
    simp only [Go.Proofs.Ytpmpgmjllagomaa.Rows.uptoBulkAll]
    rcases List.mem_cons.1 h with e | e
    · subst e; omega
    · have := ih e; omega
theorem bulk_one (d : DataW H) : 1 ≤ Go.Proofs.Ytpmpgmjllagomaa.Rows.uptoBulk d := by
  cases d with
  | lit l => cases l <;> simp [Go.Proofs.Ytpmpgmjllagomaa.Rows.uptoBulk]
  | nil => simp [Go.Proofs.Ytpmpgmjllagomaa.Rows.uptoBulk]
  | ptr d => simp [Go.Proofs.Ytpmpgmjllagomaa.Rows.uptoBulk]
  | slice elems spare => simp [Go.Proofs.Ytpmpgmjllagomaa.Rows.uptoBulk]
  | agg parts => simp [Go.Proofs.Ytpmpgmjllagomaa.Rows.uptoBulk]
  | iface t d => simp [Go.Proofs.Ytpmpgmjllagomaa.Rows.uptoBulk]
  | map entries => simp [Go.Proofs.Ytpmpgmjllagomaa.Rows.uptoBulk]
  | held h => simp [Go.Proofs.Ytpmpgmjllagomaa.Rows.uptoBulk]
theorem bulk_len (l : List (DataW H)) : l.length ≤ Go.Proofs.Ytpmpgmjllagomaa.Rows.uptoBulkAll l := by
  induction l with
  | nil => simp [Go.Proofs.Ytpmpgmjllagomaa.Rows.uptoBulkAll]
  | cons x r ih => have := bulk_one x; simp only [Go.Proofs.Ytpmpgmjllagomaa.Rows.uptoBulkAll, List.length_cons]; omega
/-- A slice that is handed in: its elements' cells. -/
theorem open_sl {t e sz n : Nat} (hz : 0 < sz) {cs : List Value} {x : DataW H × List MemPlace} (ht : PR.underlying t = some (.slice e)) (hsz : PR.cellsOf e = sz) (h : DataW.trod enc PR W 0 (fun _ => true) true n t cs = some x) :
    ∃ (A : Option Addr) (elems : List (DataW H × List MemPlace)) (c : Nat), cs = [.slice A elems.length c] ∧ elems.length ≤ c ∧ c ≤ maxLen ∧ elems.length + 1 ≤ Go.Proofs.Ytpmpgmjllagomaa.Rows.uptoBulk x.1 ∧ (∀ y ∈ elems, Go.Proofs.Ytpmpgmjllagomaa.Rows.uptoBulk y.1 + 1 ≤ Go.Proofs.Ytpmpgmjllagomaa.Rows.uptoBulk x.1) ∧
      (elems = [] ∨ ∃ b o m, A = some ⟨b, o, none⟩ ∧ n = m + 1 ∧ ∀ i (hi : i < elems.length), ∃ ds, DataW.trod enc PR W 0 (fun _ => true) true m e ds = some elems[i] ∧ ds.length = sz ∧ (∀ j u, ds[j]? = some u → CW W ⟨b, o + i * sz + j, none⟩ u)) := by
  rcases DataW.trod_slice ht h with ⟨rfl, rfl⟩ | ⟨a, len, cap, elems, rest, m, rfl, rfl, rfl, _, h1, h2, rfl, h3, _⟩
  · exact ⟨none, [], 0, rfl, by simp, by simp [maxLen], by simp [Go.Proofs.Ytpmpgmjllagomaa.Rows.uptoBulk], fun y hy => (by cases hy), .inl rfl⟩
  · refine ⟨some a, elems, cap, rfl, h1, h2, ?_, fun y hy => ?_, ?_⟩
    · have := bulk_len (elems.map (·.1))
      simp only [Go.Proofs.Ytpmpgmjllagomaa.Rows.uptoBulk, List.length_map] at this ⊢
      omega
    · have := bulk_mem (d := y.1) (l := elems.map (·.1)) (List.mem_map_of_mem hy)
      simp only [Go.Proofs.Ytpmpgmjllagomaa.Rows.uptoBulk]
      omega
    · by_cases he : elems = []
      · exact .inl he
      right
      have hpos : 0 < elems.length := List.length_pos_iff.2 he
      have key : ∀ i (hi : i < elems.length), ∃ ds, DataW.trod enc PR W 0 (fun _ => true) true m e ds = some elems[i] ∧ ds.length = sz ∧ (∀ j u, ds[j]? = some u → W.cell? ((a.add (i * sz)).add j) = some u) := fun i hi => by
        have := h3 i hi
        rw [List.getElem?_eq_getElem hi, hsz] at this
        obtain ⟨ds, h4, h5⟩ := Option.bind_eq_some_iff.1 this
        obtain ⟨_, h6, h7⟩ := World.cells?_some h4
        refine ⟨ds, h5, h6, fun j u hu => ?_⟩
        have hj := (List.getElem?_eq_some_iff.1 hu).1
        rw [h7 j (by omega)]
        exact hu
      obtain ⟨ds, _, hds, hc⟩ := key 0 hpos
      have hsp := cell_spot (hc 0 ds[0] (List.getElem?_eq_getElem (by omega)))
      rw [Nat.zero_mul, add_zero, add_zero] at hsp
      have ha := spot_mk hsp
      refine ⟨a.block, a.off, m, by rw [← ha], rfl, fun i hi => ?_⟩
      obtain ⟨ds, h4, h5, h6⟩ := key i hi
      refine ⟨ds, h4, h5, fun j u hu => ?_⟩
      have := h6 j u hu
      rw [ha, add_none, add_none] at this
      exact this
/-- Bytes that are handed in. -/
theorem open_B {n : Nat} {cs : List Value} {x : DataW H × List MemPlace} (h : DataW.trod enc PR W 0 (fun _ => true) true n T.L_uint8 cs = some x) :
    ∃ bs : List UInt8, Rd (CW W) (bytesD T.u8 bs) cs ∧ bs.length + 1 ≤ Go.Proofs.Ytpmpgmjllagomaa.Rows.uptoBulk x.1 := by
  obtain ⟨A, elems, c, rfl, h1, h2, h3, h4, h5⟩ := open_sl (sz := 1) (e := T.u8) (by decide) (by kernel_rfl) (by kernel_rfl) h
  refine ⟨elems.map fun y => match y.1 with | .lit (.int _ k) => UInt8.ofNat k.toNat | _ => 0, ?_, by simpa using h3⟩
  refine ⟨A, c, by simp, by simpa using h1, h2, ?_⟩
  rcases h5 with h5 | ⟨b, o, m, hA, _, h6⟩
  · left; simp [h5]
  · refine .inr ⟨b, o, hA, RdC.mk fun i d hd => ?_⟩
    rw [List.getElem?_map, List.getElem?_map] at hd
    have hi : i < elems.length := by
      cases hh : elems[i]? with
      | none => rw [hh] at hd; cases hd
      | some y => exact (List.getElem?_eq_some_iff.1 hh).1
    rw [List.getElem?_eq_getElem hi] at hd
    simp only [Option.map_some, Option.some.injEq] at hd
    obtain ⟨ds, h7, h8, h9⟩ := h6 i hi
    obtain ⟨k, rfl, h10, h11⟩ := DataW.trod_int (k := .u8) (by kernel_rfl) h7
    refine ⟨_, ?_, h8, h9⟩
    rw [h10] at hd
    subst hd
    have hw : 0 ≤ k ∧ k ≤ 255 := by simpa [Lit.wf, IntKind.min, IntKind.max, IntKind.signed, IntKind.bits] using h11
    refine ⟨?_, rfl⟩
    have : ((UInt8.ofNat k.toNat).toNat : Int) = k := by
      have : (UInt8.ofNat k.toNat).toNat = k.toNat % 256 := by simp
      omega
    show _ = [u8 _]
    rw [u8, this]
theorem wf_i64 {k : Int} (h : (Lit.int .i64 k).wf = true) : -9223372036854775808 ≤ k ∧ k ≤ 9223372036854775807 := by
  simpa [Lit.wf, IntKind.min, IntKind.max, IntKind.signed, IntKind.bits] using h
def layB (P : Program) (t : TypeId) : Option (List (TypeId × Nat × Nat)) := match P.underlying t with
  | some (.struct fs) => some (fs.toList.map fun f => (f.type, f.offset, P.cellsOf f.type))
  | _ => none
theorem bulk_map (l : List (DataW H × List MemPlace)) (y : DataW H × List MemPlace) (hy : y ∈ l) : Go.Proofs.Ytpmpgmjllagomaa.Rows.uptoBulk y.1 ≤ Go.Proofs.Ytpmpgmjllagomaa.Rows.uptoBulkAll (l.map (·.1)) := bulk_mem (List.mem_map_of_mem hy)
/-- A struct that is handed in. -/
theorem open_st {t sz n : Nat} {lay : List (TypeId × Nat × Nat)} {cs : List Value} {x : DataW H × List MemPlace} (hl : layB PR t = some lay) (hsz : PR.cellsOf t = sz) (h : DataW.trod enc PR W 0 (fun _ => true) true n t cs = some x) :
    ∃ (xs : List (DataW H × List MemPlace)) (m : Nat), n = m + 1 ∧ cs.length = sz ∧ xs.length = lay.length ∧ (∀ y ∈ xs, Go.Proofs.Ytpmpgmjllagomaa.Rows.uptoBulk y.1 + 1 ≤ Go.Proofs.Ytpmpgmjllagomaa.Rows.uptoBulk x.1) ∧
      ∀ (i : Nat) (ft off s : Nat), lay[i]? = some (ft, off, s) → ∃ y, y ∈ xs ∧ DataW.trod enc PR W 0 (fun _ => true) true m ft ((cs.drop off).take s) = some y := by
  unfold layB at hl
  split at hl
  · rename_i fs hfs
    injection hl with hl
    subst hl
    obtain ⟨xs, m, hm, hx, hcl, hxl, hxs⟩ := DataW.trod_struct hfs h
    refine ⟨xs, m, hm, by rw [hcl, hsz], by simp [hxl], fun y hy => ?_, fun i ft off s hi => ?_⟩
    · have := bulk_map xs y hy
      rw [hx]
      simp only [Go.Proofs.Ytpmpgmjllagomaa.Rows.uptoBulk]
      omega
    · rw [List.getElem?_map] at hi
      obtain ⟨f, hf, he⟩ := Option.map_eq_some_iff.1 hi
      have := hxs i f (by simpa using hf)
      obtain ⟨rfl, e2⟩ := Prod.mk.inj he
      obtain ⟨rfl, rfl⟩ := Prod.mk.inj e2
      have hil : i < xs.length := by
        have := (List.getElem?_eq_some_iff.1 hf).1
        rw [hxl]
        simpa using this
      exact ⟨xs[i], List.getElem_mem hil, by rw [this, List.getElem?_eq_getElem hil]⟩
  · cases hl
/-- Fields that are handed in. -/
theorem open_flds : ∀ (n : Nat), ∀ (cs : List Value) (x : DataW H × List MemPlace), DataW.trod enc PR W 0 (fun _ => true) true n T.L_api_Field cs = some x → Go.Proofs.Ytpmpgmjllagomaa.Rows.uptoBulk x.1 ≤ 1048576 →
    ∃ fs : List Fld, Rd (CW W) (.sl T.api_Field 5 (fldsD fs)) cs ∧ (∀ f ∈ fs, f.ok) ∧ fs.length ≤ 1048576 := by
  intro n
  induction n using Nat.strongRecOn with
  | _ n ih =>
  intro cs x h hk
  obtain ⟨A, elems, c, rfl, h1, h2, h3, h4, h5⟩ := open_sl (sz := 5) (e := T.api_Field) (by decide) (by kernel_rfl) (by kernel_rfl) h
  rcases h5 with h5 | ⟨b, o, m, hA, hm, h6⟩
  · subst h5
    exact ⟨[], ⟨A, c, rfl, Nat.zero_le _, h2, .inl rfl⟩, fun f hf => (by cases hf), by simp⟩
  have key : ∀ i, i < elems.length → ∃ f : Fld, f.ok ∧ ∃ ds, Rd (CW W) (fldD f) ds ∧ ds.length = 5 ∧ ∀ j u, ds[j]? = some u → CW W ⟨b, o + i * 5 + j, none⟩ u := fun i hi => by
    obtain ⟨ds, h7, h8, h9⟩ := h6 i hi
    have hbi := h4 elems[i] (List.getElem_mem hi)
    obtain ⟨xs, m', hm', hdl, _, hxb, hxs⟩ := open_st (lay := [(T.string, 0, 1), (T.int, 1, 1), (T.int, 2, 1), (T.int, 3, 1), (T.L_api_Field, 4, 1)]) (sz := 5) (by kernel_rfl) (by kernel_rfl) h7
    match ds, hdl with
    | [v0, v1, v2, v3, v4], _ =>
      obtain ⟨y0, hy0, e0⟩ := hxs 0 _ _ _ rfl
      obtain ⟨y1, hy1, e1⟩ := hxs 1 _ _ _ rfl
      obtain ⟨y2, hy2, e2⟩ := hxs 2 _ _ _ rfl
      obtain ⟨y3, hy3, e3⟩ := hxs 3 _ _ _ rfl
      obtain ⟨y4, hy4, e4⟩ := hxs 4 _ _ _ rfl
      have hb0 := hxb y0 hy0
      have hb4 := hxb y4 hy4
      obtain ⟨s0, c0, rfl, hs0⟩ := DataW.trod_string (by kernel_rfl) e0
      obtain ⟨k1, c1, rfl, hw1⟩ := DataW.trod_int (k := .i64) (by kernel_rfl) e1
      obtain ⟨k2, c2, rfl, hw2⟩ := DataW.trod_int (k := .i64) (by kernel_rfl) e2
      obtain ⟨k3, c3, rfl, hw3⟩ := DataW.trod_int (k := .i64) (by kernel_rfl) e3
      obtain ⟨es, hes, hok, hel⟩ := ih m' (by omega) _ y4 e4 (by omega)
      obtain rfl : v0 = .string s0 := List.head_eq_of_cons_eq c0
      obtain rfl : v1 = .int .i64 k1 := List.head_eq_of_cons_eq c1
      obtain rfl : v2 = .int .i64 k2 := List.head_eq_of_cons_eq c2
      obtain rfl : v3 = .int .i64 k3 := List.head_eq_of_cons_eq c3
      have hes : Rd (CW W) (.sl T.api_Field 5 (fldsD es)) [v4] := hes
      refine ⟨.mk s0 k1 k2 k3 es, .mk ?_ (wf_i64 hw1) (wf_i64 hw2) (wf_i64 hw3) hel hok, _, RdP.sc rfl (RdP.sc rfl (RdP.sc rfl (RdP.sc rfl (RdP.cons1 hes rfl)))), rfl, h9⟩
      simp only [Go.Proofs.Ytpmpgmjllagomaa.Rows.uptoBulk, Array.length_toList] at hb0
      have : s0.data.size = s0.size := rfl
      omega
  clear h6
  have key2 : ∀ j, j ≤ elems.length → ∃ fs : List Fld, fs.length = j ∧ (∀ f ∈ fs, f.ok) ∧ ∀ i f, fs[i]? = some f → ∃ ds, Rd (CW W) (fldD f) ds ∧ ds.length = 5 ∧ ∀ j u, ds[j]? = some u → CW W ⟨b, o + i * 5 + j, none⟩ u := by
    intro j
    induction j with
    | zero => exact fun _ => ⟨[], rfl, fun f hf => (by cases hf), fun i f hf => by simp at hf⟩
    | succ j ihj =>
      intro hj
      obtain ⟨fs, hl, hok, hfs⟩ := ihj (by omega)
      obtain ⟨f, hf, hd⟩ := key j (by omega)
      refine ⟨fs ++ [f], by simp [hl], fun g hg => ?_, fun i g hg => ?_⟩
      · rcases List.mem_append.1 hg with hg | hg
        · exact hok g hg
        · exact (List.mem_singleton.1 hg) ▸ hf
      · by_cases hi : i < fs.length
        · rw [List.getElem?_append_left hi] at hg
          exact hfs i g hg
        · have hii := (List.getElem?_eq_some_iff.1 hg).1
          simp at hii
          have : i = j := by omega
          subst this
          rw [List.getElem?_append_right (by omega), hl, Nat.sub_self] at hg
          injection hg with hg
          exact hg ▸ hd
  obtain ⟨fs, hl, hok, hfs⟩ := key2 elems.length (Nat.le_refl _)
  refine ⟨fs, ⟨A, c, by rw [fldsD_length, hl], by rw [fldsD_length, hl]; exact h1, h2, .inr ⟨b, o, hA, RdC.mk fun i d hd => ?_⟩⟩, hok, by omega⟩
  rw [fldsD_map, List.getElem?_map] at hd
  obtain ⟨f, hf, rfl⟩ := Option.map_eq_some_iff.1 hd
  exact hfs i f hf
end
end Go.Lt
