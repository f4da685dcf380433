/- schema's tables are checked, by the program and by the reference. Conditions: none. -/
import Derived.Test.YtpmpgmjllagomaaScomp
set_option linter.unusedVariables false
set_option maxHeartbeats 4000000
set_option linter.unusedSimpArgs false
set_option maxRecDepth 100000
namespace Go.Lt
open Go
attribute [local irreducible] op gop lt glt rc grc ite' drawn also ldR
/-- A field whose numbers and texts fit. -/
inductive Fld.ok : Fld → Prop
  | mk {n : ByteArray} {k a b : Int} {e : List Fld} (h1 : n.size ≤ 1048576) (h2 : -9223372036854775808 ≤ k ∧ k ≤ 9223372036854775807) (h3 : -9223372036854775808 ≤ a ∧ a ≤ 9223372036854775807) (h4 : -9223372036854775808 ≤ b ∧ b ≤ 9223372036854775807) (h5 : e.length ≤ 1048576) (h6 : ∀ x ∈ e, Fld.ok x) : Fld.ok (.mk n k a b e)
mutual
def Fld.good (d : Nat) : Fld → Prop
  | .mk _ k a b e => (0 ≤ a ∧ b ≤ 3 ∧ a ≤ b) ∧ ((1 ≤ k ∧ k ≤ 8 ∧ e = []) ∨ ((k = 9 ∧ e.length = 1 ∨ k = 10) ∧ (1 ≤ e.length ∧ e.length ≤ 16 ∧ d + 1 ≤ 8 ∧ (e.map Fld.name).Nodup ∧ (∀ f ∈ e, f.name.size ≠ 0) ∧ goods (d + 1) e) ∧ ∀ v, a ≤ v → v ≤ b → hereL e v ≠ []))
def goods (d : Nat) : List Fld → Prop
  | [] => True
  | f :: r => f.good d ∧ goods d r
end
def tabOk (d : Nat) (l : List Fld) : Prop := 1 ≤ l.length ∧ l.length ≤ 16 ∧ d ≤ 8 ∧ (l.map Fld.name).Nodup ∧ (∀ f ∈ l, f.name.size ≠ 0) ∧ goods d l
theorem goods_iff (d : Nat) : ∀ l : List Fld, goods d l ↔ ∀ f ∈ l, f.good d
  | [] => by simp [goods]
  | f :: r => by simp [goods, goods_iff d r]
theorem good_eq (d : Nat) (n : ByteArray) (k a b : Int) (e : List Fld) : Fld.good d (.mk n k a b e) ↔ (0 ≤ a ∧ b ≤ 3 ∧ a ≤ b) ∧ ((1 ≤ k ∧ k ≤ 8 ∧ e = []) ∨ ((k = 9 ∧ e.length = 1 ∨ k = 10) ∧ tabOk (d + 1) e ∧ ∀ v, a ≤ v → v ≤ b → hereL e v ≠ [])) := by
  unfold Fld.good tabOk
  exact Iff.rfl
mutual
theorem good_tab : ∀ (f : Fld) (d : Nat), f.good d → f.tab
  | .mk n k a b e, d, h => by
    rw [good_eq] at h
    obtain ⟨_, ⟨h1, h2, h3⟩ | ⟨h1, ⟨_, h3, _, _, _, h4⟩, _⟩⟩ := h
    · subst h3
      exact .mk (fun h => by omega) (by simp) (fun x hx => by cases hx)
    · exact .mk (fun h => by rcases h1 with h1 | h1 <;> omega) h3 (goods_tab e (d + 1) h4)
theorem goods_tab : ∀ (l : List Fld) (d : Nat), goods d l → ∀ x ∈ l, x.tab
  | [], d, h, x, hx => by cases hx
  | f :: r, d, h, x, hx => by
    unfold goods at h
    have hf := good_tab f d h.1
    have hr := goods_tab r d h.2
    rcases List.mem_cons.1 hx with h' | h'
    · exact h' ▸ hf
    · exact hr x h'
end
variable {w0 : World} {p : List HP} {Pn : PK} {K : Value → WP}
def TabOk (F : Nat) (fs : List Fld) : Prop := ∀ (w0 : World) (p : List HP) (Pn : PK) (K : Value → WP) (A : Option Addr) (c d : Nat), RdD p (.sl T.api_Field 5 (fldsD fs)) [.slice A fs.length c] → fs.length ≤ 1048576 → d ≤ 9 →
  (tabOk d fs → Ent w0 p (K (.bool true))) → (¬ tabOk d fs → Ent w0 p (K (.bool false))) → Ent w0 p (op PR Pn (S.fn F [.slice A fs.length c, .int .i64 d]) K)
theorem findS_names (s : ByteArray) : ∀ l : List Fld, (s ∉ l.map Fld.name → findS s (l.map fun f => (f.name, 1)) = none) ∧ (s ∈ l.map Fld.name → ∃ j, findS s (l.map fun f => (f.name, 1)) = some (j, 1))
  | [] => by simp [findS]
  | f :: r => by
    have ih := findS_names s r
    by_cases h : s = f.name
    · subst h
      simp [findS]
    · refine ⟨fun hn => ?_, fun hm => ?_⟩
      · have := ih.1 (fun h' => hn (by simp at h' ⊢; exact .inr h'))
        simp only [List.map_cons, findS, if_neg h, this]
        rfl
      · have hm' : s ∈ r.map Fld.name := by
          rcases List.mem_cons.1 (by simpa using hm : s ∈ f.name :: r.map Fld.name) with h' | h'
          · exact absurd h' h
          · exact h'
        obtain ⟨j, hj⟩ := ih.2 hm'
        exact ⟨j + 1, by simp only [List.map_cons, findS, if_neg h, hj]; rfl⟩
theorem size_zero {s : ByteArray} : s.size = 0 ↔ s = ⟨#[]⟩ := by
  constructor
  · intro h
    obtain ⟨a⟩ := s
    congr 1
    exact Array.eq_empty_of_size_eq_zero h
  · intro h; subst h; rfl
def FieldOk (F : Nat) (nm : Bool) (f : Fld) : Prop := ∀ (w0 : World) (p : List HP) (Pn : PK) (K : Value → WP) (A : Option Addr) (c d : Nat), RdD p (fldD f) (fldC f A c) → d ≤ 8 →
  (f.good d ∧ (nm = true → f.name.size ≠ 0) → Ent w0 p (K (.bool true))) → (¬ (f.good d ∧ (nm = true → f.name.size ≠ 0)) → Ent w0 p (K (.bool false))) → Ent w0 p (op PR Pn (S.fn F [.agg (fldC f A c).toArray, .int .i64 d]) K)
theorem tab_snoc {d i : Nat} {fs : List Fld} (hlt : i < fs.length) {P : Fld → Prop} : (∀ f ∈ fs.take (i + 1), P f) ↔ (∀ f ∈ fs.take i, P f) ∧ P fs[i] := by
  rw [List.take_succ_eq_append_getElem hlt]
  simp only [List.mem_append, List.mem_singleton]
  constructor
  · exact fun h => ⟨fun f hf => h f (.inl hf), h _ (.inr rfl)⟩
  · rintro ⟨h1, h2⟩ f (h | h)
    · exact h1 f h
    · exact h ▸ h2
theorem nodup_snoc {i : Nat} {fs : List Fld} (hlt : i < fs.length) : ((fs.take (i + 1)).map Fld.name).Nodup ↔ ((fs.take i).map Fld.name).Nodup ∧ fs[i].name ∉ (fs.take i).map Fld.name := by
  rw [List.take_succ_eq_append_getElem hlt, List.map_append, List.map_cons, List.map_nil]
  rw [List.nodup_append]
  constructor
  · rintro ⟨h1, _, h3⟩
    exact ⟨h1, fun h => h3 _ h _ (by simp) rfl⟩
  · rintro ⟨h1, h2⟩
    exact ⟨h1, by simp, fun a ha b hb => by
      rw [List.mem_singleton.1 hb]
      intro h
      exact h2 (h ▸ ha)⟩
theorem fields_ok {fs : List Fld} (ih : ∀ f ∈ fs, FieldOk F.schema_field false f) : TabOk F.schema_fields fs := fun w0 p Pn K A c d hf hl hd hy hn => by
  refine Ent.call (fun w h => enter.schema_fields h) ?_
  unfold W.schema_fields
  refine Ent.run ?_
  refine Ent.runB (fun h1 => ?_) (fun h1 => ?_)
  · have h1 : (fs.length : Int) < 1 := by simpa using h1
    repeat (first | refine Ent.runW (wrap_i64 (by omega) (by omega)) ?_ | refine Ent.runWL (wrap_i64 (by omega) (by omega)) ?_ | refine Ent.runWR (wrap_i64 (by omega) (by omega)) ?_ | refine Ent.run ?_ | refine Ent.runL ?_ | refine Ent.runR ?_ | refine Ent.drawn ?_ | refine Ent.store (by kernel_rfl) ?_ | refine Ent.resN ?_ | refine Ent.res1 ?_ | refine Ent.gop_yes ?_ | refine Ent.gop_no (by decide) ?_ | refine Ent.gop_undef ?_ | refine Ent.glt_undef ?_ | refine Ent.grc_undef ?_ | refine Ent.glt_yes ?_ | refine Ent.glt_no (by decide) ?_ | refine Ent.grc_yes ?_ | refine Ent.grc_no (by decide) ?_)
    exact Ent.ite_t (hn (fun h => by have := h.1; omega))
  have h1 : ¬ (fs.length : Int) < 1 := by simpa using h1
  refine Ent.gop_yes (Ent.run (Ent.gop_yes (Ent.run (Ent.gop_yes (Ent.runB (fun h2 => ?_) (fun h2 => ?_))))))
  · have h2 : (16 : Int) < fs.length := by simpa using h2
    repeat (first | refine Ent.runW (wrap_i64 (by omega) (by omega)) ?_ | refine Ent.runWL (wrap_i64 (by omega) (by omega)) ?_ | refine Ent.runWR (wrap_i64 (by omega) (by omega)) ?_ | refine Ent.run ?_ | refine Ent.runL ?_ | refine Ent.runR ?_ | refine Ent.drawn ?_ | refine Ent.store (by kernel_rfl) ?_ | refine Ent.resN ?_ | refine Ent.res1 ?_ | refine Ent.gop_yes ?_ | refine Ent.gop_no (by decide) ?_ | refine Ent.gop_undef ?_ | refine Ent.glt_undef ?_ | refine Ent.grc_undef ?_ | refine Ent.glt_yes ?_ | refine Ent.glt_no (by decide) ?_ | refine Ent.grc_yes ?_ | refine Ent.grc_no (by decide) ?_)
    exact Ent.ite_t (hn (fun h => by have := h.2.1; omega))
  have h2 : ¬ (16 : Int) < fs.length := by simpa using h2
  refine Ent.run (Ent.gop_yes (Ent.run (Ent.gop_yes (Ent.runB (fun h3 => ?_) (fun h3 => ?_)))))
  · have h3 : (8 : Int) < d := by simpa using h3
    repeat (first | refine Ent.runW (wrap_i64 (by omega) (by omega)) ?_ | refine Ent.runWL (wrap_i64 (by omega) (by omega)) ?_ | refine Ent.runWR (wrap_i64 (by omega) (by omega)) ?_ | refine Ent.run ?_ | refine Ent.runL ?_ | refine Ent.runR ?_ | refine Ent.drawn ?_ | refine Ent.store (by kernel_rfl) ?_ | refine Ent.resN ?_ | refine Ent.res1 ?_ | refine Ent.gop_yes ?_ | refine Ent.gop_no (by decide) ?_ | refine Ent.gop_undef ?_ | refine Ent.glt_undef ?_ | refine Ent.grc_undef ?_ | refine Ent.glt_yes ?_ | refine Ent.glt_no (by decide) ?_ | refine Ent.grc_yes ?_ | refine Ent.grc_no (by decide) ?_)
    exact Ent.ite_t (hn (fun h => by have := h.2.2.1; omega))
  have h3 : ¬ (8 : Int) < d := by simpa using h3
  repeat (first | refine Ent.runW (wrap_i64 (by omega) (by omega)) ?_ | refine Ent.runWL (wrap_i64 (by omega) (by omega)) ?_ | refine Ent.runWR (wrap_i64 (by omega) (by omega)) ?_ | refine Ent.run ?_ | refine Ent.runL ?_ | refine Ent.runR ?_ | refine Ent.drawn ?_ | refine Ent.store (by kernel_rfl) ?_ | refine Ent.resN ?_ | refine Ent.res1 ?_ | refine Ent.gop_yes ?_ | refine Ent.gop_no (by decide) ?_ | refine Ent.gop_undef ?_ | refine Ent.glt_undef ?_ | refine Ent.grc_undef ?_ | refine Ent.glt_yes ?_ | refine Ent.glt_no (by decide) ?_ | refine Ent.grc_yes ?_ | refine Ent.grc_no (by decide) ?_)
  refine Ent.ite_f (Ent.mkMapS fun g => Ent.run ?_)
  refine Ent.L2 (σ := Nat) (fun _ => .bool false) (fun i => .int .i64 i)
    (fun i => pure' (i ≤ fs.length ∧ ((fs.take i).map Fld.name).Nodup ∧ (∀ f ∈ fs.take i, f.name.size ≠ 0) ∧ ∀ f ∈ fs.take i, f.good d) :: mpS g ((fs.take i).map fun f => (f.name, 1)) :: p)
    (fun i => fs.length - i) 0 (fun w hs => Sat.add (a := pure' _) ⟨⟨Nat.zero_le _, by simp, fun f hf => by simp at hf, fun f hf => by simp at hf⟩, fun _ => rfl⟩ hs) ?_
  intro i k hrec
  refine Ent.pure fun hi => ?_
  obtain ⟨hi1, hi2, hi3, hi4⟩ := hi
  repeat (first | refine Ent.runW (wrap_i64 (by omega) (by omega)) ?_ | refine Ent.runWL (wrap_i64 (by omega) (by omega)) ?_ | refine Ent.runWR (wrap_i64 (by omega) (by omega)) ?_ | refine Ent.run ?_ | refine Ent.runL ?_ | refine Ent.runR ?_ | refine Ent.drawn ?_ | refine Ent.store (by kernel_rfl) ?_ | refine Ent.resN ?_ | refine Ent.res1 ?_ | refine Ent.gop_yes ?_ | refine Ent.gop_no (by decide) ?_ | refine Ent.gop_undef ?_ | refine Ent.glt_undef ?_ | refine Ent.grc_undef ?_ | refine Ent.glt_yes ?_ | refine Ent.glt_no (by decide) ?_ | refine Ent.grc_yes ?_ | refine Ent.grc_no (by decide) ?_)
  refine Ent.ite (fun hq => ?_) (fun hq => ?_)
  · have hlt : i < fs.length := by simpa using hq
    have hall : tabOk d fs → fs[i].name ∉ (fs.take i).map Fld.name ∧ fs[i].name.size ≠ 0 ∧ fs[i].good d := fun h => by
      obtain ⟨_, _, _, h4, h5, h6⟩ := h
      refine ⟨?_, h5 _ (List.getElem_mem hlt), (goods_iff d fs).1 h6 _ (List.getElem_mem hlt)⟩
      have h7 : ((fs.take (i + 1)).map Fld.name).Nodup := by
        rw [List.map_take]
        exact h4.sublist (List.take_sublist _ _)
      exact ((nodup_snoc hlt).1 h7).2
    obtain ⟨b2, o2, cs, hia, hcs, hcl2, hld⟩ := RdD.index (P := PR) (t := T.L_api_Field) (k := .i64) (i := i) hf (by omega) (by omega) (fldsD_get hlt)
    refine Ent.at_ (fun w _ => hia w) ?_
    obtain ⟨A3, c3, rfl, _⟩ := fld_open hcs
    haveI := hld
    repeat (first | refine Ent.runW (wrap_i64 (by omega) (by omega)) ?_ | refine Ent.runWL (wrap_i64 (by omega) (by omega)) ?_ | refine Ent.runWR (wrap_i64 (by omega) (by omega)) ?_ | refine Ent.run ?_ | refine Ent.runL ?_ | refine Ent.runR ?_ | refine Ent.drawn ?_ | refine Ent.store (by kernel_rfl) ?_ | refine Ent.resN ?_ | refine Ent.res1 ?_ | refine Ent.gop_yes ?_ | refine Ent.gop_no (by decide) ?_ | refine Ent.gop_undef ?_ | refine Ent.glt_undef ?_ | refine Ent.grc_undef ?_ | refine Ent.glt_yes ?_ | refine Ent.glt_no (by decide) ?_ | refine Ent.grc_yes ?_ | refine Ent.grc_no (by decide) ?_)
    refine Ent.alloc fun g4 => ?_
    unfold fldC at *
    repeat (first | refine Ent.runW (wrap_i64 (by omega) (by omega)) ?_ | refine Ent.runWL (wrap_i64 (by omega) (by omega)) ?_ | refine Ent.runWR (wrap_i64 (by omega) (by omega)) ?_ | refine Ent.run ?_ | refine Ent.runL ?_ | refine Ent.runR ?_ | refine Ent.drawn ?_ | refine Ent.store (by kernel_rfl) ?_ | refine Ent.resN ?_ | refine Ent.res1 ?_ | refine Ent.gop_yes ?_ | refine Ent.gop_no (by decide) ?_ | refine Ent.gop_undef ?_ | refine Ent.glt_undef ?_ | refine Ent.grc_undef ?_ | refine Ent.glt_yes ?_ | refine Ent.glt_no (by decide) ?_ | refine Ent.grc_yes ?_ | refine Ent.grc_no (by decide) ?_)
    refine Ent.pick mpS g (Ent.lkS ?_)
    have hfn := findS_names fs[i].name (fs.take i)
    generalize hnm : fs[i].name = nm at *
    generalize hll : (fs.take i).map (fun f => (f.name, (1 : Int))) = ll at *
    by_cases hin : nm ∈ (fs.take i).map Fld.name
    · obtain ⟨j, hj⟩ := hfn.2 hin
      rw [hj]
      dsimp only
      repeat (first | refine Ent.runW (wrap_i64 (by omega) (by omega)) ?_ | refine Ent.runWL (wrap_i64 (by omega) (by omega)) ?_ | refine Ent.runWR (wrap_i64 (by omega) (by omega)) ?_ | refine Ent.run ?_ | refine Ent.runL ?_ | refine Ent.runR ?_ | refine Ent.drawn ?_ | refine Ent.store (by kernel_rfl) ?_ | refine Ent.resN ?_ | refine Ent.res1 ?_ | refine Ent.gop_yes ?_ | refine Ent.gop_no (by decide) ?_ | refine Ent.gop_undef ?_ | refine Ent.glt_undef ?_ | refine Ent.grc_undef ?_ | refine Ent.glt_yes ?_ | refine Ent.glt_no (by decide) ?_ | refine Ent.grc_yes ?_ | refine Ent.grc_no (by decide) ?_)
      refine Ent.muS (fun h => by rw [hj] at h; cases h) fun l' j' u hj' hl' => ?_
      repeat (first | refine Ent.runW (wrap_i64 (by omega) (by omega)) ?_ | refine Ent.runWL (wrap_i64 (by omega) (by omega)) ?_ | refine Ent.runWR (wrap_i64 (by omega) (by omega)) ?_ | refine Ent.run ?_ | refine Ent.runL ?_ | refine Ent.runR ?_ | refine Ent.drawn ?_ | refine Ent.store (by kernel_rfl) ?_ | refine Ent.resN ?_ | refine Ent.res1 ?_ | refine Ent.gop_yes ?_ | refine Ent.gop_no (by decide) ?_ | refine Ent.gop_undef ?_ | refine Ent.glt_undef ?_ | refine Ent.grc_undef ?_ | refine Ent.glt_yes ?_ | refine Ent.glt_no (by decide) ?_ | refine Ent.grc_yes ?_ | refine Ent.grc_no (by decide) ?_)
      cases h4 : decide (nm = (⟨#[]⟩ : ByteArray)) with
      | true =>
        repeat (first | refine Ent.runW (wrap_i64 (by omega) (by omega)) ?_ | refine Ent.runWL (wrap_i64 (by omega) (by omega)) ?_ | refine Ent.runWR (wrap_i64 (by omega) (by omega)) ?_ | refine Ent.run ?_ | refine Ent.runL ?_ | refine Ent.runR ?_ | refine Ent.drawn ?_ | refine Ent.store (by kernel_rfl) ?_ | refine Ent.resN ?_ | refine Ent.res1 ?_ | refine Ent.gop_yes ?_ | refine Ent.gop_no (by decide) ?_ | refine Ent.gop_undef ?_ | refine Ent.glt_undef ?_ | refine Ent.grc_undef ?_ | refine Ent.glt_yes ?_ | refine Ent.glt_no (by decide) ?_ | refine Ent.grc_yes ?_ | refine Ent.grc_no (by decide) ?_)
        exact Ent.ite_t (Ent.keep (hn fun h => (hall h).1 hin))
      | false =>
        refine Ent.gop_yes (Ent.run (Ent.gop_yes (Ent.run (Ent.gop_yes (Ent.run (Ent.gop_yes (Ent.lkS ?_)))))))
        rw [hl']
        dsimp only
        repeat (first | refine Ent.runW (wrap_i64 (by omega) (by omega)) ?_ | refine Ent.runWL (wrap_i64 (by omega) (by omega)) ?_ | refine Ent.runWR (wrap_i64 (by omega) (by omega)) ?_ | refine Ent.run ?_ | refine Ent.runL ?_ | refine Ent.runR ?_ | refine Ent.drawn ?_ | refine Ent.store (by kernel_rfl) ?_ | refine Ent.resN ?_ | refine Ent.res1 ?_ | refine Ent.gop_yes ?_ | refine Ent.gop_no (by decide) ?_ | refine Ent.gop_undef ?_ | refine Ent.glt_undef ?_ | refine Ent.grc_undef ?_ | refine Ent.glt_yes ?_ | refine Ent.glt_no (by decide) ?_ | refine Ent.grc_yes ?_ | refine Ent.grc_no (by decide) ?_)
        exact Ent.ite_t (Ent.keep (hn fun h => (hall h).1 hin))
    · have hj := hfn.1 hin
      rw [hj]
      dsimp only
      repeat (first | refine Ent.runW (wrap_i64 (by omega) (by omega)) ?_ | refine Ent.runWL (wrap_i64 (by omega) (by omega)) ?_ | refine Ent.runWR (wrap_i64 (by omega) (by omega)) ?_ | refine Ent.run ?_ | refine Ent.runL ?_ | refine Ent.runR ?_ | refine Ent.drawn ?_ | refine Ent.store (by kernel_rfl) ?_ | refine Ent.resN ?_ | refine Ent.res1 ?_ | refine Ent.gop_yes ?_ | refine Ent.gop_no (by decide) ?_ | refine Ent.gop_undef ?_ | refine Ent.glt_undef ?_ | refine Ent.grc_undef ?_ | refine Ent.glt_yes ?_ | refine Ent.glt_no (by decide) ?_ | refine Ent.grc_yes ?_ | refine Ent.grc_no (by decide) ?_)
      refine Ent.muS (fun h => ?_) (fun l' j' u hj' hl' => by rw [hj] at hj'; cases hj')
      rw [show (0 : Int) + 1 = 1 from rfl]
      repeat (first | refine Ent.runW (wrap_i64 (by omega) (by omega)) ?_ | refine Ent.runWL (wrap_i64 (by omega) (by omega)) ?_ | refine Ent.runWR (wrap_i64 (by omega) (by omega)) ?_ | refine Ent.run ?_ | refine Ent.runL ?_ | refine Ent.runR ?_ | refine Ent.drawn ?_ | refine Ent.store (by kernel_rfl) ?_ | refine Ent.resN ?_ | refine Ent.res1 ?_ | refine Ent.gop_yes ?_ | refine Ent.gop_no (by decide) ?_ | refine Ent.gop_undef ?_ | refine Ent.glt_undef ?_ | refine Ent.grc_undef ?_ | refine Ent.glt_yes ?_ | refine Ent.glt_no (by decide) ?_ | refine Ent.grc_yes ?_ | refine Ent.grc_no (by decide) ?_)
      cases h4 : decide (nm = (⟨#[]⟩ : ByteArray)) with
      | true =>
        have h4 : nm = ⟨#[]⟩ := by simpa using h4
        repeat (first | refine Ent.runW (wrap_i64 (by omega) (by omega)) ?_ | refine Ent.runWL (wrap_i64 (by omega) (by omega)) ?_ | refine Ent.runWR (wrap_i64 (by omega) (by omega)) ?_ | refine Ent.run ?_ | refine Ent.runL ?_ | refine Ent.runR ?_ | refine Ent.drawn ?_ | refine Ent.store (by kernel_rfl) ?_ | refine Ent.resN ?_ | refine Ent.res1 ?_ | refine Ent.gop_yes ?_ | refine Ent.gop_no (by decide) ?_ | refine Ent.gop_undef ?_ | refine Ent.glt_undef ?_ | refine Ent.grc_undef ?_ | refine Ent.glt_yes ?_ | refine Ent.glt_no (by decide) ?_ | refine Ent.grc_yes ?_ | refine Ent.grc_no (by decide) ?_)
        exact Ent.ite_t (Ent.keep (hn fun h => (hall h).2.1 (size_zero.2 h4)))
      | false =>
      have h4 : nm.size ≠ 0 := fun h => by
        have := size_zero.1 h
        subst this
        simp at h4
      refine Ent.gop_yes (Ent.run (Ent.gop_yes (Ent.run (Ent.gop_yes (Ent.run (Ent.gop_yes (Ent.lkS ?_)))))))
      have hj2 : findS nm (ll ++ [(nm, (1 : Int))]) = some (ll.length, 1) := by
        clear hll hfn h
        induction ll with
        | nil => simp [findS]
        | cons x r ih =>
          unfold findS at hj
          by_cases hx : nm = x.1
          · rw [if_pos hx] at hj; cases hj
          · rw [if_neg hx] at hj
            have hj : findS nm r = none := by
              cases hr : findS nm r with
              | none => rfl
              | some y => rw [hr] at hj; cases hj
            simp only [List.cons_append, findS, if_neg hx, ih hj, Option.map_some, List.length_cons]
      rw [hj2]
      repeat (first | refine Ent.runW (wrap_i64 (by omega) (by omega)) ?_ | refine Ent.runWL (wrap_i64 (by omega) (by omega)) ?_ | refine Ent.runWR (wrap_i64 (by omega) (by omega)) ?_ | refine Ent.run ?_ | refine Ent.runL ?_ | refine Ent.runR ?_ | refine Ent.drawn ?_ | refine Ent.store (by kernel_rfl) ?_ | refine Ent.resN ?_ | refine Ent.res1 ?_ | refine Ent.gop_yes ?_ | refine Ent.gop_no (by decide) ?_ | refine Ent.gop_undef ?_ | refine Ent.glt_undef ?_ | refine Ent.grc_undef ?_ | refine Ent.glt_yes ?_ | refine Ent.glt_no (by decide) ?_ | refine Ent.grc_yes ?_ | refine Ent.grc_no (by decide) ?_)
      have hnx := ih fs[i] (List.getElem_mem hlt)
      unfold FieldOk fldC at hnx
      rw [hnm] at hnx
      refine hnx w0 _ _ _ A3 c3 d hcs.skip.skip (by omega) (fun h5 => ?_) (fun h5 => ?_)
      · repeat (first | refine Ent.runW (wrap_i64 (by omega) (by omega)) ?_ | refine Ent.runWL (wrap_i64 (by omega) (by omega)) ?_ | refine Ent.runWR (wrap_i64 (by omega) (by omega)) ?_ | refine Ent.run ?_ | refine Ent.runL ?_ | refine Ent.runR ?_ | refine Ent.drawn ?_ | refine Ent.store (by kernel_rfl) ?_ | refine Ent.resN ?_ | refine Ent.res1 ?_ | refine Ent.gop_yes ?_ | refine Ent.gop_no (by decide) ?_ | refine Ent.gop_undef ?_ | refine Ent.glt_undef ?_ | refine Ent.grc_undef ?_ | refine Ent.glt_yes ?_ | refine Ent.glt_no (by decide) ?_ | refine Ent.grc_yes ?_ | refine Ent.grc_no (by decide) ?_)
        refine Ent.ite_f ?_
        repeat (first | refine Ent.runW (wrap_i64 (by omega) (by omega)) ?_ | refine Ent.runWL (wrap_i64 (by omega) (by omega)) ?_ | refine Ent.runWR (wrap_i64 (by omega) (by omega)) ?_ | refine Ent.run ?_ | refine Ent.runL ?_ | refine Ent.runR ?_ | refine Ent.drawn ?_ | refine Ent.store (by kernel_rfl) ?_ | refine Ent.resN ?_ | refine Ent.res1 ?_ | refine Ent.gop_yes ?_ | refine Ent.gop_no (by decide) ?_ | refine Ent.gop_undef ?_ | refine Ent.glt_undef ?_ | refine Ent.grc_undef ?_ | refine Ent.glt_yes ?_ | refine Ent.glt_no (by decide) ?_ | refine Ent.grc_yes ?_ | refine Ent.grc_no (by decide) ?_)
        have := hrec (i + 1) (by omega)
        simp only [Int.natCast_add, Int.natCast_one] at this
        rw [List.take_succ_eq_append_getElem hlt, List.map_append, List.map_append, List.map_cons, List.map_cons, List.map_nil, List.map_nil, hll, hnm] at this
        refine Ent.keep (Ent.add ?_ this)
        refine ⟨⟨hlt, ?_, ?_, ?_⟩, fun _ => rfl⟩
        · have := (nodup_snoc hlt).2 ⟨hi2, by rw [hnm]; exact hin⟩
          rw [List.take_succ_eq_append_getElem hlt, List.map_append, List.map_cons, List.map_nil, hnm] at this
          exact this
        · rw [← List.take_succ_eq_append_getElem hlt]
          exact (tab_snoc (d := d) hlt).2 ⟨hi3, by rw [hnm]; exact h4⟩
        · rw [← List.take_succ_eq_append_getElem hlt]
          exact (tab_snoc (d := d) hlt).2 ⟨hi4, h5.1⟩
      · repeat (first | refine Ent.runW (wrap_i64 (by omega) (by omega)) ?_ | refine Ent.runWL (wrap_i64 (by omega) (by omega)) ?_ | refine Ent.runWR (wrap_i64 (by omega) (by omega)) ?_ | refine Ent.run ?_ | refine Ent.runL ?_ | refine Ent.runR ?_ | refine Ent.drawn ?_ | refine Ent.store (by kernel_rfl) ?_ | refine Ent.resN ?_ | refine Ent.res1 ?_ | refine Ent.gop_yes ?_ | refine Ent.gop_no (by decide) ?_ | refine Ent.gop_undef ?_ | refine Ent.glt_undef ?_ | refine Ent.grc_undef ?_ | refine Ent.glt_yes ?_ | refine Ent.glt_no (by decide) ?_ | refine Ent.grc_yes ?_ | refine Ent.grc_no (by decide) ?_)
        refine Ent.ite_t (Ent.keep (hn fun h => h5 ⟨(hall h).2.2, fun h => by cases h⟩))
  · have hlt : i = fs.length := by
      have : ¬ (i : Int) < fs.length := by simpa using hq
      omega
    subst hlt
    rw [List.take_of_length_le (by omega)] at *
    exact Ent.keep (hy ⟨by omega, by omega, by omega, hi2, hi3, (goods_iff d fs).2 hi4⟩)
theorem here_ne {l : List Fld} {v : Int} : hereL l v ≠ [] ↔ (hereL l v).length ≠ 0 := by
  rw [Ne, List.eq_nil_iff_length_eq_zero]
theorem cover_one {e0 : Fld} {a b : Int} (hab : a ≤ b) : (∀ v, a ≤ v → v ≤ b → hereL [e0] v ≠ []) ↔ e0.frm ≤ a ∧ b ≤ e0.to := by
  have key : ∀ v, hereL [e0] v ≠ [] ↔ e0.frm ≤ v ∧ v ≤ e0.to := fun v => by
    unfold hereL hereF
    rw [List.filter_cons, List.filter_nil]
    by_cases h : (decide (e0.frm ≤ v) && decide (v ≤ e0.to)) = true
    · rw [if_pos h]; simpa using h
    · rw [if_neg h]; simp only [Bool.and_eq_true, decide_eq_true_eq] at h; simp [h]
  constructor
  · intro h
    exact ⟨((key a).1 (h a (by omega) hab)).1, ((key b).1 (h b hab (by omega))).2⟩
  · rintro ⟨h1, h2⟩ v h3 h4
    exact (key v).2 ⟨by omega, by omega⟩
theorem field_ok {n : ByteArray} {k a b : Int} {e : List Fld} (hok : Fld.ok (.mk n k a b e)) (ih : TabOk F.schema_fields e) : FieldOk F.schema_field false (.mk n k a b e) := fun w0 p Pn K A c d hf hd hy hn => by
  obtain ⟨A', c', he, hel⟩ := fld_open hf
  simp only [fldC, List.cons.injEq, Value.slice.injEq, and_true, true_and] at he
  obtain ⟨rfl, _, rfl⟩ := he
  cases hok with
  | mk _ _ ha hb hl _ =>
  have hy : (0 ≤ a ∧ b ≤ 3 ∧ a ≤ b) → ((1 ≤ k ∧ k ≤ 8 ∧ e = []) ∨ ((k = 9 ∧ e.length = 1 ∨ k = 10) ∧ tabOk (d + 1) e ∧ ∀ v, a ≤ v → v ≤ b → hereL e v ≠ [])) → Ent w0 p (K (.bool true)) := fun h1 h2 => hy ⟨(good_eq d n k a b e).2 ⟨h1, h2⟩, fun h => by cases h⟩
  have hn : ¬ ((0 ≤ a ∧ b ≤ 3 ∧ a ≤ b) ∧ ((1 ≤ k ∧ k ≤ 8 ∧ e = []) ∨ ((k = 9 ∧ e.length = 1 ∨ k = 10) ∧ tabOk (d + 1) e ∧ ∀ v, a ≤ v → v ≤ b → hereL e v ≠ []))) → Ent w0 p (K (.bool false)) := fun h => hn fun h2 => h ((good_eq d n k a b e).1 h2.1)
  refine Ent.call (fun w h => enter.schema_field h) ?_
  unfold W.schema_field
  unfold fldC at *
  simp only [Fld.name, Fld.kind, Fld.frm, Fld.to, Fld.elem] at *
  refine Ent.box fun g1 => ?_
  refine Ent.run (Ent.run (Ent.runB (fun h1 => ?_) (fun h1 => ?_)))
  · have h1 : a < 0 := by simpa using h1
    repeat (first | refine Ent.runW (wrap_i64 (by omega) (by omega)) ?_ | refine Ent.runWL (wrap_i64 (by omega) (by omega)) ?_ | refine Ent.runWR (wrap_i64 (by omega) (by omega)) ?_ | refine Ent.run ?_ | refine Ent.runL ?_ | refine Ent.runR ?_ | refine Ent.drawn ?_ | refine Ent.store (by kernel_rfl) ?_ | refine Ent.resN ?_ | refine Ent.res1 ?_ | refine Ent.gop_yes ?_ | refine Ent.gop_no (by decide) ?_ | refine Ent.gop_undef ?_ | refine Ent.glt_undef ?_ | refine Ent.grc_undef ?_ | refine Ent.glt_yes ?_ | refine Ent.glt_no (by decide) ?_ | refine Ent.grc_yes ?_ | refine Ent.grc_no (by decide) ?_)
    exact Ent.ite_t (Ent.keep (hn (fun h => by omega)))
  have h1 : ¬ a < 0 := by simpa using h1
  refine Ent.gop_yes (Ent.run (Ent.gop_yes (Ent.run (Ent.gop_yes (Ent.runB (fun h2 => ?_) (fun h2 => ?_))))))
  · have h2 : 3 < b := by simpa using h2
    repeat (first | refine Ent.runW (wrap_i64 (by omega) (by omega)) ?_ | refine Ent.runWL (wrap_i64 (by omega) (by omega)) ?_ | refine Ent.runWR (wrap_i64 (by omega) (by omega)) ?_ | refine Ent.run ?_ | refine Ent.runL ?_ | refine Ent.runR ?_ | refine Ent.drawn ?_ | refine Ent.store (by kernel_rfl) ?_ | refine Ent.resN ?_ | refine Ent.res1 ?_ | refine Ent.gop_yes ?_ | refine Ent.gop_no (by decide) ?_ | refine Ent.gop_undef ?_ | refine Ent.glt_undef ?_ | refine Ent.grc_undef ?_ | refine Ent.glt_yes ?_ | refine Ent.glt_no (by decide) ?_ | refine Ent.grc_yes ?_ | refine Ent.grc_no (by decide) ?_)
    exact Ent.ite_t (Ent.keep (hn (fun h => by omega)))
  have h2 : ¬ 3 < b := by simpa using h2
  repeat (first | refine Ent.runW (wrap_i64 (by omega) (by omega)) ?_ | refine Ent.runWL (wrap_i64 (by omega) (by omega)) ?_ | refine Ent.runWR (wrap_i64 (by omega) (by omega)) ?_ | refine Ent.run ?_ | refine Ent.runL ?_ | refine Ent.runR ?_ | refine Ent.drawn ?_ | refine Ent.store (by kernel_rfl) ?_ | refine Ent.resN ?_ | refine Ent.res1 ?_ | refine Ent.gop_yes ?_ | refine Ent.gop_no (by decide) ?_ | refine Ent.gop_undef ?_ | refine Ent.glt_undef ?_ | refine Ent.grc_undef ?_ | refine Ent.glt_yes ?_ | refine Ent.glt_no (by decide) ?_ | refine Ent.grc_yes ?_ | refine Ent.grc_no (by decide) ?_)
  refine Ent.ite (fun h3 => ?_) (fun h3 => ?_)
  · have h3 : b < a := by simpa using h3
    exact (Ent.keep (hn (fun h => by omega)))
  have h3 : ¬ b < a := by simpa using h3
  repeat (first | refine Ent.runW (wrap_i64 (by omega) (by omega)) ?_ | refine Ent.runWL (wrap_i64 (by omega) (by omega)) ?_ | refine Ent.runWR (wrap_i64 (by omega) (by omega)) ?_ | refine Ent.run ?_ | refine Ent.runL ?_ | refine Ent.runR ?_ | refine Ent.drawn ?_ | refine Ent.store (by kernel_rfl) ?_ | refine Ent.resN ?_ | refine Ent.res1 ?_ | refine Ent.gop_yes ?_ | refine Ent.gop_no (by decide) ?_ | refine Ent.gop_undef ?_ | refine Ent.glt_undef ?_ | refine Ent.grc_undef ?_ | refine Ent.glt_yes ?_ | refine Ent.glt_no (by decide) ?_ | refine Ent.grc_yes ?_ | refine Ent.grc_no (by decide) ?_)
  refine Ent.J1 fun kk hkk => ?_
  have hleaf : 1 ≤ k ∧ k ≤ 8 → Ent w0 (blk g1 [.string n, .int .i64 k, .int .i64 a, .int .i64 b, .slice A e.length c] :: p) (kk (.bool true)) := fun hk => by
    refine hkk _ _ (Ent.ite_t ?_)
    repeat (first | refine Ent.runW (wrap_i64 (by omega) (by omega)) ?_ | refine Ent.runWL (wrap_i64 (by omega) (by omega)) ?_ | refine Ent.runWR (wrap_i64 (by omega) (by omega)) ?_ | refine Ent.run ?_ | refine Ent.runL ?_ | refine Ent.runR ?_ | refine Ent.drawn ?_ | refine Ent.store (by kernel_rfl) ?_ | refine Ent.resN ?_ | refine Ent.res1 ?_ | refine Ent.gop_yes ?_ | refine Ent.gop_no (by decide) ?_ | refine Ent.gop_undef ?_ | refine Ent.glt_undef ?_ | refine Ent.grc_undef ?_ | refine Ent.glt_yes ?_ | refine Ent.glt_no (by decide) ?_ | refine Ent.grc_yes ?_ | refine Ent.grc_no (by decide) ?_)
    by_cases h : (e.length : Int) = 0
    · rw [decide_eq_true h]
      exact Ent.keep (hy (by omega) (.inl ⟨hk.1, hk.2, List.eq_nil_of_length_eq_zero (by omega)⟩))
    · rw [decide_eq_false h]
      refine Ent.keep (hn fun h' => ?_)
      rcases h'.2 with h5 | h5
      · rw [h5.2.2] at h
        simp at h
      · omega
  have hrest : ¬ (1 ≤ k ∧ k ≤ 8) → Ent w0 (blk g1 [.string n, .int .i64 k, .int .i64 a, .int .i64 b, .slice A e.length c] :: p) (kk (.bool false)) := fun hk => by
    refine hkk _ _ (Ent.ite_f ?_)
    refine Ent.run ?_
    refine Ent.ite (fun h9 => ?_) (fun h9 => ?_)
    · have h9 : k = 9 := by simpa using h9
      refine Ent.drawn (Ent.runL (Ent.runL (Ent.runL (Ent.runL (Ent.runL ?_)))))
      by_cases hl1 : (e.length : Int) = 1
      · rw [decide_eq_true hl1]
        obtain ⟨e0, rfl⟩ : ∃ x, e = [x] := List.length_eq_one_iff.1 (by omega)
        obtain ⟨b2, o2, cs, hia, hcs, hcl2, hld⟩ := RdD.index (P := PR) (t := T.L_api_Field) (k := .i64) (i := 0) hel (by omega) (by simp) (fldsD_get (l := [e0]) (i := 0) (by simp))
        obtain ⟨A3, c3, rfl, _⟩ := fld_open hcs
        simp only [List.getElem_cons_zero] at hld
        have hld2 : LoadAt p ⟨b2, o2 + 2, none⟩ (.int .i64 e0.frm) := ⟨fun w0 w hs => (hld.out w0 w hs).2 2 _ rfl⟩
        have hld3 : LoadAt p ⟨b2, o2 + 3, none⟩ (.int .i64 e0.to) := ⟨fun w0 w hs => (hld.out w0 w hs).2 3 _ rfl⟩
        repeat (first | refine Ent.runW (wrap_i64 (by omega) (by omega)) ?_ | refine Ent.runWL (wrap_i64 (by omega) (by omega)) ?_ | refine Ent.runWR (wrap_i64 (by omega) (by omega)) ?_ | refine Ent.run ?_ | refine Ent.runL ?_ | refine Ent.runR ?_ | refine Ent.drawn ?_ | refine Ent.store (by kernel_rfl) ?_ | refine Ent.resN ?_ | refine Ent.res1 ?_ | refine Ent.gop_yes ?_ | refine Ent.gop_no (by decide) ?_ | refine Ent.gop_undef ?_ | refine Ent.glt_undef ?_ | refine Ent.grc_undef ?_ | refine Ent.glt_yes ?_ | refine Ent.glt_no (by decide) ?_ | refine Ent.grc_yes ?_ | refine Ent.grc_no (by decide) ?_)
        refine Ent.atL (fun w _ => hia w) ?_
        repeat (first | refine Ent.runW (wrap_i64 (by omega) (by omega)) ?_ | refine Ent.runWL (wrap_i64 (by omega) (by omega)) ?_ | refine Ent.runWR (wrap_i64 (by omega) (by omega)) ?_ | refine Ent.run ?_ | refine Ent.runL ?_ | refine Ent.runR ?_ | refine Ent.drawn ?_ | refine Ent.store (by kernel_rfl) ?_ | refine Ent.resN ?_ | refine Ent.res1 ?_ | refine Ent.gop_yes ?_ | refine Ent.gop_no (by decide) ?_ | refine Ent.gop_undef ?_ | refine Ent.glt_undef ?_ | refine Ent.grc_undef ?_ | refine Ent.glt_yes ?_ | refine Ent.glt_no (by decide) ?_ | refine Ent.grc_yes ?_ | refine Ent.grc_no (by decide) ?_)
        have hcov := cover_one (e0 := e0) (a := a) (b := b) (by omega)
        by_cases h5 : e0.frm ≤ a
        · rw [decide_eq_true h5]
          repeat (first | refine Ent.runW (wrap_i64 (by omega) (by omega)) ?_ | refine Ent.runWL (wrap_i64 (by omega) (by omega)) ?_ | refine Ent.runWR (wrap_i64 (by omega) (by omega)) ?_ | refine Ent.run ?_ | refine Ent.runL ?_ | refine Ent.runR ?_ | refine Ent.drawn ?_ | refine Ent.store (by kernel_rfl) ?_ | refine Ent.resN ?_ | refine Ent.res1 ?_ | refine Ent.gop_yes ?_ | refine Ent.gop_no (by decide) ?_ | refine Ent.gop_undef ?_ | refine Ent.glt_undef ?_ | refine Ent.grc_undef ?_ | refine Ent.glt_yes ?_ | refine Ent.glt_no (by decide) ?_ | refine Ent.grc_yes ?_ | refine Ent.grc_no (by decide) ?_)
          refine Ent.atL (fun w _ => hia w) ?_
          repeat (first | refine Ent.runW (wrap_i64 (by omega) (by omega)) ?_ | refine Ent.runWL (wrap_i64 (by omega) (by omega)) ?_ | refine Ent.runWR (wrap_i64 (by omega) (by omega)) ?_ | refine Ent.run ?_ | refine Ent.runL ?_ | refine Ent.runR ?_ | refine Ent.drawn ?_ | refine Ent.store (by kernel_rfl) ?_ | refine Ent.resN ?_ | refine Ent.res1 ?_ | refine Ent.gop_yes ?_ | refine Ent.gop_no (by decide) ?_ | refine Ent.gop_undef ?_ | refine Ent.glt_undef ?_ | refine Ent.grc_undef ?_ | refine Ent.glt_yes ?_ | refine Ent.glt_no (by decide) ?_ | refine Ent.grc_yes ?_ | refine Ent.grc_no (by decide) ?_)
          by_cases h6 : b ≤ e0.to
          · rw [decide_eq_true h6]
            repeat (first | refine Ent.runW (wrap_i64 (by omega) (by omega)) ?_ | refine Ent.runWL (wrap_i64 (by omega) (by omega)) ?_ | refine Ent.runWR (wrap_i64 (by omega) (by omega)) ?_ | refine Ent.run ?_ | refine Ent.runL ?_ | refine Ent.runR ?_ | refine Ent.drawn ?_ | refine Ent.store (by kernel_rfl) ?_ | refine Ent.resN ?_ | refine Ent.res1 ?_ | refine Ent.gop_yes ?_ | refine Ent.gop_no (by decide) ?_ | refine Ent.gop_undef ?_ | refine Ent.glt_undef ?_ | refine Ent.grc_undef ?_ | refine Ent.glt_yes ?_ | refine Ent.glt_no (by decide) ?_ | refine Ent.grc_yes ?_ | refine Ent.grc_no (by decide) ?_)
            refine ih w0 _ _ _ A c (d + 1) hel.skip (by simp) (by omega) (fun h7 => ?_) (fun h7 => ?_)
            · repeat (first | refine Ent.runW (wrap_i64 (by omega) (by omega)) ?_ | refine Ent.runWL (wrap_i64 (by omega) (by omega)) ?_ | refine Ent.runWR (wrap_i64 (by omega) (by omega)) ?_ | refine Ent.run ?_ | refine Ent.runL ?_ | refine Ent.runR ?_ | refine Ent.drawn ?_ | refine Ent.store (by kernel_rfl) ?_ | refine Ent.resN ?_ | refine Ent.res1 ?_ | refine Ent.gop_yes ?_ | refine Ent.gop_no (by decide) ?_ | refine Ent.gop_undef ?_ | refine Ent.glt_undef ?_ | refine Ent.grc_undef ?_ | refine Ent.glt_yes ?_ | refine Ent.glt_no (by decide) ?_ | refine Ent.grc_yes ?_ | refine Ent.grc_no (by decide) ?_)
              exact Ent.keep (hy (by omega) (.inr ⟨.inl ⟨h9, by simp⟩, h7, hcov.2 ⟨h5, h6⟩⟩))
            · repeat (first | refine Ent.runW (wrap_i64 (by omega) (by omega)) ?_ | refine Ent.runWL (wrap_i64 (by omega) (by omega)) ?_ | refine Ent.runWR (wrap_i64 (by omega) (by omega)) ?_ | refine Ent.run ?_ | refine Ent.runL ?_ | refine Ent.runR ?_ | refine Ent.drawn ?_ | refine Ent.store (by kernel_rfl) ?_ | refine Ent.resN ?_ | refine Ent.res1 ?_ | refine Ent.gop_yes ?_ | refine Ent.gop_no (by decide) ?_ | refine Ent.gop_undef ?_ | refine Ent.glt_undef ?_ | refine Ent.grc_undef ?_ | refine Ent.glt_yes ?_ | refine Ent.glt_no (by decide) ?_ | refine Ent.grc_yes ?_ | refine Ent.grc_no (by decide) ?_)
              refine Ent.keep (hn fun h' => ?_)
              rcases h'.2 with h8 | h8
              · omega
              · exact h7 h8.2.1
          · rw [decide_eq_false h6]
            repeat (first | refine Ent.runW (wrap_i64 (by omega) (by omega)) ?_ | refine Ent.runWL (wrap_i64 (by omega) (by omega)) ?_ | refine Ent.runWR (wrap_i64 (by omega) (by omega)) ?_ | refine Ent.run ?_ | refine Ent.runL ?_ | refine Ent.runR ?_ | refine Ent.drawn ?_ | refine Ent.store (by kernel_rfl) ?_ | refine Ent.resN ?_ | refine Ent.res1 ?_ | refine Ent.gop_yes ?_ | refine Ent.gop_no (by decide) ?_ | refine Ent.gop_undef ?_ | refine Ent.glt_undef ?_ | refine Ent.grc_undef ?_ | refine Ent.glt_yes ?_ | refine Ent.glt_no (by decide) ?_ | refine Ent.grc_yes ?_ | refine Ent.grc_no (by decide) ?_)
            refine Ent.keep (hn fun h' => ?_)
            rcases h'.2 with h8 | h8
            · omega
            · exact h6 (hcov.1 h8.2.2).2
        · rw [decide_eq_false h5]
          repeat (first | refine Ent.runW (wrap_i64 (by omega) (by omega)) ?_ | refine Ent.runWL (wrap_i64 (by omega) (by omega)) ?_ | refine Ent.runWR (wrap_i64 (by omega) (by omega)) ?_ | refine Ent.run ?_ | refine Ent.runL ?_ | refine Ent.runR ?_ | refine Ent.drawn ?_ | refine Ent.store (by kernel_rfl) ?_ | refine Ent.resN ?_ | refine Ent.res1 ?_ | refine Ent.gop_yes ?_ | refine Ent.gop_no (by decide) ?_ | refine Ent.gop_undef ?_ | refine Ent.glt_undef ?_ | refine Ent.grc_undef ?_ | refine Ent.glt_yes ?_ | refine Ent.glt_no (by decide) ?_ | refine Ent.grc_yes ?_ | refine Ent.grc_no (by decide) ?_)
          refine Ent.keep (hn fun h' => ?_)
          rcases h'.2 with h8 | h8
          · omega
          · exact h5 (hcov.1 h8.2.2).1
      · rw [decide_eq_false hl1]
        repeat (first | refine Ent.runW (wrap_i64 (by omega) (by omega)) ?_ | refine Ent.runWL (wrap_i64 (by omega) (by omega)) ?_ | refine Ent.runWR (wrap_i64 (by omega) (by omega)) ?_ | refine Ent.run ?_ | refine Ent.runL ?_ | refine Ent.runR ?_ | refine Ent.drawn ?_ | refine Ent.store (by kernel_rfl) ?_ | refine Ent.resN ?_ | refine Ent.res1 ?_ | refine Ent.gop_yes ?_ | refine Ent.gop_no (by decide) ?_ | refine Ent.gop_undef ?_ | refine Ent.glt_undef ?_ | refine Ent.grc_undef ?_ | refine Ent.glt_yes ?_ | refine Ent.glt_no (by decide) ?_ | refine Ent.grc_yes ?_ | refine Ent.grc_no (by decide) ?_)
        refine Ent.keep (hn fun h' => ?_)
        rcases h'.2 with h8 | h8
        · omega
        · omega
    · have h9 : ¬ k = 9 := by simpa using h9
      refine Ent.run ?_
      refine Ent.ite (fun h10 => ?_) (fun h10 => ?_)
      · have h10 : k = 10 := by simpa using h10
        repeat (first | refine Ent.runW (wrap_i64 (by omega) (by omega)) ?_ | refine Ent.runWL (wrap_i64 (by omega) (by omega)) ?_ | refine Ent.runWR (wrap_i64 (by omega) (by omega)) ?_ | refine Ent.run ?_ | refine Ent.runL ?_ | refine Ent.runR ?_ | refine Ent.drawn ?_ | refine Ent.store (by kernel_rfl) ?_ | refine Ent.resN ?_ | refine Ent.res1 ?_ | refine Ent.gop_yes ?_ | refine Ent.gop_no (by decide) ?_ | refine Ent.gop_undef ?_ | refine Ent.glt_undef ?_ | refine Ent.grc_undef ?_ | refine Ent.glt_yes ?_ | refine Ent.glt_no (by decide) ?_ | refine Ent.grc_yes ?_ | refine Ent.grc_no (by decide) ?_)
        refine Ent.L2 (σ := Int) (fun _ => .bool false) (fun u => .int .i64 u) (fun u => pure' (a ≤ u ∧ u ≤ b + 1 ∧ ∀ v, a ≤ v → v < u → hereL e v ≠ []) :: blk g1 [.string n, .int .i64 k, .int .i64 a, .int .i64 b, .slice A e.length c] :: p) (fun u => (4 - u).toNat) a ?_ ?_
        · intro w hs
          have : Sat (blk g1 [.string n, .int .i64 k, .int .i64 a, .int .i64 b, .slice A e.length c] :: p) w0 w := hs
          exact this.add (a := pure' _) ⟨⟨by omega, by omega, fun v hv1 hv2 => by omega⟩, fun _ => rfl⟩
        · intro u kk3 hrec
          refine Ent.pure fun hi => ?_
          obtain ⟨hi0, hi1, hi2⟩ := hi
          repeat (first | refine Ent.runW (wrap_i64 (by omega) (by omega)) ?_ | refine Ent.runWL (wrap_i64 (by omega) (by omega)) ?_ | refine Ent.runWR (wrap_i64 (by omega) (by omega)) ?_ | refine Ent.run ?_ | refine Ent.runL ?_ | refine Ent.runR ?_ | refine Ent.drawn ?_ | refine Ent.store (by kernel_rfl) ?_ | refine Ent.resN ?_ | refine Ent.res1 ?_ | refine Ent.gop_yes ?_ | refine Ent.gop_no (by decide) ?_ | refine Ent.gop_undef ?_ | refine Ent.glt_undef ?_ | refine Ent.grc_undef ?_ | refine Ent.glt_yes ?_ | refine Ent.glt_no (by decide) ?_ | refine Ent.grc_yes ?_ | refine Ent.grc_no (by decide) ?_)
          refine Ent.ite (fun hq => ?_) (fun hq => ?_)
          · have hq : u ≤ b := by simpa using hq
            repeat (first | refine Ent.runW (wrap_i64 (by omega) (by omega)) ?_ | refine Ent.runWL (wrap_i64 (by omega) (by omega)) ?_ | refine Ent.runWR (wrap_i64 (by omega) (by omega)) ?_ | refine Ent.run ?_ | refine Ent.runL ?_ | refine Ent.runR ?_ | refine Ent.drawn ?_ | refine Ent.store (by kernel_rfl) ?_ | refine Ent.resN ?_ | refine Ent.res1 ?_ | refine Ent.gop_yes ?_ | refine Ent.gop_no (by decide) ?_ | refine Ent.gop_undef ?_ | refine Ent.glt_undef ?_ | refine Ent.grc_undef ?_ | refine Ent.glt_yes ?_ | refine Ent.glt_no (by decide) ?_ | refine Ent.grc_yes ?_ | refine Ent.grc_no (by decide) ?_)
            refine present_spec (v := u) hel hl fun A1 c1 x hx => ?_
            repeat (first | refine Ent.runW (wrap_i64 (by omega) (by omega)) ?_ | refine Ent.runWL (wrap_i64 (by omega) (by omega)) ?_ | refine Ent.runWR (wrap_i64 (by omega) (by omega)) ?_ | refine Ent.run ?_ | refine Ent.runL ?_ | refine Ent.runR ?_ | refine Ent.drawn ?_ | refine Ent.store (by kernel_rfl) ?_ | refine Ent.resN ?_ | refine Ent.res1 ?_ | refine Ent.gop_yes ?_ | refine Ent.gop_no (by decide) ?_ | refine Ent.gop_undef ?_ | refine Ent.glt_undef ?_ | refine Ent.grc_undef ?_ | refine Ent.glt_yes ?_ | refine Ent.glt_no (by decide) ?_ | refine Ent.grc_yes ?_ | refine Ent.grc_no (by decide) ?_)
            refine Ent.ite (fun h0 => ?_) (fun h0 => ?_)
            · have h0 : (hereL e u).length = 0 := by have : ((hereL e u).length : Int) = 0 := by simpa using h0
                                                     omega
              refine Ent.keep (hn fun h' => ?_)
              rcases h'.2 with h8 | h8
              · omega
              · exact here_ne.1 (h8.2.2 u (by omega) hq) h0
            · have h0 : ¬ (hereL e u).length = 0 := fun h => by
                rw [h] at h0
                simp at h0
              repeat (first | refine Ent.runW (wrap_i64 (by omega) (by omega)) ?_ | refine Ent.runWL (wrap_i64 (by omega) (by omega)) ?_ | refine Ent.runWR (wrap_i64 (by omega) (by omega)) ?_ | refine Ent.run ?_ | refine Ent.runL ?_ | refine Ent.runR ?_ | refine Ent.drawn ?_ | refine Ent.store (by kernel_rfl) ?_ | refine Ent.resN ?_ | refine Ent.res1 ?_ | refine Ent.gop_yes ?_ | refine Ent.gop_no (by decide) ?_ | refine Ent.gop_undef ?_ | refine Ent.glt_undef ?_ | refine Ent.grc_undef ?_ | refine Ent.glt_yes ?_ | refine Ent.glt_no (by decide) ?_ | refine Ent.grc_yes ?_ | refine Ent.grc_no (by decide) ?_)
              have := hrec (u + 1) (by omega)
              refine Ent.keep (Ent.add ?_ this)
              refine ⟨⟨by omega, by omega, fun v hv1 hv2 => ?_⟩, fun _ => rfl⟩
              by_cases hv : v = u
              · subst hv
                exact here_ne.2 h0
              · exact hi2 v hv1 (by omega)
          · have hq : ¬ u ≤ b := by simpa using hq
            have hcov : ∀ v, a ≤ v → v ≤ b → hereL e v ≠ [] := fun v h1 h2 => hi2 v h1 (by omega)
            repeat (first | refine Ent.runW (wrap_i64 (by omega) (by omega)) ?_ | refine Ent.runWL (wrap_i64 (by omega) (by omega)) ?_ | refine Ent.runWR (wrap_i64 (by omega) (by omega)) ?_ | refine Ent.run ?_ | refine Ent.runL ?_ | refine Ent.runR ?_ | refine Ent.drawn ?_ | refine Ent.store (by kernel_rfl) ?_ | refine Ent.resN ?_ | refine Ent.res1 ?_ | refine Ent.gop_yes ?_ | refine Ent.gop_no (by decide) ?_ | refine Ent.gop_undef ?_ | refine Ent.glt_undef ?_ | refine Ent.grc_undef ?_ | refine Ent.glt_yes ?_ | refine Ent.glt_no (by decide) ?_ | refine Ent.grc_yes ?_ | refine Ent.grc_no (by decide) ?_)
            refine ih w0 _ _ _ A c (d + 1) hel.skip hl (by omega) (fun h7 => ?_) (fun h7 => ?_)
            · repeat (first | refine Ent.runW (wrap_i64 (by omega) (by omega)) ?_ | refine Ent.runWL (wrap_i64 (by omega) (by omega)) ?_ | refine Ent.runWR (wrap_i64 (by omega) (by omega)) ?_ | refine Ent.run ?_ | refine Ent.runL ?_ | refine Ent.runR ?_ | refine Ent.drawn ?_ | refine Ent.store (by kernel_rfl) ?_ | refine Ent.resN ?_ | refine Ent.res1 ?_ | refine Ent.gop_yes ?_ | refine Ent.gop_no (by decide) ?_ | refine Ent.gop_undef ?_ | refine Ent.glt_undef ?_ | refine Ent.grc_undef ?_ | refine Ent.glt_yes ?_ | refine Ent.glt_no (by decide) ?_ | refine Ent.grc_yes ?_ | refine Ent.grc_no (by decide) ?_)
              exact Ent.keep (hy (by omega) (.inr ⟨.inr h10, h7, hcov⟩))
            · repeat (first | refine Ent.runW (wrap_i64 (by omega) (by omega)) ?_ | refine Ent.runWL (wrap_i64 (by omega) (by omega)) ?_ | refine Ent.runWR (wrap_i64 (by omega) (by omega)) ?_ | refine Ent.run ?_ | refine Ent.runL ?_ | refine Ent.runR ?_ | refine Ent.drawn ?_ | refine Ent.store (by kernel_rfl) ?_ | refine Ent.resN ?_ | refine Ent.res1 ?_ | refine Ent.gop_yes ?_ | refine Ent.gop_no (by decide) ?_ | refine Ent.gop_undef ?_ | refine Ent.glt_undef ?_ | refine Ent.grc_undef ?_ | refine Ent.glt_yes ?_ | refine Ent.glt_no (by decide) ?_ | refine Ent.grc_yes ?_ | refine Ent.grc_no (by decide) ?_)
              refine Ent.keep (hn fun h' => ?_)
              rcases h'.2 with h8 | h8
              · omega
              · exact h7 h8.2.1
      · have h10 : ¬ k = 10 := by simpa using h10
        refine Ent.keep (hn fun h' => ?_)
        rcases h'.2 with h8 | h8
        · omega
        · omega
  by_cases hk : 1 ≤ k ∧ k ≤ 8
  · have hk' : k = 1 ∨ k = 2 ∨ k = 3 ∨ k = 4 ∨ k = 5 ∨ k = 6 ∨ k = 7 ∨ k = 8 := by omega
    have h := hleaf hk
    clear hleaf hrest hn hy hkk
    rcases hk' with rfl | rfl | rfl | rfl | rfl | rfl | rfl | rfl
    all_goals repeat' (first | exact h | refine Ent.run ?_ | refine Ent.ite_t ?_ | refine Ent.ite_f ?_)
  · have h := hrest hk
    clear hleaf hrest hn hy hkk
    refine Ent.run ?_
    rw [decide_eq_false (show ¬ k = 1 by omega)]
    refine Ent.ite_f ?_
    refine Ent.run ?_
    rw [decide_eq_false (show ¬ k = 2 by omega)]
    refine Ent.ite_f ?_
    refine Ent.run ?_
    rw [decide_eq_false (show ¬ k = 3 by omega)]
    refine Ent.ite_f ?_
    refine Ent.run ?_
    rw [decide_eq_false (show ¬ k = 4 by omega)]
    refine Ent.ite_f ?_
    refine Ent.run ?_
    rw [decide_eq_false (show ¬ k = 5 by omega)]
    refine Ent.ite_f ?_
    refine Ent.run ?_
    rw [decide_eq_false (show ¬ k = 6 by omega)]
    refine Ent.ite_f ?_
    refine Ent.run ?_
    rw [decide_eq_false (show ¬ k = 7 by omega)]
    refine Ent.ite_f ?_
    refine Ent.run ?_
    rw [decide_eq_false (show ¬ k = 8 by omega)]
    exact h
end Go.Lt
