/- The references list a tree's bytes, and spoil them. Conditions: none. -/
import Derived.Test.YtpmpgmjllagomaaLists
set_option linter.unusedVariables false
set_option maxHeartbeats 4000000
set_option linter.unusedSimpArgs false
set_option maxRecDepth 100000
namespace Go.Lt
open Go
attribute [local irreducible] op gop lt glt rc grc ite' drawn also ldR
def IsSl (v : Value) : Prop := ∃ A n c, v = .slice A n c
theorem flat_one (vs : List Value) : (vs.map fun v => [v]).flatten = vs := by induction vs <;> simp_all
section
variable {w0 : World} {p : List HP} {Pn : PK} {K : Value → WP}
/-- A row of one-cell values that is read. -/
theorem row_rd1 {e : Nat} {v : Value} {vs : List Value} {x : HL} (h1 : ∀ u ∈ vs, u.oneCell' = true) (h : row e 1 v vs.length vs x) : RdD (exact x :: p) (.sl e 1 (vs.map D.sc)) [v] := by
  have h' : row e 1 v vs.length (vs.map fun v => [v]).flatten x := by rw [flat_one]; exact h
  refine row_rdD h' (by simp) (by simp) fun i d cs hd hc => ?_
  rw [List.getElem?_map] at hd hc
  obtain ⟨u, hu, rfl⟩ := Option.map_eq_some_iff.1 hd
  rw [hu] at hc
  injection hc with hc
  subst hc
  exact ⟨⟨rfl, h1 u (List.mem_of_getElem? hu)⟩, rfl⟩
theorem IsSl.one {v : Value} (h : IsSl v) : v.oneCell' = true := by obtain ⟨A, n, c, rfl⟩ := h; rfl
/-- append(vs, v) of a slice's value. -/
theorem pushS {t g c : Nat} {v : Value} {u : Value} {us : List Value} {fl : List Bool} {ty : TypeId} [ht : SlE PR t T.L_uint8] (hv : IsSl v) (hl : us.length + 1 ≤ 4294967296)
    (hk : ∀ A c, Ent w0 (row T.L_uint8 1 (.slice A (us.length + 1) c) (us.length + 1) (us ++ [v]) :: p) (K (.slice A (us.length + 1) c))) :
    Ent w0 (blk g [v] :: row T.L_uint8 1 u us.length us :: p) (op PR Pn (S.bi .append #[t, t] ty fl [u, .slice (some ⟨g, 0, none⟩) 1 c]) K) := by
  obtain ⟨A, n, c', rfl⟩ := hv
  exact Ent.append1 (sz := 1) rfl rfl (by omega) (by omega) hk
theorem slotsL_mem {s : Sk} : ∀ {l : List Sk}, s ∈ l → ∀ v ∈ s.slots, v ∈ slotsL l
  | x :: r, h, v, hv => by
    unfold slotsL
    rcases List.mem_cons.1 h with h | h
    · exact List.mem_append_left _ (h ▸ hv)
    · exact List.mem_append_right _ (slotsL_mem h v hv)
theorem slotsL_snoc {l : List Sk} {i : Nat} (h : i < l.length) : slotsL (l.take (i + 1)) = slotsL (l.take i) ++ l[i].slots := by
  induction l generalizing i with
  | nil => simp at h
  | cons x r ih =>
    cases i with
    | zero => simp [slotsL]
    | succ i =>
      simp only [List.take_succ_cons, List.getElem_cons_succ, slotsL]
      rw [ih (by simpa using h), List.append_assoc]
theorem slotsL_len {l : List Sk} {i : Nat} (h : i < l.length) : (slotsL (l.take i)).length + l[i].slots.length ≤ (slotsL l).length := by
  have e : ∀ (l : List Sk) (j : Nat), (slotsL (l.take j)).length ≤ (slotsL l).length := by
    intro l
    induction l with
    | nil => intro j; simp [slotsL]
    | cons x r ih =>
      intro j
      cases j with
      | zero => simp [slotsL]
      | succ j =>
        simp only [List.take_succ_cons, slotsL, List.length_append]
        have := ih j
        omega
  have := e l (i + 1)
  rw [slotsL_snoc h, List.length_append] at this
  exact this
theorem sk_open {s : Sk} {cs : List Value} (h : RdD p (skD s) cs) : ∃ k n b A2 c2, cs = [.int .i64 k, .int .i64 n, .bool b, s.v, .slice A2 s.list.length c2] ∧ RdD p (.sl T.api_Node 5 (sksD s.list)) [.slice A2 s.list.length c2] := by
  cases s with
  | mk k n b v l =>
    unfold skD at h
    obtain ⟨x1, y1, rfl, ⟨rfl, _⟩, x2, y2, rfl, ⟨rfl, _⟩, x3, y3, rfl, ⟨rfl, _⟩, x4, y4, rfl, ⟨rfl, _⟩, x5, y5, rfl, h5, rfl⟩ := h
    obtain ⟨A2, c2, rfl, h7⟩ := h5
    exact ⟨k, n, b, A2, c2, by simp [Sk.v, Sk.list, sksD_length], A2, c2, by simp [Sk.list, sksD_length], h7⟩
theorem slots_eq (s : Sk) : s.slots = s.v :: slotsL s.list := by cases s; rfl
def ListsOk (s : Sk) : Prop := ∀ (w0 : World) (p : List HP) (Pn : PK) (K : Value → WP) (cs : List Value), RdD p (skD s) cs → s.slots.length ≤ 1073741824 → (∀ v ∈ s.slots, IsSl v) →
  (∀ A c, Ent w0 (row T.L_uint8 1 (.slice A s.slots.length c) s.slots.length s.slots :: p) (K (.slice A s.slots.length c))) → Ent w0 p (op PR Pn (S.fn F.leatref10_Lists [.agg cs.toArray]) K)
theorem lists_ok {s : Sk} (ih : ∀ x ∈ s.list, ListsOk x) : ListsOk s := fun w0 p Pn K cs h hl hsl hk => by
  obtain ⟨k, n, b, A2, c2, rfl, hls⟩ := sk_open h
  obtain ⟨_, _, hsh, hsh2, hsh3⟩ := hls.shape
  rw [sksD_length] at hsh2
  rw [slots_eq] at hl hsl hk
  simp only [List.length_cons] at hl
  have hv : IsSl s.v := hsl _ List.mem_cons_self
  have hvs : ∀ v ∈ slotsL s.list, IsSl v := fun v hv => hsl v (List.mem_cons_of_mem _ hv)
  obtain ⟨Av, nv, cv, hvv⟩ := hv
  rw [hvv]
  refine Ent.call (fun w h => enter.leatref10_Lists h) ?_
  unfold W.leatref10_Lists
  refine Ent.box fun g1 => ?_
  refine Ent.bsliceR (sz := 1) (by omega) rfl fun g2 => ?_
  repeat (first | refine Ent.runW (wrap_i64 (by omega) (by omega)) ?_ | refine Ent.runWL (wrap_i64 (by omega) (by omega)) ?_ | refine Ent.runWR (wrap_i64 (by omega) (by omega)) ?_ | refine Ent.run ?_ | refine Ent.runL ?_ | refine Ent.runR ?_ | refine Ent.drawn ?_ | refine Ent.store (by kernel_rfl) ?_ | refine Ent.resN ?_ | refine Ent.res1 ?_ | refine Ent.gop_yes ?_ | refine Ent.gop_no (by decide) ?_ | refine Ent.gop_undef ?_ | refine Ent.glt_undef ?_ | refine Ent.grc_undef ?_ | refine Ent.glt_yes ?_ | refine Ent.glt_no (by decide) ?_ | refine Ent.grc_yes ?_ | refine Ent.grc_no (by decide) ?_)
  refine Ent.bslice fun g3 => ?_
  refine pushS (us := []) ⟨_, _, _, rfl⟩ (by simp) fun A3 c3 => ?_
  refine Ent.L2 (σ := Nat × Option Addr × Nat) (fun q => .slice q.2.1 (1 + (slotsL (s.list.take q.1)).length) q.2.2) (fun q => .int .i64 q.1)
    (fun q => pure' (q.1 ≤ s.list.length) :: row T.L_uint8 1 (.slice q.2.1 (1 + (slotsL (s.list.take q.1)).length) q.2.2) (s.v :: slotsL (s.list.take q.1)).length (s.v :: slotsL (s.list.take q.1)) :: blk g1 [.int .i64 k, .int .i64 n, .bool b, .slice Av nv cv, .slice A2 s.list.length c2] :: p) (fun q => s.list.length - q.1) (0, A3, c3) ?_ ?_
  · intro w hw
    refine Sat.add (a := pure' _) ⟨Nat.zero_le _, fun _ => rfl⟩ ?_
    rw [hvv]
    exact hw
  rintro ⟨i, B, d⟩ kk hrec
  refine Ent.pure fun hi => ?_
  simp only at hi hrec ⊢
  repeat (first | refine Ent.runW (wrap_i64 (by omega) (by omega)) ?_ | refine Ent.runWL (wrap_i64 (by omega) (by omega)) ?_ | refine Ent.runWR (wrap_i64 (by omega) (by omega)) ?_ | refine Ent.run ?_ | refine Ent.runL ?_ | refine Ent.runR ?_ | refine Ent.drawn ?_ | refine Ent.store (by kernel_rfl) ?_ | refine Ent.resN ?_ | refine Ent.res1 ?_ | refine Ent.gop_yes ?_ | refine Ent.gop_no (by decide) ?_ | refine Ent.gop_undef ?_ | refine Ent.glt_undef ?_ | refine Ent.grc_undef ?_ | refine Ent.glt_yes ?_ | refine Ent.glt_no (by decide) ?_ | refine Ent.grc_yes ?_ | refine Ent.grc_no (by decide) ?_)
  refine Ent.ite (fun hq => ?_) (fun hq => ?_)
  · have hlt : i < s.list.length := by simpa using hq
    obtain ⟨b2, o2, cs, hia, hcs, hcl2, hld⟩ := RdD.index (P := PR) (t := T.L_api_Node) (k := .i64) (i := i) hls (by omega) (by omega) (sksD_get hlt)
    have hlen := slotsL_len hlt
    obtain ⟨k', n', b', A6, c6, rfl, _⟩ := sk_open hcs
    repeat (first | refine Ent.runW (wrap_i64 (by omega) (by omega)) ?_ | refine Ent.runWL (wrap_i64 (by omega) (by omega)) ?_ | refine Ent.runWR (wrap_i64 (by omega) (by omega)) ?_ | refine Ent.run ?_ | refine Ent.runL ?_ | refine Ent.runR ?_ | refine Ent.drawn ?_ | refine Ent.store (by kernel_rfl) ?_ | refine Ent.resN ?_ | refine Ent.res1 ?_ | refine Ent.gop_yes ?_ | refine Ent.gop_no (by decide) ?_ | refine Ent.gop_undef ?_ | refine Ent.glt_undef ?_ | refine Ent.grc_undef ?_ | refine Ent.glt_yes ?_ | refine Ent.glt_no (by decide) ?_ | refine Ent.grc_yes ?_ | refine Ent.grc_no (by decide) ?_)
    refine Ent.at_ (fun w _ => hia w) ?_
    haveI := hld
    repeat (first | refine Ent.runW (wrap_i64 (by omega) (by omega)) ?_ | refine Ent.runWL (wrap_i64 (by omega) (by omega)) ?_ | refine Ent.runWR (wrap_i64 (by omega) (by omega)) ?_ | refine Ent.run ?_ | refine Ent.runL ?_ | refine Ent.runR ?_ | refine Ent.drawn ?_ | refine Ent.store (by kernel_rfl) ?_ | refine Ent.resN ?_ | refine Ent.res1 ?_ | refine Ent.gop_yes ?_ | refine Ent.gop_no (by decide) ?_ | refine Ent.gop_undef ?_ | refine Ent.glt_undef ?_ | refine Ent.grc_undef ?_ | refine Ent.glt_yes ?_ | refine Ent.glt_no (by decide) ?_ | refine Ent.grc_yes ?_ | refine Ent.grc_no (by decide) ?_)
    refine ih _ (List.getElem_mem hlt) w0 _ _ _ _ hcs.keep (by omega) (fun v hv => hvs v (slotsL_mem (List.getElem_mem hlt) v hv)) fun A7 c7 => ?_
    refine Ent.freeze fun y hy => ?_
    have hy2 := row_rd1 (p := p) (fun u hu => (hvs u (slotsL_mem (List.getElem_mem hlt) u hu)).one) hy
    have hmsl : ∀ v ∈ s.list[i].slots, IsSl v := fun v hv => hvs v (slotsL_mem (List.getElem_mem hlt) v hv)
    generalize hms : s.list[i].slots = ms at *
    refine Ent.L2 (σ := Nat × Option Addr × Nat) (fun q => .slice q.2.1 (1 + (slotsL (s.list.take i)).length + q.1) q.2.2) (fun q => .int .i64 q.1)
      (fun q => pure' (q.1 ≤ ms.length) :: row T.L_uint8 1 (.slice q.2.1 (1 + (slotsL (s.list.take i)).length + q.1) q.2.2) ((s.v :: slotsL (s.list.take i)) ++ ms.take q.1).length ((s.v :: slotsL (s.list.take i)) ++ ms.take q.1) :: exact y :: blk g1 [.int .i64 k, .int .i64 n, .bool b, .slice Av nv cv, .slice A2 s.list.length c2] :: p) (fun q => ms.length - q.1) (0, B, d) ?_ ?_
    · intro w hw
      refine Sat.add (a := pure' _) ⟨Nat.zero_le _, fun _ => rfl⟩ ?_
      rw [List.take_zero, List.append_nil]
      exact Sat.keep hw
    rintro ⟨j, B', d'⟩ kk2 hrec2
    refine Ent.pure fun hj => ?_
    simp only at hj hrec2 ⊢
    repeat (first | refine Ent.runW (wrap_i64 (by omega) (by omega)) ?_ | refine Ent.runWL (wrap_i64 (by omega) (by omega)) ?_ | refine Ent.runWR (wrap_i64 (by omega) (by omega)) ?_ | refine Ent.run ?_ | refine Ent.runL ?_ | refine Ent.runR ?_ | refine Ent.drawn ?_ | refine Ent.store (by kernel_rfl) ?_ | refine Ent.resN ?_ | refine Ent.res1 ?_ | refine Ent.gop_yes ?_ | refine Ent.gop_no (by decide) ?_ | refine Ent.gop_undef ?_ | refine Ent.glt_undef ?_ | refine Ent.grc_undef ?_ | refine Ent.glt_yes ?_ | refine Ent.glt_no (by decide) ?_ | refine Ent.grc_yes ?_ | refine Ent.grc_no (by decide) ?_)
    refine Ent.ite (fun hq => ?_) (fun hq => ?_)
    · have hjl : j < ms.length := by simpa using hq
      obtain ⟨b3, o3, cs3, hia3, hcs3, hcl3, hld3⟩ := RdD.index (P := PR) (t := T.L_L_uint8) (k := .i64) (i := j) hy2 (by omega) (by simp; omega) (d := .sc ms[j]) (by simp [List.getElem?_eq_getElem hjl])
      obtain ⟨rfl, _⟩ := hcs3
      refine Ent.at_ (fun w _ => hia3 w) ?_
      have hmj : IsSl ms[j] := hmsl _ (List.getElem_mem hjl)
      haveI := LoadAt.keep (q := row T.L_uint8 1 (.slice B' (1 + (slotsL (s.list.take i)).length + j) d') ((s.v :: slotsL (s.list.take i)) ++ ms.take j).length ((s.v :: slotsL (s.list.take i)) ++ ms.take j) :: exact y :: blk g1 [.int .i64 k, .int .i64 n, .bool b, .slice Av nv cv, .slice A2 s.list.length c2] :: p) (LoadN.one hld3)
      repeat (first | refine Ent.runW (wrap_i64 (by omega) (by omega)) ?_ | refine Ent.runWL (wrap_i64 (by omega) (by omega)) ?_ | refine Ent.runWR (wrap_i64 (by omega) (by omega)) ?_ | refine Ent.run ?_ | refine Ent.runL ?_ | refine Ent.runR ?_ | refine Ent.drawn ?_ | refine Ent.store (by kernel_rfl) ?_ | refine Ent.resN ?_ | refine Ent.res1 ?_ | refine Ent.gop_yes ?_ | refine Ent.gop_no (by decide) ?_ | refine Ent.gop_undef ?_ | refine Ent.glt_undef ?_ | refine Ent.grc_undef ?_ | refine Ent.glt_yes ?_ | refine Ent.glt_no (by decide) ?_ | refine Ent.grc_yes ?_ | refine Ent.grc_no (by decide) ?_)
      have hll : ((s.v :: slotsL (s.list.take i)) ++ ms.take j).length = 1 + (slotsL (s.list.take i)).length + j := by simp; omega
      obtain ⟨Am, nm, cm, hmm⟩ := id hmj
      rw [hmm]
      refine Ent.bslice fun g5 => ?_
      refine pushS ⟨_, _, _, rfl⟩ (by rw [hll]; omega) fun A8 c8 => ?_
      rw [hll]
      repeat (first | refine Ent.runW (wrap_i64 (by omega) (by omega)) ?_ | refine Ent.runWL (wrap_i64 (by omega) (by omega)) ?_ | refine Ent.runWR (wrap_i64 (by omega) (by omega)) ?_ | refine Ent.run ?_ | refine Ent.runL ?_ | refine Ent.runR ?_ | refine Ent.drawn ?_ | refine Ent.store (by kernel_rfl) ?_ | refine Ent.resN ?_ | refine Ent.res1 ?_ | refine Ent.gop_yes ?_ | refine Ent.gop_no (by decide) ?_ | refine Ent.gop_undef ?_ | refine Ent.glt_undef ?_ | refine Ent.grc_undef ?_ | refine Ent.glt_yes ?_ | refine Ent.glt_no (by decide) ?_ | refine Ent.grc_yes ?_ | refine Ent.grc_no (by decide) ?_)
      have := hrec2 (j + 1, A8, c8) (by simp only; omega)
      simp only [Int.natCast_add, Int.natCast_one] at this
      rw [List.take_succ_eq_append_getElem hjl, hmm, ← List.append_assoc] at this
      rw [show ((s.v :: slotsL (s.list.take i)) ++ ms.take j ++ [Value.slice Am nm cm]).length = 1 + (slotsL (s.list.take i)).length + j + 1 by rw [List.length_append, hll]; rfl] at this
      exact Ent.add ⟨hjl, fun _ => rfl⟩ this
    · have hjl : j = ms.length := by
        have : ¬ (j : Int) < ms.length := by simpa using hq
        omega
      subst hjl
      rw [show ms.take ms.length = ms from List.take_length]
      repeat (first | refine Ent.runW (wrap_i64 (by omega) (by omega)) ?_ | refine Ent.runWL (wrap_i64 (by omega) (by omega)) ?_ | refine Ent.runWR (wrap_i64 (by omega) (by omega)) ?_ | refine Ent.run ?_ | refine Ent.runL ?_ | refine Ent.runR ?_ | refine Ent.drawn ?_ | refine Ent.store (by kernel_rfl) ?_ | refine Ent.resN ?_ | refine Ent.res1 ?_ | refine Ent.gop_yes ?_ | refine Ent.gop_no (by decide) ?_ | refine Ent.gop_undef ?_ | refine Ent.glt_undef ?_ | refine Ent.grc_undef ?_ | refine Ent.glt_yes ?_ | refine Ent.glt_no (by decide) ?_ | refine Ent.grc_yes ?_ | refine Ent.grc_no (by decide) ?_)
      have := hrec (i + 1, B', d') (by simp only; omega)
      simp only [Int.natCast_add, Int.natCast_one] at this
      rw [slotsL_snoc hlt, hms] at this
      rw [show 1 + (slotsL (s.list.take i) ++ ms).length = 1 + (slotsL (s.list.take i)).length + ms.length by rw [List.length_append]; omega] at this
      rw [List.cons_append]
      refine Ent.keep (Ent.add ?_ this)
      exact ⟨hlt, fun _ => rfl⟩
  · have hlt : i = s.list.length := by
      have : ¬ (i : Int) < s.list.length := by simpa using hq
      omega
    subst hlt
    rw [List.take_of_length_le (by omega)]
    have := hk B d
    rw [show (s.v :: slotsL s.list).length = 1 + (slotsL s.list).length by simp; omega] at this ⊢
    exact Ent.keep this
mutual
theorem lists1 : ∀ s : Sk, ListsOk s
  | .mk k n b v l => lists_ok (listss l)
theorem listss : ∀ l : List Sk, ∀ x ∈ l, ListsOk x
  | [], x, hx => by cases hx
  | f :: r, x, hx => by
    have hf := lists1 f
    have hr := listss r
    rcases List.mem_cons.1 hx with h' | h'
    · exact h' ▸ hf
    · exact hr x h'
end
end
end Go.Lt
