/- The laws of layer 10: alive, and SchemaOnly's walk. Conditions: none. -/
import Derived.Test.YtpmpgmjllagomaaAlive
set_option linter.unusedVariables false
set_option maxHeartbeats 4000000
set_option linter.unusedSimpArgs false
set_option maxRecDepth 100000
namespace Go.Lt
open Go
attribute [local irreducible] op gop lt glt rc grc ite' drawn also ldR
variable {w0 : World} {p : List HP} {Pn : PK} {K : Value → WP}
theorem pair_ok : ∀ x ∈ pairF, x.ok := by
  intro x hx
  simp only [pairF, List.mem_cons, List.not_mem_nil, or_false] at hx
  rcases hx with rfl | rfl
  · exact .mk (by decide) (by decide) (by decide) (by decide) (by decide) (fun x hx => by cases hx)
  · exact .mk (by decide) (by decide) (by decide) (by decide) (by decide) (fun x hx => by cases hx)
theorem node_ok : nodeF.ok := by
  refine .mk (by decide) (by decide) fun x hx => ?_
  simp only [List.mem_cons, List.not_mem_nil, or_false] at hx
  rcases hx with rfl | rfl
  · exact .mk (by decide) (by decide) (fun x hx => by cases hx)
  · exact .mk (by decide) (by decide) (fun x hx => by cases hx)
theorem blk_rdB {g : Nat} {cs : List Value} {bs : List UInt8} {x : HL} (h : cs = bs.map u8) (hl : bs.length ≤ 1048576) (hx : blk g cs x) : rdB x (.slice (some ⟨g, 0, none⟩) bs.length bs.length) bs := by
  obtain ⟨t, rfl⟩ := hx
  refine ⟨_, _, rfl, Nat.le_refl _, by simp only [maxLen]; omega, .inr ⟨g, 0, rfl, fun i u hu => ?_⟩⟩
  rw [Nat.zero_add]
  exact hcell_blk (by rw [h, List.getElem?_map, hu]; rfl)
theorem alive_spec (hk : Ent w0 p (K (.bool true))) : Ent w0 p (op PR Pn (S.fn F.leatlaw10_alive []) K) := by
  refine Ent.call (fun w h => enter.leatlaw10_alive h) ?_
  unfold W.leatlaw10_alive
  repeat (first | refine Ent.runW (wrap_i64 (by omega) (by omega)) ?_ | refine Ent.runWL (wrap_i64 (by omega) (by omega)) ?_ | refine Ent.runWR (wrap_i64 (by omega) (by omega)) ?_ | refine Ent.run ?_ | refine Ent.runL ?_ | refine Ent.runR ?_ | refine Ent.drawn ?_ | refine Ent.store (by kernel_rfl) ?_ | refine Ent.resN ?_ | refine Ent.res1 ?_ | refine Ent.gop_yes ?_ | refine Ent.gop_no (by decide) ?_ | refine Ent.gop_undef ?_ | refine Ent.glt_undef ?_ | refine Ent.grc_undef ?_ | refine Ent.glt_yes ?_ | refine Ent.glt_no (by decide) ?_ | refine Ent.grc_yes ?_ | refine Ent.grc_no (by decide) ?_)
  refine Ent.bslice fun g1 => ?_
  repeat (first | refine Ent.runW (wrap_i64 (by omega) (by omega)) ?_ | refine Ent.runWL (wrap_i64 (by omega) (by omega)) ?_ | refine Ent.runWR (wrap_i64 (by omega) (by omega)) ?_ | refine Ent.run ?_ | refine Ent.runL ?_ | refine Ent.runR ?_ | refine Ent.drawn ?_ | refine Ent.store (by kernel_rfl) ?_ | refine Ent.resN ?_ | refine Ent.res1 ?_ | refine Ent.gop_yes ?_ | refine Ent.gop_no (by decide) ?_ | refine Ent.gop_undef ?_ | refine Ent.glt_undef ?_ | refine Ent.grc_undef ?_ | refine Ent.glt_yes ?_ | refine Ent.glt_no (by decide) ?_ | refine Ent.grc_yes ?_ | refine Ent.grc_no (by decide) ?_)
  refine Ent.alloc fun g2 => ?_
  repeat (first | refine Ent.runW (wrap_i64 (by omega) (by omega)) ?_ | refine Ent.runWL (wrap_i64 (by omega) (by omega)) ?_ | refine Ent.runWR (wrap_i64 (by omega) (by omega)) ?_ | refine Ent.run ?_ | refine Ent.runL ?_ | refine Ent.runR ?_ | refine Ent.drawn ?_ | refine Ent.store (by kernel_rfl) ?_ | refine Ent.resN ?_ | refine Ent.res1 ?_ | refine Ent.gop_yes ?_ | refine Ent.gop_no (by decide) ?_ | refine Ent.gop_undef ?_ | refine Ent.glt_undef ?_ | refine Ent.grc_undef ?_ | refine Ent.glt_yes ?_ | refine Ent.glt_no (by decide) ?_ | refine Ent.grc_yes ?_ | refine Ent.grc_no (by decide) ?_)
  refine Ent.pick blk g1 (Ent.freeze fun x hx => ?_)
  obtain ⟨t, rfl⟩ := hx
  refine pair_spec fun A1 c1 y1 hy1 => ?_
  repeat (first | refine Ent.runW (wrap_i64 (by omega) (by omega)) ?_ | refine Ent.runWL (wrap_i64 (by omega) (by omega)) ?_ | refine Ent.runWR (wrap_i64 (by omega) (by omega)) ?_ | refine Ent.run ?_ | refine Ent.runL ?_ | refine Ent.runR ?_ | refine Ent.drawn ?_ | refine Ent.store (by kernel_rfl) ?_ | refine Ent.resN ?_ | refine Ent.res1 ?_ | refine Ent.gop_yes ?_ | refine Ent.gop_no (by decide) ?_ | refine Ent.gop_undef ?_ | refine Ent.glt_undef ?_ | refine Ent.grc_undef ?_ | refine Ent.glt_yes ?_ | refine Ent.glt_no (by decide) ?_ | refine Ent.grc_yes ?_ | refine Ent.grc_no (by decide) ?_)
  have hn : RdD (exact (one g1 (.cells [Value.int .i64 2, .int .i64 7, .bool false, .slice none 0 0, .slice none 0 0, .int .i64 6, .int .i64 0, .bool true, .slice none 0 0, .slice none 0 0].toArray t (0, 0))) :: p) (ndD nodeF) (ndC nodeF none 0 (some ⟨g1, 0, none⟩) 2) := by
    refine RdD.here (Rd_nd (n := nodeF) Rd_nil ?_)
    refine ⟨_, 2, rfl, by simp [ndsD, nodeF, Nd.list], by simp [maxLen], .inr ⟨g1, 0, rfl, ?_⟩⟩
    refine ⟨⟨_, Rd_nd (n := .mk 2 7 false [] []) (A := none) (c := 0) (A' := none) (c' := 0) Rd_nil Rd_nil, rfl, fun j u hu => ?_⟩, ⟨_, Rd_nd (n := .mk 6 0 true [] []) (A := none) (c := 0) (A' := none) (c' := 0) Rd_nil Rd_nil, rfl, fun j u hu => ?_⟩, trivial⟩
    · refine hcell_blk ?_
      rw [Nat.zero_add]
      have hj := (List.getElem?_eq_some_iff.1 hu).1
      simp only [ndC, List.length_cons, List.length_nil] at hj
      rcases (show j = 0 ∨ j = 1 ∨ j = 2 ∨ j = 3 ∨ j = 4 by omega) with rfl | rfl | rfl | rfl | rfl <;> exact hu
    · refine hcell_blk ?_
      have hj := (List.getElem?_eq_some_iff.1 hu).1
      simp only [ndC, List.length_cons, List.length_nil] at hj
      rcases (show j = 0 ∨ j = 1 ∨ j = 2 ∨ j = 3 ∨ j = 4 by omega) with rfl | rfl | rfl | rfl | rfl <;> exact hu
  refine Encode_spec (fs := pairF) (n := nodeF) (A1 := none) (c1 := 0) (A2 := some ⟨g1, 0, none⟩) (c2 := 2) (v := 1) pair_ok hy1 (by decide) hn.keep node_ok (fun e he _ => by rw [pair_enc] at he; cases he) fun B d bs he hbl => ?_
  rw [pair_enc] at he
  injection he with he
  subst he
  refine Ent.freeze fun z hz => ?_
  have hbz := ownB_rd hz
  repeat (first | refine Ent.runW (wrap_i64 (by omega) (by omega)) ?_ | refine Ent.runWL (wrap_i64 (by omega) (by omega)) ?_ | refine Ent.runWR (wrap_i64 (by omega) (by omega)) ?_ | refine Ent.run ?_ | refine Ent.runL ?_ | refine Ent.runR ?_ | refine Ent.drawn ?_ | refine Ent.store (by kernel_rfl) ?_ | refine Ent.resN ?_ | refine Ent.res1 ?_ | refine Ent.gop_yes ?_ | refine Ent.gop_no (by decide) ?_ | refine Ent.gop_undef ?_ | refine Ent.glt_undef ?_ | refine Ent.grc_undef ?_ | refine Ent.glt_yes ?_ | refine Ent.glt_no (by decide) ?_ | refine Ent.grc_yes ?_ | refine Ent.grc_no (by decide) ?_)
  refine pair_spec fun A3 c3 y2 hy2 => ?_
  refine Ent.bslice fun g3 => ?_
  refine Ent.freeze fun x3 hx3 => ?_
  have hb3 := blk_rdB (bs := [0, 7, 255, 255]) rfl (by decide) hx3
  refine Decode_spec (fs := pairF) (v := 1) pair_ok hy2.skip (by decide) (RdB.here hb3) (by decide) (fun e he _ => by rw [pair_dec] at he; cases he) fun m B1 d1 B2 d2 he => ?_
  rw [pair_dec] at he
  injection he with he
  subst he
  refine Ent.freeze fun y4 hy4 => ?_
  have hd4 := Ow.rd _ _ _ hy4
  unfold ndC
  repeat (first | refine Ent.runW (wrap_i64 (by omega) (by omega)) ?_ | refine Ent.runWL (wrap_i64 (by omega) (by omega)) ?_ | refine Ent.runWR (wrap_i64 (by omega) (by omega)) ?_ | refine Ent.run ?_ | refine Ent.runL ?_ | refine Ent.runR ?_ | refine Ent.drawn ?_ | refine Ent.store (by kernel_rfl) ?_ | refine Ent.resN ?_ | refine Ent.res1 ?_ | refine Ent.gop_yes ?_ | refine Ent.gop_no (by decide) ?_ | refine Ent.gop_undef ?_ | refine Ent.glt_undef ?_ | refine Ent.grc_undef ?_ | refine Ent.glt_yes ?_ | refine Ent.glt_no (by decide) ?_ | refine Ent.grc_yes ?_ | refine Ent.grc_no (by decide) ?_)
  refine Ent.alloc fun g4 => ?_
  repeat (first | refine Ent.runW (wrap_i64 (by omega) (by omega)) ?_ | refine Ent.runWL (wrap_i64 (by omega) (by omega)) ?_ | refine Ent.runWR (wrap_i64 (by omega) (by omega)) ?_ | refine Ent.run ?_ | refine Ent.runL ?_ | refine Ent.runR ?_ | refine Ent.drawn ?_ | refine Ent.store (by kernel_rfl) ?_ | refine Ent.resN ?_ | refine Ent.res1 ?_ | refine Ent.gop_yes ?_ | refine Ent.gop_no (by decide) ?_ | refine Ent.gop_undef ?_ | refine Ent.glt_undef ?_ | refine Ent.grc_undef ?_ | refine Ent.glt_yes ?_ | refine Ent.glt_no (by decide) ?_ | refine Ent.grc_yes ?_ | refine Ent.grc_no (by decide) ?_)
  refine pair_spec fun A5 c5 y5 hy5 => ?_
  refine Ent.bslice fun g5 => ?_
  refine Ent.freeze fun x6 hx6 => ?_
  have hb6 := blk_rdB (bs := [0, 7, 255, 254]) rfl (by decide) hx6
  refine Decode_spec (fs := pairF) (v := 1) pair_ok hy5.skip (by decide) (RdB.here hb6) (by decide) (fun e he _ => ?_) fun m B1 d1 B2 d2 he => by rw [pair_dec2] at he; cases he
  rw [pair_dec2] at he
  injection he with he
  subst he
  unfold zeroC
  repeat (first | refine Ent.runW (wrap_i64 (by omega) (by omega)) ?_ | refine Ent.runWL (wrap_i64 (by omega) (by omega)) ?_ | refine Ent.runWR (wrap_i64 (by omega) (by omega)) ?_ | refine Ent.run ?_ | refine Ent.runL ?_ | refine Ent.runR ?_ | refine Ent.drawn ?_ | refine Ent.store (by kernel_rfl) ?_ | refine Ent.resN ?_ | refine Ent.res1 ?_ | refine Ent.gop_yes ?_ | refine Ent.gop_no (by decide) ?_ | refine Ent.gop_undef ?_ | refine Ent.glt_undef ?_ | refine Ent.grc_undef ?_ | refine Ent.glt_yes ?_ | refine Ent.glt_no (by decide) ?_ | refine Ent.grc_yes ?_ | refine Ent.grc_no (by decide) ?_)
  refine Ent.alloc fun g7 => ?_
  repeat (first | refine Ent.runW (wrap_i64 (by omega) (by omega)) ?_ | refine Ent.runWL (wrap_i64 (by omega) (by omega)) ?_ | refine Ent.runWR (wrap_i64 (by omega) (by omega)) ?_ | refine Ent.run ?_ | refine Ent.runL ?_ | refine Ent.runR ?_ | refine Ent.drawn ?_ | refine Ent.store (by kernel_rfl) ?_ | refine Ent.resN ?_ | refine Ent.res1 ?_ | refine Ent.gop_yes ?_ | refine Ent.gop_no (by decide) ?_ | refine Ent.gop_undef ?_ | refine Ent.glt_undef ?_ | refine Ent.grc_undef ?_ | refine Ent.glt_yes ?_ | refine Ent.glt_no (by decide) ?_ | refine Ent.grc_yes ?_ | refine Ent.grc_no (by decide) ?_)
  simp only [eq_self, decide_true, if_true]
  repeat (first | refine Ent.runW (wrap_i64 (by omega) (by omega)) ?_ | refine Ent.runWL (wrap_i64 (by omega) (by omega)) ?_ | refine Ent.runWR (wrap_i64 (by omega) (by omega)) ?_ | refine Ent.run ?_ | refine Ent.runL ?_ | refine Ent.runR ?_ | refine Ent.drawn ?_ | refine Ent.store (by kernel_rfl) ?_ | refine Ent.resN ?_ | refine Ent.res1 ?_ | refine Ent.gop_yes ?_ | refine Ent.gop_no (by decide) ?_ | refine Ent.gop_undef ?_ | refine Ent.glt_undef ?_ | refine Ent.grc_undef ?_ | refine Ent.glt_yes ?_ | refine Ent.glt_no (by decide) ?_ | refine Ent.grc_yes ?_ | refine Ent.grc_no (by decide) ?_)
  refine Ent.bslice fun g8 => ?_
  refine Ent.freeze fun x8 hx8 => ?_
  have hb8 := blk_rdB (bs := [0, 7, 255, 255]) rfl (by decide) hx8
  repeat (first | refine Ent.runW (wrap_i64 (by omega) (by omega)) ?_ | refine Ent.runWL (wrap_i64 (by omega) (by omega)) ?_ | refine Ent.runWR (wrap_i64 (by omega) (by omega)) ?_ | refine Ent.run ?_ | refine Ent.runL ?_ | refine Ent.runR ?_ | refine Ent.drawn ?_ | refine Ent.store (by kernel_rfl) ?_ | refine Ent.resN ?_ | refine Ent.res1 ?_ | refine Ent.gop_yes ?_ | refine Ent.gop_no (by decide) ?_ | refine Ent.gop_undef ?_ | refine Ent.glt_undef ?_ | refine Ent.grc_undef ?_ | refine Ent.glt_yes ?_ | refine Ent.glt_no (by decide) ?_ | refine Ent.grc_yes ?_ | refine Ent.grc_no (by decide) ?_)
  refine Same_spec (xs := [0, 7, 255, 255]) ((RdB.here (p := p) hbz).keep) (RdB.here hb8) ?_
  rw [decide_eq_true rfl]
  repeat (first | refine Ent.runW (wrap_i64 (by omega) (by omega)) ?_ | refine Ent.runWL (wrap_i64 (by omega) (by omega)) ?_ | refine Ent.runWR (wrap_i64 (by omega) (by omega)) ?_ | refine Ent.run ?_ | refine Ent.runL ?_ | refine Ent.runR ?_ | refine Ent.drawn ?_ | refine Ent.store (by kernel_rfl) ?_ | refine Ent.resN ?_ | refine Ent.res1 ?_ | refine Ent.gop_yes ?_ | refine Ent.gop_no (by decide) ?_ | refine Ent.gop_undef ?_ | refine Ent.glt_undef ?_ | refine Ent.grc_undef ?_ | refine Ent.glt_yes ?_ | refine Ent.glt_no (by decide) ?_ | refine Ent.grc_yes ?_ | refine Ent.grc_no (by decide) ?_)
  have hd4' : RdD (exact y4 :: p) (ndD nodeF) (ndC nodeF B1 d1 B2 d2) := RdD.here hd4
  refine alike1 nodeF w0 _ _ _ nodeF _ _ hd4'.keep hn.keep (fun _ => ?_) (fun h => absurd rfl h)
  repeat (first | refine Ent.runW (wrap_i64 (by omega) (by omega)) ?_ | refine Ent.runWL (wrap_i64 (by omega) (by omega)) ?_ | refine Ent.runWR (wrap_i64 (by omega) (by omega)) ?_ | refine Ent.run ?_ | refine Ent.runL ?_ | refine Ent.runR ?_ | refine Ent.drawn ?_ | refine Ent.store (by kernel_rfl) ?_ | refine Ent.resN ?_ | refine Ent.res1 ?_ | refine Ent.gop_yes ?_ | refine Ent.gop_no (by decide) ?_ | refine Ent.gop_undef ?_ | refine Ent.glt_undef ?_ | refine Ent.grc_undef ?_ | refine Ent.glt_yes ?_ | refine Ent.glt_no (by decide) ?_ | refine Ent.grc_yes ?_ | refine Ent.grc_no (by decide) ?_)
  exact Ent.keep hk
end Go.Lt
