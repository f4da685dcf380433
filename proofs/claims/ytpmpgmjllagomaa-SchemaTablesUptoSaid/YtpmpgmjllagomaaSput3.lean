/- schema's codecs write: records, and all. Conditions: none. -/
import Derived.Test.YtpmpgmjllagomaaSput2
set_option linter.unusedVariables false
set_option maxHeartbeats 4000000
set_option linter.unusedSimpArgs false
set_option maxRecDepth 100000
namespace Go.Lt
open Go
attribute [local irreducible] op gop lt glt rc grc ite' drawn also ldR
theorem rcd_pt {cl : List Cd} (ih : ∀ c ∈ cl, PutOk c) : PutOk (.rcd cl) := fun w0 p Pn K v n cs g most bs hv hn hok hc hb1 hb2 h => by
  obtain ⟨he, hk⟩ := h
  unfold Cd.enc at he hk
  unfold CdV cdV at hv
  obtain ⟨A0, c0, rfl, hv1, hv2, hv3, hv4⟩ := hv
  obtain ⟨A1, c1, A2, c2, rfl, h1, h2⟩ := nd_open hn
  unfold Cd.check at hc
  split at hc
  · omega
  rename_i hp
  have hle : n.list.length = cl.length := Decidable.not_not.1 fun hne => hp (.inr hne)
  refine Ent.call (fun w h => meth.schema_record_put h) ?_
  refine Ent.call (fun w h => enter.schema_record_put h) ?_
  unfold W.schema_record_put
  refine Ent.box fun g1 => ?_
  unfold ndC
  refine Ent.box fun g2 => ?_
  repeat (first | refine Ent.runW (wrap_i64 (by omega) (by omega)) ?_ | refine Ent.runWL (wrap_i64 (by omega) (by omega)) ?_ | refine Ent.runWR (wrap_i64 (by omega) (by omega)) ?_ | refine Ent.run ?_ | refine Ent.runL ?_ | refine Ent.runR ?_ | refine Ent.drawn ?_ | refine Ent.store (by kernel_rfl) ?_ | refine Ent.resN ?_ | refine Ent.res1 ?_ | refine Ent.gop_yes ?_ | refine Ent.gop_no (by decide) ?_ | refine Ent.gop_undef ?_ | refine Ent.glt_undef ?_ | refine Ent.grc_undef ?_ | refine Ent.glt_yes ?_ | refine Ent.glt_no (by decide) ?_ | refine Ent.grc_yes ?_ | refine Ent.grc_no (by decide) ?_)
  refine Ent.pick blk g2 (Ent.drop (Ent.pick blk g1 (Ent.pick wr g ?_)))
  refine Ent.L2 (σ := Nat) (fun _ => .int .i64 0) (fun i => .int .i64 i)
    (fun i => pure' (i ≤ n.list.length ∧ (bs ++ Cd.encl (cl.take i) (n.list.take i)).length ≤ most) :: wr g (bs ++ Cd.encl (cl.take i) (n.list.take i), most) :: blk g1 [.slice A0 cl.length c0] :: p)
    (fun i => n.list.length - i) 0 ?_ ?_
  · intro w hs
    have e : bs ++ Cd.encl (cl.take 0) (n.list.take 0) = bs := by simp [Cd.encl]
    rw [e]
    exact hs.add ⟨⟨Nat.zero_le _, hb1⟩, fun _ => rfl⟩
  · intro i k hrec
    refine Ent.pure fun hf => ?_
    obtain ⟨hf1, hf2⟩ := hf
    repeat (first | refine Ent.runW (wrap_i64 (by omega) (by omega)) ?_ | refine Ent.runWL (wrap_i64 (by omega) (by omega)) ?_ | refine Ent.runWR (wrap_i64 (by omega) (by omega)) ?_ | refine Ent.run ?_ | refine Ent.runL ?_ | refine Ent.runR ?_ | refine Ent.drawn ?_ | refine Ent.store (by kernel_rfl) ?_ | refine Ent.resN ?_ | refine Ent.res1 ?_ | refine Ent.gop_yes ?_ | refine Ent.gop_no (by decide) ?_ | refine Ent.gop_undef ?_ | refine Ent.glt_undef ?_ | refine Ent.grc_undef ?_ | refine Ent.glt_yes ?_ | refine Ent.glt_no (by decide) ?_ | refine Ent.grc_yes ?_ | refine Ent.grc_no (by decide) ?_)
    refine Ent.ite (fun hq => ?_) (fun hq => ?_)
    · have hlt : i < n.list.length := by simpa using hq
      have hlt2 : i < cl.length := by omega
      obtain ⟨b, o, cs, hia, hcs, hcl, hld⟩ := RdD.index (P := PR) (t := 27) (k := .i64) (i := i) h2 (by omega) (by omega) (ndsD_get hlt)
      rcases hv4 with hv4 | ⟨b2, o2, rfl, hv4⟩
      · subst hv4
        simp at hlt2
      obtain ⟨u, hu, ⟨t, ux, rfl⟩, hu3⟩ := hv4.get (List.getElem?_eq_getElem hlt2)
      haveI hld2 : LoadAt p ⟨b2, o2 + i, none⟩ (.iface t ux) := ⟨fun w0 w hs => hu3 w0 w hs⟩
      refine Ent.at_ (fun w _ => hia w) ?_
      obtain ⟨A3, c3, A4, c4, rfl, _, _⟩ := nd_open hcs
      haveI := hld
      repeat (first | refine Ent.runW (wrap_i64 (by omega) (by omega)) ?_ | refine Ent.runWL (wrap_i64 (by omega) (by omega)) ?_ | refine Ent.runWR (wrap_i64 (by omega) (by omega)) ?_ | refine Ent.run ?_ | refine Ent.runL ?_ | refine Ent.runR ?_ | refine Ent.drawn ?_ | refine Ent.store (by kernel_rfl) ?_ | refine Ent.resN ?_ | refine Ent.res1 ?_ | refine Ent.gop_yes ?_ | refine Ent.gop_no (by decide) ?_ | refine Ent.gop_undef ?_ | refine Ent.glt_undef ?_ | refine Ent.grc_undef ?_ | refine Ent.glt_yes ?_ | refine Ent.glt_no (by decide) ?_ | refine Ent.grc_yes ?_ | refine Ent.grc_no (by decide) ?_)
      refine Ent.alloc fun g4 => ?_
      unfold ndC at *
      repeat (first | refine Ent.runW (wrap_i64 (by omega) (by omega)) ?_ | refine Ent.runWL (wrap_i64 (by omega) (by omega)) ?_ | refine Ent.runWR (wrap_i64 (by omega) (by omega)) ?_ | refine Ent.run ?_ | refine Ent.runL ?_ | refine Ent.runR ?_ | refine Ent.drawn ?_ | refine Ent.store (by kernel_rfl) ?_ | refine Ent.resN ?_ | refine Ent.res1 ?_ | refine Ent.gop_yes ?_ | refine Ent.gop_no (by decide) ?_ | refine Ent.gop_undef ?_ | refine Ent.glt_undef ?_ | refine Ent.grc_undef ?_ | refine Ent.glt_yes ?_ | refine Ent.glt_no (by decide) ?_ | refine Ent.grc_yes ?_ | refine Ent.grc_no (by decide) ?_)
      refine Ent.atL (fun w _ => ia_run (sz := 1) (by omega) (by omega)) ?_
      rw [add_none, Nat.mul_one, Int.toNat_natCast]
      repeat (first | refine Ent.runW (wrap_i64 (by omega) (by omega)) ?_ | refine Ent.runWL (wrap_i64 (by omega) (by omega)) ?_ | refine Ent.runWR (wrap_i64 (by omega) (by omega)) ?_ | refine Ent.run ?_ | refine Ent.runL ?_ | refine Ent.runR ?_ | refine Ent.drawn ?_ | refine Ent.store (by kernel_rfl) ?_ | refine Ent.resN ?_ | refine Ent.res1 ?_ | refine Ent.gop_yes ?_ | refine Ent.gop_no (by decide) ?_ | refine Ent.gop_undef ?_ | refine Ent.glt_undef ?_ | refine Ent.grc_undef ?_ | refine Ent.glt_yes ?_ | refine Ent.glt_no (by decide) ?_ | refine Ent.grc_yes ?_ | refine Ent.grc_no (by decide) ?_)
      refine Ent.pick wr g ?_
      have hsp := encl_split cl n.list (i + 1) hle.symm hlt
      rw [encl_snoc cl n.list i hlt2 hlt] at hsp
      refine ih _ (List.getElem_mem hlt2) _ _ _ _ _ (n.list[i]) _ g most _ (cdV.mono (fun _ _ h => h.skip.skip) _ _ hu) hcs.skip.skip (hok.list (List.getElem_mem hlt)) (checkl_zero cl n.list i hlt2 hlt hc) hf2 hb2 ⟨fun hno e b' hne hb' => ?_, fun hyes => ?_⟩
      · repeat (first | refine Ent.runW (wrap_i64 (by omega) (by omega)) ?_ | refine Ent.runWL (wrap_i64 (by omega) (by omega)) ?_ | refine Ent.runWR (wrap_i64 (by omega) (by omega)) ?_ | refine Ent.run ?_ | refine Ent.runL ?_ | refine Ent.runR ?_ | refine Ent.drawn ?_ | refine Ent.store (by kernel_rfl) ?_ | refine Ent.resN ?_ | refine Ent.res1 ?_ | refine Ent.gop_yes ?_ | refine Ent.gop_no (by decide) ?_ | refine Ent.gop_undef ?_ | refine Ent.glt_undef ?_ | refine Ent.grc_undef ?_ | refine Ent.glt_yes ?_ | refine Ent.glt_no (by decide) ?_ | refine Ent.grc_yes ?_ | refine Ent.grc_no (by decide) ?_)
        rw [decide_eq_false hne]
        refine Ent.ite_t ?_
        refine Ent.pick blk g4 (Ent.drop (Ent.pick blk g1 (Ent.drop ?_)))
        refine he ?_ e b' hne hb'
        rw [hsp]
        simp only [List.length_append] at hno hf2 ⊢
        omega
      · repeat (first | refine Ent.runW (wrap_i64 (by omega) (by omega)) ?_ | refine Ent.runWL (wrap_i64 (by omega) (by omega)) ?_ | refine Ent.runWR (wrap_i64 (by omega) (by omega)) ?_ | refine Ent.run ?_ | refine Ent.runL ?_ | refine Ent.runR ?_ | refine Ent.drawn ?_ | refine Ent.store (by kernel_rfl) ?_ | refine Ent.resN ?_ | refine Ent.res1 ?_ | refine Ent.gop_yes ?_ | refine Ent.gop_no (by decide) ?_ | refine Ent.gop_undef ?_ | refine Ent.glt_undef ?_ | refine Ent.grc_undef ?_ | refine Ent.glt_yes ?_ | refine Ent.glt_no (by decide) ?_ | refine Ent.grc_yes ?_ | refine Ent.grc_no (by decide) ?_)
        refine Ent.ite_f ?_
        repeat (first | refine Ent.runW (wrap_i64 (by omega) (by omega)) ?_ | refine Ent.runWL (wrap_i64 (by omega) (by omega)) ?_ | refine Ent.runWR (wrap_i64 (by omega) (by omega)) ?_ | refine Ent.run ?_ | refine Ent.runL ?_ | refine Ent.runR ?_ | refine Ent.drawn ?_ | refine Ent.store (by kernel_rfl) ?_ | refine Ent.resN ?_ | refine Ent.res1 ?_ | refine Ent.gop_yes ?_ | refine Ent.gop_no (by decide) ?_ | refine Ent.gop_undef ?_ | refine Ent.glt_undef ?_ | refine Ent.grc_undef ?_ | refine Ent.glt_yes ?_ | refine Ent.glt_no (by decide) ?_ | refine Ent.grc_yes ?_ | refine Ent.grc_no (by decide) ?_)
        refine Ent.pick blk g4 (Ent.drop (Ent.pick blk g1 (Ent.pick wr g ?_)))
        have := hrec (i + 1) (by omega)
        rw [encl_snoc cl n.list i hlt2 hlt, ← List.append_assoc] at this
        rw [show (((i + 1 : Nat)) : Int) = (i : Int) + 1 by omega] at this
        refine Ent.add ?_ this
        refine ⟨⟨hlt, ?_⟩, fun _ => rfl⟩
        rw [List.length_append]
        omega
    · have hlt : i = n.list.length := by
        have : ¬ (i : Int) < n.list.length := by simpa using hq
        omega
      rw [List.take_of_length_le (by omega), List.take_of_length_le (by omega)] at hf2 ⊢
      refine Ent.pick blk g1 (Ent.drop (hk ?_))
      rw [List.length_append] at hf2
      omega
mutual
theorem put_ok : ∀ c : Cd, PutOk c
  | .num k => num_pt k
  | .txt k => txt_pt k
  | .blb k => blb_pt k
  | .arr c => arr_pt (put_ok c)
  | .rcd l => rcd_pt (puts_ok l)
theorem puts_ok : ∀ (l : List Cd) (c : Cd), c ∈ l → PutOk c
  | [], c, h => by cases h
  | x :: r, c, h => by
    have hx := put_ok x
    rcases List.mem_cons.1 h with h' | h'
    · exact h' ▸ hx
    · exact puts_ok r c h'
end
end Go.Lt
