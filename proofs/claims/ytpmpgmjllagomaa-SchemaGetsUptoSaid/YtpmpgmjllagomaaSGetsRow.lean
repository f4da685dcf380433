/- SchemaGets: where what it reads is of bulk at most 1048576 it returns true, and its arguments read as they did. Conditions: the bound alone. -/
import Derived.Test.YtpmpgmjllagomaaSGets
import Derived.Test.YtpmpgmjllagomaaOpen2
import Derived.OpenShut
import Derived.JoinedCond
namespace Go.Proofs.Ytpmpgmjllagomaa.schemaGets
open Go Go.Lt Go.ChangeShapes Go.WideShapes Go.ChangeAt Go.RowKit
set_option linter.unusedVariables false
set_option maxRecDepth 100000
theorem own : ownKnob Try.prog.godebug = none := by kernel_rfl
theorem contract (H : Type) (enc : TypeId × Value → H) (W : World) (base : Nat) (args : Array Value) (ds gs : List (DataW H)) (before : List MemPlace)
    (hval : ∀ (j : Nat) t v, Try.f3.params[j]? = some t → args[j]? = some v → Value.okWide Try.prog W .any base t v)
    (hW : DataW.Whole enc Try.prog Try.f3.params.toList Rows.schemaGetsSpec.vars false W args.toList ds gs before) (hk : Rows.uptoSmall H (ds ++ gs) = true) :
    Calls Try.prog 3 args W fun e W' => ∃ v, e = .returned v ∧ Rows.schemaGetsSpec.post enc Try.prog Try.f3 false true false false W args v W' := by
  have hW' := hW
  obtain ⟨p, q, hA, hV, rfl, hfz, hnd⟩ := hW
  have h := of_decide_eq_true hk
  rw [Try.params3] at hA hval
  obtain ⟨v0, vs0, d0, ds0, p0, q0, hargs, rfl, rfl, h0, r0⟩ := trodAll_cons hA
  obtain ⟨v1, vs1, d1, ds1, p1, q1, rfl, rfl, rfl, h1, r1⟩ := trodAll_cons r0
  obtain ⟨v2, vs2, d2, ds2, p2, q2, rfl, rfl, rfl, h2, r2⟩ := trodAll_cons r1
  obtain ⟨rfl, rfl, rfl⟩ := trodAll_nil r2
  obtain rfl : args = #[v0, v1, v2] := by cases args; simp_all
  obtain ⟨rfl, rfl⟩ := trodVars_none hV
  obtain ⟨a1, rfl, rfl, rfl, w1⟩ := open_int (k := .i64) (by kernel_rfl) (hval 1 _ v1 rfl rfl) h1
  simp only [List.cons_append, List.nil_append, Rows.uptoBulkAll] at h
  obtain ⟨A0, l0, c0, rfl⟩ := okWide_slice (e := T.api_Field) (by kernel_rfl) (hval 0 _ v0 rfl rfl)
  obtain ⟨n0, h0⟩ := h0
  obtain ⟨fs0, hf0, hok0, hfl0⟩ := open_flds n0 _ _ h0 (show Rows.uptoBulk d0 ≤ 1048576 by omega)
  have hf0 : Rd (CW W) (.sl T.api_Field 5 (fldsD fs0)) [.slice A0 l0 c0] := hf0
  obtain rfl : l0 = fs0.length := by
    obtain ⟨A, c, hc, _⟩ := hf0
    rw [fldsD_length] at hc
    injection hc with hc
    injection hc
  obtain ⟨A2, l2, c2, rfl⟩ := okWide_slice (e := T.u8) (by kernel_rfl) (hval 2 _ v2 rfl rfl)
  obtain ⟨n2, h2⟩ := h2
  obtain ⟨bs2, hb2, hbl2⟩ := open_B h2
  have hbl2 : bs2.length + 1 ≤ Rows.uptoBulk d2 := hbl2
  have hb2 : Rd (CW W) (bytesD T.u8 bs2) [.slice A2 l2 c2] := hb2
  have key := SchemaGets_spec (w0 := W) (p := [exact (allH W)]) (Pn := fun _ _ => False) (K := fun v w' => v = .bool true ∧ Below W.heap.size W w') (v := a1) hok0 (Rd.handed hf0) hfl0 (RdB.ofD (Rd.handed hb2)) (by omega) (fun w hw => ⟨rfl, below_of_sat hw⟩)
  refine (calls_of_op Try.func3 (by kernel_rfl) rfl (key W (allH_sat W))).mono fun e W' ⟨v, he, hv, hb⟩ => ?_
  subst he; subst hv
  exact ⟨_, rfl, post_of_below hW' rfl rfl rfl rfl (by kernel_rfl) (by rw [Try.params3]; intro t ht; simp only [List.mem_cons, List.not_mem_nil, or_false] at ht; rcases ht with rfl | rfl | rfl <;> exact ⟨by kernel_rfl, of_decide_eq_true (by kernel_rfl)⟩) (tb := T.bool) (by kernel_rfl) (by kernel_rfl) hb⟩
theorem lifted (os : Os) (started : os.Started) (H : Type) (enc : TypeId × Value → H) (F : Stop.Interp) :
    ReturnsInHanded {} Try.checked os 3 .any ((Rows.OpenSpec.upto Rows.schemaGetsSpec).pre6 enc Try.prog Try.f3 Rows.schemaGetsUptoRow.domain false) (((Rows.OpenSpec.upto Rows.schemaGetsSpec).at F).post enc Try.prog Try.f3 false true false false) := by
  refine returnsInHanded_of_cond (C := Try.checked) (s := Rows.OpenSpec.upto Rows.schemaGetsSpec) (k := Rows.uptoSmall) rfl own started (by kernel_rfl) Try.func3
    (OpenSpec.witness (enc := enc) (C := Try.checked) (s := Rows.OpenSpec.upto Rows.schemaGetsSpec) (k := Rows.uptoSmall) rfl false ⟨#[], #[.slice none 0 0, .int .i64 0, .slice none 0 0], []⟩ 8 (by kernel_rfl) (by kernel_rfl) (by kernel_rfl)
      (x := ([.nil, .lit (.int .i64 0), .nil], [], [])) (by kernel_rfl) rfl (by kernel_rfl)) ?_
  intro W base args ds gs before hval hW _ hk _
  exact contract H enc W base args ds gs before hval hW hk
theorem over : Rows.schemaGetsUptoRow.holds Try.pinned (Rows.OpenSpec.upto Rows.schemaGetsSpec) :=
  OpenClaim.holds_of_cond 3 Try.f3 rfl rfl rfl rfl rfl rfl rfl ⟨rfl, rfl, rfl, rfl, rfl⟩ rfl rfl rfl rfl rfl (by kernel_rfl) Try.func3 (by kernel_rfl)
    (of_decide_eq_true (by kernel_rfl)) (by unfold Func.isWrapper; first | (rw [if_pos (by decide +kernel)]; kernel_rfl) | (rw [if_neg (by decide +kernel)]; exact ⟨rfl, rfl⟩))
    (fun os started H enc _ F => lifted os started H enc F)
end Go.Proofs.Ytpmpgmjllagomaa.schemaGets
namespace Go.Proofs.Ytpmpgmjllagomaa
theorem schemaGetsUpto_holds : Rows.SchemaGetsUptoSaid := schemaGets.over
#print axioms schemaGetsUpto_holds
end Go.Proofs.Ytpmpgmjllagomaa
