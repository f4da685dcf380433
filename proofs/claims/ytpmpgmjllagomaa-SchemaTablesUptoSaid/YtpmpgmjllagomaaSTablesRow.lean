/- SchemaTables: where what it reads is of bulk at most 1048576 it returns true, and its arguments read as they did. Conditions: the bound alone. -/
import Derived.Test.YtpmpgmjllagomaaSTables
import Derived.Test.YtpmpgmjllagomaaOpen2
import Derived.OpenShut
import Derived.JoinedCond
namespace Go.Proofs.Ytpmpgmjllagomaa.schemaTables
open Go Go.Lt Go.ChangeShapes Go.WideShapes Go.ChangeAt Go.RowKit
set_option linter.unusedVariables false
set_option maxRecDepth 100000
theorem own : ownKnob Try.prog.godebug = none := by kernel_rfl
theorem contract (H : Type) (enc : TypeId × Value → H) (W : World) (base : Nat) (args : Array Value) (ds gs : List (DataW H)) (before : List MemPlace)
    (hval : ∀ (j : Nat) t v, Try.f6.params[j]? = some t → args[j]? = some v → Value.okWide Try.prog W .any base t v)
    (hW : DataW.Whole enc Try.prog Try.f6.params.toList Rows.schemaTablesSpec.vars false W args.toList ds gs before) (hk : Rows.uptoSmall H (ds ++ gs) = true) :
    Calls Try.prog 6 args W fun e W' => ∃ v, e = .returned v ∧ Rows.schemaTablesSpec.post enc Try.prog Try.f6 false true false false W args v W' := by
  have hW' := hW
  obtain ⟨p, q, hA, hV, rfl, hfz, hnd⟩ := hW
  have h := of_decide_eq_true hk
  rw [Try.params6] at hA hval
  obtain ⟨v0, vs0, d0, ds0, p0, q0, hargs, rfl, rfl, h0, r0⟩ := trodAll_cons hA
  obtain ⟨v1, vs1, d1, ds1, p1, q1, rfl, rfl, rfl, h1, r1⟩ := trodAll_cons r0
  obtain ⟨rfl, rfl, rfl⟩ := trodAll_nil r1
  obtain rfl : args = #[v0, v1] := by cases args; simp_all
  obtain ⟨rfl, rfl⟩ := trodVars_none hV
  obtain ⟨a0, rfl, rfl, rfl, w0⟩ := open_int (k := .i16) (by kernel_rfl) (hval 0 _ v0 rfl rfl) h0
  obtain ⟨a1, rfl, rfl, rfl⟩ := open_bool (by kernel_rfl) (hval 1 _ v1 rfl rfl) h1
  simp only [List.cons_append, List.nil_append, Rows.uptoBulkAll] at h
  have key := SchemaTables_spec (w0 := W) (p := [exact (allH W)]) (Pn := fun _ _ => False) (K := fun v w' => v = .bool true ∧ Below W.heap.size W w') (k := a0) (b := a1)  (fun w hw => ⟨rfl, below_of_sat hw⟩)
  refine (calls_of_op Try.func6 (by kernel_rfl) rfl (key W (allH_sat W))).mono fun e W' ⟨v, he, hv, hb⟩ => ?_
  subst he; subst hv
  exact ⟨_, rfl, post_of_below hW' rfl rfl rfl rfl (by kernel_rfl) (by rw [Try.params6]; intro t ht; simp only [List.mem_cons, List.not_mem_nil, or_false] at ht; rcases ht with rfl | rfl <;> exact ⟨by kernel_rfl, of_decide_eq_true (by kernel_rfl)⟩) (tb := T.bool) (by kernel_rfl) (by kernel_rfl) hb⟩
theorem lifted (os : Os) (started : os.Started) (H : Type) (enc : TypeId × Value → H) (F : Stop.Interp) :
    ReturnsInHanded {} Try.checked os 6 .any ((Rows.OpenSpec.upto Rows.schemaTablesSpec).pre6 enc Try.prog Try.f6 Rows.schemaTablesUptoRow.domain false) (((Rows.OpenSpec.upto Rows.schemaTablesSpec).at F).post enc Try.prog Try.f6 false true false false) := by
  refine returnsInHanded_of_cond (C := Try.checked) (s := Rows.OpenSpec.upto Rows.schemaTablesSpec) (k := Rows.uptoSmall) rfl own started (by kernel_rfl) Try.func6
    (OpenSpec.witness (enc := enc) (C := Try.checked) (s := Rows.OpenSpec.upto Rows.schemaTablesSpec) (k := Rows.uptoSmall) rfl false ⟨#[], #[.int .i16 0, .bool false], []⟩ 8 (by kernel_rfl) (by kernel_rfl) (by kernel_rfl)
      (x := ([.lit (.int .i16 0), .lit (.bool false)], [], [])) (by kernel_rfl) rfl (by kernel_rfl)) ?_
  intro W base args ds gs before hval hW _ hk _
  exact contract H enc W base args ds gs before hval hW hk
theorem over : Rows.schemaTablesUptoRow.holds Try.pinned (Rows.OpenSpec.upto Rows.schemaTablesSpec) :=
  OpenClaim.holds_of_cond 6 Try.f6 rfl rfl rfl rfl rfl rfl rfl ⟨rfl, rfl, rfl, rfl, rfl⟩ rfl rfl rfl rfl rfl (by kernel_rfl) Try.func6 (by kernel_rfl)
    (of_decide_eq_true (by kernel_rfl)) (by unfold Func.isWrapper; first | (rw [if_pos (by decide +kernel)]; kernel_rfl) | (rw [if_neg (by decide +kernel)]; exact ⟨rfl, rfl⟩))
    (fun os started H enc _ F => lifted os started H enc F)
end Go.Proofs.Ytpmpgmjllagomaa.schemaTables
namespace Go.Proofs.Ytpmpgmjllagomaa
theorem schemaTablesUpto_holds : Rows.SchemaTablesUptoSaid := schemaTables.over
#print axioms schemaTablesUpto_holds
end Go.Proofs.Ytpmpgmjllagomaa
