/-
  NARROWER THAN 'FOR EVERY INPUT', by the rows' own cells (each row's printed sentence says how): SchemaGets: loops · SchemaBack: loops · SchemaOnly: loops.
  DERIVED. THE GIVEN ROWS OF THIS SEAT. 4 by the template 'for every input the law returns true; each argument reads behind the call as it read before'; 0 by the template 'total and deterministic' (their statements: YtpmpgmjllagomaaTotals.lean).
  GIVEN WITH THE SEED: the statements are not yours to turn. If you find one false, say at which input.
  Laid BY PROGRAM, IN A SANDBOX (cutbox-rows.mjs): the forced cells as the released guide's own fill.sh prints them over the translation 6d075da24440be1e… (all of the seat's roots in one cut). By AI agents, Wed Nov 11 2026. No macro, syntax, notation, axiom, sorry.
-/
import Derived.Test.YtpmpgmjllagomaaChecked
import GoSem.Claim
import GoSem.ClaimJoined
import GoSem.ClaimMapViews
import Derived.JoinedTies
import Derived.KernelRfl
namespace Go.Proofs.Ytpmpgmjllagomaa
/- THE CELL 'sum', in the pinned program and in every row, IS THE sha256 OF THE DUMP (.gsa) THAT YtpmpgmjllagomaaProg.lean LOADS. Nothing in Lean hashes anything: it is a label: what it is worth is what the hold of that sum in a sandbox is worth. -/
noncomputable def Try.pinned : Pinned := { name := "ytpmpgmjllagomaa", sum := "6d075da24440be1eb991cfcf50c4fced7bc4a26229fba16fcae01bd04c6818f7", checked := Try.checked }
namespace Rows
def none {H : Type} : Left H := { results := [], args := [] }

/-- 'leatlaw10.SchemaGets': WHATEVER THE INPUT: true; the input reads as it did. -/
def schemaGetsSpec : ChangeSpec := { name := "schemaGets", fn := fun _ => fun
  | [d1, d2, d3] => { results := [.lit (.bool true)], args := [d1, d2, d3] }
  | _ => none }
def schemaGetsRow : OpenClaim := { program := "ytpmpgmjllagomaa", sum := "6d075da24440be1eb991cfcf50c4fced7bc4a26229fba16fcae01bd04c6818f7", func := "leat/leatlaw10.SchemaGets", spec := "schemaGets", unfollowed := true, recurses := true, loops := true, apart := false }
def SchemaGetsSaid : Prop := schemaGetsRow.holds Try.pinned (OpenSpec.ofChange schemaGetsSpec)

/-- ITS FALSE NEIGHBOUR: 'it returns false'. Refute it at one input. -/
def schemaGetsWrong : ChangeSpec := { name := "schemaGets", fn := fun _ => fun
  | [d1, d2, d3] => { results := [.lit (.bool false)], args := [d1, d2, d3] }
  | _ => none }
def SchemaGetsWrongFalsely : Prop := schemaGetsRow.holds Try.pinned (OpenSpec.ofChange schemaGetsWrong)

/-- 'leatlaw10.SchemaBack': WHATEVER THE INPUT: true; the input reads as it did. -/
def schemaBackSpec : ChangeSpec := { name := "schemaBack", fn := fun _ => fun
  | [d1, d2, d3] => { results := [.lit (.bool true)], args := [d1, d2, d3] }
  | _ => none }
def schemaBackRow : OpenClaim := { program := "ytpmpgmjllagomaa", sum := "6d075da24440be1eb991cfcf50c4fced7bc4a26229fba16fcae01bd04c6818f7", func := "leat/leatlaw10.SchemaBack", spec := "schemaBack", unfollowed := true, recurses := true, loops := true, apart := false }
def SchemaBackSaid : Prop := schemaBackRow.holds Try.pinned (OpenSpec.ofChange schemaBackSpec)

/-- ITS FALSE NEIGHBOUR: 'it returns false'. Refute it at one input. -/
def schemaBackWrong : ChangeSpec := { name := "schemaBack", fn := fun _ => fun
  | [d1, d2, d3] => { results := [.lit (.bool false)], args := [d1, d2, d3] }
  | _ => none }
def SchemaBackWrongFalsely : Prop := schemaBackRow.holds Try.pinned (OpenSpec.ofChange schemaBackWrong)

/-- 'leatlaw10.SchemaOnly': WHATEVER THE INPUT: true; the input reads as it did. -/
def schemaOnlySpec : ChangeSpec := { name := "schemaOnly", fn := fun _ => fun
  | [d1, d2, d3] => { results := [.lit (.bool true)], args := [d1, d2, d3] }
  | _ => none }
def schemaOnlyRow : OpenClaim := { program := "ytpmpgmjllagomaa", sum := "6d075da24440be1eb991cfcf50c4fced7bc4a26229fba16fcae01bd04c6818f7", func := "leat/leatlaw10.SchemaOnly", spec := "schemaOnly", unfollowed := true, recurses := true, loops := true, apart := false }
def SchemaOnlySaid : Prop := schemaOnlyRow.holds Try.pinned (OpenSpec.ofChange schemaOnlySpec)

/-- ITS FALSE NEIGHBOUR: 'it returns false'. Refute it at one input. -/
def schemaOnlyWrong : ChangeSpec := { name := "schemaOnly", fn := fun _ => fun
  | [d1, d2, d3] => { results := [.lit (.bool false)], args := [d1, d2, d3] }
  | _ => none }
def SchemaOnlyWrongFalsely : Prop := schemaOnlyRow.holds Try.pinned (OpenSpec.ofChange schemaOnlyWrong)

/-- 'leatlaw10.SchemaTables': WHATEVER THE INPUT: true; the input reads as it did. -/
def schemaTablesSpec : ChangeSpec := { name := "schemaTables", fn := fun _ => fun
  | [d1, d2] => { results := [.lit (.bool true)], args := [d1, d2] }
  | _ => none }
def schemaTablesRow : OpenClaim := { program := "ytpmpgmjllagomaa", sum := "6d075da24440be1eb991cfcf50c4fced7bc4a26229fba16fcae01bd04c6818f7", func := "leat/leatlaw10.SchemaTables", spec := "schemaTables", unfollowed := true, recurses := true, apart := false }
def SchemaTablesSaid : Prop := schemaTablesRow.holds Try.pinned (OpenSpec.ofChange schemaTablesSpec)

/-- ITS FALSE NEIGHBOUR: 'it returns false'. Refute it at one input. -/
def schemaTablesWrong : ChangeSpec := { name := "schemaTables", fn := fun _ => fun
  | [d1, d2] => { results := [.lit (.bool false)], args := [d1, d2] }
  | _ => none }
def SchemaTablesWrongFalsely : Prop := schemaTablesRow.holds Try.pinned (OpenSpec.ofChange schemaTablesWrong)

/- THE SECOND FORM. 'bulk': how many values and letters a reading holds, each counted each time it is reached (what is shared counts as often as it is met; a slice's spare places count too). A statement '..UptoSaid' is the law's where the arguments, and the package variables that the reading takes, are together of bulk at most 1048576: NARROWER than '..Said'. Prove '..Said' where nothing that the law and all that it calls make is longer than what came in: it says more and counts as full. Else prove '..UptoSaid'. A law counts once. -/
mutual
def uptoBulk {H : Type} : DataW H → Nat
  | .lit (.string bytes) => bytes.length + 1
  | .lit _ => 1
  | .nil => 1
  | .ptr d => uptoBulk d + 1
  | .slice elems spare => uptoBulkAll elems + uptoBulkAll spare + 1
  | .agg parts => uptoBulkAll parts + 1
  | .iface _ d => uptoBulk d + 1
  | .map entries => uptoBulkEntries entries + 1
  | .held _ => 1
def uptoBulkAll {H : Type} : List (DataW H) → Nat
  | [] => 0
  | d :: r => uptoBulk d + uptoBulkAll r
def uptoBulkEntries {H : Type} : List (Lit × DataW H) → Nat
  | [] => 0
  | x :: r => uptoBulkEntry x + uptoBulkEntries r
def uptoBulkEntry {H : Type} : Lit × DataW H → Nat
  | (.string bytes, d) => bytes.length + uptoBulk d + 1
  | (_, d) => uptoBulk d + 1
 end
def uptoSmall : (H : Type) → List (DataW H) → Bool := fun _ ds => decide (uptoBulkAll ds ≤ 1048576)
def OpenSpec.upto (s : _root_.Go.ChangeSpec) : _root_.Go.OpenSpec := { _root_.Go.OpenSpec.ofChange s with cond := some uptoSmall }

/-- 'leatlaw10.SchemaGets', WHERE WHAT IT READS IS OF BULK AT MOST 1048576: true; the input reads as it did. -/
def schemaGetsUptoRow : OpenClaim := { program := "ytpmpgmjllagomaa", sum := "6d075da24440be1eb991cfcf50c4fced7bc4a26229fba16fcae01bd04c6818f7", func := "leat/leatlaw10.SchemaGets", spec := "schemaGets", unfollowed := true, recurses := true, loops := true, apart := false, narrowed := true }
def SchemaGetsUptoSaid : Prop := schemaGetsUptoRow.holds Try.pinned (OpenSpec.upto schemaGetsSpec)

/-- 'leatlaw10.SchemaBack', WHERE WHAT IT READS IS OF BULK AT MOST 1048576: true; the input reads as it did. -/
def schemaBackUptoRow : OpenClaim := { program := "ytpmpgmjllagomaa", sum := "6d075da24440be1eb991cfcf50c4fced7bc4a26229fba16fcae01bd04c6818f7", func := "leat/leatlaw10.SchemaBack", spec := "schemaBack", unfollowed := true, recurses := true, loops := true, apart := false, narrowed := true }
def SchemaBackUptoSaid : Prop := schemaBackUptoRow.holds Try.pinned (OpenSpec.upto schemaBackSpec)

/-- 'leatlaw10.SchemaOnly', WHERE WHAT IT READS IS OF BULK AT MOST 1048576: true; the input reads as it did. -/
def schemaOnlyUptoRow : OpenClaim := { program := "ytpmpgmjllagomaa", sum := "6d075da24440be1eb991cfcf50c4fced7bc4a26229fba16fcae01bd04c6818f7", func := "leat/leatlaw10.SchemaOnly", spec := "schemaOnly", unfollowed := true, recurses := true, loops := true, apart := false, narrowed := true }
def SchemaOnlyUptoSaid : Prop := schemaOnlyUptoRow.holds Try.pinned (OpenSpec.upto schemaOnlySpec)

/-- 'leatlaw10.SchemaTables', WHERE WHAT IT READS IS OF BULK AT MOST 1048576: true; the input reads as it did. -/
def schemaTablesUptoRow : OpenClaim := { program := "ytpmpgmjllagomaa", sum := "6d075da24440be1eb991cfcf50c4fced7bc4a26229fba16fcae01bd04c6818f7", func := "leat/leatlaw10.SchemaTables", spec := "schemaTables", unfollowed := true, recurses := true, apart := false, narrowed := true }
def SchemaTablesUptoSaid : Prop := schemaTablesUptoRow.holds Try.pinned (OpenSpec.upto schemaTablesSpec)

end Rows
end Go.Proofs.Ytpmpgmjllagomaa
