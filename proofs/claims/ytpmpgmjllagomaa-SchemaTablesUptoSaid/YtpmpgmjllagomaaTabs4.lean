/- The reference's Table at all keys; spoil. Conditions: none. -/
import Derived.Test.YtpmpgmjllagomaaTabs3
set_option linter.unusedVariables false
set_option maxHeartbeats 4000000
set_option linter.unusedSimpArgs false
set_option maxRecDepth 100000
namespace Go.Lt
open Go
attribute [local irreducible] op gop lt glt rc grc ite' drawn also ldR
section
variable {w0 : World} {p : List HP} {Pn : PK} {K : Value → WP}
theorem Rnone_spec {k : Int} {b : Bool} (h0 : ¬ k = 0) (h1 : ¬ k = 1) (h2 : ¬ k = 2) (h : Ent w0 p (K (.tuple #[.slice none 0 0, .int .i64 160]))) : Ent w0 p (op PR Pn (S.fn F.leatref10_Table [.int .i16 k, .bool b]) K) := by
  refine Ent.call (fun w h => enter.leatref10_Table h) ?_
  unfold W.leatref10_Table
  repeat' (first | refine Ent.also ?_ ?_ | refine Ent.J1 fun kk hkk => ?_ | refine hkk _ _ ?_ | refine all_spec ?_ | refine since_spec ?_ | refine first_spec ?_ | refine one_spec ?_ | refine topics_spec fun _ => ?_ | refine rtopics_spec fun _ => ?_ | refine rbuild_spec ?_ | refine lbuild_spec ?_ | refine Ent.alloc fun g => ?_ | refine bsl1 fun g => ?_ | refine bsl2 fun g => ?_ | refine bsl3 fun g => ?_ | refine bsl4 fun g => ?_ | refine bsl5 fun g => ?_ | refine bsl6 fun g => ?_ | refine Ent.runW (wrap_i64 (by omega) (by omega)) ?_ | refine Ent.runWL (wrap_i64 (by omega) (by omega)) ?_ | refine Ent.runWR (wrap_i64 (by omega) (by omega)) ?_ | refine Ent.run ?_ | refine Ent.runL ?_ | refine Ent.runR ?_ | refine Ent.drawn ?_ | refine Ent.store (by kernel_rfl) ?_ | refine Ent.resN ?_ | refine Ent.res1 ?_ | refine Ent.gop_yes ?_ | refine Ent.gop_no (by decide) ?_ | refine Ent.gop_undef ?_ | refine Ent.glt_undef ?_ | refine Ent.grc_undef ?_ | refine Ent.glt_yes ?_ | refine Ent.glt_no (by decide) ?_ | refine Ent.grc_yes ?_ | refine Ent.grc_no (by decide) ?_ | refine Ent.ite_t ?_ | refine Ent.ite_f ?_ | exact Ent.keep (h _))
  rw [decide_eq_false h0]
  repeat' (first | refine Ent.also ?_ ?_ | refine Ent.J1 fun kk hkk => ?_ | refine hkk _ _ ?_ | refine all_spec ?_ | refine since_spec ?_ | refine first_spec ?_ | refine one_spec ?_ | refine topics_spec fun _ => ?_ | refine rtopics_spec fun _ => ?_ | refine rbuild_spec ?_ | refine lbuild_spec ?_ | refine Ent.alloc fun g => ?_ | refine bsl1 fun g => ?_ | refine bsl2 fun g => ?_ | refine bsl3 fun g => ?_ | refine bsl4 fun g => ?_ | refine bsl5 fun g => ?_ | refine bsl6 fun g => ?_ | refine Ent.runW (wrap_i64 (by omega) (by omega)) ?_ | refine Ent.runWL (wrap_i64 (by omega) (by omega)) ?_ | refine Ent.runWR (wrap_i64 (by omega) (by omega)) ?_ | refine Ent.run ?_ | refine Ent.runL ?_ | refine Ent.runR ?_ | refine Ent.drawn ?_ | refine Ent.store (by kernel_rfl) ?_ | refine Ent.resN ?_ | refine Ent.res1 ?_ | refine Ent.gop_yes ?_ | refine Ent.gop_no (by decide) ?_ | refine Ent.gop_undef ?_ | refine Ent.glt_undef ?_ | refine Ent.grc_undef ?_ | refine Ent.glt_yes ?_ | refine Ent.glt_no (by decide) ?_ | refine Ent.grc_yes ?_ | refine Ent.grc_no (by decide) ?_ | refine Ent.ite_t ?_ | refine Ent.ite_f ?_ | exact Ent.keep (h _))
  rw [decide_eq_false h0]
  repeat' (first | refine Ent.also ?_ ?_ | refine Ent.J1 fun kk hkk => ?_ | refine hkk _ _ ?_ | refine all_spec ?_ | refine since_spec ?_ | refine first_spec ?_ | refine one_spec ?_ | refine topics_spec fun _ => ?_ | refine rtopics_spec fun _ => ?_ | refine rbuild_spec ?_ | refine lbuild_spec ?_ | refine Ent.alloc fun g => ?_ | refine bsl1 fun g => ?_ | refine bsl2 fun g => ?_ | refine bsl3 fun g => ?_ | refine bsl4 fun g => ?_ | refine bsl5 fun g => ?_ | refine bsl6 fun g => ?_ | refine Ent.runW (wrap_i64 (by omega) (by omega)) ?_ | refine Ent.runWL (wrap_i64 (by omega) (by omega)) ?_ | refine Ent.runWR (wrap_i64 (by omega) (by omega)) ?_ | refine Ent.run ?_ | refine Ent.runL ?_ | refine Ent.runR ?_ | refine Ent.drawn ?_ | refine Ent.store (by kernel_rfl) ?_ | refine Ent.resN ?_ | refine Ent.res1 ?_ | refine Ent.gop_yes ?_ | refine Ent.gop_no (by decide) ?_ | refine Ent.gop_undef ?_ | refine Ent.glt_undef ?_ | refine Ent.grc_undef ?_ | refine Ent.glt_yes ?_ | refine Ent.glt_no (by decide) ?_ | refine Ent.grc_yes ?_ | refine Ent.grc_no (by decide) ?_ | refine Ent.ite_t ?_ | refine Ent.ite_f ?_ | exact Ent.keep (h _))
  rw [decide_eq_false h1]
  repeat' (first | refine Ent.also ?_ ?_ | refine Ent.J1 fun kk hkk => ?_ | refine hkk _ _ ?_ | refine all_spec ?_ | refine since_spec ?_ | refine first_spec ?_ | refine one_spec ?_ | refine topics_spec fun _ => ?_ | refine rtopics_spec fun _ => ?_ | refine rbuild_spec ?_ | refine lbuild_spec ?_ | refine Ent.alloc fun g => ?_ | refine bsl1 fun g => ?_ | refine bsl2 fun g => ?_ | refine bsl3 fun g => ?_ | refine bsl4 fun g => ?_ | refine bsl5 fun g => ?_ | refine bsl6 fun g => ?_ | refine Ent.runW (wrap_i64 (by omega) (by omega)) ?_ | refine Ent.runWL (wrap_i64 (by omega) (by omega)) ?_ | refine Ent.runWR (wrap_i64 (by omega) (by omega)) ?_ | refine Ent.run ?_ | refine Ent.runL ?_ | refine Ent.runR ?_ | refine Ent.drawn ?_ | refine Ent.store (by kernel_rfl) ?_ | refine Ent.resN ?_ | refine Ent.res1 ?_ | refine Ent.gop_yes ?_ | refine Ent.gop_no (by decide) ?_ | refine Ent.gop_undef ?_ | refine Ent.glt_undef ?_ | refine Ent.grc_undef ?_ | refine Ent.glt_yes ?_ | refine Ent.glt_no (by decide) ?_ | refine Ent.grc_yes ?_ | refine Ent.grc_no (by decide) ?_ | refine Ent.ite_t ?_ | refine Ent.ite_f ?_ | exact Ent.keep (h _))
  rw [decide_eq_false h1]
  repeat' (first | refine Ent.also ?_ ?_ | refine Ent.J1 fun kk hkk => ?_ | refine hkk _ _ ?_ | refine all_spec ?_ | refine since_spec ?_ | refine first_spec ?_ | refine one_spec ?_ | refine topics_spec fun _ => ?_ | refine rtopics_spec fun _ => ?_ | refine rbuild_spec ?_ | refine lbuild_spec ?_ | refine Ent.alloc fun g => ?_ | refine bsl1 fun g => ?_ | refine bsl2 fun g => ?_ | refine bsl3 fun g => ?_ | refine bsl4 fun g => ?_ | refine bsl5 fun g => ?_ | refine bsl6 fun g => ?_ | refine Ent.runW (wrap_i64 (by omega) (by omega)) ?_ | refine Ent.runWL (wrap_i64 (by omega) (by omega)) ?_ | refine Ent.runWR (wrap_i64 (by omega) (by omega)) ?_ | refine Ent.run ?_ | refine Ent.runL ?_ | refine Ent.runR ?_ | refine Ent.drawn ?_ | refine Ent.store (by kernel_rfl) ?_ | refine Ent.resN ?_ | refine Ent.res1 ?_ | refine Ent.gop_yes ?_ | refine Ent.gop_no (by decide) ?_ | refine Ent.gop_undef ?_ | refine Ent.glt_undef ?_ | refine Ent.grc_undef ?_ | refine Ent.glt_yes ?_ | refine Ent.glt_no (by decide) ?_ | refine Ent.grc_yes ?_ | refine Ent.grc_no (by decide) ?_ | refine Ent.ite_t ?_ | refine Ent.ite_f ?_ | exact Ent.keep (h _))
  rw [decide_eq_false h2]
  repeat' (first | refine Ent.also ?_ ?_ | refine Ent.J1 fun kk hkk => ?_ | refine hkk _ _ ?_ | refine all_spec ?_ | refine since_spec ?_ | refine first_spec ?_ | refine one_spec ?_ | refine topics_spec fun _ => ?_ | refine rtopics_spec fun _ => ?_ | refine rbuild_spec ?_ | refine lbuild_spec ?_ | refine Ent.alloc fun g => ?_ | refine bsl1 fun g => ?_ | refine bsl2 fun g => ?_ | refine bsl3 fun g => ?_ | refine bsl4 fun g => ?_ | refine bsl5 fun g => ?_ | refine bsl6 fun g => ?_ | refine Ent.runW (wrap_i64 (by omega) (by omega)) ?_ | refine Ent.runWL (wrap_i64 (by omega) (by omega)) ?_ | refine Ent.runWR (wrap_i64 (by omega) (by omega)) ?_ | refine Ent.run ?_ | refine Ent.runL ?_ | refine Ent.runR ?_ | refine Ent.drawn ?_ | refine Ent.store (by kernel_rfl) ?_ | refine Ent.resN ?_ | refine Ent.res1 ?_ | refine Ent.gop_yes ?_ | refine Ent.gop_no (by decide) ?_ | refine Ent.gop_undef ?_ | refine Ent.glt_undef ?_ | refine Ent.grc_undef ?_ | refine Ent.glt_yes ?_ | refine Ent.glt_no (by decide) ?_ | refine Ent.grc_yes ?_ | refine Ent.grc_no (by decide) ?_ | refine Ent.ite_t ?_ | refine Ent.ite_f ?_ | exact Ent.keep (h _))
  rw [decide_eq_false h2]
  repeat' (first | refine Ent.also ?_ ?_ | refine Ent.J1 fun kk hkk => ?_ | refine hkk _ _ ?_ | refine all_spec ?_ | refine since_spec ?_ | refine first_spec ?_ | refine one_spec ?_ | refine topics_spec fun _ => ?_ | refine rtopics_spec fun _ => ?_ | refine rbuild_spec ?_ | refine lbuild_spec ?_ | refine Ent.alloc fun g => ?_ | refine bsl1 fun g => ?_ | refine bsl2 fun g => ?_ | refine bsl3 fun g => ?_ | refine bsl4 fun g => ?_ | refine bsl5 fun g => ?_ | refine bsl6 fun g => ?_ | refine Ent.runW (wrap_i64 (by omega) (by omega)) ?_ | refine Ent.runWL (wrap_i64 (by omega) (by omega)) ?_ | refine Ent.runWR (wrap_i64 (by omega) (by omega)) ?_ | refine Ent.run ?_ | refine Ent.runL ?_ | refine Ent.runR ?_ | refine Ent.drawn ?_ | refine Ent.store (by kernel_rfl) ?_ | refine Ent.resN ?_ | refine Ent.res1 ?_ | refine Ent.gop_yes ?_ | refine Ent.gop_no (by decide) ?_ | refine Ent.gop_undef ?_ | refine Ent.glt_undef ?_ | refine Ent.grc_undef ?_ | refine Ent.glt_yes ?_ | refine Ent.glt_no (by decide) ?_ | refine Ent.grc_yes ?_ | refine Ent.grc_no (by decide) ?_ | refine Ent.ite_t ?_ | refine Ent.ite_f ?_ | exact Ent.keep (h _))
  exact Ent.keep h
theorem RTable_spec {k : Int} {b : Bool} (h : ∀ A c, Ent w0 (flsP (.slice A (tabFs k b).length c) (tabFs k b) :: p) (K (.tuple #[.slice A (tabFs k b).length c, .int .i64 (tabEr k)]))) :
    Ent w0 p (op PR Pn (S.fn F.leatref10_Table [.int .i16 k, .bool b]) K) := by
  by_cases h0 : k = 0
  · subst h0
    cases b
    · exact RproduceQ_spec fun A => h A 4
    · exact RproduceA_spec fun A => h A 2
  by_cases h1 : k = 1
  · subst h1
    cases b
    · exact RfetchQ_spec fun A => h A 6
    · exact RfetchA_spec fun A => h A 2
  by_cases h2 : k = 2
  · subst h2
    cases b
    · exact RlistQ_spec fun A => h A 3
    · exact RlistA_spec fun A => h A 2
  have e1 : tabFs k b = [] := by unfold tabFs; rw [if_neg h0, if_neg h1, if_neg h2]
  have e2 : tabEr k = 160 := by unfold tabEr; rw [if_neg (by omega)]
  rw [e1, e2] at h
  exact Rnone_spec h0 h1 h2 (own_nilF (h none 0))
end
end Go.Lt
