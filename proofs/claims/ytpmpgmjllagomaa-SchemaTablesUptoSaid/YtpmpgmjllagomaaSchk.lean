/- schema's codecs check. Conditions: none. -/
import Derived.Test.YtpmpgmjllagomaaSget3
set_option linter.unusedVariables false
set_option maxHeartbeats 4000000
set_option linter.unusedSimpArgs false
set_option maxRecDepth 100000
namespace Go.Lt
open Go
attribute [local irreducible] op gop lt glt rc grc ite' drawn also ldR
section
variable {P : Program} {Pn : PK} {w0 : World} {p : List HP} {K : Value → WP}
theorem Ent.and_or3 {b c t : Bool} {s1 : Sem Next} {s2 s3 : Value → Sem Next} {v1 v2 : Value} [h1 : Run P p s1 v1] [h2 : Run P p (s2 v1) v2] [h3 : Run P p (s3 v2) (.bool t)] (h : Ent w0 p (K (.bool (b && (c || t))))) :
    Ent w0 p (gop P Pn (.bool b) true (S.mv (.bool c)) fun x18 => gop P Pn (.bool b) true (S.mv x18) fun x19 => gop P Pn x19 false s1 fun x20 => gop P Pn x19 false (s2 x20) fun x21 => gop P Pn x19 false (s3 x21) fun x22 => gop P Pn (.bool b) true (S.pick x19 (.bool true) x22) fun x23 => op P Pn (S.pick (.bool b) x23 (.bool false)) K) := by
  cases b
  · repeat (first | refine Ent.runW (wrap_i64 (by omega) (by omega)) ?_ | refine Ent.runWL (wrap_i64 (by omega) (by omega)) ?_ | refine Ent.runWR (wrap_i64 (by omega) (by omega)) ?_ | refine Ent.run ?_ | refine Ent.runL ?_ | refine Ent.runR ?_ | refine Ent.drawn ?_ | refine Ent.store (by kernel_rfl) ?_ | refine Ent.resN ?_ | refine Ent.res1 ?_ | refine Ent.gop_yes ?_ | refine Ent.gop_no (by decide) ?_ | refine Ent.gop_undef ?_ | refine Ent.glt_undef ?_ | refine Ent.grc_undef ?_ | refine Ent.glt_yes ?_ | refine Ent.glt_no (by decide) ?_ | refine Ent.grc_yes ?_ | refine Ent.grc_no (by decide) ?_)
    exact h
  · cases c
    · repeat (first | refine Ent.runW (wrap_i64 (by omega) (by omega)) ?_ | refine Ent.runWL (wrap_i64 (by omega) (by omega)) ?_ | refine Ent.runWR (wrap_i64 (by omega) (by omega)) ?_ | refine Ent.run ?_ | refine Ent.runL ?_ | refine Ent.runR ?_ | refine Ent.drawn ?_ | refine Ent.store (by kernel_rfl) ?_ | refine Ent.resN ?_ | refine Ent.res1 ?_ | refine Ent.gop_yes ?_ | refine Ent.gop_no (by decide) ?_ | refine Ent.gop_undef ?_ | refine Ent.glt_undef ?_ | refine Ent.grc_undef ?_ | refine Ent.glt_yes ?_ | refine Ent.glt_no (by decide) ?_ | refine Ent.grc_yes ?_ | refine Ent.grc_no (by decide) ?_)
      exact h
    · repeat (first | refine Ent.runW (wrap_i64 (by omega) (by omega)) ?_ | refine Ent.runWL (wrap_i64 (by omega) (by omega)) ?_ | refine Ent.runWR (wrap_i64 (by omega) (by omega)) ?_ | refine Ent.run ?_ | refine Ent.runL ?_ | refine Ent.runR ?_ | refine Ent.drawn ?_ | refine Ent.store (by kernel_rfl) ?_ | refine Ent.resN ?_ | refine Ent.res1 ?_ | refine Ent.gop_yes ?_ | refine Ent.gop_no (by decide) ?_ | refine Ent.gop_undef ?_ | refine Ent.glt_undef ?_ | refine Ent.grc_undef ?_ | refine Ent.glt_yes ?_ | refine Ent.glt_no (by decide) ?_ | refine Ent.grc_yes ?_ | refine Ent.grc_no (by decide) ?_)
      exact h
theorem Ent.and_or4 {b c t : Bool} {s1 : Sem Next} {s2 s3 s4 : Value → Sem Next} {v1 v2 v3 : Value} [h1 : Run P p s1 v1] [h2 : Run P p (s2 v1) v2] [h3 : Run P p (s3 v2) v3] [h4 : Run P p (s4 v3) (.bool t)] (h : Ent w0 p (K (.bool (b && (c || t))))) :
    Ent w0 p (gop P Pn (.bool b) true (S.mv (.bool c)) fun x18 => gop P Pn (.bool b) true (S.mv x18) fun x19 => gop P Pn x19 false s1 fun x20 => gop P Pn x19 false (s2 x20) fun x21 => gop P Pn x19 false (s3 x21) fun x22 => gop P Pn x19 false (s4 x22) fun x22 => gop P Pn (.bool b) true (S.pick x19 (.bool true) x22) fun x23 => op P Pn (S.pick (.bool b) x23 (.bool false)) K) := by
  cases b
  · repeat (first | refine Ent.runW (wrap_i64 (by omega) (by omega)) ?_ | refine Ent.runWL (wrap_i64 (by omega) (by omega)) ?_ | refine Ent.runWR (wrap_i64 (by omega) (by omega)) ?_ | refine Ent.run ?_ | refine Ent.runL ?_ | refine Ent.runR ?_ | refine Ent.drawn ?_ | refine Ent.store (by kernel_rfl) ?_ | refine Ent.resN ?_ | refine Ent.res1 ?_ | refine Ent.gop_yes ?_ | refine Ent.gop_no (by decide) ?_ | refine Ent.gop_undef ?_ | refine Ent.glt_undef ?_ | refine Ent.grc_undef ?_ | refine Ent.glt_yes ?_ | refine Ent.glt_no (by decide) ?_ | refine Ent.grc_yes ?_ | refine Ent.grc_no (by decide) ?_)
    exact h
  · cases c
    · repeat (first | refine Ent.runW (wrap_i64 (by omega) (by omega)) ?_ | refine Ent.runWL (wrap_i64 (by omega) (by omega)) ?_ | refine Ent.runWR (wrap_i64 (by omega) (by omega)) ?_ | refine Ent.run ?_ | refine Ent.runL ?_ | refine Ent.runR ?_ | refine Ent.drawn ?_ | refine Ent.store (by kernel_rfl) ?_ | refine Ent.resN ?_ | refine Ent.res1 ?_ | refine Ent.gop_yes ?_ | refine Ent.gop_no (by decide) ?_ | refine Ent.gop_undef ?_ | refine Ent.glt_undef ?_ | refine Ent.grc_undef ?_ | refine Ent.glt_yes ?_ | refine Ent.glt_no (by decide) ?_ | refine Ent.grc_yes ?_ | refine Ent.grc_no (by decide) ?_)
      exact h
    · repeat (first | refine Ent.runW (wrap_i64 (by omega) (by omega)) ?_ | refine Ent.runWL (wrap_i64 (by omega) (by omega)) ?_ | refine Ent.runWR (wrap_i64 (by omega) (by omega)) ?_ | refine Ent.run ?_ | refine Ent.runL ?_ | refine Ent.runR ?_ | refine Ent.drawn ?_ | refine Ent.store (by kernel_rfl) ?_ | refine Ent.resN ?_ | refine Ent.res1 ?_ | refine Ent.gop_yes ?_ | refine Ent.gop_no (by decide) ?_ | refine Ent.gop_undef ?_ | refine Ent.glt_undef ?_ | refine Ent.grc_undef ?_ | refine Ent.glt_yes ?_ | refine Ent.glt_no (by decide) ?_ | refine Ent.grc_yes ?_ | refine Ent.grc_no (by decide) ?_)
      exact h
end
variable {w0 : World} {p : List HP} {Pn : PK} {K : Value → WP}
/-- A node that is read. -/
theorem nd_open {n : Nd} {cs : List Value} (h : RdD p (ndD n) cs) : ∃ A1 c1 A2 c2, cs = ndC n A1 c1 A2 c2 ∧ RdB p (.slice A1 n.data.length c1) n.data ∧ RdD p (.sl T.api_Node 5 (ndsD n.list)) [.slice A2 n.list.length c2] := by
  cases n with
  | mk k m b d l =>
    unfold ndD at h
    obtain ⟨x1, y1, rfl, ⟨rfl, _⟩, x2, y2, rfl, ⟨rfl, _⟩, x3, y3, rfl, ⟨rfl, _⟩, x4, y4, rfl, h4, x5, y5, rfl, h5, rfl⟩ := h
    obtain ⟨A1, c1, rfl, h6⟩ := h4
    obtain ⟨A2, c2, rfl, h7⟩ := h5
    refine ⟨A1, c1, A2, c2, by simp [ndC, Nd.kind, Nd.num, Nd.null, Nd.data, Nd.list, ndsD_length], ?_, ?_⟩
    · refine RdB.ofD (e := T.u8) ?_
      exact ⟨A1, c1, by simp [Nd.data], h6⟩
    · exact ⟨A2, c2, by simp [Nd.list, ndsD_length], h7⟩
def plainF (n : Nd) (k : Int) (b2 b3 b4 b5 : Bool) : Bool := n.kind == k && (b2 || n.num == 0) && (b3 || n.data.length == 0) && (b4 || !n.null) && (b5 || n.list.length == 0)
theorem plain_spec {n : Nd} {k : Int} {b2 b3 b4 b5 : Bool} {A1 A2 : Option Addr} {c1 c2 : Nat} (h : Ent w0 p (K (.bool (plainF n k b2 b3 b4 b5)))) :
    Ent w0 p (op PR Pn (S.fn F.schema_plain [.agg (ndC n A1 c1 A2 c2).toArray, .int .i64 k, .bool b2, .bool b3, .bool b4, .bool b5]) K) := by
  refine Ent.call (fun w h => enter.schema_plain h) ?_
  unfold W.schema_plain
  unfold ndC
  refine Ent.box fun g1 => ?_
  repeat (first | refine Ent.runW (wrap_i64 (by omega) (by omega)) ?_ | refine Ent.runWL (wrap_i64 (by omega) (by omega)) ?_ | refine Ent.runWR (wrap_i64 (by omega) (by omega)) ?_ | refine Ent.run ?_ | refine Ent.runL ?_ | refine Ent.runR ?_ | refine Ent.drawn ?_ | refine Ent.store (by kernel_rfl) ?_ | refine Ent.resN ?_ | refine Ent.res1 ?_ | refine Ent.gop_yes ?_ | refine Ent.gop_no (by decide) ?_ | refine Ent.gop_undef ?_ | refine Ent.glt_undef ?_ | refine Ent.grc_undef ?_ | refine Ent.glt_yes ?_ | refine Ent.glt_no (by decide) ?_ | refine Ent.grc_yes ?_ | refine Ent.grc_no (by decide) ?_)
  refine Ent.and_or3 ?_
  refine Ent.and_or4 ?_
  refine Ent.and_or3 ?_
  refine Ent.and_or4 ?_
  refine Ent.pick blk g1 (Ent.drop ?_)
  have e1 : (n.kind == k) = decide (n.kind = k) := rfl
  have e2 : (n.data.length == 0) = decide ((n.data.length : Int) = 0) := by rw [Bool.eq_iff_iff]; simp
  have e3 : (n.list.length == 0) = decide ((n.list.length : Int) = 0) := by rw [Bool.eq_iff_iff]; simp
  unfold plainF at h
  rw [e2, e3] at h
  exact h
end Go.Lt
