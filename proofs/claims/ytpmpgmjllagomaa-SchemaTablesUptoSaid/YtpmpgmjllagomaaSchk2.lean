/- schema's codecs check. Conditions: none. -/
import Derived.Test.YtpmpgmjllagomaaSchk
set_option linter.unusedVariables false
set_option maxHeartbeats 4000000
set_option linter.unusedSimpArgs false
set_option maxRecDepth 100000
namespace Go.Lt
open Go
attribute [local irreducible] op gop lt glt rc grc ite' drawn also ldR
variable {w0 : World} {p : List HP} {Pn : PK} {K : Value → WP}
def fitsF (k n : Int) : Bool := if k = 1 then decide (-128 ≤ n ∧ n ≤ 127) else if k = 2 then decide (-32768 ≤ n ∧ n ≤ 32767) else if k = 3 then decide (-2147483648 ≤ n ∧ n ≤ 2147483647) else true
def checkF (f : Nd → Int) : List Nd → Int
  | [] => 0
  | x :: r => if f x ≠ 0 then f x else checkF f r
mutual
def Cd.check : Cd → Nd → Int
  | .num k, n => if plainF n k true false false false = false then 101 else if fitsF k n.num = false then 102 else 0
  | .txt k, n => if plainF n k false true (decide (k = 6)) false = false then 101 else if n.null = true ∧ 0 < n.data.length then 70 else if utf n.data = false then 6 else if 255 < n.data.length then 4 else 0
  | .blb k, n => if plainF n k false true (decide (k = 8)) false = false then 101 else if n.null = true ∧ 0 < n.data.length then 70 else 0
  | .arr c, n => if plainF n 9 false false false true = false then 101 else if 16 < n.list.length then 9 else checkF (Cd.check c) n.list
  | .rcd l, n => if plainF n 10 false false false true = false ∨ n.list.length ≠ l.length then 101 else Cd.checkl l n.list
def Cd.checkl : List Cd → List Nd → Int
  | [], _ => 0
  | _ :: _, [] => 0
  | c :: r, x :: s => if Cd.check c x ≠ 0 then Cd.check c x else Cd.checkl r s
end
/-- Lengths that a machine can bear, and numbers that fit. -/
inductive Nd.ok : Nd → Prop
  | mk {k n : Int} {b : Bool} {d : List UInt8} {l : List Nd} (h1 : -9223372036854775808 ≤ n ∧ n ≤ 9223372036854775807) (h2 : d.length ≤ 1048576) (h3 : ∀ x ∈ l, Nd.ok x) : Nd.ok (.mk k n b d l)
theorem fits8 {n : Int} (h : -9223372036854775808 ≤ n ∧ n ≤ 9223372036854775807) : decide (n = IntKind.i64.wrap (IntKind.i8.wrap n)) = decide (-128 ≤ n ∧ n ≤ 127) := by
  rw [Bool.eq_iff_iff, decide_eq_true_iff, decide_eq_true_iff]
  unfold IntKind.wrap
  simp only [IntKind.bits, IntKind.signed]
  simp
  split <;> split <;> omega
theorem fits16 {n : Int} (h : -9223372036854775808 ≤ n ∧ n ≤ 9223372036854775807) : decide (n = IntKind.i64.wrap (IntKind.i16.wrap n)) = decide (-32768 ≤ n ∧ n ≤ 32767) := by
  rw [Bool.eq_iff_iff, decide_eq_true_iff, decide_eq_true_iff]
  unfold IntKind.wrap
  simp only [IntKind.bits, IntKind.signed]
  simp
  split <;> split <;> omega
theorem fits32 {n : Int} (h : -9223372036854775808 ≤ n ∧ n ≤ 9223372036854775807) : decide (n = IntKind.i64.wrap (IntKind.i32.wrap n)) = decide (-2147483648 ≤ n ∧ n ≤ 2147483647) := by
  rw [Bool.eq_iff_iff, decide_eq_true_iff, decide_eq_true_iff]
  unfold IntKind.wrap
  simp only [IntKind.bits, IntKind.signed]
  simp
  split <;> split <;> omega
theorem num_check {n : Nd} {k : Int} {A1 A2 : Option Addr} {c1 c2 : Nat} (hn : -9223372036854775808 ≤ n.num ∧ n.num ≤ 9223372036854775807) (h : Ent w0 p (K (.int .i64 (Cd.check (.num k) n)))) :
    Ent w0 p (op PR Pn (S.fn F.schema_number_check [.agg [.int .i64 k].toArray, .agg (ndC n A1 c1 A2 c2).toArray]) K) := by
  refine Ent.call (fun w h => enter.schema_number_check h) ?_
  unfold W.schema_number_check
  refine Ent.box fun g1 => ?_
  unfold ndC
  refine Ent.box fun g2 => ?_
  repeat (first | refine Ent.runW (wrap_i64 (by omega) (by omega)) ?_ | refine Ent.runWL (wrap_i64 (by omega) (by omega)) ?_ | refine Ent.runWR (wrap_i64 (by omega) (by omega)) ?_ | refine Ent.run ?_ | refine Ent.runL ?_ | refine Ent.runR ?_ | refine Ent.drawn ?_ | refine Ent.store (by kernel_rfl) ?_ | refine Ent.resN ?_ | refine Ent.res1 ?_ | refine Ent.gop_yes ?_ | refine Ent.gop_no (by decide) ?_ | refine Ent.gop_undef ?_ | refine Ent.glt_undef ?_ | refine Ent.grc_undef ?_ | refine Ent.glt_yes ?_ | refine Ent.glt_no (by decide) ?_ | refine Ent.grc_yes ?_ | refine Ent.grc_no (by decide) ?_)
  refine plain_spec (n := n) (A1 := A1) (A2 := A2) (c1 := c1) (c2 := c2) ?_
  unfold Cd.check at h
  repeat (first | refine Ent.runW (wrap_i64 (by omega) (by omega)) ?_ | refine Ent.runWL (wrap_i64 (by omega) (by omega)) ?_ | refine Ent.runWR (wrap_i64 (by omega) (by omega)) ?_ | refine Ent.run ?_ | refine Ent.runL ?_ | refine Ent.runR ?_ | refine Ent.drawn ?_ | refine Ent.store (by kernel_rfl) ?_ | refine Ent.resN ?_ | refine Ent.res1 ?_ | refine Ent.gop_yes ?_ | refine Ent.gop_no (by decide) ?_ | refine Ent.gop_undef ?_ | refine Ent.glt_undef ?_ | refine Ent.grc_undef ?_ | refine Ent.glt_yes ?_ | refine Ent.glt_no (by decide) ?_ | refine Ent.grc_yes ?_ | refine Ent.grc_no (by decide) ?_)
  cases hp : plainF n k true false false false
  · rw [if_pos hp] at h
    refine Ent.ite_t ?_
    repeat (first | refine Ent.runW (wrap_i64 (by omega) (by omega)) ?_ | refine Ent.runWL (wrap_i64 (by omega) (by omega)) ?_ | refine Ent.runWR (wrap_i64 (by omega) (by omega)) ?_ | refine Ent.run ?_ | refine Ent.runL ?_ | refine Ent.runR ?_ | refine Ent.drawn ?_ | refine Ent.store (by kernel_rfl) ?_ | refine Ent.resN ?_ | refine Ent.res1 ?_ | refine Ent.gop_yes ?_ | refine Ent.gop_no (by decide) ?_ | refine Ent.gop_undef ?_ | refine Ent.glt_undef ?_ | refine Ent.grc_undef ?_ | refine Ent.glt_yes ?_ | refine Ent.glt_no (by decide) ?_ | refine Ent.grc_yes ?_ | refine Ent.grc_no (by decide) ?_)
    exact Ent.pick blk g1 (Ent.drop (Ent.pick blk g2 (Ent.drop h)))
  rw [if_neg (by simp [hp])] at h
  refine Ent.ite_f ?_
  refine Ent.J1 fun kk hkk => ?_
  have fin : ∀ b : Bool, b = fitsF k n.num → Ent w0 (blk g2 [.int .i64 n.kind, .int .i64 n.num, .bool n.null, .slice A1 n.data.length c1, .slice A2 n.list.length c2] :: blk g1 [.int .i64 k] :: p) (kk (.bool b)) := by
    intro b hb
    subst hb
    refine hkk _ _ ?_
    cases hf : fitsF k n.num
    · rw [if_pos hf] at h
      repeat (first | refine Ent.runW (wrap_i64 (by omega) (by omega)) ?_ | refine Ent.runWL (wrap_i64 (by omega) (by omega)) ?_ | refine Ent.runWR (wrap_i64 (by omega) (by omega)) ?_ | refine Ent.run ?_ | refine Ent.runL ?_ | refine Ent.runR ?_ | refine Ent.drawn ?_ | refine Ent.store (by kernel_rfl) ?_ | refine Ent.resN ?_ | refine Ent.res1 ?_ | refine Ent.gop_yes ?_ | refine Ent.gop_no (by decide) ?_ | refine Ent.gop_undef ?_ | refine Ent.glt_undef ?_ | refine Ent.grc_undef ?_ | refine Ent.glt_yes ?_ | refine Ent.glt_no (by decide) ?_ | refine Ent.grc_yes ?_ | refine Ent.grc_no (by decide) ?_)
      refine Ent.ite_t ?_
      exact Ent.pick blk g1 (Ent.drop (Ent.pick blk g2 (Ent.drop h)))
    · rw [if_neg (by simp [hf])] at h
      repeat (first | refine Ent.runW (wrap_i64 (by omega) (by omega)) ?_ | refine Ent.runWL (wrap_i64 (by omega) (by omega)) ?_ | refine Ent.runWR (wrap_i64 (by omega) (by omega)) ?_ | refine Ent.run ?_ | refine Ent.runL ?_ | refine Ent.runR ?_ | refine Ent.drawn ?_ | refine Ent.store (by kernel_rfl) ?_ | refine Ent.resN ?_ | refine Ent.res1 ?_ | refine Ent.gop_yes ?_ | refine Ent.gop_no (by decide) ?_ | refine Ent.gop_undef ?_ | refine Ent.glt_undef ?_ | refine Ent.grc_undef ?_ | refine Ent.glt_yes ?_ | refine Ent.glt_no (by decide) ?_ | refine Ent.grc_yes ?_ | refine Ent.grc_no (by decide) ?_)
      refine Ent.ite_f ?_
      exact Ent.pick blk g1 (Ent.drop (Ent.pick blk g2 (Ent.drop h)))
  repeat (first | refine Ent.runW (wrap_i64 (by omega) (by omega)) ?_ | refine Ent.runWL (wrap_i64 (by omega) (by omega)) ?_ | refine Ent.runWR (wrap_i64 (by omega) (by omega)) ?_ | refine Ent.run ?_ | refine Ent.runL ?_ | refine Ent.runR ?_ | refine Ent.drawn ?_ | refine Ent.store (by kernel_rfl) ?_ | refine Ent.resN ?_ | refine Ent.res1 ?_ | refine Ent.gop_yes ?_ | refine Ent.gop_no (by decide) ?_ | refine Ent.gop_undef ?_ | refine Ent.glt_undef ?_ | refine Ent.grc_undef ?_ | refine Ent.glt_yes ?_ | refine Ent.glt_no (by decide) ?_ | refine Ent.grc_yes ?_ | refine Ent.grc_no (by decide) ?_)
  refine Ent.ite (fun hq => ?_) (fun hq => ?_)
  · have hq : k = 1 := by simpa using hq
    repeat (first | refine Ent.runW (wrap_i64 (by omega) (by omega)) ?_ | refine Ent.runWL (wrap_i64 (by omega) (by omega)) ?_ | refine Ent.runWR (wrap_i64 (by omega) (by omega)) ?_ | refine Ent.run ?_ | refine Ent.runL ?_ | refine Ent.runR ?_ | refine Ent.drawn ?_ | refine Ent.store (by kernel_rfl) ?_ | refine Ent.resN ?_ | refine Ent.res1 ?_ | refine Ent.gop_yes ?_ | refine Ent.gop_no (by decide) ?_ | refine Ent.gop_undef ?_ | refine Ent.glt_undef ?_ | refine Ent.grc_undef ?_ | refine Ent.glt_yes ?_ | refine Ent.glt_no (by decide) ?_ | refine Ent.grc_yes ?_ | refine Ent.grc_no (by decide) ?_)
    rw [fits8 hn]
    exact fin _ (by unfold fitsF; rw [if_pos hq])
  have hq1 : ¬ k = 1 := by simpa using hq
  clear hq
  repeat (first | refine Ent.runW (wrap_i64 (by omega) (by omega)) ?_ | refine Ent.runWL (wrap_i64 (by omega) (by omega)) ?_ | refine Ent.runWR (wrap_i64 (by omega) (by omega)) ?_ | refine Ent.run ?_ | refine Ent.runL ?_ | refine Ent.runR ?_ | refine Ent.drawn ?_ | refine Ent.store (by kernel_rfl) ?_ | refine Ent.resN ?_ | refine Ent.res1 ?_ | refine Ent.gop_yes ?_ | refine Ent.gop_no (by decide) ?_ | refine Ent.gop_undef ?_ | refine Ent.glt_undef ?_ | refine Ent.grc_undef ?_ | refine Ent.glt_yes ?_ | refine Ent.glt_no (by decide) ?_ | refine Ent.grc_yes ?_ | refine Ent.grc_no (by decide) ?_)
  refine Ent.ite (fun hq => ?_) (fun hq => ?_)
  · have hq : k = 2 := by simpa using hq
    repeat (first | refine Ent.runW (wrap_i64 (by omega) (by omega)) ?_ | refine Ent.runWL (wrap_i64 (by omega) (by omega)) ?_ | refine Ent.runWR (wrap_i64 (by omega) (by omega)) ?_ | refine Ent.run ?_ | refine Ent.runL ?_ | refine Ent.runR ?_ | refine Ent.drawn ?_ | refine Ent.store (by kernel_rfl) ?_ | refine Ent.resN ?_ | refine Ent.res1 ?_ | refine Ent.gop_yes ?_ | refine Ent.gop_no (by decide) ?_ | refine Ent.gop_undef ?_ | refine Ent.glt_undef ?_ | refine Ent.grc_undef ?_ | refine Ent.glt_yes ?_ | refine Ent.glt_no (by decide) ?_ | refine Ent.grc_yes ?_ | refine Ent.grc_no (by decide) ?_)
    rw [fits16 hn]
    exact fin _ (by unfold fitsF; rw [if_neg hq1, if_pos hq])
  have hq2 : ¬ k = 2 := by simpa using hq
  clear hq
  repeat (first | refine Ent.runW (wrap_i64 (by omega) (by omega)) ?_ | refine Ent.runWL (wrap_i64 (by omega) (by omega)) ?_ | refine Ent.runWR (wrap_i64 (by omega) (by omega)) ?_ | refine Ent.run ?_ | refine Ent.runL ?_ | refine Ent.runR ?_ | refine Ent.drawn ?_ | refine Ent.store (by kernel_rfl) ?_ | refine Ent.resN ?_ | refine Ent.res1 ?_ | refine Ent.gop_yes ?_ | refine Ent.gop_no (by decide) ?_ | refine Ent.gop_undef ?_ | refine Ent.glt_undef ?_ | refine Ent.grc_undef ?_ | refine Ent.glt_yes ?_ | refine Ent.glt_no (by decide) ?_ | refine Ent.grc_yes ?_ | refine Ent.grc_no (by decide) ?_)
  refine Ent.ite (fun hq => ?_) (fun hq => ?_)
  · have hq : k = 3 := by simpa using hq
    repeat (first | refine Ent.runW (wrap_i64 (by omega) (by omega)) ?_ | refine Ent.runWL (wrap_i64 (by omega) (by omega)) ?_ | refine Ent.runWR (wrap_i64 (by omega) (by omega)) ?_ | refine Ent.run ?_ | refine Ent.runL ?_ | refine Ent.runR ?_ | refine Ent.drawn ?_ | refine Ent.store (by kernel_rfl) ?_ | refine Ent.resN ?_ | refine Ent.res1 ?_ | refine Ent.gop_yes ?_ | refine Ent.gop_no (by decide) ?_ | refine Ent.gop_undef ?_ | refine Ent.glt_undef ?_ | refine Ent.grc_undef ?_ | refine Ent.glt_yes ?_ | refine Ent.glt_no (by decide) ?_ | refine Ent.grc_yes ?_ | refine Ent.grc_no (by decide) ?_)
    rw [fits32 hn]
    exact fin _ (by unfold fitsF; rw [if_neg hq1, if_neg hq2, if_pos hq])
  have hq3 : ¬ k = 3 := by simpa using hq
  exact fin true (by unfold fitsF; rw [if_neg hq1, if_neg hq2, if_neg hq3])
/-- The end of text.check. -/
def textTail (Pn : PK) (K : Value → WP) (g2 : Nat) (b : Value) : WP :=
    ite' b
    (K (.int .i64 70))
    (op PR Pn (S.fa 29 (.pointer (some ⟨g2, 0, none⟩)) 3) fun x24 =>
      op PR Pn (S.load 23 x24) fun x25 =>
      op PR Pn (S.fn F.label_Utf [x25]) fun x26 =>
      op PR Pn (S.ext x26 0) fun x27 =>
      op PR Pn (S.ext x26 1) fun x28 =>
      op PR Pn (S.un .not x28) fun x30 =>
      ite' x30
      (K (.int .i64 6))
      (op PR Pn (S.fa 29 (.pointer (some ⟨g2, 0, none⟩)) 3) fun x31 =>
        op PR Pn (S.load 23 x31) fun x32 =>
        op PR Pn (S.bi .len #[23] 3 [false] [x32]) fun x33 =>
        op PR Pn (S.bin .gtr 3 (.tmp 33) (.const (.int .i64 255)) x33 (.int .i64 255)) fun x34 =>
        ite' x34
        (K (.int .i64 4))
        (K (.int .i64 0))))
theorem text_check {n : Nd} {k : Int} {A1 A2 : Option Addr} {c1 c2 : Nat} (hb : RdB p (.slice A1 n.data.length c1) n.data) (hl : n.data.length ≤ 1073741824) (h : Ent w0 p (K (.int .i64 (Cd.check (.txt k) n)))) :
    Ent w0 p (op PR Pn (S.fn F.schema_text_check [.agg [.int .i64 k].toArray, .agg (ndC n A1 c1 A2 c2).toArray]) K) := by
  refine Ent.call (fun w h => enter.schema_text_check h) ?_
  unfold W.schema_text_check
  refine Ent.box fun g1 => ?_
  unfold ndC
  refine Ent.box fun g2 => ?_
  repeat (first | refine Ent.runW (wrap_i64 (by omega) (by omega)) ?_ | refine Ent.runWL (wrap_i64 (by omega) (by omega)) ?_ | refine Ent.runWR (wrap_i64 (by omega) (by omega)) ?_ | refine Ent.run ?_ | refine Ent.runL ?_ | refine Ent.runR ?_ | refine Ent.drawn ?_ | refine Ent.store (by kernel_rfl) ?_ | refine Ent.resN ?_ | refine Ent.res1 ?_ | refine Ent.gop_yes ?_ | refine Ent.gop_no (by decide) ?_ | refine Ent.gop_undef ?_ | refine Ent.glt_undef ?_ | refine Ent.grc_undef ?_ | refine Ent.glt_yes ?_ | refine Ent.glt_no (by decide) ?_ | refine Ent.grc_yes ?_ | refine Ent.grc_no (by decide) ?_)
  refine plain_spec (n := n) (A1 := A1) (A2 := A2) (c1 := c1) (c2 := c2) ?_
  unfold Cd.check at h
  repeat (first | refine Ent.runW (wrap_i64 (by omega) (by omega)) ?_ | refine Ent.runWL (wrap_i64 (by omega) (by omega)) ?_ | refine Ent.runWR (wrap_i64 (by omega) (by omega)) ?_ | refine Ent.run ?_ | refine Ent.runL ?_ | refine Ent.runR ?_ | refine Ent.drawn ?_ | refine Ent.store (by kernel_rfl) ?_ | refine Ent.resN ?_ | refine Ent.res1 ?_ | refine Ent.gop_yes ?_ | refine Ent.gop_no (by decide) ?_ | refine Ent.gop_undef ?_ | refine Ent.glt_undef ?_ | refine Ent.grc_undef ?_ | refine Ent.glt_yes ?_ | refine Ent.glt_no (by decide) ?_ | refine Ent.grc_yes ?_ | refine Ent.grc_no (by decide) ?_)
  cases hp : plainF n k false true (decide (k = 6)) false
  · rw [if_pos hp] at h
    refine Ent.ite_t ?_
    exact Ent.pick blk g1 (Ent.drop (Ent.pick blk g2 (Ent.drop h)))
  rw [if_neg (by simp [hp])] at h
  refine Ent.ite_f ?_
  repeat (first | refine Ent.runW (wrap_i64 (by omega) (by omega)) ?_ | refine Ent.runWL (wrap_i64 (by omega) (by omega)) ?_ | refine Ent.runWR (wrap_i64 (by omega) (by omega)) ?_ | refine Ent.run ?_ | refine Ent.runL ?_ | refine Ent.runR ?_ | refine Ent.drawn ?_ | refine Ent.store (by kernel_rfl) ?_ | refine Ent.resN ?_ | refine Ent.res1 ?_ | refine Ent.gop_yes ?_ | refine Ent.gop_no (by decide) ?_ | refine Ent.gop_undef ?_ | refine Ent.glt_undef ?_ | refine Ent.grc_undef ?_ | refine Ent.glt_yes ?_ | refine Ent.glt_no (by decide) ?_ | refine Ent.grc_yes ?_ | refine Ent.grc_no (by decide) ?_)
  by_cases hnd : n.null = true ∧ 0 < n.data.length
  · rw [if_pos hnd] at h
    obtain ⟨hn1, hn2⟩ := hnd
    rw [hn1]
    repeat (first | refine Ent.runW (wrap_i64 (by omega) (by omega)) ?_ | refine Ent.runWL (wrap_i64 (by omega) (by omega)) ?_ | refine Ent.runWR (wrap_i64 (by omega) (by omega)) ?_ | refine Ent.run ?_ | refine Ent.runL ?_ | refine Ent.runR ?_ | refine Ent.drawn ?_ | refine Ent.store (by kernel_rfl) ?_ | refine Ent.resN ?_ | refine Ent.res1 ?_ | refine Ent.gop_yes ?_ | refine Ent.gop_no (by decide) ?_ | refine Ent.gop_undef ?_ | refine Ent.glt_undef ?_ | refine Ent.grc_undef ?_ | refine Ent.glt_yes ?_ | refine Ent.glt_no (by decide) ?_ | refine Ent.grc_yes ?_ | refine Ent.grc_no (by decide) ?_)
    rw [decide_eq_true (show (n.data.length : Int) > 0 by omega)]
    refine Ent.ite_t ?_
    exact Ent.pick blk g1 (Ent.drop (Ent.pick blk g2 (Ent.drop h)))
  rw [if_neg hnd] at h
  have hl2 := hb.len
  have tail : ∀ b : Bool, b = false → ∀ nl : Bool, Ent w0 (blk g2 [.int .i64 n.kind, .int .i64 n.num, .bool nl, .slice A1 n.data.length c1, .slice A2 n.list.length c2] :: blk g1 [.int .i64 k] :: p) (textTail Pn K g2 (.bool b)) := by
    intro b hb2 nl
    subst hb2
    unfold textTail
    refine Ent.ite_f ?_
    repeat (first | refine Ent.runW (wrap_i64 (by omega) (by omega)) ?_ | refine Ent.runWL (wrap_i64 (by omega) (by omega)) ?_ | refine Ent.runWR (wrap_i64 (by omega) (by omega)) ?_ | refine Ent.run ?_ | refine Ent.runL ?_ | refine Ent.runR ?_ | refine Ent.drawn ?_ | refine Ent.store (by kernel_rfl) ?_ | refine Ent.resN ?_ | refine Ent.res1 ?_ | refine Ent.gop_yes ?_ | refine Ent.gop_no (by decide) ?_ | refine Ent.gop_undef ?_ | refine Ent.glt_undef ?_ | refine Ent.grc_undef ?_ | refine Ent.glt_yes ?_ | refine Ent.glt_no (by decide) ?_ | refine Ent.grc_yes ?_ | refine Ent.grc_no (by decide) ?_)
    refine Utf_spec hb.skip.skip hl fun pl => ?_
    repeat (first | refine Ent.runW (wrap_i64 (by omega) (by omega)) ?_ | refine Ent.runWL (wrap_i64 (by omega) (by omega)) ?_ | refine Ent.runWR (wrap_i64 (by omega) (by omega)) ?_ | refine Ent.run ?_ | refine Ent.runL ?_ | refine Ent.runR ?_ | refine Ent.drawn ?_ | refine Ent.store (by kernel_rfl) ?_ | refine Ent.resN ?_ | refine Ent.res1 ?_ | refine Ent.gop_yes ?_ | refine Ent.gop_no (by decide) ?_ | refine Ent.gop_undef ?_ | refine Ent.glt_undef ?_ | refine Ent.grc_undef ?_ | refine Ent.glt_yes ?_ | refine Ent.glt_no (by decide) ?_ | refine Ent.grc_yes ?_ | refine Ent.grc_no (by decide) ?_)
    cases hu : utf n.data
    · rw [if_pos hu] at h
      refine Ent.ite_t ?_
      exact Ent.pick blk g1 (Ent.drop (Ent.pick blk g2 (Ent.drop h)))
    rw [if_neg (by simp [hu])] at h
    refine Ent.ite_f ?_
    repeat (first | refine Ent.runW (wrap_i64 (by omega) (by omega)) ?_ | refine Ent.runWL (wrap_i64 (by omega) (by omega)) ?_ | refine Ent.runWR (wrap_i64 (by omega) (by omega)) ?_ | refine Ent.run ?_ | refine Ent.runL ?_ | refine Ent.runR ?_ | refine Ent.drawn ?_ | refine Ent.store (by kernel_rfl) ?_ | refine Ent.resN ?_ | refine Ent.res1 ?_ | refine Ent.gop_yes ?_ | refine Ent.gop_no (by decide) ?_ | refine Ent.gop_undef ?_ | refine Ent.glt_undef ?_ | refine Ent.grc_undef ?_ | refine Ent.glt_yes ?_ | refine Ent.glt_no (by decide) ?_ | refine Ent.grc_yes ?_ | refine Ent.grc_no (by decide) ?_)
    refine Ent.ite (fun hq => ?_) (fun hq => ?_)
    · have hq : 255 < n.data.length := by have : (255 : Int) < n.data.length := by simpa using hq
                                          omega
      rw [if_pos hq] at h
      exact Ent.pick blk g1 (Ent.drop (Ent.pick blk g2 (Ent.drop h)))
    · have hq : ¬ 255 < n.data.length := by have : ¬ (255 : Int) < n.data.length := by simpa using hq
                                            omega
      rw [if_neg hq] at h
      exact Ent.pick blk g1 (Ent.drop (Ent.pick blk g2 (Ent.drop h)))
  cases hn1 : n.null
  · repeat (first | refine Ent.runW (wrap_i64 (by omega) (by omega)) ?_ | refine Ent.runWL (wrap_i64 (by omega) (by omega)) ?_ | refine Ent.runWR (wrap_i64 (by omega) (by omega)) ?_ | refine Ent.run ?_ | refine Ent.runL ?_ | refine Ent.runR ?_ | refine Ent.drawn ?_ | refine Ent.store (by kernel_rfl) ?_ | refine Ent.resN ?_ | refine Ent.res1 ?_ | refine Ent.gop_yes ?_ | refine Ent.gop_no (by decide) ?_ | refine Ent.gop_undef ?_ | refine Ent.glt_undef ?_ | refine Ent.grc_undef ?_ | refine Ent.glt_yes ?_ | refine Ent.glt_no (by decide) ?_ | refine Ent.grc_yes ?_ | refine Ent.grc_no (by decide) ?_)
    exact tail _ rfl _
  · have hn2 : ¬ (n.data.length : Int) > 0 := fun h => hnd ⟨hn1, by omega⟩
    repeat (first | refine Ent.runW (wrap_i64 (by omega) (by omega)) ?_ | refine Ent.runWL (wrap_i64 (by omega) (by omega)) ?_ | refine Ent.runWR (wrap_i64 (by omega) (by omega)) ?_ | refine Ent.run ?_ | refine Ent.runL ?_ | refine Ent.runR ?_ | refine Ent.drawn ?_ | refine Ent.store (by kernel_rfl) ?_ | refine Ent.resN ?_ | refine Ent.res1 ?_ | refine Ent.gop_yes ?_ | refine Ent.gop_no (by decide) ?_ | refine Ent.gop_undef ?_ | refine Ent.glt_undef ?_ | refine Ent.grc_undef ?_ | refine Ent.glt_yes ?_ | refine Ent.glt_no (by decide) ?_ | refine Ent.grc_yes ?_ | refine Ent.grc_no (by decide) ?_)
    exact tail _ (decide_eq_false hn2) _
theorem blob_check {n : Nd} {k : Int} {A1 A2 : Option Addr} {c1 c2 : Nat} (hc : n.data.length ≤ 1048576) (h : Ent w0 p (K (.int .i64 (Cd.check (.blb k) n)))) :
    Ent w0 p (op PR Pn (S.fn F.schema_blob_check [.agg [.int .i64 k].toArray, .agg (ndC n A1 c1 A2 c2).toArray]) K) := by
  refine Ent.call (fun w h => enter.schema_blob_check h) ?_
  unfold W.schema_blob_check
  refine Ent.box fun g1 => ?_
  unfold ndC
  refine Ent.box fun g2 => ?_
  repeat (first | refine Ent.runW (wrap_i64 (by omega) (by omega)) ?_ | refine Ent.runWL (wrap_i64 (by omega) (by omega)) ?_ | refine Ent.runWR (wrap_i64 (by omega) (by omega)) ?_ | refine Ent.run ?_ | refine Ent.runL ?_ | refine Ent.runR ?_ | refine Ent.drawn ?_ | refine Ent.store (by kernel_rfl) ?_ | refine Ent.resN ?_ | refine Ent.res1 ?_ | refine Ent.gop_yes ?_ | refine Ent.gop_no (by decide) ?_ | refine Ent.gop_undef ?_ | refine Ent.glt_undef ?_ | refine Ent.grc_undef ?_ | refine Ent.glt_yes ?_ | refine Ent.glt_no (by decide) ?_ | refine Ent.grc_yes ?_ | refine Ent.grc_no (by decide) ?_)
  refine plain_spec (n := n) (A1 := A1) (A2 := A2) (c1 := c1) (c2 := c2) ?_
  unfold Cd.check at h
  repeat (first | refine Ent.runW (wrap_i64 (by omega) (by omega)) ?_ | refine Ent.runWL (wrap_i64 (by omega) (by omega)) ?_ | refine Ent.runWR (wrap_i64 (by omega) (by omega)) ?_ | refine Ent.run ?_ | refine Ent.runL ?_ | refine Ent.runR ?_ | refine Ent.drawn ?_ | refine Ent.store (by kernel_rfl) ?_ | refine Ent.resN ?_ | refine Ent.res1 ?_ | refine Ent.gop_yes ?_ | refine Ent.gop_no (by decide) ?_ | refine Ent.gop_undef ?_ | refine Ent.glt_undef ?_ | refine Ent.grc_undef ?_ | refine Ent.glt_yes ?_ | refine Ent.glt_no (by decide) ?_ | refine Ent.grc_yes ?_ | refine Ent.grc_no (by decide) ?_)
  cases hp : plainF n k false true (decide (k = 8)) false
  · rw [if_pos hp] at h
    refine Ent.ite_t ?_
    exact Ent.pick blk g1 (Ent.drop (Ent.pick blk g2 (Ent.drop h)))
  rw [if_neg (by simp [hp])] at h
  refine Ent.ite_f ?_
  repeat (first | refine Ent.runW (wrap_i64 (by omega) (by omega)) ?_ | refine Ent.runWL (wrap_i64 (by omega) (by omega)) ?_ | refine Ent.runWR (wrap_i64 (by omega) (by omega)) ?_ | refine Ent.run ?_ | refine Ent.runL ?_ | refine Ent.runR ?_ | refine Ent.drawn ?_ | refine Ent.store (by kernel_rfl) ?_ | refine Ent.resN ?_ | refine Ent.res1 ?_ | refine Ent.gop_yes ?_ | refine Ent.gop_no (by decide) ?_ | refine Ent.gop_undef ?_ | refine Ent.glt_undef ?_ | refine Ent.grc_undef ?_ | refine Ent.glt_yes ?_ | refine Ent.glt_no (by decide) ?_ | refine Ent.grc_yes ?_ | refine Ent.grc_no (by decide) ?_)
  by_cases hnd : n.null = true ∧ 0 < n.data.length
  · rw [if_pos hnd] at h
    obtain ⟨hn1, hn2⟩ := hnd
    rw [hn1]
    repeat (first | refine Ent.runW (wrap_i64 (by omega) (by omega)) ?_ | refine Ent.runWL (wrap_i64 (by omega) (by omega)) ?_ | refine Ent.runWR (wrap_i64 (by omega) (by omega)) ?_ | refine Ent.run ?_ | refine Ent.runL ?_ | refine Ent.runR ?_ | refine Ent.drawn ?_ | refine Ent.store (by kernel_rfl) ?_ | refine Ent.resN ?_ | refine Ent.res1 ?_ | refine Ent.gop_yes ?_ | refine Ent.gop_no (by decide) ?_ | refine Ent.gop_undef ?_ | refine Ent.glt_undef ?_ | refine Ent.grc_undef ?_ | refine Ent.glt_yes ?_ | refine Ent.glt_no (by decide) ?_ | refine Ent.grc_yes ?_ | refine Ent.grc_no (by decide) ?_)
    rw [decide_eq_true (show (n.data.length : Int) > 0 by omega)]
    refine Ent.ite_t ?_
    exact Ent.pick blk g1 (Ent.drop (Ent.pick blk g2 (Ent.drop h)))
  rw [if_neg hnd] at h
  cases hn1 : n.null
  · repeat (first | refine Ent.runW (wrap_i64 (by omega) (by omega)) ?_ | refine Ent.runWL (wrap_i64 (by omega) (by omega)) ?_ | refine Ent.runWR (wrap_i64 (by omega) (by omega)) ?_ | refine Ent.run ?_ | refine Ent.runL ?_ | refine Ent.runR ?_ | refine Ent.drawn ?_ | refine Ent.store (by kernel_rfl) ?_ | refine Ent.resN ?_ | refine Ent.res1 ?_ | refine Ent.gop_yes ?_ | refine Ent.gop_no (by decide) ?_ | refine Ent.gop_undef ?_ | refine Ent.glt_undef ?_ | refine Ent.grc_undef ?_ | refine Ent.glt_yes ?_ | refine Ent.glt_no (by decide) ?_ | refine Ent.grc_yes ?_ | refine Ent.grc_no (by decide) ?_)
    refine Ent.ite_f ?_
    exact Ent.pick blk g1 (Ent.drop (Ent.pick blk g2 (Ent.drop h)))
  · have hn2 : ¬ (n.data.length : Int) > 0 := fun h => hnd ⟨hn1, by omega⟩
    repeat (first | refine Ent.runW (wrap_i64 (by omega) (by omega)) ?_ | refine Ent.runWL (wrap_i64 (by omega) (by omega)) ?_ | refine Ent.runWR (wrap_i64 (by omega) (by omega)) ?_ | refine Ent.run ?_ | refine Ent.runL ?_ | refine Ent.runR ?_ | refine Ent.drawn ?_ | refine Ent.store (by kernel_rfl) ?_ | refine Ent.resN ?_ | refine Ent.res1 ?_ | refine Ent.gop_yes ?_ | refine Ent.gop_no (by decide) ?_ | refine Ent.gop_undef ?_ | refine Ent.glt_undef ?_ | refine Ent.grc_undef ?_ | refine Ent.glt_yes ?_ | refine Ent.glt_no (by decide) ?_ | refine Ent.grc_yes ?_ | refine Ent.grc_no (by decide) ?_)
    rw [decide_eq_false hn2]
    refine Ent.ite_f ?_
    exact Ent.pick blk g1 (Ent.drop (Ent.pick blk g2 (Ent.drop h)))
end Go.Lt
