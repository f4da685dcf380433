/- The laws of layer 10: alive, and SchemaOnly's walk. Conditions: none. -/
import Derived.Test.YtpmpgmjllagomaaOnly
import Derived.Test.YtpmpgmjllagomaaRalikeF
set_option linter.unusedVariables false
set_option maxHeartbeats 4000000
set_option linter.unusedSimpArgs false
set_option maxRecDepth 100000
namespace Go.Lt
open Go
attribute [local irreducible] op gop lt glt rc grc ite' drawn also ldR
def pairF : List Fld := [.mk ⟨#[97]⟩ 2 0 3 [], .mk ⟨#[98]⟩ 6 1 1 []]
def nodeF : Nd := .mk 10 0 false [] [.mk 2 7 false [] [], .mk 6 0 true [] []]
theorem hcell_blk {g j : Nat} {cs : List Value} {t : TypeId} {u : Value} (h : cs[j]? = some u) : hcell (one g (.cells cs.toArray t (0, 0))) ⟨g, j, none⟩ u := ⟨cs.toArray, t, (0, 0), by simp [one], rfl, by simpa using h⟩
theorem RdP.sc {C : Addr → Value → Prop} {v : Value} {r : List D} {b : List Value} (h1 : v.oneCell' = true) (h : RdP C r b) : RdP C (.sc v :: r) (v :: b) := ⟨[v], b, rfl, ⟨rfl, h1⟩, h⟩
theorem RdP.cons1 {C : Addr → Value → Prop} {d : D} {v : Value} {r : List D} {b : List Value} (h1 : Rd C d [v]) (h : RdP C r b) : RdP C (d :: r) (v :: b) := ⟨[v], b, rfl, h1, h⟩
theorem Rd_nil {C : Addr → Value → Prop} {e sz : Nat} : Rd C (.sl e sz []) [.slice none 0 0] := ⟨none, 0, rfl, by simp, by simp [maxLen], .inl rfl⟩
theorem Rd_fld {C : Addr → Value → Prop} {f : Fld} {A : Option Addr} {c : Nat} (h : Rd C (.sl T.api_Field 5 (fldsD f.elem)) [.slice A f.elem.length c]) : Rd C (fldD f) (fldC f A c) := by
  cases f with
  | mk n k a b e => exact RdP.sc rfl (RdP.sc rfl (RdP.sc rfl (RdP.sc rfl (RdP.cons1 h rfl))))
theorem Rd_nd {C : Addr → Value → Prop} {n : Nd} {A A' : Option Addr} {c c' : Nat} (h : Rd C (bytesD T.u8 n.data) [.slice A n.data.length c]) (h' : Rd C (.sl T.api_Node 5 (ndsD n.list)) [.slice A' n.list.length c']) : Rd C (ndD n) (ndC n A c A' c') := by
  cases n with
  | mk k m b d l => exact RdP.sc rfl (RdP.sc rfl (RdP.sc rfl (RdP.cons1 h (RdP.cons1 h' rfl))))
variable {w0 : World} {p : List HP} {Pn : PK} {K : Value → WP}
theorem pair_spec (hk : ∀ A c x, RdD (exact x :: p) (.sl T.api_Field 5 (fldsD pairF)) [.slice A pairF.length c] → Ent w0 (exact x :: p) (K (.slice A pairF.length c))) : Ent w0 p (op PR Pn (S.fn F.leatlaw10_pair []) K) := by
  refine Ent.call (fun w h => enter.leatlaw10_pair h) ?_
  unfold W.leatlaw10_pair
  repeat (first | refine Ent.runW (wrap_i64 (by omega) (by omega)) ?_ | refine Ent.runWL (wrap_i64 (by omega) (by omega)) ?_ | refine Ent.runWR (wrap_i64 (by omega) (by omega)) ?_ | refine Ent.run ?_ | refine Ent.runL ?_ | refine Ent.runR ?_ | refine Ent.drawn ?_ | refine Ent.store (by kernel_rfl) ?_ | refine Ent.resN ?_ | refine Ent.res1 ?_ | refine Ent.gop_yes ?_ | refine Ent.gop_no (by decide) ?_ | refine Ent.gop_undef ?_ | refine Ent.glt_undef ?_ | refine Ent.grc_undef ?_ | refine Ent.glt_yes ?_ | refine Ent.glt_no (by decide) ?_ | refine Ent.grc_yes ?_ | refine Ent.grc_no (by decide) ?_)
  refine Ent.bslice fun g => ?_
  refine Ent.freeze fun x hx => ?_
  obtain ⟨t, rfl⟩ := hx
  refine hk _ _ _ (RdD.here ?_)
  refine ⟨_, 2, rfl, by simp [fldsD, pairF], by simp [maxLen], .inr ⟨g, 0, rfl, ?_⟩⟩
  refine ⟨⟨_, Rd_fld (f := .mk ⟨#[97]⟩ 2 0 3 []) (A := none) (c := 0) Rd_nil, rfl, fun j u hu => ?_⟩, ⟨_, Rd_fld (f := .mk ⟨#[98]⟩ 6 1 1 []) (A := none) (c := 0) Rd_nil, rfl, fun j u hu => ?_⟩, trivial⟩
  · refine hcell_blk ?_
    rw [Nat.zero_add]
    have hj := (List.getElem?_eq_some_iff.1 hu).1
    simp only [fldC, List.length_cons, List.length_nil] at hj
    rcases (show j = 0 ∨ j = 1 ∨ j = 2 ∨ j = 3 ∨ j = 4 by omega) with rfl | rfl | rfl | rfl | rfl <;> exact hu
  · refine hcell_blk ?_
    have hj := (List.getElem?_eq_some_iff.1 hu).1
    simp only [fldC, List.length_cons, List.length_nil] at hj
    rcases (show j = 0 ∨ j = 1 ∨ j = 2 ∨ j = 3 ∨ j = 4 by omega) with rfl | rfl | rfl | rfl | rfl <;> exact hu
theorem pair_tab : tabOk 1 pairF := by
  refine ⟨by decide, by decide, by decide, by decide, by decide, ?_⟩
  refine ⟨(good_eq _ _ _ _ _ _).2 ⟨by decide, .inl (by decide)⟩, (good_eq _ _ _ _ _ _).2 ⟨by decide, .inl (by decide)⟩, trivial⟩
theorem pair_begin : beginE pairF 1 = 0 := by
  unfold beginE tabE
  rw [if_neg (by decide), if_pos pair_tab]
theorem pair_whole : wholeF 1 pairF = [.num 2, .txt 6] := by simp [wholeF, pairF, hereF, compileF, Fld.frm, Fld.to]
theorem pair_enc : encF pairF 1 nodeF = .ok [0, 7, 255, 255] := by
  unfold encF
  rw [pair_begin, pair_whole]
  rfl
theorem pair_dec : decF pairF 1 [0, 7, 255, 255] = .ok nodeF := by
  unfold decF
  rw [pair_begin, pair_whole]
  rfl
theorem pair_dec2 : decF pairF 1 [0, 7, 255, 254] = .error 5 := by
  unfold decF
  rw [pair_begin, pair_whole]
  rfl
end Go.Lt
