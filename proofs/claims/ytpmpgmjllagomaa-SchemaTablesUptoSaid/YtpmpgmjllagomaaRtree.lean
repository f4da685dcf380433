/- The references' helpers for trees and tables. Conditions: none. -/
import Derived.Test.YtpmpgmjllagomaaSenc
set_option linter.unusedVariables false
set_option maxHeartbeats 4000000
set_option linter.unusedSimpArgs false
set_option maxRecDepth 100000
namespace Go.Lt
open Go
attribute [local irreducible] op gop lt glt rc grc ite' drawn also ldR
variable {w0 : World} {p : List HP} {Pn : PK} {K : Value → WP}
theorem fld_close {f : Fld} {A : Option Addr} {c : Nat} {φ : WP} (h : Ent w0 (Ow (fldD f) (fldC f A c) :: p) φ) : Ent w0 (Ow (.sl T.api_Field 5 (fldsD f.elem)) [.slice A f.elem.length c] :: p) φ := by
  cases f with
  | mk n k a b e =>
    refine Ent.imp (fun x hx => ?_) h
    refine OwP.sc rfl (OwP.sc rfl (OwP.sc rfl (OwP.sc rfl ?_)))
    refine OwP.cons (a := [_]) (b := []) ?_
    exact sep_mono (fun _ h => h) (fun _ h => ⟨rfl, h⟩) (sep_emp hx)
def TwinFOk (fs : List Fld) : Prop := ∀ (w0 : World) (p : List HP) (Pn : PK) (K : Value → WP) (A : Option Addr) (c : Nat), RdD p (.sl T.api_Field 5 (fldsD fs)) [.slice A fs.length c] → fs.length ≤ 1048576 →
  (∀ A c, Ent w0 (Ow (.sl T.api_Field 5 (fldsD fs)) [.slice A fs.length c] :: p) (K (.slice A fs.length c))) → Ent w0 p (op PR Pn (S.fn F.leatref10_TwinFields [.slice A fs.length c]) K)
theorem row_own {e sz g : Nat} {x : HL} (h : row e sz (.slice (some ⟨g, 0, none⟩) 0 0) 0 [] x) : Ow (.sl e sz []) [.slice (some ⟨g, 0, none⟩) 0 0] x :=
  ⟨_, [], pure_and rfl ⟨x, fun _ => none, h, ⟨fun _ => none, fun _ => none, ⟨rfl, fun _ => rfl⟩, fun _ => rfl, fun _ => .inl rfl, fun _ => rfl⟩, fun _ => .inr rfl, fun _ => by simp⟩⟩
theorem twinF_ok {fs : List Fld} (ih : ∀ f ∈ fs, f.elem.length ≤ 1048576 ∧ TwinFOk f.elem) : TwinFOk fs := fun w0 p Pn K A c hf hl hk => by
  refine Ent.call (fun w h => enter.leatref10_TwinFields h) ?_
  unfold W.leatref10_TwinFields
  refine Ent.bsliceR (sz := 5) (by omega) rfl fun g => ?_
  refine Ent.L2 (σ := Nat × Option Addr × Nat) (fun s => .slice s.2.1 s.1 s.2.2) (fun s => .int .i64 s.1)
    (fun s => pure' (s.1 ≤ fs.length) :: Ow (.sl T.api_Field 5 (fldsD (fs.take s.1))) [.slice s.2.1 s.1 s.2.2] :: p) (fun s => fs.length - s.1) (0, some ⟨g, 0, none⟩, 0) (fun w hs => Sat.add (a := pure' _) ⟨Nat.zero_le _, fun _ => rfl⟩ (hs.imp fun x hx => row_own hx)) ?_
  rintro ⟨i, B, d⟩ k hrec
  refine Ent.pure fun hi => ?_
  simp only at hi hrec ⊢
  repeat (first | refine Ent.runW (wrap_i64 (by omega) (by omega)) ?_ | refine Ent.runWL (wrap_i64 (by omega) (by omega)) ?_ | refine Ent.runWR (wrap_i64 (by omega) (by omega)) ?_ | refine Ent.run ?_ | refine Ent.runL ?_ | refine Ent.runR ?_ | refine Ent.drawn ?_ | refine Ent.store (by kernel_rfl) ?_ | refine Ent.resN ?_ | refine Ent.res1 ?_ | refine Ent.gop_yes ?_ | refine Ent.gop_no (by decide) ?_ | refine Ent.gop_undef ?_ | refine Ent.glt_undef ?_ | refine Ent.grc_undef ?_ | refine Ent.glt_yes ?_ | refine Ent.glt_no (by decide) ?_ | refine Ent.grc_yes ?_ | refine Ent.grc_no (by decide) ?_)
  refine Ent.ite (fun hq => ?_) (fun hq => ?_)
  · have hlt : i < fs.length := by simpa using hq
    obtain ⟨b2, o2, cs, hia, hcs, hcl2, hld⟩ := RdD.index (P := PR) (t := T.L_api_Field) (k := .i64) (i := i) hf (by omega) (by omega) (fldsD_get hlt)
    obtain ⟨A3, c3, rfl, hel⟩ := fld_open hcs
    have hld0 : LoadAt p ⟨b2, o2 + 0, none⟩ (.string fs[i].name) := ⟨fun w0 w hs => (hld.out w0 w hs).2 0 _ rfl⟩
    have hld1 : LoadAt p ⟨b2, o2 + 1, none⟩ (.int .i64 fs[i].kind) := ⟨fun w0 w hs => (hld.out w0 w hs).2 1 _ rfl⟩
    have hld2 : LoadAt p ⟨b2, o2 + 2, none⟩ (.int .i64 fs[i].frm) := ⟨fun w0 w hs => (hld.out w0 w hs).2 2 _ rfl⟩
    have hld3 : LoadAt p ⟨b2, o2 + 3, none⟩ (.int .i64 fs[i].to) := ⟨fun w0 w hs => (hld.out w0 w hs).2 3 _ rfl⟩
    have hld4 : LoadAt p ⟨b2, o2 + 4, none⟩ (.slice A3 fs[i].elem.length c3) := ⟨fun w0 w hs => (hld.out w0 w hs).2 4 _ rfl⟩
    repeat (first | refine Ent.runW (wrap_i64 (by omega) (by omega)) ?_ | refine Ent.runWL (wrap_i64 (by omega) (by omega)) ?_ | refine Ent.runWR (wrap_i64 (by omega) (by omega)) ?_ | refine Ent.run ?_ | refine Ent.runL ?_ | refine Ent.runR ?_ | refine Ent.drawn ?_ | refine Ent.store (by kernel_rfl) ?_ | refine Ent.resN ?_ | refine Ent.res1 ?_ | refine Ent.gop_yes ?_ | refine Ent.gop_no (by decide) ?_ | refine Ent.gop_undef ?_ | refine Ent.glt_undef ?_ | refine Ent.grc_undef ?_ | refine Ent.glt_yes ?_ | refine Ent.glt_no (by decide) ?_ | refine Ent.grc_yes ?_ | refine Ent.grc_no (by decide) ?_)
    refine Ent.atL (fun w _ => hia w) ?_
    repeat (first | refine Ent.runW (wrap_i64 (by omega) (by omega)) ?_ | refine Ent.runWL (wrap_i64 (by omega) (by omega)) ?_ | refine Ent.runWR (wrap_i64 (by omega) (by omega)) ?_ | refine Ent.run ?_ | refine Ent.runL ?_ | refine Ent.runR ?_ | refine Ent.drawn ?_ | refine Ent.store (by kernel_rfl) ?_ | refine Ent.resN ?_ | refine Ent.res1 ?_ | refine Ent.gop_yes ?_ | refine Ent.gop_no (by decide) ?_ | refine Ent.gop_undef ?_ | refine Ent.glt_undef ?_ | refine Ent.grc_undef ?_ | refine Ent.glt_yes ?_ | refine Ent.glt_no (by decide) ?_ | refine Ent.grc_yes ?_ | refine Ent.grc_no (by decide) ?_)
    refine Ent.atL (fun w _ => hia w) ?_
    repeat (first | refine Ent.runW (wrap_i64 (by omega) (by omega)) ?_ | refine Ent.runWL (wrap_i64 (by omega) (by omega)) ?_ | refine Ent.runWR (wrap_i64 (by omega) (by omega)) ?_ | refine Ent.run ?_ | refine Ent.runL ?_ | refine Ent.runR ?_ | refine Ent.drawn ?_ | refine Ent.store (by kernel_rfl) ?_ | refine Ent.resN ?_ | refine Ent.res1 ?_ | refine Ent.gop_yes ?_ | refine Ent.gop_no (by decide) ?_ | refine Ent.gop_undef ?_ | refine Ent.glt_undef ?_ | refine Ent.grc_undef ?_ | refine Ent.glt_yes ?_ | refine Ent.glt_no (by decide) ?_ | refine Ent.grc_yes ?_ | refine Ent.grc_no (by decide) ?_)
    refine Ent.atL (fun w _ => hia w) ?_
    repeat (first | refine Ent.runW (wrap_i64 (by omega) (by omega)) ?_ | refine Ent.runWL (wrap_i64 (by omega) (by omega)) ?_ | refine Ent.runWR (wrap_i64 (by omega) (by omega)) ?_ | refine Ent.run ?_ | refine Ent.runL ?_ | refine Ent.runR ?_ | refine Ent.drawn ?_ | refine Ent.store (by kernel_rfl) ?_ | refine Ent.resN ?_ | refine Ent.res1 ?_ | refine Ent.gop_yes ?_ | refine Ent.gop_no (by decide) ?_ | refine Ent.gop_undef ?_ | refine Ent.glt_undef ?_ | refine Ent.grc_undef ?_ | refine Ent.glt_yes ?_ | refine Ent.glt_no (by decide) ?_ | refine Ent.grc_yes ?_ | refine Ent.grc_no (by decide) ?_)
    refine Ent.atL (fun w _ => hia w) ?_
    repeat (first | refine Ent.runW (wrap_i64 (by omega) (by omega)) ?_ | refine Ent.runWL (wrap_i64 (by omega) (by omega)) ?_ | refine Ent.runWR (wrap_i64 (by omega) (by omega)) ?_ | refine Ent.run ?_ | refine Ent.runL ?_ | refine Ent.runR ?_ | refine Ent.drawn ?_ | refine Ent.store (by kernel_rfl) ?_ | refine Ent.resN ?_ | refine Ent.res1 ?_ | refine Ent.gop_yes ?_ | refine Ent.gop_no (by decide) ?_ | refine Ent.gop_undef ?_ | refine Ent.glt_undef ?_ | refine Ent.grc_undef ?_ | refine Ent.glt_yes ?_ | refine Ent.glt_no (by decide) ?_ | refine Ent.grc_yes ?_ | refine Ent.grc_no (by decide) ?_)
    refine Ent.atL (fun w _ => hia w) ?_
    repeat (first | refine Ent.runW (wrap_i64 (by omega) (by omega)) ?_ | refine Ent.runWL (wrap_i64 (by omega) (by omega)) ?_ | refine Ent.runWR (wrap_i64 (by omega) (by omega)) ?_ | refine Ent.run ?_ | refine Ent.runL ?_ | refine Ent.runR ?_ | refine Ent.drawn ?_ | refine Ent.store (by kernel_rfl) ?_ | refine Ent.resN ?_ | refine Ent.res1 ?_ | refine Ent.gop_yes ?_ | refine Ent.gop_no (by decide) ?_ | refine Ent.gop_undef ?_ | refine Ent.glt_undef ?_ | refine Ent.grc_undef ?_ | refine Ent.glt_yes ?_ | refine Ent.glt_no (by decide) ?_ | refine Ent.grc_yes ?_ | refine Ent.grc_no (by decide) ?_)
    have ihx := ih fs[i] (List.getElem_mem hlt)
    refine ihx.2 w0 _ _ _ A3 c3 hel.skip ihx.1 fun A4 c4 => ?_
    refine fld_close ?_
    repeat (first | refine Ent.runW (wrap_i64 (by omega) (by omega)) ?_ | refine Ent.runWL (wrap_i64 (by omega) (by omega)) ?_ | refine Ent.runWR (wrap_i64 (by omega) (by omega)) ?_ | refine Ent.run ?_ | refine Ent.runL ?_ | refine Ent.runR ?_ | refine Ent.drawn ?_ | refine Ent.store (by kernel_rfl) ?_ | refine Ent.resN ?_ | refine Ent.res1 ?_ | refine Ent.gop_yes ?_ | refine Ent.gop_no (by decide) ?_ | refine Ent.gop_undef ?_ | refine Ent.glt_undef ?_ | refine Ent.grc_undef ?_ | refine Ent.glt_yes ?_ | refine Ent.glt_no (by decide) ?_ | refine Ent.grc_yes ?_ | refine Ent.grc_no (by decide) ?_)
    refine Ent.atR (fun w _ => hia w) ?_
    repeat (first | refine Ent.runW (wrap_i64 (by omega) (by omega)) ?_ | refine Ent.runWL (wrap_i64 (by omega) (by omega)) ?_ | refine Ent.runWR (wrap_i64 (by omega) (by omega)) ?_ | refine Ent.run ?_ | refine Ent.runL ?_ | refine Ent.runR ?_ | refine Ent.drawn ?_ | refine Ent.store (by kernel_rfl) ?_ | refine Ent.resN ?_ | refine Ent.res1 ?_ | refine Ent.gop_yes ?_ | refine Ent.gop_no (by decide) ?_ | refine Ent.gop_undef ?_ | refine Ent.glt_undef ?_ | refine Ent.grc_undef ?_ | refine Ent.glt_yes ?_ | refine Ent.glt_no (by decide) ?_ | refine Ent.grc_yes ?_ | refine Ent.grc_no (by decide) ?_)
    refine Ent.atR (fun w _ => hia w) ?_
    repeat (first | refine Ent.runW (wrap_i64 (by omega) (by omega)) ?_ | refine Ent.runWL (wrap_i64 (by omega) (by omega)) ?_ | refine Ent.runWR (wrap_i64 (by omega) (by omega)) ?_ | refine Ent.run ?_ | refine Ent.runL ?_ | refine Ent.runR ?_ | refine Ent.drawn ?_ | refine Ent.store (by kernel_rfl) ?_ | refine Ent.resN ?_ | refine Ent.res1 ?_ | refine Ent.gop_yes ?_ | refine Ent.gop_no (by decide) ?_ | refine Ent.gop_undef ?_ | refine Ent.glt_undef ?_ | refine Ent.grc_undef ?_ | refine Ent.glt_yes ?_ | refine Ent.glt_no (by decide) ?_ | refine Ent.grc_yes ?_ | refine Ent.grc_no (by decide) ?_)
    refine Ent.atR (fun w _ => hia w) ?_
    repeat (first | refine Ent.runW (wrap_i64 (by omega) (by omega)) ?_ | refine Ent.runWL (wrap_i64 (by omega) (by omega)) ?_ | refine Ent.runWR (wrap_i64 (by omega) (by omega)) ?_ | refine Ent.run ?_ | refine Ent.runL ?_ | refine Ent.runR ?_ | refine Ent.drawn ?_ | refine Ent.store (by kernel_rfl) ?_ | refine Ent.resN ?_ | refine Ent.res1 ?_ | refine Ent.gop_yes ?_ | refine Ent.gop_no (by decide) ?_ | refine Ent.gop_undef ?_ | refine Ent.glt_undef ?_ | refine Ent.grc_undef ?_ | refine Ent.glt_yes ?_ | refine Ent.glt_no (by decide) ?_ | refine Ent.grc_yes ?_ | refine Ent.grc_no (by decide) ?_)
    refine Ent.atR (fun w _ => hia w) ?_
    repeat (first | refine Ent.runW (wrap_i64 (by omega) (by omega)) ?_ | refine Ent.runWL (wrap_i64 (by omega) (by omega)) ?_ | refine Ent.runWR (wrap_i64 (by omega) (by omega)) ?_ | refine Ent.run ?_ | refine Ent.runL ?_ | refine Ent.runR ?_ | refine Ent.drawn ?_ | refine Ent.store (by kernel_rfl) ?_ | refine Ent.resN ?_ | refine Ent.res1 ?_ | refine Ent.gop_yes ?_ | refine Ent.gop_no (by decide) ?_ | refine Ent.gop_undef ?_ | refine Ent.glt_undef ?_ | refine Ent.grc_undef ?_ | refine Ent.glt_yes ?_ | refine Ent.glt_no (by decide) ?_ | refine Ent.grc_yes ?_ | refine Ent.grc_no (by decide) ?_)
    refine Ent.bslice fun g5 => ?_
    repeat (first | refine Ent.runW (wrap_i64 (by omega) (by omega)) ?_ | refine Ent.runWL (wrap_i64 (by omega) (by omega)) ?_ | refine Ent.runWR (wrap_i64 (by omega) (by omega)) ?_ | refine Ent.run ?_ | refine Ent.runL ?_ | refine Ent.runR ?_ | refine Ent.drawn ?_ | refine Ent.store (by kernel_rfl) ?_ | refine Ent.resN ?_ | refine Ent.res1 ?_ | refine Ent.gop_yes ?_ | refine Ent.gop_no (by decide) ?_ | refine Ent.gop_undef ?_ | refine Ent.glt_undef ?_ | refine Ent.grc_undef ?_ | refine Ent.glt_yes ?_ | refine Ent.glt_no (by decide) ?_ | refine Ent.grc_yes ?_ | refine Ent.grc_no (by decide) ?_)
    have htl : (fldsD (fs.take i)).length = i := by rw [fldsD_length]; simp; omega
    have e : Ow (fldD fs[i]) (fldC fs[i] A4 c4) = Ow (fldD fs[i]) [.string fs[i].name, .int .i64 fs[i].kind, .int .i64 fs[i].frm, .int .i64 fs[i].to, .slice A4 fs[i].elem.length c4] := rfl
    rw [e]
    refine Ent.appendD (sz := 5) rfl rfl (by omega) (by rw [htl]; omega) fun A5 c5 => ?_
    rw [htl]
    repeat (first | refine Ent.runW (wrap_i64 (by omega) (by omega)) ?_ | refine Ent.runWL (wrap_i64 (by omega) (by omega)) ?_ | refine Ent.runWR (wrap_i64 (by omega) (by omega)) ?_ | refine Ent.run ?_ | refine Ent.runL ?_ | refine Ent.runR ?_ | refine Ent.drawn ?_ | refine Ent.store (by kernel_rfl) ?_ | refine Ent.resN ?_ | refine Ent.res1 ?_ | refine Ent.gop_yes ?_ | refine Ent.gop_no (by decide) ?_ | refine Ent.gop_undef ?_ | refine Ent.glt_undef ?_ | refine Ent.grc_undef ?_ | refine Ent.glt_yes ?_ | refine Ent.glt_no (by decide) ?_ | refine Ent.grc_yes ?_ | refine Ent.grc_no (by decide) ?_)
    have := hrec (i + 1, A5, c5) (by simp only; omega)
    simp only [Int.natCast_add, Int.natCast_one] at this
    rw [List.take_succ_eq_append_getElem hlt, fldsD_snoc] at this
    exact Ent.add ⟨hlt, fun _ => rfl⟩ this
  · have hlt : i = fs.length := by
      have : ¬ (i : Int) < fs.length := by simpa using hq
      omega
    subst hlt
    rw [List.take_of_length_le (by omega)]
    exact hk B d
mutual
theorem twinF1 : ∀ f : Fld, f.ok → f.elem.length ≤ 1048576 ∧ TwinFOk f.elem
  | .mk n k a b e, h => by
    cases h with
    | mk h1 h2 h3 h4 h5 h6 => exact ⟨h5, twinF_ok (twinFs e h6)⟩
theorem twinFs : ∀ l : List Fld, (∀ x ∈ l, x.ok) → ∀ x ∈ l, x.elem.length ≤ 1048576 ∧ TwinFOk x.elem
  | [], _, x, hx => by cases hx
  | f :: r, h, x, hx => by
    have hf := twinF1 f (h f List.mem_cons_self)
    have hr := twinFs r (fun y hy => h y (List.mem_cons_of_mem _ hy))
    rcases List.mem_cons.1 hx with h' | h'
    · exact h' ▸ hf
    · exact hr x h'
end
theorem TwinFields_spec {fs : List Fld} (h : ∀ x ∈ fs, x.ok) : TwinFOk fs := twinF_ok (twinFs fs h)
/-! ### Twin of a tree -/
/-- Lists that a machine can bear. -/
inductive Nd.sm : Nd → Prop
  | mk {k n : Int} {b : Bool} {d : List UInt8} {l : List Nd} (h1 : d.length ≤ 1048576) (h2 : l.length ≤ 1048576) (h3 : ∀ x ∈ l, Nd.sm x) : Nd.sm (.mk k n b d l)
def TwinOk (n : Nd) : Prop := ∀ (w0 : World) (p : List HP) (Pn : PK) (K : Value → WP) (cs : List Value), RdD p (ndD n) cs →
  (∀ A1 c1 A2 c2, Ent w0 (Ow (ndD n) (ndC n A1 c1 A2 c2) :: p) (K (.agg (ndC n A1 c1 A2 c2).toArray))) → Ent w0 p (op PR Pn (S.fn F.leatref10_Twin [.agg cs.toArray]) K)
theorem twin_ok {n : Nd} (h1 : n.data.length ≤ 1048576) (h2 : n.list.length ≤ 1048576) (ih : ∀ x ∈ n.list, TwinOk x) : TwinOk n := fun w0 p Pn K cs hn hk => by
  obtain ⟨A1, c1, A2, c2, rfl, hb, hl⟩ := nd_open hn
  refine Ent.call (fun w h => enter.leatref10_Twin h) ?_
  unfold W.leatref10_Twin
  unfold ndC at *
  refine Ent.box fun g1 => Ent.alloc fun g2 => ?_
  refine Ent.bsliceR (sz := 5) (by omega) rfl fun g => ?_
  refine Ent.L2 (σ := Nat × Option Addr × Nat) (fun s => .slice s.2.1 s.1 s.2.2) (fun s => .int .i64 s.1)
    (fun s => pure' (s.1 ≤ n.list.length) :: Ow (.sl T.api_Node 5 (ndsD (n.list.take s.1))) [.slice s.2.1 s.1 s.2.2] :: blk g2 [.int .i64 0, .int .i64 0, .bool false, .slice none 0 0, .slice none 0 0] :: blk g1 [.int .i64 n.kind, .int .i64 n.num, .bool n.null, .slice A1 n.data.length c1, .slice A2 n.list.length c2] :: p) (fun s => n.list.length - s.1) (0, some ⟨g, 0, none⟩, 0) (fun w hs => Sat.add (a := pure' _) ⟨Nat.zero_le _, fun _ => rfl⟩ (hs.imp fun x hx => row_own hx)) ?_
  rintro ⟨i, B, d⟩ k hrec
  refine Ent.pure fun hi => ?_
  simp only at hi hrec ⊢
  repeat (first | refine Ent.runW (wrap_i64 (by omega) (by omega)) ?_ | refine Ent.runWL (wrap_i64 (by omega) (by omega)) ?_ | refine Ent.runWR (wrap_i64 (by omega) (by omega)) ?_ | refine Ent.run ?_ | refine Ent.runL ?_ | refine Ent.runR ?_ | refine Ent.drawn ?_ | refine Ent.store (by kernel_rfl) ?_ | refine Ent.resN ?_ | refine Ent.res1 ?_ | refine Ent.gop_yes ?_ | refine Ent.gop_no (by decide) ?_ | refine Ent.gop_undef ?_ | refine Ent.glt_undef ?_ | refine Ent.grc_undef ?_ | refine Ent.glt_yes ?_ | refine Ent.glt_no (by decide) ?_ | refine Ent.grc_yes ?_ | refine Ent.grc_no (by decide) ?_)
  refine Ent.ite (fun hq => ?_) (fun hq => ?_)
  · have hlt : i < n.list.length := by simpa using hq
    obtain ⟨b2, o2, cs, hia, hcs, hcl2, hld⟩ := RdD.index (P := PR) (t := T.L_api_Node) (k := .i64) (i := i) hl (by omega) (by omega) (ndsD_get hlt)
    obtain ⟨A3, c3, A4, c4, rfl, _, _⟩ := nd_open hcs
    haveI := hld
    repeat (first | refine Ent.runW (wrap_i64 (by omega) (by omega)) ?_ | refine Ent.runWL (wrap_i64 (by omega) (by omega)) ?_ | refine Ent.runWR (wrap_i64 (by omega) (by omega)) ?_ | refine Ent.run ?_ | refine Ent.runL ?_ | refine Ent.runR ?_ | refine Ent.drawn ?_ | refine Ent.store (by kernel_rfl) ?_ | refine Ent.resN ?_ | refine Ent.res1 ?_ | refine Ent.gop_yes ?_ | refine Ent.gop_no (by decide) ?_ | refine Ent.gop_undef ?_ | refine Ent.glt_undef ?_ | refine Ent.grc_undef ?_ | refine Ent.glt_yes ?_ | refine Ent.glt_no (by decide) ?_ | refine Ent.grc_yes ?_ | refine Ent.grc_no (by decide) ?_)
    refine Ent.at_ (fun w _ => hia w) ?_
    repeat (first | refine Ent.runW (wrap_i64 (by omega) (by omega)) ?_ | refine Ent.runWL (wrap_i64 (by omega) (by omega)) ?_ | refine Ent.runWR (wrap_i64 (by omega) (by omega)) ?_ | refine Ent.run ?_ | refine Ent.runL ?_ | refine Ent.runR ?_ | refine Ent.drawn ?_ | refine Ent.store (by kernel_rfl) ?_ | refine Ent.resN ?_ | refine Ent.res1 ?_ | refine Ent.gop_yes ?_ | refine Ent.gop_no (by decide) ?_ | refine Ent.gop_undef ?_ | refine Ent.glt_undef ?_ | refine Ent.grc_undef ?_ | refine Ent.glt_yes ?_ | refine Ent.glt_no (by decide) ?_ | refine Ent.grc_yes ?_ | refine Ent.grc_no (by decide) ?_)
    refine ih _ (List.getElem_mem hlt) w0 _ _ _ _ hcs.keep fun A5 c5 A6 c6 => ?_
    unfold ndC
    refine Ent.bslice fun g5 => ?_
    have htl : (ndsD (n.list.take i)).length = i := by rw [ndsD_length]; simp; omega
    refine Ent.appendD (sz := 5) rfl rfl (by omega) (by rw [htl]; omega) fun A7 c7 => ?_
    rw [htl]
    repeat (first | refine Ent.runW (wrap_i64 (by omega) (by omega)) ?_ | refine Ent.runWL (wrap_i64 (by omega) (by omega)) ?_ | refine Ent.runWR (wrap_i64 (by omega) (by omega)) ?_ | refine Ent.run ?_ | refine Ent.runL ?_ | refine Ent.runR ?_ | refine Ent.drawn ?_ | refine Ent.store (by kernel_rfl) ?_ | refine Ent.resN ?_ | refine Ent.res1 ?_ | refine Ent.gop_yes ?_ | refine Ent.gop_no (by decide) ?_ | refine Ent.gop_undef ?_ | refine Ent.glt_undef ?_ | refine Ent.grc_undef ?_ | refine Ent.glt_yes ?_ | refine Ent.glt_no (by decide) ?_ | refine Ent.grc_yes ?_ | refine Ent.grc_no (by decide) ?_)
    have := hrec (i + 1, A7, c7) (by simp only; omega)
    simp only [Int.natCast_add, Int.natCast_one] at this
    rw [List.take_succ_eq_append_getElem hlt, ndsD_snoc] at this
    exact Ent.add ⟨hlt, fun _ => rfl⟩ this
  · have hlt : i = n.list.length := by
      have : ¬ (i : Int) < n.list.length := by simpa using hq
      omega
    subst hlt
    rw [List.take_of_length_le (by omega)]
    repeat (first | refine Ent.runW (wrap_i64 (by omega) (by omega)) ?_ | refine Ent.runWL (wrap_i64 (by omega) (by omega)) ?_ | refine Ent.runWR (wrap_i64 (by omega) (by omega)) ?_ | refine Ent.run ?_ | refine Ent.runL ?_ | refine Ent.runR ?_ | refine Ent.drawn ?_ | refine Ent.store (by kernel_rfl) ?_ | refine Ent.resN ?_ | refine Ent.res1 ?_ | refine Ent.gop_yes ?_ | refine Ent.gop_no (by decide) ?_ | refine Ent.gop_undef ?_ | refine Ent.glt_undef ?_ | refine Ent.grc_undef ?_ | refine Ent.glt_yes ?_ | refine Ent.glt_no (by decide) ?_ | refine Ent.grc_yes ?_ | refine Ent.grc_no (by decide) ?_)
    refine Copy_spec hb.keep (by omega) fun A5 c5 => ?_
    refine Ent.take (Ow (.sl T.api_Node 5 (ndsD n.list)) [.slice B n.list.length d]) (Ent.take (ownB T.u8 (.slice A5 n.data.length c5) n.data) (nd_close ?_))
    unfold ndC
    repeat (first | refine Ent.runW (wrap_i64 (by omega) (by omega)) ?_ | refine Ent.runWL (wrap_i64 (by omega) (by omega)) ?_ | refine Ent.runWR (wrap_i64 (by omega) (by omega)) ?_ | refine Ent.run ?_ | refine Ent.runL ?_ | refine Ent.runR ?_ | refine Ent.drawn ?_ | refine Ent.store (by kernel_rfl) ?_ | refine Ent.resN ?_ | refine Ent.res1 ?_ | refine Ent.gop_yes ?_ | refine Ent.gop_no (by decide) ?_ | refine Ent.gop_undef ?_ | refine Ent.glt_undef ?_ | refine Ent.grc_undef ?_ | refine Ent.glt_yes ?_ | refine Ent.glt_no (by decide) ?_ | refine Ent.grc_yes ?_ | refine Ent.grc_no (by decide) ?_)
    exact Ent.keep (hk A5 c5 B d)
mutual
theorem twin1 : ∀ n : Nd, n.sm → TwinOk n
  | .mk k n b d l, h => by
    cases h with
    | mk h1 h2 h3 => exact twin_ok h1 h2 (twins l h3)
theorem twins : ∀ l : List Nd, (∀ x ∈ l, x.sm) → ∀ x ∈ l, TwinOk x
  | [], _, x, hx => by cases hx
  | f :: r, h, x, hx => by
    have hf := twin1 f (h f List.mem_cons_self)
    have hr := twins r (fun y hy => h y (List.mem_cons_of_mem _ hy))
    rcases List.mem_cons.1 hx with h' | h'
    · exact h' ▸ hf
    · exact hr x h'
end
end Go.Lt
