/- The reference's Decode. Conditions: none. -/
import Derived.Test.YtpmpgmjllagomaaRenc3
set_option linter.unusedVariables false
set_option maxHeartbeats 4000000
set_option linter.unusedSimpArgs false
set_option maxRecDepth 100000
namespace Go.Lt
open Go
attribute [local irreducible] op gop lt glt rc grc ite' drawn also ldR
/-- What a reading of the reference answers. -/
def RGetK (w0 : World) (p : List HP) (K : Value → WP) (len : Nat) (r : Except Int (Nd × Nat)) : Prop :=
  (∀ e, r = .error e → Ent w0 p (K (.tuple [.agg (zeroC 0).toArray, .int .i64 0, .int .i64 e].toArray))) ∧
  (∀ n at', r = .ok (n, at') → at' ≤ len → ∀ A1 c1 A2 c2, Ent w0 (Ow (ndD n) (ndC n A1 c1 A2 c2) :: p) (K (.tuple [.agg (ndC n A1 c1 A2 c2).toArray, .int .i64 (at' : Nat), .int .i64 0].toArray)))
def ReadOk (f : Fld) : Prop := ∀ (w0 : World) (p : List HP) (Pn : PK) (K : Value → WP) (A : Option Addr) (c : Nat) (v : Int) (bs : List UInt8) (u : Value) (at_ : Nat), RdD p (fldD f) (fldC f A c) → RdB p u bs → bs.length ≤ 1048576 → at_ ≤ bs.length →
  RGetK w0 p K bs.length (Cd.get bs (compileF v f) at_) → Ent w0 p (op PR Pn (S.fn F.leatref10_read [.agg (fldC f A c).toArray, .int .i64 v, u, .int .i64 at_]) K)
def RPartsOk (fs : List Fld) : Prop := ∀ (w0 : World) (p : List HP) (Pn : PK) (K : Value → WP) (A : Option Addr) (c : Nat) (v : Int) (bs : List UInt8) (u : Value) (at_ : Nat), RdD p (.sl T.api_Field 5 (fldsD fs)) [.slice A fs.length c] → fs.length ≤ 16 → RdB p u bs → bs.length ≤ 1048576 → at_ ≤ bs.length →
  RGetK w0 p K bs.length (Cd.get bs (.rcd (wholeF v fs)) at_) → Ent w0 p (op PR Pn (S.fn F.leatref10_readParts [.slice A fs.length c, .int .i64 v, u, .int .i64 at_]) K)
theorem getF_le {c : Cd} {bs : List UInt8} (hl : bs.length ≤ 1048576) {a b : Nat} {n : Nd} (h : Cd.get bs c a = .ok (n, b)) (ha : a ≤ bs.length) : b ≤ bs.length := (only_ok c bs a n b h ha hl).2.1
theorem items_ok {f e0 : Fld} (he0 : f.elem = [e0]) (ih : ReadOk e0) {w0 : World} {p : List HP} {Pn : PK} {K : Value → WP} {A : Option Addr} {c : Nat} {v : Int} {bs : List UInt8} {u : Value} {at_ : Nat} {n : Int} (hf : RdD p (fldD f) (fldC f A c)) (hb : RdB p u bs) (hbl : bs.length ≤ 1048576) (hat : at_ ≤ bs.length) (hn : 0 ≤ n ∧ n ≤ 2147483647)
    (h : RGetK w0 p K bs.length (if 16 < n then .error 9 else match getsF (Cd.get bs (compileF v e0)) n.toNat at_ with | .error e => .error e | .ok (l, a) => .ok (.mk 9 0 false [] l, a))) :
    Ent w0 p (op PR Pn (S.fn F.leatref10_readItems [.agg (fldC f A c).toArray, .int .i64 v, u, .int .i64 at_, .int .i64 n]) K) := by
  obtain ⟨he, hk⟩ := h
  obtain ⟨A', c', hce, hel⟩ := fld_open hf
  simp only [fldC, List.cons.injEq, Value.slice.injEq, and_true, true_and] at hce
  obtain ⟨rfl, rfl⟩ := hce
  rw [he0] at hel
  refine Ent.call (fun w h => enter.leatref10_readItems h) ?_
  unfold W.leatref10_readItems
  unfold fldC
  rw [he0]
  refine Ent.box fun g1 => Ent.alloc fun g2 => ?_
  repeat (first | refine Ent.runW (wrap_i64 (by omega) (by omega)) ?_ | refine Ent.runWL (wrap_i64 (by omega) (by omega)) ?_ | refine Ent.runWR (wrap_i64 (by omega) (by omega)) ?_ | refine Ent.run ?_ | refine Ent.runL ?_ | refine Ent.runR ?_ | refine Ent.drawn ?_ | refine Ent.store (by kernel_rfl) ?_ | refine Ent.resN ?_ | refine Ent.res1 ?_ | refine Ent.gop_yes ?_ | refine Ent.gop_no (by decide) ?_ | refine Ent.gop_undef ?_ | refine Ent.glt_undef ?_ | refine Ent.grc_undef ?_ | refine Ent.glt_yes ?_ | refine Ent.glt_no (by decide) ?_ | refine Ent.grc_yes ?_ | refine Ent.grc_no (by decide) ?_)
  refine Ent.ite (fun hq => ?_) (fun hq => ?_)
  · have hq : 16 < n := by simpa using hq
    rw [if_pos hq] at he
    repeat (first | refine Ent.runW (wrap_i64 (by omega) (by omega)) ?_ | refine Ent.runWL (wrap_i64 (by omega) (by omega)) ?_ | refine Ent.runWR (wrap_i64 (by omega) (by omega)) ?_ | refine Ent.run ?_ | refine Ent.runL ?_ | refine Ent.runR ?_ | refine Ent.drawn ?_ | refine Ent.store (by kernel_rfl) ?_ | refine Ent.resN ?_ | refine Ent.res1 ?_ | refine Ent.gop_yes ?_ | refine Ent.gop_no (by decide) ?_ | refine Ent.gop_undef ?_ | refine Ent.glt_undef ?_ | refine Ent.grc_undef ?_ | refine Ent.glt_yes ?_ | refine Ent.glt_no (by decide) ?_ | refine Ent.grc_yes ?_ | refine Ent.grc_no (by decide) ?_)
    exact Ent.keep (he 9 rfl)
  have hq : ¬ 16 < n := by simpa using hq
  rw [if_neg hq] at he hk
  refine Ent.bsliceR (sz := 5) (by omega) rfl fun g3 => ?_
  refine Ent.L5 (σ := List Nd × Nat × Option Addr × Nat) (fun s => .int .i64 s.2.1) (fun _ => .int .i64 0) (fun _ => .int .i64 0) (fun s => .slice s.2.2.1 s.1.length s.2.2.2) (fun s => .int .i64 s.1.length)
    (fun s => pure' ((s.1.length : Int) ≤ n ∧ s.2.1 ≤ bs.length ∧ getsF (Cd.get bs (compileF v e0)) n.toNat at_ = pre s.1 (getsF (Cd.get bs (compileF v e0)) (n.toNat - s.1.length) s.2.1)) :: Ow (.sl T.api_Node 5 (ndsD s.1)) [.slice s.2.2.1 s.1.length s.2.2.2] :: blk g2 [.int .i64 0, .int .i64 0, .bool false, .slice none 0 0, .slice none 0 0] :: blk g1 [.string f.name, .int .i64 f.kind, .int .i64 f.frm, .int .i64 f.to, .slice A [e0].length c] :: p)
    (fun s => (n - s.1.length).toNat) ([], at_, some ⟨g3, 0, none⟩, 0) ?_ ?_
  · intro w hs
    refine Sat.add (a := pure' _) ⟨⟨by simp; omega, by simp; omega, ?_⟩, fun _ => rfl⟩ (hs.imp fun x hx => row_own hx)
    show _ = pre [] (getsF _ (n.toNat - 0) _)
    rw [Nat.sub_zero]
    cases getsF (Cd.get bs (compileF v e0)) n.toNat at_ with
    | error e => rfl
    | ok r => rfl
  rintro ⟨l, a, A2, c2⟩ k hrec
  refine Ent.pure fun hp => ?_
  obtain ⟨hf1, hf2, hf3⟩ := hp
  simp only at hf1 hf2 hf3 hrec ⊢
  repeat (first | refine Ent.runW (wrap_i64 (by omega) (by omega)) ?_ | refine Ent.runWL (wrap_i64 (by omega) (by omega)) ?_ | refine Ent.runWR (wrap_i64 (by omega) (by omega)) ?_ | refine Ent.run ?_ | refine Ent.runL ?_ | refine Ent.runR ?_ | refine Ent.drawn ?_ | refine Ent.store (by kernel_rfl) ?_ | refine Ent.resN ?_ | refine Ent.res1 ?_ | refine Ent.gop_yes ?_ | refine Ent.gop_no (by decide) ?_ | refine Ent.gop_undef ?_ | refine Ent.glt_undef ?_ | refine Ent.grc_undef ?_ | refine Ent.glt_yes ?_ | refine Ent.glt_no (by decide) ?_ | refine Ent.grc_yes ?_ | refine Ent.grc_no (by decide) ?_)
  refine Ent.ite (fun h => ?_) (fun h => ?_)
  · have hlt : (l.length : Int) < n := by simpa using h
    obtain ⟨r, hr⟩ : ∃ r, n.toNat - l.length = r + 1 := ⟨n.toNat - l.length - 1, by omega⟩
    rw [hr, getsF_succ] at hf3
    obtain ⟨b2, o2, cs, hia, hcs, hcl2, hld⟩ := RdD.index (P := PR) (t := T.L_api_Field) (k := .i64) (i := 0) hel (by omega) (by simp) (fldsD_get (l := [e0]) (i := 0) (by simp))
    obtain ⟨A5, c5, rfl, _⟩ := fld_open hcs
    repeat (first | refine Ent.runW (wrap_i64 (by omega) (by omega)) ?_ | refine Ent.runWL (wrap_i64 (by omega) (by omega)) ?_ | refine Ent.runWR (wrap_i64 (by omega) (by omega)) ?_ | refine Ent.run ?_ | refine Ent.runL ?_ | refine Ent.runR ?_ | refine Ent.drawn ?_ | refine Ent.store (by kernel_rfl) ?_ | refine Ent.resN ?_ | refine Ent.res1 ?_ | refine Ent.gop_yes ?_ | refine Ent.gop_no (by decide) ?_ | refine Ent.gop_undef ?_ | refine Ent.glt_undef ?_ | refine Ent.grc_undef ?_ | refine Ent.glt_yes ?_ | refine Ent.glt_no (by decide) ?_ | refine Ent.grc_yes ?_ | refine Ent.grc_no (by decide) ?_)
    refine Ent.at_ (fun w _ => hia w) ?_
    haveI := hld
    repeat (first | refine Ent.runW (wrap_i64 (by omega) (by omega)) ?_ | refine Ent.runWL (wrap_i64 (by omega) (by omega)) ?_ | refine Ent.runWR (wrap_i64 (by omega) (by omega)) ?_ | refine Ent.run ?_ | refine Ent.runL ?_ | refine Ent.runR ?_ | refine Ent.drawn ?_ | refine Ent.store (by kernel_rfl) ?_ | refine Ent.resN ?_ | refine Ent.res1 ?_ | refine Ent.gop_yes ?_ | refine Ent.gop_no (by decide) ?_ | refine Ent.gop_undef ?_ | refine Ent.glt_undef ?_ | refine Ent.grc_undef ?_ | refine Ent.glt_yes ?_ | refine Ent.glt_no (by decide) ?_ | refine Ent.grc_yes ?_ | refine Ent.grc_no (by decide) ?_)
    refine ih w0 _ _ _ A5 c5 v bs u a hcs.keep hb.keep hbl hf2 ⟨fun e hE => ?_, fun nd at' hE hat' A1 c1 A3 c3 => ?_⟩
    · have hne := get_err _ _ _ _ hE
      rw [hE] at hf3
      unfold zeroC
      repeat (first | refine Ent.runW (wrap_i64 (by omega) (by omega)) ?_ | refine Ent.runWL (wrap_i64 (by omega) (by omega)) ?_ | refine Ent.runWR (wrap_i64 (by omega) (by omega)) ?_ | refine Ent.run ?_ | refine Ent.runL ?_ | refine Ent.runR ?_ | refine Ent.drawn ?_ | refine Ent.store (by kernel_rfl) ?_ | refine Ent.resN ?_ | refine Ent.res1 ?_ | refine Ent.gop_yes ?_ | refine Ent.gop_no (by decide) ?_ | refine Ent.gop_undef ?_ | refine Ent.glt_undef ?_ | refine Ent.grc_undef ?_ | refine Ent.glt_yes ?_ | refine Ent.glt_no (by decide) ?_ | refine Ent.grc_yes ?_ | refine Ent.grc_no (by decide) ?_)
      refine Ent.alloc fun g4 => ?_
      repeat (first | refine Ent.runW (wrap_i64 (by omega) (by omega)) ?_ | refine Ent.runWL (wrap_i64 (by omega) (by omega)) ?_ | refine Ent.runWR (wrap_i64 (by omega) (by omega)) ?_ | refine Ent.run ?_ | refine Ent.runL ?_ | refine Ent.runR ?_ | refine Ent.drawn ?_ | refine Ent.store (by kernel_rfl) ?_ | refine Ent.resN ?_ | refine Ent.res1 ?_ | refine Ent.gop_yes ?_ | refine Ent.gop_no (by decide) ?_ | refine Ent.gop_undef ?_ | refine Ent.glt_undef ?_ | refine Ent.grc_undef ?_ | refine Ent.glt_yes ?_ | refine Ent.glt_no (by decide) ?_ | refine Ent.grc_yes ?_ | refine Ent.grc_no (by decide) ?_)
      rw [decide_eq_false hne]
      refine Ent.ite_t ?_
      repeat (first | refine Ent.runW (wrap_i64 (by omega) (by omega)) ?_ | refine Ent.runWL (wrap_i64 (by omega) (by omega)) ?_ | refine Ent.runWR (wrap_i64 (by omega) (by omega)) ?_ | refine Ent.run ?_ | refine Ent.runL ?_ | refine Ent.runR ?_ | refine Ent.drawn ?_ | refine Ent.store (by kernel_rfl) ?_ | refine Ent.resN ?_ | refine Ent.res1 ?_ | refine Ent.gop_yes ?_ | refine Ent.gop_no (by decide) ?_ | refine Ent.gop_undef ?_ | refine Ent.glt_undef ?_ | refine Ent.grc_undef ?_ | refine Ent.glt_yes ?_ | refine Ent.glt_no (by decide) ?_ | refine Ent.grc_yes ?_ | refine Ent.grc_no (by decide) ?_)
      exact Ent.keep (he e (by rw [hf3]; rfl))
    · rw [hE] at hf3
      unfold ndC
      repeat (first | refine Ent.runW (wrap_i64 (by omega) (by omega)) ?_ | refine Ent.runWL (wrap_i64 (by omega) (by omega)) ?_ | refine Ent.runWR (wrap_i64 (by omega) (by omega)) ?_ | refine Ent.run ?_ | refine Ent.runL ?_ | refine Ent.runR ?_ | refine Ent.drawn ?_ | refine Ent.store (by kernel_rfl) ?_ | refine Ent.resN ?_ | refine Ent.res1 ?_ | refine Ent.gop_yes ?_ | refine Ent.gop_no (by decide) ?_ | refine Ent.gop_undef ?_ | refine Ent.glt_undef ?_ | refine Ent.grc_undef ?_ | refine Ent.glt_yes ?_ | refine Ent.glt_no (by decide) ?_ | refine Ent.grc_yes ?_ | refine Ent.grc_no (by decide) ?_)
      refine Ent.alloc fun g4 => ?_
      repeat (first | refine Ent.runW (wrap_i64 (by omega) (by omega)) ?_ | refine Ent.runWL (wrap_i64 (by omega) (by omega)) ?_ | refine Ent.runWR (wrap_i64 (by omega) (by omega)) ?_ | refine Ent.run ?_ | refine Ent.runL ?_ | refine Ent.runR ?_ | refine Ent.drawn ?_ | refine Ent.store (by kernel_rfl) ?_ | refine Ent.resN ?_ | refine Ent.res1 ?_ | refine Ent.gop_yes ?_ | refine Ent.gop_no (by decide) ?_ | refine Ent.gop_undef ?_ | refine Ent.glt_undef ?_ | refine Ent.grc_undef ?_ | refine Ent.glt_yes ?_ | refine Ent.glt_no (by decide) ?_ | refine Ent.grc_yes ?_ | refine Ent.grc_no (by decide) ?_)
      refine Ent.ite_f ?_
      repeat (first | refine Ent.runW (wrap_i64 (by omega) (by omega)) ?_ | refine Ent.runWL (wrap_i64 (by omega) (by omega)) ?_ | refine Ent.runWR (wrap_i64 (by omega) (by omega)) ?_ | refine Ent.run ?_ | refine Ent.runL ?_ | refine Ent.runR ?_ | refine Ent.drawn ?_ | refine Ent.store (by kernel_rfl) ?_ | refine Ent.resN ?_ | refine Ent.res1 ?_ | refine Ent.gop_yes ?_ | refine Ent.gop_no (by decide) ?_ | refine Ent.gop_undef ?_ | refine Ent.glt_undef ?_ | refine Ent.grc_undef ?_ | refine Ent.glt_yes ?_ | refine Ent.glt_no (by decide) ?_ | refine Ent.grc_yes ?_ | refine Ent.grc_no (by decide) ?_)
      refine Ent.bslice fun g5 => ?_
      refine Ent.take (Ow (.sl T.api_Node 5 (ndsD l)) [.slice A2 l.length c2]) (Ent.take (Ow (ndD nd) [.int .i64 nd.kind, .int .i64 nd.num, .bool nd.null, .slice A1 nd.data.length c1, .slice A3 nd.list.length c3]) (Ent.pick blk g5 ?_))
      refine Ent.appendD (sz := 5) rfl rfl (by omega) (by rw [ndsD_length]; omega) fun A4 c4 => ?_
      rw [← ndsD_snoc, ndsD_length]
      repeat (first | refine Ent.runW (wrap_i64 (by omega) (by omega)) ?_ | refine Ent.runWL (wrap_i64 (by omega) (by omega)) ?_ | refine Ent.runWR (wrap_i64 (by omega) (by omega)) ?_ | refine Ent.run ?_ | refine Ent.runL ?_ | refine Ent.runR ?_ | refine Ent.drawn ?_ | refine Ent.store (by kernel_rfl) ?_ | refine Ent.resN ?_ | refine Ent.res1 ?_ | refine Ent.gop_yes ?_ | refine Ent.gop_no (by decide) ?_ | refine Ent.gop_undef ?_ | refine Ent.glt_undef ?_ | refine Ent.grc_undef ?_ | refine Ent.glt_yes ?_ | refine Ent.glt_no (by decide) ?_ | refine Ent.grc_yes ?_ | refine Ent.grc_no (by decide) ?_)
      have := hrec (l ++ [nd], at', A4, c4) (by simp; omega)
      simp only [List.length_append, List.length_cons, List.length_nil, Nat.zero_add, Int.natCast_add, Int.natCast_one] at this
      refine Ent.keep (Ent.add ?_ this)
      refine ⟨⟨by omega, hat', ?_⟩, fun _ => rfl⟩
      rw [hf3]
      simp only
      rw [pre_pre, show n.toNat - (l.length + 1) = r by omega]
  · have hlt : (l.length : Int) = n := by
      have : ¬ (l.length : Int) < n := by simpa using h
      omega
    have hr : n.toNat - l.length = 0 := by omega
    rw [hr] at hf3
    rw [show getsF (Cd.get bs (compileF v e0)) 0 a = .ok ([], a) by unfold getsF; rfl] at hf3
    repeat (first | refine Ent.runW (wrap_i64 (by omega) (by omega)) ?_ | refine Ent.runWL (wrap_i64 (by omega) (by omega)) ?_ | refine Ent.runWR (wrap_i64 (by omega) (by omega)) ?_ | refine Ent.run ?_ | refine Ent.runL ?_ | refine Ent.runR ?_ | refine Ent.drawn ?_ | refine Ent.store (by kernel_rfl) ?_ | refine Ent.resN ?_ | refine Ent.res1 ?_ | refine Ent.gop_yes ?_ | refine Ent.gop_no (by decide) ?_ | refine Ent.gop_undef ?_ | refine Ent.glt_undef ?_ | refine Ent.grc_undef ?_ | refine Ent.glt_yes ?_ | refine Ent.glt_no (by decide) ?_ | refine Ent.grc_yes ?_ | refine Ent.grc_no (by decide) ?_)
    refine Ent.take (Ow (.sl T.api_Node 5 (ndsD l)) [.slice A2 l.length c2]) (Ent.add own_nilB (nd_close (n := .mk 9 0 false [] l) ?_))
    exact Ent.keep (hk (.mk 9 0 false [] l) a (by rw [hf3]; simp [pre]) hf2 none 0 A2 c2)
theorem getl_snoc {bs : List UInt8} {cl : List Cd} {i : Nat} (h : i < cl.length) : cl.drop i = cl[i] :: cl.drop (i + 1) := List.drop_eq_getElem_cons h
theorem rparts_ok {fs : List Fld} (ih : ∀ f ∈ fs, ReadOk f) : RPartsOk fs := fun w0 p Pn K A c v bs u at_ hf h16 hb hbl hat h => by
  obtain ⟨he, hk⟩ := h
  refine Ent.call (fun w h => enter.leatref10_readParts h) ?_
  unfold W.leatref10_readParts
  refine Ent.alloc fun g2 => ?_
  refine RHere_spec (v := v) (p := p) hf (by omega) fun A3 c3 x hx => ?_
  have hmem : ∀ i (h : i < (hereL fs v).length), (hereL fs v)[i] ∈ fs := fun i h => (List.mem_filter.1 (List.getElem_mem h)).1
  have hhl : (hereL fs v).length ≤ 16 := Nat.le_trans (List.length_filter_le _ _) h16
  rw [wholeF_map] at he hk
  generalize hh : hereL fs v = hs at hx hhl hmem he hk
  unfold Cd.get at he hk
  refine Ent.bsliceR (sz := 5) (by omega) rfl fun g3 => ?_
  have hclen : (hs.map (compileF v)).length = hs.length := List.length_map _
  refine Ent.L5 (σ := List Nd × Nat × Option Addr × Nat) (fun s => .int .i64 s.2.1) (fun _ => .int .i64 0) (fun _ => .int .i64 0) (fun s => .slice s.2.2.1 s.1.length s.2.2.2) (fun s => .int .i64 s.1.length)
    (fun s => pure' (s.1.length ≤ hs.length ∧ s.2.1 ≤ bs.length ∧ Cd.getl bs (hs.map (compileF v)) at_ = pre s.1 (Cd.getl bs ((hs.map (compileF v)).drop s.1.length) s.2.1)) :: Ow (.sl T.api_Node 5 (ndsD s.1)) [.slice s.2.2.1 s.1.length s.2.2.2] :: exact x :: blk g2 [.int .i64 0, .int .i64 0, .bool false, .slice none 0 0, .slice none 0 0] :: p)
    (fun s => hs.length - s.1.length) ([], at_, some ⟨g3, 0, none⟩, 0) ?_ ?_
  · intro w hw
    refine Sat.add (a := pure' _) ⟨⟨by simp, by simpa using hat, ?_⟩, fun _ => rfl⟩ (hw.imp fun x hx => row_own hx)
    show _ = pre [] (Cd.getl _ ((hs.map (compileF v)).drop 0) _)
    rw [List.drop_zero]
    cases Cd.getl bs (hs.map (compileF v)) at_ with
    | error e => rfl
    | ok r => rfl
  rintro ⟨l, a, A2, c2⟩ k hrec
  refine Ent.pure fun hp => ?_
  obtain ⟨hf1, hf2, hf3⟩ := hp
  simp only at hf1 hf2 hf3 hrec ⊢
  repeat (first | refine Ent.runW (wrap_i64 (by omega) (by omega)) ?_ | refine Ent.runWL (wrap_i64 (by omega) (by omega)) ?_ | refine Ent.runWR (wrap_i64 (by omega) (by omega)) ?_ | refine Ent.run ?_ | refine Ent.runL ?_ | refine Ent.runR ?_ | refine Ent.drawn ?_ | refine Ent.store (by kernel_rfl) ?_ | refine Ent.resN ?_ | refine Ent.res1 ?_ | refine Ent.gop_yes ?_ | refine Ent.gop_no (by decide) ?_ | refine Ent.gop_undef ?_ | refine Ent.glt_undef ?_ | refine Ent.grc_undef ?_ | refine Ent.glt_yes ?_ | refine Ent.glt_no (by decide) ?_ | refine Ent.grc_yes ?_ | refine Ent.grc_no (by decide) ?_)
  refine Ent.ite (fun hq => ?_) (fun hq => ?_)
  · have hlt : l.length < hs.length := by simpa using hq
    have hltc : l.length < (hs.map (compileF v)).length := by omega
    rw [List.drop_eq_getElem_cons hltc, getl_cons, show (hs.map (compileF v))[l.length] = compileF v hs[l.length] by simp] at hf3
    obtain ⟨b2, o2, cs, hia, hcs, hcl2, hld⟩ := RdD.index (P := PR) (t := T.L_api_Field) (k := .i64) (i := l.length) hx (by omega) (by omega) (fldsD_get hlt)
    obtain ⟨A5, c5, rfl, _⟩ := fld_open hcs
    refine Ent.at_ (fun w _ => hia w) ?_
    haveI := LoadN.keep (q := Ow (.sl T.api_Node 5 (ndsD l)) [.slice A2 l.length c2] :: exact x :: blk g2 [.int .i64 0, .int .i64 0, .bool false, .slice none 0 0, .slice none 0 0] :: p) hld
    repeat (first | refine Ent.runW (wrap_i64 (by omega) (by omega)) ?_ | refine Ent.runWL (wrap_i64 (by omega) (by omega)) ?_ | refine Ent.runWR (wrap_i64 (by omega) (by omega)) ?_ | refine Ent.run ?_ | refine Ent.runL ?_ | refine Ent.runR ?_ | refine Ent.drawn ?_ | refine Ent.store (by kernel_rfl) ?_ | refine Ent.resN ?_ | refine Ent.res1 ?_ | refine Ent.gop_yes ?_ | refine Ent.gop_no (by decide) ?_ | refine Ent.gop_undef ?_ | refine Ent.glt_undef ?_ | refine Ent.grc_undef ?_ | refine Ent.glt_yes ?_ | refine Ent.glt_no (by decide) ?_ | refine Ent.grc_yes ?_ | refine Ent.grc_no (by decide) ?_)
    refine ih _ (hmem _ hlt) w0 _ _ _ A5 c5 v bs u a hcs.keep hb.keep hbl hf2 ⟨fun e hE => ?_, fun nd at' hE hat' A1 c1 A6 c6 => ?_⟩
    · have hne := get_err _ _ _ _ hE
      rw [hE] at hf3
      unfold zeroC
      repeat (first | refine Ent.runW (wrap_i64 (by omega) (by omega)) ?_ | refine Ent.runWL (wrap_i64 (by omega) (by omega)) ?_ | refine Ent.runWR (wrap_i64 (by omega) (by omega)) ?_ | refine Ent.run ?_ | refine Ent.runL ?_ | refine Ent.runR ?_ | refine Ent.drawn ?_ | refine Ent.store (by kernel_rfl) ?_ | refine Ent.resN ?_ | refine Ent.res1 ?_ | refine Ent.gop_yes ?_ | refine Ent.gop_no (by decide) ?_ | refine Ent.gop_undef ?_ | refine Ent.glt_undef ?_ | refine Ent.grc_undef ?_ | refine Ent.glt_yes ?_ | refine Ent.glt_no (by decide) ?_ | refine Ent.grc_yes ?_ | refine Ent.grc_no (by decide) ?_)
      refine Ent.alloc fun g4 => ?_
      repeat (first | refine Ent.runW (wrap_i64 (by omega) (by omega)) ?_ | refine Ent.runWL (wrap_i64 (by omega) (by omega)) ?_ | refine Ent.runWR (wrap_i64 (by omega) (by omega)) ?_ | refine Ent.run ?_ | refine Ent.runL ?_ | refine Ent.runR ?_ | refine Ent.drawn ?_ | refine Ent.store (by kernel_rfl) ?_ | refine Ent.resN ?_ | refine Ent.res1 ?_ | refine Ent.gop_yes ?_ | refine Ent.gop_no (by decide) ?_ | refine Ent.gop_undef ?_ | refine Ent.glt_undef ?_ | refine Ent.grc_undef ?_ | refine Ent.glt_yes ?_ | refine Ent.glt_no (by decide) ?_ | refine Ent.grc_yes ?_ | refine Ent.grc_no (by decide) ?_)
      rw [decide_eq_false hne]
      refine Ent.ite_t ?_
      repeat (first | refine Ent.runW (wrap_i64 (by omega) (by omega)) ?_ | refine Ent.runWL (wrap_i64 (by omega) (by omega)) ?_ | refine Ent.runWR (wrap_i64 (by omega) (by omega)) ?_ | refine Ent.run ?_ | refine Ent.runL ?_ | refine Ent.runR ?_ | refine Ent.drawn ?_ | refine Ent.store (by kernel_rfl) ?_ | refine Ent.resN ?_ | refine Ent.res1 ?_ | refine Ent.gop_yes ?_ | refine Ent.gop_no (by decide) ?_ | refine Ent.gop_undef ?_ | refine Ent.glt_undef ?_ | refine Ent.grc_undef ?_ | refine Ent.glt_yes ?_ | refine Ent.glt_no (by decide) ?_ | refine Ent.grc_yes ?_ | refine Ent.grc_no (by decide) ?_)
      exact Ent.keep (he e (by rw [hf3]; rfl))
    · rw [hE] at hf3
      unfold ndC
      repeat (first | refine Ent.runW (wrap_i64 (by omega) (by omega)) ?_ | refine Ent.runWL (wrap_i64 (by omega) (by omega)) ?_ | refine Ent.runWR (wrap_i64 (by omega) (by omega)) ?_ | refine Ent.run ?_ | refine Ent.runL ?_ | refine Ent.runR ?_ | refine Ent.drawn ?_ | refine Ent.store (by kernel_rfl) ?_ | refine Ent.resN ?_ | refine Ent.res1 ?_ | refine Ent.gop_yes ?_ | refine Ent.gop_no (by decide) ?_ | refine Ent.gop_undef ?_ | refine Ent.glt_undef ?_ | refine Ent.grc_undef ?_ | refine Ent.glt_yes ?_ | refine Ent.glt_no (by decide) ?_ | refine Ent.grc_yes ?_ | refine Ent.grc_no (by decide) ?_)
      refine Ent.alloc fun g4 => ?_
      repeat (first | refine Ent.runW (wrap_i64 (by omega) (by omega)) ?_ | refine Ent.runWL (wrap_i64 (by omega) (by omega)) ?_ | refine Ent.runWR (wrap_i64 (by omega) (by omega)) ?_ | refine Ent.run ?_ | refine Ent.runL ?_ | refine Ent.runR ?_ | refine Ent.drawn ?_ | refine Ent.store (by kernel_rfl) ?_ | refine Ent.resN ?_ | refine Ent.res1 ?_ | refine Ent.gop_yes ?_ | refine Ent.gop_no (by decide) ?_ | refine Ent.gop_undef ?_ | refine Ent.glt_undef ?_ | refine Ent.grc_undef ?_ | refine Ent.glt_yes ?_ | refine Ent.glt_no (by decide) ?_ | refine Ent.grc_yes ?_ | refine Ent.grc_no (by decide) ?_)
      refine Ent.ite_f ?_
      repeat (first | refine Ent.runW (wrap_i64 (by omega) (by omega)) ?_ | refine Ent.runWL (wrap_i64 (by omega) (by omega)) ?_ | refine Ent.runWR (wrap_i64 (by omega) (by omega)) ?_ | refine Ent.run ?_ | refine Ent.runL ?_ | refine Ent.runR ?_ | refine Ent.drawn ?_ | refine Ent.store (by kernel_rfl) ?_ | refine Ent.resN ?_ | refine Ent.res1 ?_ | refine Ent.gop_yes ?_ | refine Ent.gop_no (by decide) ?_ | refine Ent.gop_undef ?_ | refine Ent.glt_undef ?_ | refine Ent.grc_undef ?_ | refine Ent.glt_yes ?_ | refine Ent.glt_no (by decide) ?_ | refine Ent.grc_yes ?_ | refine Ent.grc_no (by decide) ?_)
      refine Ent.bslice fun g5 => ?_
      refine Ent.take (Ow (.sl T.api_Node 5 (ndsD l)) [.slice A2 l.length c2]) (Ent.take (Ow (ndD nd) [.int .i64 nd.kind, .int .i64 nd.num, .bool nd.null, .slice A1 nd.data.length c1, .slice A6 nd.list.length c6]) (Ent.pick blk g5 ?_))
      refine Ent.appendD (sz := 5) rfl rfl (by omega) (by rw [ndsD_length]; omega) fun A4 c4 => ?_
      rw [← ndsD_snoc, ndsD_length]
      repeat (first | refine Ent.runW (wrap_i64 (by omega) (by omega)) ?_ | refine Ent.runWL (wrap_i64 (by omega) (by omega)) ?_ | refine Ent.runWR (wrap_i64 (by omega) (by omega)) ?_ | refine Ent.run ?_ | refine Ent.runL ?_ | refine Ent.runR ?_ | refine Ent.drawn ?_ | refine Ent.store (by kernel_rfl) ?_ | refine Ent.resN ?_ | refine Ent.res1 ?_ | refine Ent.gop_yes ?_ | refine Ent.gop_no (by decide) ?_ | refine Ent.gop_undef ?_ | refine Ent.glt_undef ?_ | refine Ent.grc_undef ?_ | refine Ent.glt_yes ?_ | refine Ent.glt_no (by decide) ?_ | refine Ent.grc_yes ?_ | refine Ent.grc_no (by decide) ?_)
      have := hrec (l ++ [nd], at', A4, c4) (by simp; omega)
      simp only [List.length_append, List.length_cons, List.length_nil, Nat.zero_add, Int.natCast_add, Int.natCast_one] at this
      refine Ent.keep (Ent.add ?_ this)
      refine ⟨⟨by omega, hat', ?_⟩, fun _ => rfl⟩
      rw [hf3]
      simp only
      rw [pre_pre]
  · have hlt : l.length = hs.length := by
      have : ¬ (l.length : Int) < hs.length := by simpa using hq
      omega
    rw [List.drop_of_length_le (by omega)] at hf3
    rw [show Cd.getl bs [] a = .ok ([], a) by unfold Cd.getl; rfl] at hf3
    repeat (first | refine Ent.runW (wrap_i64 (by omega) (by omega)) ?_ | refine Ent.runWL (wrap_i64 (by omega) (by omega)) ?_ | refine Ent.runWR (wrap_i64 (by omega) (by omega)) ?_ | refine Ent.run ?_ | refine Ent.runL ?_ | refine Ent.runR ?_ | refine Ent.drawn ?_ | refine Ent.store (by kernel_rfl) ?_ | refine Ent.resN ?_ | refine Ent.res1 ?_ | refine Ent.gop_yes ?_ | refine Ent.gop_no (by decide) ?_ | refine Ent.gop_undef ?_ | refine Ent.glt_undef ?_ | refine Ent.grc_undef ?_ | refine Ent.glt_yes ?_ | refine Ent.glt_no (by decide) ?_ | refine Ent.grc_yes ?_ | refine Ent.grc_no (by decide) ?_)
    refine Ent.take (Ow (.sl T.api_Node 5 (ndsD l)) [.slice A2 l.length c2]) (Ent.add own_nilB (nd_close (n := .mk 10 0 false [] l) ?_))
    exact Ent.keep (hk (.mk 10 0 false [] l) a (by rw [hf3]; simp [pre]) hf2 none 0 A2 c2)
end Go.Lt
