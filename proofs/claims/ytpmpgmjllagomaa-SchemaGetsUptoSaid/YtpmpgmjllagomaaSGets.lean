/- SchemaGets: where what it reads is of bulk at most 1048576 it returns true, and its arguments read as they did. Conditions: the bound alone. -/
import Derived.Test.YtpmpgmjllagomaaSolid
import Derived.Test.YtpmpgmjllagomaaLists3
import Derived.Test.YtpmpgmjllagomaaRdec2
import Derived.Test.YtpmpgmjllagomaaAlive2
set_option linter.unusedVariables false
set_option maxHeartbeats 4000000
set_option linter.unusedSimpArgs false
set_option maxRecDepth 100000
namespace Go.Lt
open Go
attribute [local irreducible] op gop lt glt rc grc ite' drawn also ldR
section
variable {w0 : World} {p : List HP} {Pn : PK} {K : Value → WP}
def zeroNd : Nd := .mk 0 0 false [] []
theorem zero_own {φ : WP} (h : Ent w0 (Ow (ndD zeroNd) (zeroC 0) :: p) φ) : Ent w0 p φ := Ent.add own_nilL (Ent.add own_nilB (nd_close (n := zeroNd) h))
/-- What Decode hands out, error or not. -/
def Dec (fs : List Fld) (v : Int) (bs : List UInt8) (n : Nd) (e : Int) : Prop := decF fs v bs = .ok n ∧ e = 0 ∨ decF fs v bs = .error e ∧ n = zeroNd
theorem Dec.same {fs : List Fld} {v : Int} {bs : List UInt8} {n n' : Nd} {e e' : Int} (h : Dec fs v bs n e) (h' : Dec fs v bs n' e') : n = n' ∧ e = e' := by
  rcases h with ⟨h1, h2⟩ | ⟨h1, h2⟩ <;> rcases h' with ⟨h3, h4⟩ | ⟨h3, h4⟩ <;> rw [h1] at h3 <;> cases h3 <;> simp_all
theorem Dec.flat {fs : List Fld} {v : Int} {bs : List UInt8} {n : Nd} {e : Int} (h : Dec fs v bs n e) : n.flat.length ≤ 2000000 ∧ ∀ d ∈ n.flat, d.length ≤ 1048576 := by
  rcases h with ⟨h1, h2⟩ | ⟨h1, h2⟩
  · exact ⟨decF_small h1, flat_ok n (decF_encF h1).1⟩
  · subst h2
    exact ⟨by decide, fun d hd => by simp [zeroNd, Nd.flat, flatL] at hd; subst hd; simp⟩
theorem Decode_uni {fs : List Fld} {A : Option Addr} {c : Nat} {v : Int} {bs : List UInt8} {u : Value} (h : ∀ x ∈ fs, x.ok) (hf : RdD p (.sl T.api_Field 5 (fldsD fs)) [.slice A fs.length c]) (hl : fs.length ≤ 1048576) (hb : RdB p u bs) (hbl : bs.length ≤ 1048576)
    (hk : ∀ n e A1 c1 A2 c2, Dec fs v bs n e → Ent w0 (Ow (ndD n) (ndC n A1 c1 A2 c2) :: p) (K (.tuple [.agg (ndC n A1 c1 A2 c2).toArray, .int .i64 e].toArray))) :
    Ent w0 p (op PR Pn (S.fn F.schema_Decode [.slice A fs.length c, .int .i64 v, u]) K) :=
  Decode_spec h hf hl hb (by omega) (fun e he hne => zero_own (hk zeroNd e none 0 none 0 (.inr ⟨he, rfl⟩))) fun n A1 c1 A2 c2 he => hk n 0 A1 c1 A2 c2 (.inl ⟨he, rfl⟩)
theorem RDecode_uni {fs : List Fld} {A : Option Addr} {c : Nat} {v : Int} {bs : List UInt8} {u : Value} (h : ∀ x ∈ fs, x.ok) (hf : RdD p (.sl T.api_Field 5 (fldsD fs)) [.slice A fs.length c]) (hl : fs.length ≤ 1048576) (hb : RdB p u bs) (hbl : bs.length ≤ 1048576)
    (hk : ∀ n e A1 c1 A2 c2, Dec fs v bs n e → Ent w0 (Ow (ndD n) (ndC n A1 c1 A2 c2) :: p) (K (.tuple [.agg (ndC n A1 c1 A2 c2).toArray, .int .i64 e].toArray))) :
    Ent w0 p (op PR Pn (S.fn F.leatref10_Decode [.slice A fs.length c, .int .i64 v, u]) K) :=
  RDecode_spec h hf hl hb hbl (fun e he => zero_own (hk zeroNd e none 0 none 0 (.inr ⟨he, rfl⟩))) fun n A1 c1 A2 c2 he => hk n 0 A1 c1 A2 c2 (.inl ⟨he, rfl⟩)
theorem ownBs_sl : ∀ {vs : List Value} {ds : List (List UInt8)} {x : HL}, ownBs vs ds x → ∀ v ∈ vs, IsSl v
  | [], [], x, h, v, hv => by cases hv
  | u :: vs, d :: ds, x, h, v, hv => by
    obtain ⟨y, z, hy, hz, _⟩ := h
    rcases List.mem_cons.1 hv with h' | h'
    · subst h'
      obtain ⟨A, c, e, _⟩ := ownB_rd hy
      exact ⟨A, _, c, e⟩
    · exact ownBs_sl hz v h'
  | [], _ :: _, x, h, v, hv => h.elim
  | _ :: _, [], x, h, v, hv => h.elim
theorem wide_sub {x : HL} {A : Option Addr} {c n : Nat} {bs : List UInt8} (hw : rdB x (.slice A (bs.length + 96) c) (bs ++ marks)) (hn : n = bs.length) : ∀ {p : List HP}, RdB (exact x :: p) (.slice (subA 1 A c 0) (n - 0) (c - 0)) bs := by
  intro p
  have := (RdB.here (p := p) hw).sub (l := 0) (m := bs.length) (by omega) (by omega)
  subst hn
  rw [List.drop_zero, Nat.sub_zero, List.take_left] at this
  exact this
end
theorem SchemaGets_spec {w0 : World} {p : List HP} {Pn : PK} {K : Value → WP} {fs : List Fld} {A : Option Addr} {c : Nat} {v : Int} {bs : List UInt8} {u : Value} (h : ∀ x ∈ fs, x.ok) (hf : RdD p (.sl T.api_Field 5 (fldsD fs)) [.slice A fs.length c]) (hl : fs.length ≤ 1048576) (hb : RdB p u bs) (hbl : bs.length ≤ 1048576)
    (hk : Ent w0 p (K (.bool true))) : Ent w0 p (op PR Pn (S.fn F.leatlaw10_SchemaGets [.slice A fs.length c, .int .i64 v, u]) K) := by
  obtain ⟨A0, c0, rfl, hc1, hc2⟩ := id hb.shape
  refine Ent.call (fun w h => enter.leatlaw10_SchemaGets h) ?_
  unfold W.leatlaw10_SchemaGets
  refine alive_spec ?_
  repeat (first | refine Ent.runW (wrap_i64 (by omega) (by omega)) ?_ | refine Ent.runWL (wrap_i64 (by omega) (by omega)) ?_ | refine Ent.runWR (wrap_i64 (by omega) (by omega)) ?_ | refine Ent.run ?_ | refine Ent.runL ?_ | refine Ent.runR ?_ | refine Ent.drawn ?_ | refine Ent.store (by kernel_rfl) ?_ | refine Ent.resN ?_ | refine Ent.res1 ?_ | refine Ent.gop_yes ?_ | refine Ent.gop_no (by decide) ?_ | refine Ent.gop_undef ?_ | refine Ent.glt_undef ?_ | refine Ent.grc_undef ?_ | refine Ent.glt_yes ?_ | refine Ent.glt_no (by decide) ?_ | refine Ent.grc_yes ?_ | refine Ent.grc_no (by decide) ?_)
  refine Ent.ite_f ?_
  refine TwinFields_spec h w0 p _ _ A c hf hl fun A1 c1 => ?_
  refine Ent.freeze fun x1 hx1 => ?_
  have hf1 := RdD.here (p := p) (Ow.rd _ _ _ hx1)
  refine Wide_spec hb.keep (by omega) fun A2 c2 => ?_
  refine Ent.freeze fun x2 hx2 => ?_
  have hw2 : rdB x2 (.slice A2 (bs.length + 96) c2) (bs ++ marks) := ownB_rd hx2
  have hwc : bs.length + 96 ≤ c2 := by
    obtain ⟨_, _, e, h', _⟩ := hw2
    injection e with _ _ e3
    rw [List.length_append, marks_length] at h'
    omega
  refine RDecode_uni h hf.keep hl hb.keep hbl fun n e A3 c3 A4 c4 hd => ?_
  refine Ent.freeze fun x3 hx3 => ?_
  have hn3 := RdD.here (p := p) (Ow.rd _ _ _ hx3)
  have hsk3 := rd_sk n (Ow.rd _ _ _ hx3)
  unfold ndC at *
  repeat (first | refine Ent.runW (wrap_i64 (by omega) (by omega)) ?_ | refine Ent.runWL (wrap_i64 (by omega) (by omega)) ?_ | refine Ent.runWR (wrap_i64 (by omega) (by omega)) ?_ | refine Ent.run ?_ | refine Ent.runL ?_ | refine Ent.runR ?_ | refine Ent.drawn ?_ | refine Ent.store (by kernel_rfl) ?_ | refine Ent.resN ?_ | refine Ent.res1 ?_ | refine Ent.gop_yes ?_ | refine Ent.gop_no (by decide) ?_ | refine Ent.gop_undef ?_ | refine Ent.glt_undef ?_ | refine Ent.grc_undef ?_ | refine Ent.glt_yes ?_ | refine Ent.glt_no (by decide) ?_ | refine Ent.grc_yes ?_ | refine Ent.grc_no (by decide) ?_)
  refine Ent.alloc fun g3 => ?_
  repeat (first | refine Ent.runW (wrap_i64 (by omega) (by omega)) ?_ | refine Ent.runWL (wrap_i64 (by omega) (by omega)) ?_ | refine Ent.runWR (wrap_i64 (by omega) (by omega)) ?_ | refine Ent.run ?_ | refine Ent.runL ?_ | refine Ent.runR ?_ | refine Ent.drawn ?_ | refine Ent.store (by kernel_rfl) ?_ | refine Ent.resN ?_ | refine Ent.res1 ?_ | refine Ent.gop_yes ?_ | refine Ent.gop_no (by decide) ?_ | refine Ent.gop_undef ?_ | refine Ent.glt_undef ?_ | refine Ent.grc_undef ?_ | refine Ent.glt_yes ?_ | refine Ent.glt_no (by decide) ?_ | refine Ent.grc_yes ?_ | refine Ent.grc_no (by decide) ?_)
  refine Ent.at_ (fun w _ => sl_run (k := .i64) (l := 0) (h := bs.length) (sz := 1) (.inr ⟨rfl, rfl⟩) (.inl rfl) (by omega) (by omega)) ?_
  have hsub : RdB (exact x2 :: p) (.slice (subA 1 A2 c2 0) (bs.length - 0) (c2 - 0)) bs := wide_sub hw2 rfl
  refine Decode_uni (v := v) h hf1.keep hl hsub.keep hbl fun n' e' A5 c5 A6 c6 hd' => ?_
  obtain ⟨rfl, rfl⟩ := hd.same hd'
  refine Ent.freeze fun x4 hx4 => ?_
  have hn4 := RdD.here (p := p) (Ow.rd _ _ _ hx4)
  unfold ndC at *
  repeat (first | refine Ent.runW (wrap_i64 (by omega) (by omega)) ?_ | refine Ent.runWL (wrap_i64 (by omega) (by omega)) ?_ | refine Ent.runWR (wrap_i64 (by omega) (by omega)) ?_ | refine Ent.run ?_ | refine Ent.runL ?_ | refine Ent.runR ?_ | refine Ent.drawn ?_ | refine Ent.store (by kernel_rfl) ?_ | refine Ent.resN ?_ | refine Ent.res1 ?_ | refine Ent.gop_yes ?_ | refine Ent.gop_no (by decide) ?_ | refine Ent.gop_undef ?_ | refine Ent.glt_undef ?_ | refine Ent.grc_undef ?_ | refine Ent.glt_yes ?_ | refine Ent.glt_no (by decide) ?_ | refine Ent.grc_yes ?_ | refine Ent.grc_no (by decide) ?_)
  refine Ent.alloc fun g4 => ?_
  repeat (first | refine Ent.runW (wrap_i64 (by omega) (by omega)) ?_ | refine Ent.runWL (wrap_i64 (by omega) (by omega)) ?_ | refine Ent.runWR (wrap_i64 (by omega) (by omega)) ?_ | refine Ent.run ?_ | refine Ent.runL ?_ | refine Ent.runR ?_ | refine Ent.drawn ?_ | refine Ent.store (by kernel_rfl) ?_ | refine Ent.resN ?_ | refine Ent.res1 ?_ | refine Ent.gop_yes ?_ | refine Ent.gop_no (by decide) ?_ | refine Ent.gop_undef ?_ | refine Ent.glt_undef ?_ | refine Ent.grc_undef ?_ | refine Ent.glt_yes ?_ | refine Ent.glt_no (by decide) ?_ | refine Ent.grc_yes ?_ | refine Ent.grc_no (by decide) ?_)
  refine Ent.at_ (fun w _ => sl_run (k := .i64) (l := 0) (h := bs.length) (sz := 1) (.inr ⟨rfl, rfl⟩) (.inl rfl) (by omega) (by omega)) ?_
  refine Decode_uni (v := v) h hf1.keep hl hsub.keep hbl fun n' e' A7 c7 A8 c8 hd' => ?_
  obtain ⟨rfl, rfl⟩ := hd.same hd'
  refine Ent.freeze fun x5 hx5 => ?_
  have hn5 := RdD.here (p := p) (Ow.rd _ _ _ hx5)
  unfold ndC at *
  repeat (first | refine Ent.runW (wrap_i64 (by omega) (by omega)) ?_ | refine Ent.runWL (wrap_i64 (by omega) (by omega)) ?_ | refine Ent.runWR (wrap_i64 (by omega) (by omega)) ?_ | refine Ent.run ?_ | refine Ent.runL ?_ | refine Ent.runR ?_ | refine Ent.drawn ?_ | refine Ent.store (by kernel_rfl) ?_ | refine Ent.resN ?_ | refine Ent.res1 ?_ | refine Ent.gop_yes ?_ | refine Ent.gop_no (by decide) ?_ | refine Ent.gop_undef ?_ | refine Ent.glt_undef ?_ | refine Ent.grc_undef ?_ | refine Ent.glt_yes ?_ | refine Ent.glt_no (by decide) ?_ | refine Ent.grc_yes ?_ | refine Ent.grc_no (by decide) ?_)
  refine Ent.alloc fun g5 => ?_
  repeat (first | refine Ent.runW (wrap_i64 (by omega) (by omega)) ?_ | refine Ent.runWL (wrap_i64 (by omega) (by omega)) ?_ | refine Ent.runWR (wrap_i64 (by omega) (by omega)) ?_ | refine Ent.run ?_ | refine Ent.runL ?_ | refine Ent.runR ?_ | refine Ent.drawn ?_ | refine Ent.store (by kernel_rfl) ?_ | refine Ent.resN ?_ | refine Ent.res1 ?_ | refine Ent.gop_yes ?_ | refine Ent.gop_no (by decide) ?_ | refine Ent.gop_undef ?_ | refine Ent.glt_undef ?_ | refine Ent.grc_undef ?_ | refine Ent.glt_yes ?_ | refine Ent.glt_no (by decide) ?_ | refine Ent.grc_yes ?_ | refine Ent.grc_no (by decide) ?_)
  simp only [eq_self, decide_true, Bool.not_true]
  repeat (first | refine Ent.runW (wrap_i64 (by omega) (by omega)) ?_ | refine Ent.runWL (wrap_i64 (by omega) (by omega)) ?_ | refine Ent.runWR (wrap_i64 (by omega) (by omega)) ?_ | refine Ent.run ?_ | refine Ent.runL ?_ | refine Ent.runR ?_ | refine Ent.drawn ?_ | refine Ent.store (by kernel_rfl) ?_ | refine Ent.resN ?_ | refine Ent.res1 ?_ | refine Ent.gop_yes ?_ | refine Ent.gop_no (by decide) ?_ | refine Ent.gop_undef ?_ | refine Ent.glt_undef ?_ | refine Ent.grc_undef ?_ | refine Ent.glt_yes ?_ | refine Ent.glt_no (by decide) ?_ | refine Ent.grc_yes ?_ | refine Ent.grc_no (by decide) ?_)
  simp only [eq_self, decide_true, Bool.not_true]
  repeat (first | refine Ent.runW (wrap_i64 (by omega) (by omega)) ?_ | refine Ent.runWL (wrap_i64 (by omega) (by omega)) ?_ | refine Ent.runWR (wrap_i64 (by omega) (by omega)) ?_ | refine Ent.run ?_ | refine Ent.runL ?_ | refine Ent.runR ?_ | refine Ent.drawn ?_ | refine Ent.store (by kernel_rfl) ?_ | refine Ent.resN ?_ | refine Ent.res1 ?_ | refine Ent.gop_yes ?_ | refine Ent.gop_no (by decide) ?_ | refine Ent.gop_undef ?_ | refine Ent.glt_undef ?_ | refine Ent.grc_undef ?_ | refine Ent.glt_yes ?_ | refine Ent.glt_no (by decide) ?_ | refine Ent.grc_yes ?_ | refine Ent.grc_no (by decide) ?_)
  refine alike1 n w0 _ _ _ n _ _ hn4.keep hn3.keep (fun _ => ?_) (fun h => absurd rfl h)
  repeat (first | refine Ent.runW (wrap_i64 (by omega) (by omega)) ?_ | refine Ent.runWL (wrap_i64 (by omega) (by omega)) ?_ | refine Ent.runWR (wrap_i64 (by omega) (by omega)) ?_ | refine Ent.run ?_ | refine Ent.runL ?_ | refine Ent.runR ?_ | refine Ent.drawn ?_ | refine Ent.store (by kernel_rfl) ?_ | refine Ent.resN ?_ | refine Ent.res1 ?_ | refine Ent.gop_yes ?_ | refine Ent.gop_no (by decide) ?_ | refine Ent.gop_undef ?_ | refine Ent.glt_undef ?_ | refine Ent.grc_undef ?_ | refine Ent.glt_yes ?_ | refine Ent.glt_no (by decide) ?_ | refine Ent.grc_yes ?_ | refine Ent.grc_no (by decide) ?_)
  refine alike1 n w0 _ _ _ n _ _ hn5.keep hn3.keep (fun _ => ?_) (fun h => absurd rfl h)
  repeat (first | refine Ent.runW (wrap_i64 (by omega) (by omega)) ?_ | refine Ent.runWL (wrap_i64 (by omega) (by omega)) ?_ | refine Ent.runWR (wrap_i64 (by omega) (by omega)) ?_ | refine Ent.run ?_ | refine Ent.runL ?_ | refine Ent.runR ?_ | refine Ent.drawn ?_ | refine Ent.store (by kernel_rfl) ?_ | refine Ent.resN ?_ | refine Ent.res1 ?_ | refine Ent.gop_yes ?_ | refine Ent.gop_no (by decide) ?_ | refine Ent.gop_undef ?_ | refine Ent.glt_undef ?_ | refine Ent.grc_undef ?_ | refine Ent.glt_yes ?_ | refine Ent.glt_no (by decide) ?_ | refine Ent.grc_yes ?_ | refine Ent.grc_no (by decide) ?_)
  refine AlikeFields_spec fs w0 _ _ _ fs _ _ _ _ hf1.keep hf.keep (fun _ => ?_) (fun h => absurd rfl h)
  repeat (first | refine Ent.runW (wrap_i64 (by omega) (by omega)) ?_ | refine Ent.runWL (wrap_i64 (by omega) (by omega)) ?_ | refine Ent.runWR (wrap_i64 (by omega) (by omega)) ?_ | refine Ent.run ?_ | refine Ent.runL ?_ | refine Ent.runR ?_ | refine Ent.drawn ?_ | refine Ent.store (by kernel_rfl) ?_ | refine Ent.resN ?_ | refine Ent.res1 ?_ | refine Ent.gop_yes ?_ | refine Ent.gop_no (by decide) ?_ | refine Ent.gop_undef ?_ | refine Ent.glt_undef ?_ | refine Ent.grc_undef ?_ | refine Ent.glt_yes ?_ | refine Ent.glt_no (by decide) ?_ | refine Ent.grc_yes ?_ | refine Ent.grc_no (by decide) ?_)
  have hw2' : RdB (exact x2 :: p) (.slice A2 (bs.length + 96) c2) (bs ++ marks) := RdB.here hw2
  refine Intact_spec hw2'.keep hb.keep (by omega) ?_
  rw [decide_eq_true rfl]
  repeat (first | refine Ent.runW (wrap_i64 (by omega) (by omega)) ?_ | refine Ent.runWL (wrap_i64 (by omega) (by omega)) ?_ | refine Ent.runWR (wrap_i64 (by omega) (by omega)) ?_ | refine Ent.run ?_ | refine Ent.runL ?_ | refine Ent.runR ?_ | refine Ent.drawn ?_ | refine Ent.store (by kernel_rfl) ?_ | refine Ent.resN ?_ | refine Ent.res1 ?_ | refine Ent.gop_yes ?_ | refine Ent.gop_no (by decide) ?_ | refine Ent.gop_undef ?_ | refine Ent.glt_undef ?_ | refine Ent.grc_undef ?_ | refine Ent.glt_yes ?_ | refine Ent.glt_no (by decide) ?_ | refine Ent.grc_yes ?_ | refine Ent.grc_no (by decide) ?_)
  refine Ent.ite_f ?_
  repeat (first | refine Ent.runW (wrap_i64 (by omega) (by omega)) ?_ | refine Ent.runWL (wrap_i64 (by omega) (by omega)) ?_ | refine Ent.runWR (wrap_i64 (by omega) (by omega)) ?_ | refine Ent.run ?_ | refine Ent.runL ?_ | refine Ent.runR ?_ | refine Ent.drawn ?_ | refine Ent.store (by kernel_rfl) ?_ | refine Ent.resN ?_ | refine Ent.res1 ?_ | refine Ent.gop_yes ?_ | refine Ent.gop_no (by decide) ?_ | refine Ent.gop_undef ?_ | refine Ent.glt_undef ?_ | refine Ent.grc_undef ?_ | refine Ent.glt_yes ?_ | refine Ent.glt_no (by decide) ?_ | refine Ent.grc_yes ?_ | refine Ent.grc_no (by decide) ?_)
  -- the first tree's lists
  obtain ⟨hfl1, hfl2⟩ := hd.flat
  refine Ent.take (exact x4) (Ent.thaw hx4 (split_nd n fun s hsl => ?_))
  refine Ent.freeze fun y1 hy1 => ?_
  have hs1 := RdD.here (p := p) (Ow.rd _ _ _ hy1)
  refine Ent.take (ownBs s.slots n.flat) (Ent.freeze fun y2 hy2 => ?_)
  have hsl1 := ownBs_sl hy2
  refine lists1 s w0 _ _ _ _ hs1.keep (by omega) hsl1 fun A9 c9 => ?_
  refine Ent.freeze fun y3 hy3 => ?_
  have hls1 := row_rd1 (p := p) (fun u hu => (hsl1 u hu).one) hy3
  repeat (first | refine Ent.runW (wrap_i64 (by omega) (by omega)) ?_ | refine Ent.runWL (wrap_i64 (by omega) (by omega)) ?_ | refine Ent.runWR (wrap_i64 (by omega) (by omega)) ?_ | refine Ent.run ?_ | refine Ent.runL ?_ | refine Ent.runR ?_ | refine Ent.drawn ?_ | refine Ent.store (by kernel_rfl) ?_ | refine Ent.resN ?_ | refine Ent.res1 ?_ | refine Ent.gop_yes ?_ | refine Ent.gop_no (by decide) ?_ | refine Ent.gop_undef ?_ | refine Ent.glt_undef ?_ | refine Ent.grc_undef ?_ | refine Ent.glt_yes ?_ | refine Ent.glt_no (by decide) ?_ | refine Ent.grc_yes ?_ | refine Ent.grc_no (by decide) ?_)
  obtain ⟨s', hs', hsl', hsd'⟩ := hsk3
  have hsl2 : ∀ v ∈ s'.slots, IsSl v := fun v hv => by
    obtain ⟨i, hi, rfl⟩ := List.mem_iff_getElem.1 hv
    have := hsd' i _ _ (List.getElem?_eq_getElem hi) (List.getElem?_eq_getElem (by omega))
    obtain ⟨A, c, e, _⟩ := this
    injection e with e
    exact ⟨A, _, c, e⟩
  have hs2 := RdD.here (p := p) hs'
  refine lists1 s' w0 _ _ _ _ hs2.keep (by omega) hsl2 fun A10 c10 => ?_
  refine Ent.freeze fun y4 hy4 => ?_
  have hls2 := row_rd1 (p := p) (fun u hu => (hsl2 u hu).one) hy4
  refine Ent.take (exact y2) (Ent.thaw hy2 ?_)
  refine SpoilLists_spec (vs := s.slots) (us := s'.slots) (ds := n.flat) hls1.keep hls2.keep hsl (by omega) (by omega) hsl1 (fun i u d hu hd => ?_) hfl2 ?_
  · have h1 := hsd' i u d hu hd
    have h2 : RdB (exact x3 :: p) u d := RdB.ofD (RdD.here h1)
    exact h2.keep
  repeat (first | refine Ent.runW (wrap_i64 (by omega) (by omega)) ?_ | refine Ent.runWL (wrap_i64 (by omega) (by omega)) ?_ | refine Ent.runWR (wrap_i64 (by omega) (by omega)) ?_ | refine Ent.run ?_ | refine Ent.runL ?_ | refine Ent.runR ?_ | refine Ent.drawn ?_ | refine Ent.store (by kernel_rfl) ?_ | refine Ent.resN ?_ | refine Ent.res1 ?_ | refine Ent.gop_yes ?_ | refine Ent.gop_no (by decide) ?_ | refine Ent.gop_undef ?_ | refine Ent.glt_undef ?_ | refine Ent.grc_undef ?_ | refine Ent.glt_yes ?_ | refine Ent.glt_no (by decide) ?_ | refine Ent.grc_yes ?_ | refine Ent.grc_no (by decide) ?_)
  refine Intact_spec hw2'.keep hb.keep (by omega) ?_
  rw [decide_eq_true rfl]
  repeat (first | refine Ent.runW (wrap_i64 (by omega) (by omega)) ?_ | refine Ent.runWL (wrap_i64 (by omega) (by omega)) ?_ | refine Ent.runWR (wrap_i64 (by omega) (by omega)) ?_ | refine Ent.run ?_ | refine Ent.runL ?_ | refine Ent.runR ?_ | refine Ent.drawn ?_ | refine Ent.store (by kernel_rfl) ?_ | refine Ent.resN ?_ | refine Ent.res1 ?_ | refine Ent.gop_yes ?_ | refine Ent.gop_no (by decide) ?_ | refine Ent.gop_undef ?_ | refine Ent.glt_undef ?_ | refine Ent.grc_undef ?_ | refine Ent.glt_yes ?_ | refine Ent.glt_no (by decide) ?_ | refine Ent.grc_yes ?_ | refine Ent.grc_no (by decide) ?_)
  refine Ent.ite_f ?_
  repeat (first | refine Ent.runW (wrap_i64 (by omega) (by omega)) ?_ | refine Ent.runWL (wrap_i64 (by omega) (by omega)) ?_ | refine Ent.runWR (wrap_i64 (by omega) (by omega)) ?_ | refine Ent.run ?_ | refine Ent.runL ?_ | refine Ent.runR ?_ | refine Ent.drawn ?_ | refine Ent.store (by kernel_rfl) ?_ | refine Ent.resN ?_ | refine Ent.res1 ?_ | refine Ent.gop_yes ?_ | refine Ent.gop_no (by decide) ?_ | refine Ent.gop_undef ?_ | refine Ent.glt_undef ?_ | refine Ent.grc_undef ?_ | refine Ent.glt_yes ?_ | refine Ent.glt_no (by decide) ?_ | refine Ent.grc_yes ?_ | refine Ent.grc_no (by decide) ?_)
  refine Ent.at_ (fun w _ => sl_run (k := .i64) (l := 0) (h := bs.length) (sz := 1) (.inr ⟨rfl, rfl⟩) (.inl rfl) (by omega) (by omega)) ?_
  refine Decode_uni (v := v) h hf1.keep hl hsub.keep hbl fun n' e' A11 c11 A12 c12 hd' => ?_
  obtain ⟨rfl, rfl⟩ := hd.same hd'
  refine Ent.freeze fun x6 hx6 => ?_
  have hn6 := RdD.here (p := p) (Ow.rd _ _ _ hx6)
  unfold ndC at *
  repeat (first | refine Ent.runW (wrap_i64 (by omega) (by omega)) ?_ | refine Ent.runWL (wrap_i64 (by omega) (by omega)) ?_ | refine Ent.runWR (wrap_i64 (by omega) (by omega)) ?_ | refine Ent.run ?_ | refine Ent.runL ?_ | refine Ent.runR ?_ | refine Ent.drawn ?_ | refine Ent.store (by kernel_rfl) ?_ | refine Ent.resN ?_ | refine Ent.res1 ?_ | refine Ent.gop_yes ?_ | refine Ent.gop_no (by decide) ?_ | refine Ent.gop_undef ?_ | refine Ent.glt_undef ?_ | refine Ent.grc_undef ?_ | refine Ent.glt_yes ?_ | refine Ent.glt_no (by decide) ?_ | refine Ent.grc_yes ?_ | refine Ent.grc_no (by decide) ?_)
  refine Ent.alloc fun g6 => ?_
  repeat (first | refine Ent.runW (wrap_i64 (by omega) (by omega)) ?_ | refine Ent.runWL (wrap_i64 (by omega) (by omega)) ?_ | refine Ent.runWR (wrap_i64 (by omega) (by omega)) ?_ | refine Ent.run ?_ | refine Ent.runL ?_ | refine Ent.runR ?_ | refine Ent.drawn ?_ | refine Ent.store (by kernel_rfl) ?_ | refine Ent.resN ?_ | refine Ent.res1 ?_ | refine Ent.gop_yes ?_ | refine Ent.gop_no (by decide) ?_ | refine Ent.gop_undef ?_ | refine Ent.glt_undef ?_ | refine Ent.grc_undef ?_ | refine Ent.glt_yes ?_ | refine Ent.glt_no (by decide) ?_ | refine Ent.grc_yes ?_ | refine Ent.grc_no (by decide) ?_)
  refine alike1 n w0 _ _ _ n _ _ hn5.keep hn3.keep (fun _ => ?_) (fun h => absurd rfl h)
  repeat (first | refine Ent.runW (wrap_i64 (by omega) (by omega)) ?_ | refine Ent.runWL (wrap_i64 (by omega) (by omega)) ?_ | refine Ent.runWR (wrap_i64 (by omega) (by omega)) ?_ | refine Ent.run ?_ | refine Ent.runL ?_ | refine Ent.runR ?_ | refine Ent.drawn ?_ | refine Ent.store (by kernel_rfl) ?_ | refine Ent.resN ?_ | refine Ent.res1 ?_ | refine Ent.gop_yes ?_ | refine Ent.gop_no (by decide) ?_ | refine Ent.gop_undef ?_ | refine Ent.glt_undef ?_ | refine Ent.grc_undef ?_ | refine Ent.glt_yes ?_ | refine Ent.glt_no (by decide) ?_ | refine Ent.grc_yes ?_ | refine Ent.grc_no (by decide) ?_)
  refine alike1 n w0 _ _ _ n _ _ hn6.keep hn3.keep (fun _ => ?_) (fun h => absurd rfl h)
  repeat (first | refine Ent.runW (wrap_i64 (by omega) (by omega)) ?_ | refine Ent.runWL (wrap_i64 (by omega) (by omega)) ?_ | refine Ent.runWR (wrap_i64 (by omega) (by omega)) ?_ | refine Ent.run ?_ | refine Ent.runL ?_ | refine Ent.runR ?_ | refine Ent.drawn ?_ | refine Ent.store (by kernel_rfl) ?_ | refine Ent.resN ?_ | refine Ent.res1 ?_ | refine Ent.gop_yes ?_ | refine Ent.gop_no (by decide) ?_ | refine Ent.gop_undef ?_ | refine Ent.glt_undef ?_ | refine Ent.grc_undef ?_ | refine Ent.glt_yes ?_ | refine Ent.glt_no (by decide) ?_ | refine Ent.grc_yes ?_ | refine Ent.grc_no (by decide) ?_)
  exact Ent.keep hk
end Go.Lt
