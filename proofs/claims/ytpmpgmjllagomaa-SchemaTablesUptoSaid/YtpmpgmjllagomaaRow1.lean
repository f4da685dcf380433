/- From a walk to a row: the law answers true, and what was there before is as it was. Conditions: none. -/
import Derived.Test.YtpmpgmjllagomaaOpen
import Derived.ChangeSame
import Derived.RowKit
set_option linter.unusedVariables false
set_option maxHeartbeats 4000000
set_option linter.unusedSimpArgs false
set_option maxRecDepth 100000
namespace Go.Lt
open Go
attribute [local irreducible] op gop lt glt rc grc ite' drawn also ldR
open Go.ChangeShapes Go.WideShapes Go.ChangeAt Go.RowKit
section
variable {H : Type} {enc : TypeId × Value → H} {W W' : World} {p : List HP}
theorem calls_of_op {f : FuncId} {fn : Func} {args : List Value} {K : Value → WP} (hf : PR.funcs[f]? = some fn) (hn : (fn.name == "runtime.NumGoroutine") = false) (hb : fn.body.isNone = false) (h : op PR (fun _ _ => False) (S.fn f args) K W) :
    Calls PR f args.toArray W fun e W' => ∃ v, e = .returned v ∧ K v W' := by
  unfold op S.fn at h
  rw [show (#[] : Array Value) = ([] : List Value).toArray from rfl, callV_run W hf hn hb] at h
  unfold upK at h
  simp only [List.nil_append, List.append_nil] at h
  refine h.mono fun e w' he => ?_
  cases e with
  | returned v => exact ⟨v, rfl, he⟩
  | panicked c => exact he.elim
  | outgrown => exact he.elim
/-- The whole memory, frozen. -/
def allH (W : World) : HL := fun i => W.heap[i]?
theorem allH_sat (W : World) : Sat [exact (allH W)] W W := ⟨⟨rfl, rfl, rfl⟩, allH W, sep_emp rfl, fun i o h => h⟩
theorem below_of_sat {q : List HP} [k : Keep q [exact (allH W)]] (h : Sat q W W') : Below W.heap.size W W' := by
  have hs : Sat [exact (allH W)] W W' := h.keep
  obtain ⟨x, hx, hsub⟩ := hs.head
  have hx : x = allH W := hx
  subst hx
  have hblk : ∀ i, i < W.heap.size → W'.heap[i]? = W.heap[i]? := fun i hi => by
    have := hsub i W.heap[i] (Array.getElem?_eq_getElem hi)
    rw [this, Array.getElem?_eq_getElem hi]
  refine ⟨hs.1.1, hs.1.2.1, hs.1.2.2, ?_, hblk⟩
  rcases Nat.eq_zero_or_pos W.heap.size with h0 | h0
  · omega
  · have h1 := hblk (W.heap.size - 1) (by omega)
    rw [show W.heap[W.heap.size - 1]? = some _ from Array.getElem?_eq_getElem (by omega)] at h1
    have := (Array.getElem?_eq_some_iff.1 h1).1
    omega
theorem CW_PC {a : Addr} {v : Value} (h : CW W a v) : PC [exact (allH W)] a v := by
  have hsp := cell_spot h
  refine PC.here ?_
  unfold CW World.cell? at h
  split at h
  · rename_i c t fr hc
    rw [if_neg (by rw [hsp]; simp)] at h
    exact ⟨c, t, fr, hc, hsp, h⟩
  · cases h
theorem Rd.handed {d : D} {cs : List Value} (h : Rd (CW W) d cs) : RdD [exact (allH W)] d cs := Rd.mono (fun _ _ h => CW_PC h) d cs h
theorem trodAll_stays {P : Program} (hl : laidOutB P = true) (hb : Below W.heap.size W W') {sp : Nat → Bool} : ∀ {ts : List TypeId} {vs : List Value} {ds : List (DataW H)} {ps : List MemPlace}, (∀ t ∈ ts, P.readableRec t = true ∧ t < P.types.size) →
    DataW.TrodAll enc P W 0 (fun _ => true) true ts vs ds ps → (∀ x ∈ ps, x.block < W.heap.size) → (∀ x ∈ ps, sp x.block = true) → DataW.TrodAll enc P W' 0 sp true ts vs ds ps
  | [], [], [], ps, _, h, _, _ => h
  | t :: ts, v :: vs, d :: ds, ps, hr, h, hlt, hsp => by
    obtain ⟨p, q, h1, h2, rfl⟩ := h
    refine ⟨p, q, ?_, ?_, rfl⟩
    · exact WideElems.Trod_stays hl (hr t List.mem_cons_self).1 (hr t List.mem_cons_self).2 h1 (fun x hx => hb.same (hlt x (List.mem_append_left _ hx))) (fun x hx => hsp x (List.mem_append_left _ hx))
    · exact trodAll_stays hl hb (fun t ht => hr t (List.mem_cons_of_mem _ ht)) h2 (fun x hx => hlt x (List.mem_append_right _ hx)) (fun x hx => hsp x (List.mem_append_right _ hx))
  | [], _ :: _, _, _, _, h, _, _ => h.elim
  | [], [], _ :: _, _, _, h, _, _ => h.elim
  | _ :: _, [], _, _, _, h, _, _ => h.elim
  | _ :: _, _ :: _, [], _, _, h, _, _ => h.elim
theorem post_of_below {P : Program} {f : Func} {s : ChangeSpec} {apart fresh handsOn again : Bool} {args : Array Value} {ds gs : List (DataW H)} {before : List MemPlace} {tb : TypeId} (hW : DataW.Whole enc P f.params.toList s.vars apart W args.toList ds gs before)
    (hs : s.vars = []) (hr : (s.fn H (ds ++ gs)).results = [.lit (.bool true)]) (ha : (s.fn H (ds ++ gs)).args = ds) (hv : (s.fn H (ds ++ gs)).vars = []) (hl : laidOutB P = true) (hread : ∀ t ∈ f.params.toList, P.readableRec t = true ∧ t < P.types.size)
    (hres : f.resultTypes = #[tb]) (htb : P.underlying tb = some .bool) (hb : Below W.heap.size W W') : s.post enc P f apart fresh handsOn again W args (.bool true) W' := by
  have hlt := hW.lt
  obtain ⟨pa, pv, hA, hV, hbef, hfz, hnd⟩ := id hW
  rw [hs] at hV
  obtain ⟨rfl, rfl⟩ := trodVars_none hV
  rw [List.append_nil] at hbef
  subst hbef
  have hargs : ∀ sp : Nat → Bool, (∀ p ∈ before, sp p.block = true) → DataW.TrodAll enc P W' 0 sp true f.params.toList args.toList ds before := fun sp hsp => trodAll_stays hl hb hread hA hlt hsp
  have hb1 : ∀ (b : Nat) (sp : Nat → Bool) (hd : Bool), DataW.TrodAll enc P W' b sp hd f.resultTypes.toList ((Value.bool true).resultList f.resultTypes.size) [.lit (.bool true)] [] := fun b sp hd => by
    rw [hres]
    exact trodAll_mk1 ⟨1, by simp [DataW.trod, htb, Value.cells]⟩
  have hold : ∀ p ∈ before, (fun b => decide (b < W.heap.size)) p.block = true := fun p hp => by simpa using hlt p hp
  have hvars : ∀ sp : Nat → Bool, DataW.TrodVars enc P W' sp s.vars (s.fn H (ds ++ [])).vars [] := fun sp => by
    rw [hs, hv]
    rfl
  refine ⟨ds, [], before, [], before, [], hW, by rw [hr]; exact hb1 _ _ _, by rw [ha]; exact hargs _ hold, hvars _, hb.frame _, fun _ => ⟨?_, [.lit (.bool true)] ++ ds, (s.fn H (ds ++ [])).vars, [] ++ before ++ [], ⟨[] ++ before, [], ?_, hvars _, rfl, ?_, ?_⟩, ?_⟩⟩
  · exact ok_one (t := tb) (by rw [hres]) rfl (okWide_bool_mk htb _)
  · exact trodAll_append (hargs _ (fun _ _ => rfl)) (hb1 _ _ _)
  · intro b off hp
    have hp : MemPlace.cell b off ∈ before := by simpa using hp
    rw [hb.frozen (p := ⟨b, off, none⟩) (hlt _ hp)]
    exact hfz b off hp
  · intro ha
    simpa using hnd ha
  · intro p hp _
    simpa using hp
end
end Go.Lt
