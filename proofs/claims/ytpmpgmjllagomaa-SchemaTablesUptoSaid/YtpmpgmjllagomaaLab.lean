/- label.Utf: the bytes are characters, or not. Conditions: none. -/
import Derived.Test.YtpmpgmjllagomaaSeatA
import Derived.Test.YtpmpgmjllagomaaCur
import Derived.Test.YtpmpgmjllagomaaUtf
import Derived.Laws.BytesArg
import Derived.Lib.Strings
set_option linter.unusedVariables false
set_option maxHeartbeats 4000000
set_option linter.unusedSimpArgs false
set_option maxRecDepth 100000
namespace Go.Lt
open Go
attribute [local irreducible] op gop lt glt rc grc ite' drawn also ldR
variable {w0 : World} {p : List HP} {Pn : PK} {K : Value → WP}
def strB (bs : List UInt8) : ByteArray := ⟨bs.toArray⟩
theorem strB_size (bs : List UInt8) : (strB bs).size = bs.length := by simp [strB, ByteArray.size]
theorem strB_data (bs : List UInt8) : (strB bs).data.toList = bs := rfl
theorem conv_str {s d e : TypeId} {v : Value} {bs : List UInt8} [hs : SlE PR s e] [he : Und PR e (.int .u8)] [hd : Und PR d .string] (hb : RdB p v bs) : ∀ w, Sat p w0 w → (S.conv s d v).run PR w = .ok (.value (.string (strB bs))) w := fun w hsat => by
  obtain ⟨A, c, rfl, h1, h2, h3⟩ := hb
  refine vv_run ?_
  have e : strB bs = strOfNums (bs.map fun b => (b.toNat : Int)) := by
    unfold strB strOfNums
    congr 2
    rw [List.map_map]
    have : ((fun n : Int => UInt8.ofNat n.toNat) ∘ fun b : UInt8 => (b.toNat : Int)) = id := funext fun b => by simp
    rw [this]
    simp
  rcases h3 with rfl | ⟨b, o, rfl, h4⟩
  · cases A with
    | none => exact run_convert_bytes_nil (P := PR) w s _ hs.out he.out _ _ d hd.out
    | some a =>
      rw [run_convert_bytes_string (P := PR) w s d _ _ _ _ hs.out he.out hd.out]
      simp [Conv.bytesToString, loadCells, loadCellsFrom]
      rfl
  · rw [e]
    exact run_convert_bytes_arg (P := PR) w s _ hs.out he.out b o _ c _ (by simp) (fun i hi => by
      have := h4 w0 w hsat i bs[i] (by simp [hi])
      rw [this]
      simp [List.getD_eq_getElem?_getD, hi]) d hd.out
/-- A string's range, and its next. -/
theorem Ent.rngS {t : TypeId} {s : ByteArray} [ht : Und PR t .string] (h : ∀ g, Ent w0 (obj g (.stringIter s 0) :: p) (K (.pointer (some ⟨g, 0, none⟩)))) : Ent w0 p (op PR Pn (S.rng t (.string s)) K) := fun w hs => by
  have e : (S.rng t (.string s)).run PR w = .ok (.value (.pointer (some ⟨w.heap.size, 0, none⟩))) { w with heap := w.heap.push (.stringIter s 0) } := vv_run (by
    simp [Instr.range, und_run ht.out, newObj, Sem.run])
  unfold op
  rw [e]
  exact h _ _ (hs.new _)
theorem Sat.setObj {g : Nat} {o o' : Obj} {w : World} (hs : Sat (obj g o :: p) w0 w) : Sat (obj g o' :: p) w0 { w with heap := w.heap.setIfInBounds g o' } := by
  obtain ⟨h0, x, ⟨y, z, hy, hz, h3, h4⟩, h5⟩ := hs
  have hg : w.heap[g]? = some o := h5 g _ (by rw [h4, hy]; simp [one])
  have hlt : g < w.heap.size := (Array.getElem?_eq_some_iff.1 hg).1
  refine ⟨h0, fun i => (one g o' i).or (z i), ⟨_, z, rfl, hz, fun i => ?_, fun i => rfl⟩, fun i u hu => ?_⟩
  · by_cases hi : i = g
    · subst hi
      rcases h3 i with h | h
      · rw [hy] at h; simp [one] at h
      · exact .inr h
    · left; simp [one, hi]
  · by_cases hi : i = g
    · subst hi
      simp [one] at hu
      subst hu
      simp [hlt]
    · simp only [one, hi, if_false, Option.none_or] at hu
      have : x i = some u := by rw [h4, hy]; simp [one, hi, hu]
      have := h5 _ _ this
      simp [Array.getElem?_setIfInBounds_ne (Ne.symm hi), this]
theorem Ent.nxtS {g : Nat} {s : ByteArray} {i : Nat} {ty : TypeId}
    (h1 : i < s.size → Ent w0 (obj g (.stringIter s (i + (Utf8.decode s i).2)) :: p) (K (.tuple [.bool true, .int .i64 i, .int .i32 ((Utf8.decode s i).1 : Nat)].toArray)))
    (h2 : ¬ i < s.size → Ent w0 (obj g (.stringIter s i) :: p) (K (.tuple [.bool false].toArray))) : Ent w0 (obj g (.stringIter s i) :: p) (op PR Pn (S.nxt (.pointer (some ⟨g, 0, none⟩)) true ty) K) := fun w hs => by
  have hg := hs.getObj
  have hlt : g < w.heap.size := (Array.getElem?_eq_some_iff.1 hg).1
  unfold op
  by_cases h : i < s.size
  · have e : (S.nxt (.pointer (some ⟨g, 0, none⟩)) true ty).run PR w = .ok (.value (.tuple [.bool true, .int .i64 i, .int .i32 ((Utf8.decode s i).1 : Nat)].toArray)) { w with heap := w.heap.setIfInBounds g (.stringIter s (i + (Utf8.decode s i).2)) } := vv_run (by
      simp [Instr.next, getObj, setObj, Sem.run, hg, h, goInt])
    rw [e]
    exact h1 h _ hs.setObj
  · have e : (S.nxt (.pointer (some ⟨g, 0, none⟩)) true ty).run PR w = .ok (.value (.tuple [.bool false].toArray)) w := vv_run (by
      simp [Instr.next, getObj, setObj, Sem.run, hg, h, goInt])
    rw [e]
    exact h2 h _ hs
/-- s[i:]. -/
theorem slS_run {t : TypeId} {s : ByteArray} {k : IntKind} {i : Nat} {w : World} [ht : Und PR t .string] (hi : i ≤ s.size) : (S.sl t (.string s) (some (.int k i)) none none).run PR w = .ok (.value (.string (s.extract i s.size))) w := vv_run (by
  simp [Instr.sliceAt, und_run ht.out, Instr.slice, Instr.sliceBounds, Instr.sliceBound, asIntOf, hi])
theorem slS_run' {t : TypeId} {s : ByteArray} {k : IntKind} {i : Nat} {w : World} [ht : Und PR t .string] (hi : i ≤ s.size) : (S.sl t (.string s) none (some (.int k i)) none).run PR w = .ok (.value (.string (s.extract 0 i))) w := vv_run (by
  simp [Instr.sliceAt, und_run ht.out, Instr.slice, Instr.sliceBounds, Instr.sliceBound, asIntOf, hi])
theorem HasPrefix_spec {s q : ByteArray} (h1 : s.size ≤ 9223372036854775807) (h2 : q.size ≤ 9223372036854775807) (hk : Ent w0 p (K (.bool (decide (q.data.toList <+: s.data.toList))))) : Ent w0 p (op PR Pn (S.fn F.strings_HasPrefix [.string s, .string q]) K) := by
  refine Ent.call (fun w h => enter.strings_HasPrefix h) ?_
  unfold W.strings_HasPrefix
  refine Ent.call (fun w h => enter.stringslite_HasPrefix h) ?_
  unfold W.stringslite_HasPrefix
  repeat (first | refine Ent.runW (wrap_i64 (by omega) (by omega)) ?_ | refine Ent.runWL (wrap_i64 (by omega) (by omega)) ?_ | refine Ent.runWR (wrap_i64 (by omega) (by omega)) ?_ | refine Ent.run ?_ | refine Ent.runL ?_ | refine Ent.runR ?_ | refine Ent.drawn ?_ | refine Ent.store (by kernel_rfl) ?_ | refine Ent.resN ?_ | refine Ent.res1 ?_ | refine Ent.gop_yes ?_ | refine Ent.gop_no (by decide) ?_ | refine Ent.gop_undef ?_ | refine Ent.glt_undef ?_ | refine Ent.grc_undef ?_ | refine Ent.glt_yes ?_ | refine Ent.glt_no (by decide) ?_ | refine Ent.grc_yes ?_ | refine Ent.grc_no (by decide) ?_)
  by_cases h : q.size ≤ s.size
  · rw [show decide ((q.size : Int) ≤ (s.size : Int)) = true by simp; omega]
    repeat (first | refine Ent.runW (wrap_i64 (by omega) (by omega)) ?_ | refine Ent.runWL (wrap_i64 (by omega) (by omega)) ?_ | refine Ent.runWR (wrap_i64 (by omega) (by omega)) ?_ | refine Ent.run ?_ | refine Ent.runL ?_ | refine Ent.runR ?_ | refine Ent.drawn ?_ | refine Ent.store (by kernel_rfl) ?_ | refine Ent.resN ?_ | refine Ent.res1 ?_ | refine Ent.gop_yes ?_ | refine Ent.gop_no (by decide) ?_ | refine Ent.gop_undef ?_ | refine Ent.glt_undef ?_ | refine Ent.grc_undef ?_ | refine Ent.glt_yes ?_ | refine Ent.glt_no (by decide) ?_ | refine Ent.grc_yes ?_ | refine Ent.grc_no (by decide) ?_)
    refine Ent.at_ (fun w _ => slS_run' (k := .i64) h) ?_
    repeat (first | refine Ent.runW (wrap_i64 (by omega) (by omega)) ?_ | refine Ent.runWL (wrap_i64 (by omega) (by omega)) ?_ | refine Ent.runWR (wrap_i64 (by omega) (by omega)) ?_ | refine Ent.run ?_ | refine Ent.runL ?_ | refine Ent.runR ?_ | refine Ent.drawn ?_ | refine Ent.store (by kernel_rfl) ?_ | refine Ent.resN ?_ | refine Ent.res1 ?_ | refine Ent.gop_yes ?_ | refine Ent.gop_no (by decide) ?_ | refine Ent.gop_undef ?_ | refine Ent.glt_undef ?_ | refine Ent.grc_undef ?_ | refine Ent.glt_yes ?_ | refine Ent.glt_no (by decide) ?_ | refine Ent.grc_yes ?_ | refine Ent.grc_no (by decide) ?_)
    simp only [if_true]
    have e : decide (s.extract 0 q.size = q) = decide (q.data.toList <+: s.data.toList) := by
      rw [Bool.eq_iff_iff, decide_eq_true_iff, decide_eq_true_iff, List.prefix_iff_eq_take]
      have e1 : (s.extract 0 q.size).data.toList = s.data.toList.take q.data.toList.length := by
        rw [show q.data.toList.length = q.size from Array.length_toList]
        have : s = ByteArray.mk s.data.toList.toArray := by simp
        rw [this, ByteArray.extract_mk]
        simp
      constructor
      · intro h; rw [← e1, h]
      · intro h; exact ByteArray.ext (Array.toList_inj.1 (e1.trans h.symm))
    rw [e]
    exact hk
  · rw [show decide ((q.size : Int) ≤ (s.size : Int)) = false by simp; omega]
    repeat (first | refine Ent.runW (wrap_i64 (by omega) (by omega)) ?_ | refine Ent.runWL (wrap_i64 (by omega) (by omega)) ?_ | refine Ent.runWR (wrap_i64 (by omega) (by omega)) ?_ | refine Ent.run ?_ | refine Ent.runL ?_ | refine Ent.runR ?_ | refine Ent.drawn ?_ | refine Ent.store (by kernel_rfl) ?_ | refine Ent.resN ?_ | refine Ent.res1 ?_ | refine Ent.gop_yes ?_ | refine Ent.gop_no (by decide) ?_ | refine Ent.gop_undef ?_ | refine Ent.glt_undef ?_ | refine Ent.grc_undef ?_ | refine Ent.glt_yes ?_ | refine Ent.glt_no (by decide) ?_ | refine Ent.grc_yes ?_ | refine Ent.grc_no (by decide) ?_)
    simp only [Bool.false_eq_true, if_false]
    have e : decide (q.data.toList <+: s.data.toList) = false := by
      rw [decide_eq_false_iff_not]
      intro hp
      have := hp.length_le
      have e1 : q.data.toList.length = q.size := Array.length_toList
      have e2 : s.data.toList.length = s.size := Array.length_toList
      omega
    rw [e] at hk
    exact hk

theorem Utf_spec {v : Value} {bs : List UInt8} (hb : RdB p v bs) (hl : bs.length ≤ 1073741824) (hk : ∀ at_ : Int, Ent w0 p (K (.tuple [.int .i64 at_, .bool (utf bs)].toArray))) : Ent w0 p (op PR Pn (S.fn F.label_Utf [v]) K) := by
  obtain ⟨A, c, rfl, h1, h2⟩ := hb.shape
  refine Ent.call (fun w h => enter.label_Utf h) ?_
  unfold W.label_Utf
  refine Ent.at_ (fun w hs => conv_str hb w hs) ?_
  refine Ent.rngS fun g => ?_
  have hsz := strB_size bs
  refine Ent.L2 (σ := Nat) (fun _ => .int .i64 0) (fun _ => .bool false) (fun i => pure' (i ≤ bs.length ∧ utf bs = utf (bs.drop i)) :: obj g (.stringIter (strB bs) i) :: p) (fun i => bs.length - i) 0 (fun w hs => hs.add ⟨⟨by omega, by simp⟩, fun _ => rfl⟩) ?_
  intro i k hrec
  refine Ent.pure fun hi => ?_
  obtain ⟨hi, hu⟩ := hi
  refine Ent.nxtS (fun h => ?_) (fun h => ?_)
  · rw [hsz] at h
    have hne : bs.drop i ≠ [] := by intro h'; have := congrArg List.length h'; simp at this; omega
    obtain ⟨d1, d2⟩ := decode_char (strB bs) (bs.drop i) i rfl hne
    rw [utf_step _ hne] at hu
    generalize Utf8.decode (strB bs) i = r at d1 d2 ⊢
    obtain ⟨r, n⟩ := r
    simp only at d1 d2 ⊢
    repeat (first | refine Ent.runW (wrap_i64 (by omega) (by omega)) ?_ | refine Ent.runWL (wrap_i64 (by omega) (by omega)) ?_ | refine Ent.runWR (wrap_i64 (by omega) (by omega)) ?_ | refine Ent.run ?_ | refine Ent.runL ?_ | refine Ent.runR ?_ | refine Ent.drawn ?_ | refine Ent.store (by kernel_rfl) ?_ | refine Ent.resN ?_ | refine Ent.res1 ?_ | refine Ent.gop_yes ?_ | refine Ent.gop_no (by decide) ?_ | refine Ent.gop_undef ?_ | refine Ent.glt_undef ?_ | refine Ent.grc_undef ?_ | refine Ent.glt_yes ?_ | refine Ent.glt_no (by decide) ?_ | refine Ent.grc_yes ?_ | refine Ent.grc_no (by decide) ?_)
    refine Ent.ite_t ?_
    repeat (first | refine Ent.runW (wrap_i64 (by omega) (by omega)) ?_ | refine Ent.runWL (wrap_i64 (by omega) (by omega)) ?_ | refine Ent.runWR (wrap_i64 (by omega) (by omega)) ?_ | refine Ent.run ?_ | refine Ent.runL ?_ | refine Ent.runR ?_ | refine Ent.drawn ?_ | refine Ent.store (by kernel_rfl) ?_ | refine Ent.resN ?_ | refine Ent.res1 ?_ | refine Ent.gop_yes ?_ | refine Ent.gop_no (by decide) ?_ | refine Ent.gop_undef ?_ | refine Ent.glt_undef ?_ | refine Ent.grc_undef ?_ | refine Ent.glt_yes ?_ | refine Ent.glt_no (by decide) ?_ | refine Ent.grc_yes ?_ | refine Ent.grc_no (by decide) ?_)
    by_cases hr : r = 65533
    · subst hr
      rw [show decide (((65533 : Nat) : Int) = 65533) = true by simp]
      repeat (first | refine Ent.runW (wrap_i64 (by omega) (by omega)) ?_ | refine Ent.runWL (wrap_i64 (by omega) (by omega)) ?_ | refine Ent.runWR (wrap_i64 (by omega) (by omega)) ?_ | refine Ent.run ?_ | refine Ent.runL ?_ | refine Ent.runR ?_ | refine Ent.drawn ?_ | refine Ent.store (by kernel_rfl) ?_ | refine Ent.resN ?_ | refine Ent.res1 ?_ | refine Ent.gop_yes ?_ | refine Ent.gop_no (by decide) ?_ | refine Ent.gop_undef ?_ | refine Ent.glt_undef ?_ | refine Ent.grc_undef ?_ | refine Ent.glt_yes ?_ | refine Ent.glt_no (by decide) ?_ | refine Ent.grc_yes ?_ | refine Ent.grc_no (by decide) ?_)
      refine Ent.at_ (fun w _ => slS_run (k := .i64) (i := i) (by omega)) ?_
      repeat (first | refine Ent.runW (wrap_i64 (by omega) (by omega)) ?_ | refine Ent.runWL (wrap_i64 (by omega) (by omega)) ?_ | refine Ent.runWR (wrap_i64 (by omega) (by omega)) ?_ | refine Ent.run ?_ | refine Ent.runL ?_ | refine Ent.runR ?_ | refine Ent.drawn ?_ | refine Ent.store (by kernel_rfl) ?_ | refine Ent.resN ?_ | refine Ent.res1 ?_ | refine Ent.gop_yes ?_ | refine Ent.gop_no (by decide) ?_ | refine Ent.gop_undef ?_ | refine Ent.glt_undef ?_ | refine Ent.grc_undef ?_ | refine Ent.glt_yes ?_ | refine Ent.glt_no (by decide) ?_ | refine Ent.grc_yes ?_ | refine Ent.grc_no (by decide) ?_)
      have e : ((strB bs).extract i (strB bs).size).data.toList = bs.drop i := by
        rw [Lib.extract_data, hsz, strB_data]
        exact List.take_of_length_le (by simp)
      have es : ((strB bs).extract i (strB bs).size).size ≤ 9223372036854775807 := by
        have h1 : ((strB bs).extract i (strB bs).size).size = ((strB bs).extract i (strB bs).size).data.toList.length := Array.length_toList.symm
        rw [h1, e, List.length_drop]
        omega
      refine HasPrefix_spec (q := { data := #[239, 191, 189] }) es (by decide) ?_
      rw [e]
      by_cases hp : [239, 191, 189] <+: bs.drop i
      · have hc : charLen (bs.drop i) ≠ 0 := fun h0 => (d1 h0).2 hp
        rw [show decide (({ data := #[239, 191, 189] } : ByteArray).data.toList <+: bs.drop i) = true from decide_eq_true hp]
        repeat (first | refine Ent.runW (wrap_i64 (by omega) (by omega)) ?_ | refine Ent.runWL (wrap_i64 (by omega) (by omega)) ?_ | refine Ent.runWR (wrap_i64 (by omega) (by omega)) ?_ | refine Ent.run ?_ | refine Ent.runL ?_ | refine Ent.runR ?_ | refine Ent.drawn ?_ | refine Ent.store (by kernel_rfl) ?_ | refine Ent.resN ?_ | refine Ent.res1 ?_ | refine Ent.gop_yes ?_ | refine Ent.gop_no (by decide) ?_ | refine Ent.gop_undef ?_ | refine Ent.glt_undef ?_ | refine Ent.grc_undef ?_ | refine Ent.glt_yes ?_ | refine Ent.glt_no (by decide) ?_ | refine Ent.grc_yes ?_ | refine Ent.grc_no (by decide) ?_)
        simp only [if_true, Bool.not_true]
        refine Ent.ite_f ?_
        have hn := (d2 hc).1
        have hle := charLen_le (bs.drop i)
        rw [List.length_drop] at hle
        rw [if_neg hc, List.drop_drop] at hu
        have := hrec (i + n) (by omega)
        rw [← hn] at hu
        exact Ent.add ⟨⟨by omega, hu⟩, fun _ => rfl⟩ this
      · have hc : charLen (bs.drop i) = 0 := by
          rcases Nat.eq_zero_or_pos (charLen (bs.drop i)) with h0 | h0
          · exact h0
          · exact absurd ((d2 (by omega)).2 rfl) hp
        rw [show decide (({ data := #[239, 191, 189] } : ByteArray).data.toList <+: bs.drop i) = false from decide_eq_false hp]
        repeat (first | refine Ent.runW (wrap_i64 (by omega) (by omega)) ?_ | refine Ent.runWL (wrap_i64 (by omega) (by omega)) ?_ | refine Ent.runWR (wrap_i64 (by omega) (by omega)) ?_ | refine Ent.run ?_ | refine Ent.runL ?_ | refine Ent.runR ?_ | refine Ent.drawn ?_ | refine Ent.store (by kernel_rfl) ?_ | refine Ent.resN ?_ | refine Ent.res1 ?_ | refine Ent.gop_yes ?_ | refine Ent.gop_no (by decide) ?_ | refine Ent.gop_undef ?_ | refine Ent.glt_undef ?_ | refine Ent.grc_undef ?_ | refine Ent.glt_yes ?_ | refine Ent.glt_no (by decide) ?_ | refine Ent.grc_yes ?_ | refine Ent.grc_no (by decide) ?_)
        simp only [if_true, Bool.not_false]
        refine Ent.ite_t ?_
        rw [if_pos hc] at hu
        rw [← hu]
        exact Ent.drop (hk i)
    · have hc : charLen (bs.drop i) ≠ 0 := fun h0 => hr (d1 h0).1
      rw [show decide (((r : Nat) : Int) = 65533) = false by simp; omega]
      repeat (first | refine Ent.runW (wrap_i64 (by omega) (by omega)) ?_ | refine Ent.runWL (wrap_i64 (by omega) (by omega)) ?_ | refine Ent.runWR (wrap_i64 (by omega) (by omega)) ?_ | refine Ent.run ?_ | refine Ent.runL ?_ | refine Ent.runR ?_ | refine Ent.drawn ?_ | refine Ent.store (by kernel_rfl) ?_ | refine Ent.resN ?_ | refine Ent.res1 ?_ | refine Ent.gop_yes ?_ | refine Ent.gop_no (by decide) ?_ | refine Ent.gop_undef ?_ | refine Ent.glt_undef ?_ | refine Ent.grc_undef ?_ | refine Ent.glt_yes ?_ | refine Ent.glt_no (by decide) ?_ | refine Ent.grc_yes ?_ | refine Ent.grc_no (by decide) ?_)
      simp only [Bool.false_eq_true, if_false]
      refine Ent.ite_f ?_
      have hn := (d2 hc).1
      have hle := charLen_le (bs.drop i)
      rw [List.length_drop] at hle
      rw [if_neg hc, List.drop_drop] at hu
      have := hrec (i + n) (by omega)
      rw [← hn] at hu
      exact Ent.add ⟨⟨by omega, hu⟩, fun _ => rfl⟩ this
  · rw [hsz] at h
    have : i = bs.length := by omega
    subst this
    repeat (first | refine Ent.runW (wrap_i64 (by omega) (by omega)) ?_ | refine Ent.runWL (wrap_i64 (by omega) (by omega)) ?_ | refine Ent.runWR (wrap_i64 (by omega) (by omega)) ?_ | refine Ent.run ?_ | refine Ent.runL ?_ | refine Ent.runR ?_ | refine Ent.drawn ?_ | refine Ent.store (by kernel_rfl) ?_ | refine Ent.resN ?_ | refine Ent.res1 ?_ | refine Ent.gop_yes ?_ | refine Ent.gop_no (by decide) ?_ | refine Ent.gop_undef ?_ | refine Ent.glt_undef ?_ | refine Ent.grc_undef ?_ | refine Ent.glt_yes ?_ | refine Ent.glt_no (by decide) ?_ | refine Ent.grc_yes ?_ | refine Ent.grc_no (by decide) ?_)
    refine Ent.ite_f ?_
    repeat (first | refine Ent.runW (wrap_i64 (by omega) (by omega)) ?_ | refine Ent.runWL (wrap_i64 (by omega) (by omega)) ?_ | refine Ent.runWR (wrap_i64 (by omega) (by omega)) ?_ | refine Ent.run ?_ | refine Ent.runL ?_ | refine Ent.runR ?_ | refine Ent.drawn ?_ | refine Ent.store (by kernel_rfl) ?_ | refine Ent.resN ?_ | refine Ent.res1 ?_ | refine Ent.gop_yes ?_ | refine Ent.gop_no (by decide) ?_ | refine Ent.gop_undef ?_ | refine Ent.glt_undef ?_ | refine Ent.grc_undef ?_ | refine Ent.glt_yes ?_ | refine Ent.glt_no (by decide) ?_ | refine Ent.grc_yes ?_ | refine Ent.grc_no (by decide) ?_)
    rw [List.drop_length] at hu
    have e : utf bs = true := hu
    rw [e] at hk
    exact Ent.drop (hk _)
end Go.Lt
