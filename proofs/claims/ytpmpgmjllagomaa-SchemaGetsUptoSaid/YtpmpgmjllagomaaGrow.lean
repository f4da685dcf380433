/- A slice of bytes that is appended to, while the old one is kept. Conditions: none. -/
import Derived.Test.YtpmpgmjllagomaaRef2
import Derived.Test.YtpmpgmjllagomaaScomp
set_option linter.unusedVariables false
set_option maxHeartbeats 4000000
set_option linter.unusedSimpArgs false
set_option maxRecDepth 100000
namespace Go.Lt
open Go
attribute [local irreducible] op gop lt glt rc grc ite' drawn also ldR
/-- v holds bs, v' holds bs', which began as v's: on the same array, or apart. -/
def grow (v : Value) (bs : List UInt8) (v' : Value) (bs' : List UInt8) : HP := fun h => sep (ownB T.u8 v bs) (ownB T.u8 v' bs') h ∨
  (∃ g c, v = .slice (some ⟨g, 0, none⟩) bs.length c ∧ v' = .slice (some ⟨g, 0, none⟩) bs'.length c ∧ bs.length ≤ bs'.length ∧ bs'.take bs.length = bs ∧ ownB T.u8 v' bs' h)
theorem rdB.mono {x y : HL} {v : Value} {bs : List UInt8} (hs : ∀ i o, x i = some o → y i = some o) (h : rdB x v bs) : rdB y v bs := by
  obtain ⟨A, c, h1, h2, h3, h4⟩ := h
  exact ⟨A, c, h1, h2, h3, h4.imp id fun ⟨b, o, h5, h6⟩ => ⟨b, o, h5, fun i u hu => (h6 i u hu).mono hs⟩⟩
theorem sep_subs {a b : HP} {x : HL} (h : sep a b x) : ∃ y z, a y ∧ b z ∧ (∀ i o, y i = some o → x i = some o) ∧ (∀ i o, z i = some o → x i = some o) := by
  obtain ⟨y, z, h1, h2, h3, h4⟩ := h
  refine ⟨y, z, h1, h2, fun i o hi => by rw [h4, hi]; rfl, fun i o hi => ?_⟩
  rw [h4]
  rcases h3 i with h | h
  · rw [h, hi]; rfl
  · rw [h] at hi; cases hi
theorem grow_rd {v v' : Value} {bs bs' : List UInt8} {x : HL} (h : grow v bs v' bs' x) : rdB x v bs ∧ rdB x v' bs' := by
  rcases h with h | ⟨g, c, rfl, rfl, h1, h2, h3⟩
  · obtain ⟨y, z, hy, hz, h1, h2⟩ := sep_subs h
    exact ⟨(ownB_rd hy).mono h1, (ownB_rd hz).mono h2⟩
  · have hr := ownB_rd h3
    refine ⟨?_, hr⟩
    obtain ⟨A, c', e1, e2, e3, e4⟩ := hr
    injection e1 with a1 a2 a3
    subst a1; subst a3
    refine ⟨_, _, rfl, by omega, e3, ?_⟩
    rcases e4 with e4 | ⟨b, o, e5, e6⟩
    · left
      rw [e4] at h1
      exact List.eq_nil_of_length_eq_zero (by simpa using h1)
    · refine .inr ⟨b, o, e5, fun i u hu => e6 i u ?_⟩
      rw [← h2, List.getElem?_take] at hu
      split at hu
      · exact hu
      · cases hu
section
variable {w0 : World} {p : List HP} {Pn : PK} {K : Value → WP}
theorem Ent.or {a b : HP} {φ : WP} (h1 : Ent w0 (a :: p) φ) (h2 : Ent w0 (b :: p) φ) : Ent w0 ((fun h => a h ∨ b h) :: p) φ := fun w hs => by
  obtain ⟨h0, x, ⟨y, z, hy, h3⟩, h5⟩ := hs
  rcases hy with hy | hy
  · exact h1 w ⟨h0, x, ⟨y, z, hy, h3⟩, h5⟩
  · exact h2 w ⟨h0, x, ⟨y, z, hy, h3⟩, h5⟩
theorem Ent.sepE {a b : HP} {φ : WP} (h : Ent w0 (a :: b :: p) φ) : Ent w0 (sep a b :: p) φ := Ent.imp (b := both [a, b]) (fun x hx => sep_mono (fun _ h => h) (fun _ h => sep_emp h) hx) (Ent.split h)
theorem Ent.sepI {a b : HP} {φ : WP} (h : Ent w0 (sep a b :: p) φ) : Ent w0 (a :: b :: p) φ := Ent.join' (q := [a, b]) (Ent.imp (fun x hx => sep_mono (fun _ h => h) (fun _ h => sepL_one h) hx) h)
theorem grow_apart {v v' : Value} {bs bs' : List UInt8} {φ : WP} (h : Ent w0 (grow v bs v' bs' :: p) φ) : Ent w0 (ownB T.u8 v bs :: ownB T.u8 v' bs' :: p) φ := Ent.sepI (Ent.imp (fun x hx => .inl hx) h)
theorem grow_start {v : Value} {bs : List UInt8} {φ : WP} (h : Ent w0 (grow v bs v bs :: p) φ) : Ent w0 (ownB T.u8 v bs :: p) φ := by
  refine Ent.imp (fun x hx => ?_) h
  obtain ⟨h1, ⟨rfl, h3, h4⟩ | ⟨g, cap, cur, rfl, h3⟩⟩ := id hx
  · have : bs = [] := List.eq_nil_of_length_eq_zero h3
    subst this
    left
    exact ⟨x, fun _ => none, hx, row_nil _ _, fun _ => .inr rfl, fun i => by simp⟩
  · exact .inr ⟨g, cap, rfl, rfl, Nat.le_refl _, List.take_length, hx⟩
theorem row_objE {e g n c : Nat} {cs : List Value} {φ : WP} (h : ∀ cur : Array Value, n ≤ c → c ≤ maxLen → cur.size = c → cur.toList.take n = cs → cs.length = n → Ent w0 (obj g (.cells cur e (0, 0)) :: p) φ) : Ent w0 (row e 1 (.slice (some ⟨g, 0, none⟩) n c) n cs :: p) φ := by
  refine Ent.freeze fun x hx => ?_
  obtain ⟨cur, rfl, h1, h2, h3, h4, h5⟩ := row_obj hx
  rw [Nat.mul_one] at h3 h4 h5
  exact Ent.imp (fun y hy => hy) (h cur h1 h2 h3 h4 h5)
theorem obj_row {e g n c : Nat} {cs : List Value} {cur : Array Value} {φ : WP} (h1 : n ≤ c) (h2 : c ≤ maxLen) (h3 : cur.size = c) (h4 : cur.toList.take n = cs) (h5 : cs.length = n) (h : Ent w0 (row e 1 (.slice (some ⟨g, 0, none⟩) n c) n cs :: p) φ) : Ent w0 (obj g (.cells cur e (0, 0)) :: p) φ :=
  Ent.imp (fun y hy => ⟨by omega, .inr ⟨g, c, cur, rfl, h1, h2, by omega, by rw [Nat.mul_one]; exact h4, hy⟩⟩) h
theorem setRow_eq (w : World) (g : Nat) (cur cs : Array Value) (e : TypeId) (hg : w.heap[g]? = some (.cells cur e (0, 0))) : w.setRow g cs = { w with heap := w.heap.setIfInBounds g (.cells cs e (0, 0)) } := by
  unfold World.setRow
  congr 1
  refine Array.ext_getElem? fun j => ?_
  have hlt := (Array.getElem?_eq_some_iff.1 hg).1
  by_cases hj : g = j
  · subst hj
    have hge : w.heap[g] = .cells cur e (0, 0) := by
      rw [Array.getElem?_eq_getElem hlt] at hg
      exact Option.some.inj hg
    rw [Array.getElem?_modify]
    simp [hge, hlt]
  · rw [Array.getElem?_modify, if_neg hj, Array.getElem?_setIfInBounds_ne hj]
theorem pushG {t : Nat} {v v' : Value} {b : UInt8} {bs bs' : List UInt8} {fl : List Bool} {ty : TypeId} [ht : SlE PR t T.u8] [hb : BS PR t 1 [(0, u8 b)] T.u8 [u8 b]] (hl : bs'.length + 1 ≤ 4294967296)
    (hk : ∀ A c, Ent w0 (grow v bs (.slice A (bs'.length + 1) c) (bs' ++ [b]) :: p) (K (.slice A (bs'.length + 1) c))) :
    Ent w0 (grow v bs v' bs' :: p) (op PR Pn (S.bslice t 1 [(0, u8 b)]) fun x => op PR Pn (S.bi .append #[t, t] ty fl [v', x]) K) := by
  unfold grow at hk ⊢
  refine Ent.or (Ent.sepE ?_) ?_
  · refine Ent.perm (List.Perm.swap _ _ _) (pushB hl fun A c => ?_)
    exact Ent.perm (List.Perm.swap _ _ _) (Ent.sepI (Ent.imp (fun x hx => .inl hx) (hk A c)))
  · refine Ent.freeze fun x hx => ?_
    obtain ⟨g, c, rfl, rfl, h1, h2, h3⟩ := id hx
    refine Ent.thaw (a := ownB T.u8 (.slice (some ⟨g, 0, none⟩) bs'.length c) bs') h3 ?_
    unfold ownB
    refine row_objE fun cur hn hc hcs htk hln => ?_
    refine Ent.bslice fun g5 => ?_
    haveI : Zero PR T.u8 (.int .u8 0) 1 := ⟨by kernel_rfl⟩
    obtain ⟨ti, hi, hiz, hisz, hb1, hb2⟩ := zero_info (h := (inferInstance : Zero PR T.u8 (.int .u8 0) 1))
    intro w hs
    obtain ⟨t5, ht5⟩ := hs.getBlk
    have hs2 := hs.drop
    have hg := hs2.getObj
    have hnews : ∀ j u, [u8 b][j]? = some u → w.cell? ((⟨g5, 0, none⟩ : Addr).add j) = some u := fun j u hu => by
      rw [add_none]
      simp [World.cell?, ht5, hu]
    unfold op
    by_cases hroom : bs'.length + 1 ≤ c
    · have hr := run_append_room (P := PR) w t ty T.u8 ti ht.out hi g bs'.length c cur hg ⟨g5, 0, none⟩ 1 1 [u8 b] (by simp [hisz]) hnews (by simp [u8, Value.oneCell']) hroom (by rw [hisz]; simp; omega)
      have e : (S.bi .append #[t, t] ty fl [.slice (some ⟨g, 0, none⟩) bs'.length c, .slice (some ⟨g5, 0, none⟩) 1 1]).run PR w = .ok (.value (.slice (some ⟨g, 0, none⟩) (bs'.length + 1) c)) (w.setRow g (cur.toList.take (bs'.length * ti.size) ++ [u8 b] ++ cur.toList.drop (bs'.length * ti.size + [u8 b].length)).toArray) := by
        simp only [S.bi, Go.invoke, builtin, Sem.run_bind, hr, Result.andThen_ok, Sem.run_pure]
      rw [e]
      rw [hisz, Nat.mul_one, htk, setRow_eq _ _ _ _ _ hg]
      refine hk _ _ _ ((hs2.setObj).imp fun y hy => .inr ⟨g, c, rfl, by rw [List.length_append]; rfl, by rw [List.length_append]; omega, by rw [List.take_append_of_le_length (by omega), h2], ?_⟩)
      refine ⟨by simp, .inr ⟨g, c, _, by rw [List.length_append]; rfl, by simp; omega, hc, ?_, ?_, hy⟩⟩
      · have : cur.toList.length = cur.size := Array.length_toList
        simp only [List.size_toArray, List.length_append, List.length_map, List.length_cons, List.length_nil, List.length_drop]
        omega
      · simp only [List.map_append, List.length_append, List.length_map, List.map_cons, List.map_nil, List.length_cons, List.length_nil, Nat.mul_one]
        rw [List.take_append_of_le_length (by simp), List.take_of_length_le (by simp)]
    · have holds : ∀ j u, (bs'.map u8)[j]? = some u → w.cell? ((⟨g, 0, none⟩ : Addr).add j) = some u := fun j u hu => by
        rw [add_none]
        rw [← htk, List.getElem?_take] at hu
        split at hu
        · simp only [World.cell?, hg]
          simpa using hu
        · cases hu
      have hr := run_append_grow (P := PR) w t ty T.u8 ti (.int .u8 0) ht.out hi hiz ⟨g, 0, none⟩ bs'.length c (bs'.map u8) (by simp [hisz]) holds ⟨g5, 0, none⟩ 1 1 [u8 b] (by simp [hisz]) hnews (by omega) (by omega) (growslice_fits (by omega) (by
        have : (bs'.length + 1) * ti.bytes ≤ 4294967296 * 8192 := Nat.mul_le_mul hl hb2
        omega))
      have e : (S.bi .append #[t, t] ty fl [.slice (some ⟨g, 0, none⟩) bs'.length c, .slice (some ⟨g5, 0, none⟩) 1 1]).run PR w = .ok (.value (.slice (some ⟨w.heap.size, 0, none⟩) (bs'.length + 1) (grownCap w (bs'.length + 1) c T.u8))) (w.drew.alloc (.cells ((bs'.map u8).toArray ++ [u8 b].toArray ++ Builtin.zeroCells (Value.int .u8 0).cells (grownCap w (bs'.length + 1) c T.u8 - (bs'.length + 1))) T.u8)) := by
        simp only [S.bi, Go.invoke, builtin, Sem.run_bind, hr, Result.andThen_ok, Sem.run_pure]
      rw [e]
      have hge := grownCap_ge w (bs'.length + 1) c T.u8
      have hcm : grownCap w (bs'.length + 1) c T.u8 ≤ maxLen := grownCap_le_maxLen w (bs'.length + 1) c T.u8 (by simp only [maxLen]; omega)
      have hs3 : Sat (obj g (.cells cur T.u8 (0, 0)) :: p) w0 w.drew := ⟨hs2.1, hs2.2⟩
      have hs4 := hs3.new (.cells ((bs'.map u8).toArray ++ [u8 b].toArray ++ Builtin.zeroCells (Value.int .u8 0).cells (grownCap w (bs'.length + 1) c T.u8 - (bs'.length + 1))) T.u8)
      refine hk _ _ _ ?_
      refine Ent.sepI (φ := fun w => Sat (_ :: p) w0 w) ?_ _ (hs4.perm (List.Perm.swap _ _ _))
      refine Ent.imp (fun y hy => .inl (sep_mono (fun z hz => ?_) (fun z hz => ?_) hy)) (fun w hw => hw)
      · -- the old array
        refine ⟨by simp, .inr ⟨g, c, cur, rfl, by omega, hc, by omega, ?_, hz⟩⟩
        rw [Nat.mul_one]
        have : cur.toList.take bs.length = (cur.toList.take bs'.length).take bs.length := by rw [List.take_take, show min bs.length bs'.length = bs.length by omega]
        rw [this, htk, ← List.map_take, h2]
      · refine ⟨by simp, .inr ⟨w.heap.size, _, _, by rw [List.length_append]; rfl, by simpa using hge, hcm, ?_, ?_, hz⟩⟩
        · have := size_zeroCells (Value.int .u8 0).cells (grownCap w (bs'.length + 1) c T.u8 - (bs'.length + 1))
          simp only [Array.size_append, this]
          simp [Value.cells]
          omega
        · simp only [Array.toList_append, List.append_assoc, List.map_append, List.length_append, List.length_map, Nat.mul_one]
          rw [← List.append_assoc, List.take_append_of_le_length (by simp), List.take_of_length_le (by simp)]
          simp
end
end Go.Lt
