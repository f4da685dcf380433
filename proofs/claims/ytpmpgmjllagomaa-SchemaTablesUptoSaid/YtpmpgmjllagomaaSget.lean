/- schema's codecs read. Conditions: none. -/
import Derived.Test.YtpmpgmjllagomaaSch
import Derived.Test.YtpmpgmjllagomaaLab
set_option linter.unusedVariables false
set_option maxHeartbeats 4000000
set_option linter.unusedSimpArgs false
set_option maxRecDepth 100000
namespace Go.Lt
open Go
attribute [local irreducible] op gop lt glt rc grc ite' drawn also ldR
variable {w0 : World} {p : List HP} {Pn : PK} {K : Value → WP}
theorem OwP.sc {v : Value} {r : List D} {b : List Value} {x : HL} (h1 : v.oneCell' = true) (h : OwP r b x) : OwP (.sc v :: r) (v :: b) x :=
  ⟨[v], b, pure_and rfl ⟨fun _ => none, x, ⟨⟨rfl, h1⟩, fun _ => rfl⟩, sep_emp h, fun _ => .inl rfl, fun _ => by simp⟩⟩
theorem OwP.cons {d : D} {r : List D} {a b : List Value} {x : HL} (h : sep (Ow d a) (OwP r b) x) : OwP (d :: r) (a ++ b) x :=
  ⟨a, b, pure_and rfl (sep_mono (fun _ h => h) (fun _ h => sep_emp h) h)⟩
theorem OwP.nil' : OwP [] [] (fun _ => none) := ⟨rfl, fun _ => rfl⟩
/-- A node's cells. -/
def ndC (n : Nd) (A : Option Addr) (c : Nat) (A' : Option Addr) (c' : Nat) : List Value := [.int .i64 n.kind, .int .i64 n.num, .bool n.null, .slice A n.data.length c, .slice A' n.list.length c']
def zeroC (k : Int) : List Value := [.int .i64 k, .int .i64 0, .bool false, .slice none 0 0, .slice none 0 0]
theorem nd_close {n : Nd} {A A' : Option Addr} {c c' : Nat} {φ : WP} (h : Ent w0 (Ow (ndD n) (ndC n A c A' c') :: p) φ) :
    Ent w0 (ownB T.u8 (.slice A n.data.length c) n.data :: Ow (.sl T.api_Node 5 (ndsD n.list)) [.slice A' n.list.length c'] :: p) φ := by
  cases n with
  | mk k m b d l =>
    refine Ent.join' (q := [_, _]) (Ent.imp (fun x hx => ?_) h)
    refine OwP.sc rfl (OwP.sc rfl (OwP.sc rfl ?_))
    refine OwP.cons (a := [_]) (b := [_]) (sep_mono (fun _ h => ownB_toD h) (fun y hy => ?_) hx)
    exact OwP.cons (a := [_]) (b := []) (sep_mono (fun _ h => h) (fun _ h => ⟨rfl, h⟩) hy)
theorem own_nilB : ownB T.u8 (.slice none 0 0) [] (fun _ => none) := row_nil _ _
theorem own_nilL : Ow (.sl T.api_Node 5 (ndsD [])) [.slice none 0 0] (fun _ => none) := Ow.nil _ _
/-- What is asked of a reading: an error, or a node and the place behind it. -/
def GetK (w0 : World) (p : List HP) (K : Value → WP) (g : Nat) (A : Option Addr) (m c : Nat) (r : Except Int (Nd × Nat)) : Prop :=
  (∀ e, r = .error e → ∀ at' : Nat, at' ≤ m → ∀ k : Int, Ent w0 (blk g [.slice A m c, .int .i64 at'] :: p) (K (.tuple [.agg (zeroC k).toArray, .int .i64 e].toArray))) ∧
  (∀ n at', r = .ok (n, at') → at' ≤ m → ∀ A1 c1 A2 c2, Ent w0 (Ow (ndD n) (ndC n A1 c1 A2 c2) :: blk g [.slice A m c, .int .i64 at'] :: p) (K (.tuple [.agg (ndC n A1 c1 A2 c2).toArray, .int .i64 0].toArray)))
theorem sgn_i8 (v : Nat) (h : v < 256 ^ 1) : IntKind.i8.wrap (v : Int) = sgn 1 v := by
  unfold sgn IntKind.wrap
  simp only [IntKind.bits, IntKind.signed]
  simp at h ⊢
  split <;> split <;> omega
theorem sgn_i16 (v : Nat) (h : v < 256 ^ 2) : IntKind.i16.wrap (v : Int) = sgn 2 v := by
  unfold sgn IntKind.wrap
  simp only [IntKind.bits, IntKind.signed]
  simp at h ⊢
  split <;> split <;> omega
theorem sgn_i32 (v : Nat) (h : v < 256 ^ 4) : IntKind.i32.wrap (v : Int) = sgn 4 v := by
  unfold sgn IntKind.wrap
  simp only [IntKind.bits, IntKind.signed]
  simp at h ⊢
  split <;> split <;> omega
theorem sgn_i64 (v : Nat) (h : v < 256 ^ 8) : IntKind.i64.wrap (v : Int) = sgn 8 v := by
  unfold sgn IntKind.wrap
  simp only [IntKind.bits, IntKind.signed]
  simp at h ⊢
  split <;> split <;> omega
theorem beN_take (bs : List UInt8) (a n : Nat) : beN ((bs.drop a).take n) < 256 ^ n := by
  refine Nat.lt_of_lt_of_le (beN_lt _) (Nat.pow_le_pow_right (by omega) ?_)
  simp
  omega
theorem sgn_range (n v : Nat) (hn : n = 1 ∨ n = 2 ∨ n = 4 ∨ n = 8) (h : v < 256 ^ n) : -9223372036854775808 ≤ sgn n v ∧ sgn n v ≤ 9223372036854775807 := by
  unfold sgn
  rcases hn with rfl | rfl | rfl | rfl <;> simp at h ⊢ <;> split <;> omega
theorem i64_id (n v : Nat) (hn : n = 1 ∨ n = 2 ∨ n = 4 ∨ n = 8) (h : v < 256 ^ n) : IntKind.i64.wrap (sgn n v) = sgn n v := by
  have := sgn_range n v hn h
  exact wrap_i64 this.1 this.2
theorem num_get {g m c at_ : Nat} {k : Int} {A : Option Addr} {bs : List UInt8} (hb : RdB p (.slice A m c) bs) (h1 : at_ ≤ m) (h : GetK w0 p K g A m c (Cd.get bs (.num k) at_)) :
    Ent w0 (blk g [.slice A m c, .int .i64 at_] :: p) (op PR Pn (S.fn F.schema_number_get [.agg [.int .i64 k].toArray, .pointer (some ⟨g, 0, none⟩)]) K) := by
  obtain ⟨he, hk⟩ := h
  obtain ⟨hlen, _, _⟩ := hb.len
  subst hlen
  refine Ent.call (fun w h => enter.schema_number_get h) ?_
  unfold W.schema_number_get
  refine Ent.box fun g1 => ?_
  refine Ent.alloc fun g2 => ?_
  repeat (first | refine Ent.runW (wrap_i64 (by omega) (by omega)) ?_ | refine Ent.runWL (wrap_i64 (by omega) (by omega)) ?_ | refine Ent.runWR (wrap_i64 (by omega) (by omega)) ?_ | refine Ent.run ?_ | refine Ent.runL ?_ | refine Ent.runR ?_ | refine Ent.drawn ?_ | refine Ent.store (by kernel_rfl) ?_ | refine Ent.resN ?_ | refine Ent.res1 ?_ | refine Ent.gop_yes ?_ | refine Ent.gop_no (by decide) ?_ | refine Ent.gop_undef ?_ | refine Ent.glt_undef ?_ | refine Ent.grc_undef ?_ | refine Ent.glt_yes ?_ | refine Ent.glt_no (by decide) ?_ | refine Ent.grc_yes ?_ | refine Ent.grc_no (by decide) ?_)
  refine Ent.alloc fun g3 => ?_
  repeat (first | refine Ent.runW (wrap_i64 (by omega) (by omega)) ?_ | refine Ent.runWL (wrap_i64 (by omega) (by omega)) ?_ | refine Ent.runWR (wrap_i64 (by omega) (by omega)) ?_ | refine Ent.run ?_ | refine Ent.runL ?_ | refine Ent.runR ?_ | refine Ent.drawn ?_ | refine Ent.store (by kernel_rfl) ?_ | refine Ent.resN ?_ | refine Ent.res1 ?_ | refine Ent.gop_yes ?_ | refine Ent.gop_no (by decide) ?_ | refine Ent.gop_undef ?_ | refine Ent.glt_undef ?_ | refine Ent.grc_undef ?_ | refine Ent.glt_yes ?_ | refine Ent.glt_no (by decide) ?_ | refine Ent.grc_yes ?_ | refine Ent.grc_no (by decide) ?_)
  refine Ent.J1 fun kk hkk => ?_
  repeat (first | refine Ent.runW (wrap_i64 (by omega) (by omega)) ?_ | refine Ent.runWL (wrap_i64 (by omega) (by omega)) ?_ | refine Ent.runWR (wrap_i64 (by omega) (by omega)) ?_ | refine Ent.run ?_ | refine Ent.runL ?_ | refine Ent.runR ?_ | refine Ent.drawn ?_ | refine Ent.store (by kernel_rfl) ?_ | refine Ent.resN ?_ | refine Ent.res1 ?_ | refine Ent.gop_yes ?_ | refine Ent.gop_no (by decide) ?_ | refine Ent.gop_undef ?_ | refine Ent.glt_undef ?_ | refine Ent.grc_undef ?_ | refine Ent.glt_yes ?_ | refine Ent.glt_no (by decide) ?_ | refine Ent.grc_yes ?_ | refine Ent.grc_no (by decide) ?_)
  refine Ent.ite (fun hq => ?_) (fun hq => ?_)
  · have hq : k = 1 := by simpa using hq
    have hw : width k = 1 := by unfold width; rw [if_pos hq]
    refine Ent.pick blk g (I8_spec hb.skip.skip.skip h1 (fun h => ?_) (fun h => ?_))
    · repeat (first | refine Ent.runW (wrap_i64 (by omega) (by omega)) ?_ | refine Ent.runWL (wrap_i64 (by omega) (by omega)) ?_ | refine Ent.runWR (wrap_i64 (by omega) (by omega)) ?_ | refine Ent.run ?_ | refine Ent.runL ?_ | refine Ent.runR ?_ | refine Ent.drawn ?_ | refine Ent.store (by kernel_rfl) ?_ | refine Ent.resN ?_ | refine Ent.res1 ?_ | refine Ent.gop_yes ?_ | refine Ent.gop_no (by decide) ?_ | refine Ent.gop_undef ?_ | refine Ent.glt_undef ?_ | refine Ent.grc_undef ?_ | refine Ent.glt_yes ?_ | refine Ent.glt_no (by decide) ?_ | refine Ent.grc_yes ?_ | refine Ent.grc_no (by decide) ?_)
      refine hkk _ _ ?_
      repeat (first | refine Ent.runW (wrap_i64 (by omega) (by omega)) ?_ | refine Ent.runWL (wrap_i64 (by omega) (by omega)) ?_ | refine Ent.runWR (wrap_i64 (by omega) (by omega)) ?_ | refine Ent.run ?_ | refine Ent.runL ?_ | refine Ent.runR ?_ | refine Ent.drawn ?_ | refine Ent.store (by kernel_rfl) ?_ | refine Ent.resN ?_ | refine Ent.res1 ?_ | refine Ent.gop_yes ?_ | refine Ent.gop_no (by decide) ?_ | refine Ent.gop_undef ?_ | refine Ent.glt_undef ?_ | refine Ent.grc_undef ?_ | refine Ent.glt_yes ?_ | refine Ent.glt_no (by decide) ?_ | refine Ent.grc_yes ?_ | refine Ent.grc_no (by decide) ?_)
      refine Ent.pick blk g1 (Ent.drop (Ent.pick blk g2 (Ent.drop (Ent.pick blk g3 (Ent.drop ?_)))))
      exact he 1 (by unfold Cd.get; rw [if_pos (by omega)]) at_ h1 k
    · repeat (first | refine Ent.runW (wrap_i64 (by omega) (by omega)) ?_ | refine Ent.runWL (wrap_i64 (by omega) (by omega)) ?_ | refine Ent.runWR (wrap_i64 (by omega) (by omega)) ?_ | refine Ent.run ?_ | refine Ent.runL ?_ | refine Ent.runR ?_ | refine Ent.drawn ?_ | refine Ent.store (by kernel_rfl) ?_ | refine Ent.resN ?_ | refine Ent.res1 ?_ | refine Ent.gop_yes ?_ | refine Ent.gop_no (by decide) ?_ | refine Ent.gop_undef ?_ | refine Ent.glt_undef ?_ | refine Ent.grc_undef ?_ | refine Ent.glt_yes ?_ | refine Ent.glt_no (by decide) ?_ | refine Ent.grc_yes ?_ | refine Ent.grc_no (by decide) ?_)
      rw [sgn_i8 _ (beN_take _ _ _)]
      rw [i64_id _ _ (by decide) (beN_take _ _ _)]
      repeat (first | refine Ent.runW (wrap_i64 (by omega) (by omega)) ?_ | refine Ent.runWL (wrap_i64 (by omega) (by omega)) ?_ | refine Ent.runWR (wrap_i64 (by omega) (by omega)) ?_ | refine Ent.run ?_ | refine Ent.runL ?_ | refine Ent.runR ?_ | refine Ent.drawn ?_ | refine Ent.store (by kernel_rfl) ?_ | refine Ent.resN ?_ | refine Ent.res1 ?_ | refine Ent.gop_yes ?_ | refine Ent.gop_no (by decide) ?_ | refine Ent.gop_undef ?_ | refine Ent.glt_undef ?_ | refine Ent.grc_undef ?_ | refine Ent.glt_yes ?_ | refine Ent.glt_no (by decide) ?_ | refine Ent.grc_yes ?_ | refine Ent.grc_no (by decide) ?_)
      refine hkk _ _ ?_
      repeat (first | refine Ent.runW (wrap_i64 (by omega) (by omega)) ?_ | refine Ent.runWL (wrap_i64 (by omega) (by omega)) ?_ | refine Ent.runWR (wrap_i64 (by omega) (by omega)) ?_ | refine Ent.run ?_ | refine Ent.runL ?_ | refine Ent.runR ?_ | refine Ent.drawn ?_ | refine Ent.store (by kernel_rfl) ?_ | refine Ent.resN ?_ | refine Ent.res1 ?_ | refine Ent.gop_yes ?_ | refine Ent.gop_no (by decide) ?_ | refine Ent.gop_undef ?_ | refine Ent.glt_undef ?_ | refine Ent.grc_undef ?_ | refine Ent.glt_yes ?_ | refine Ent.glt_no (by decide) ?_ | refine Ent.grc_yes ?_ | refine Ent.grc_no (by decide) ?_)
      refine Ent.pick blk g1 (Ent.drop (Ent.pick blk g2 (Ent.drop (Ent.pick blk g3 (Ent.drop ?_)))))
      refine Ent.add own_nilL (Ent.add own_nilB (nd_close (n := .mk k (numAt bs at_ 1) false [] []) ?_))
      exact hk _ _ (by unfold Cd.get; rw [if_neg (by omega), hw]) (by omega) _ _ _ _
  have hq1 : ¬ k = 1 := by simpa using hq
  clear hq
  repeat (first | refine Ent.runW (wrap_i64 (by omega) (by omega)) ?_ | refine Ent.runWL (wrap_i64 (by omega) (by omega)) ?_ | refine Ent.runWR (wrap_i64 (by omega) (by omega)) ?_ | refine Ent.run ?_ | refine Ent.runL ?_ | refine Ent.runR ?_ | refine Ent.drawn ?_ | refine Ent.store (by kernel_rfl) ?_ | refine Ent.resN ?_ | refine Ent.res1 ?_ | refine Ent.gop_yes ?_ | refine Ent.gop_no (by decide) ?_ | refine Ent.gop_undef ?_ | refine Ent.glt_undef ?_ | refine Ent.grc_undef ?_ | refine Ent.glt_yes ?_ | refine Ent.glt_no (by decide) ?_ | refine Ent.grc_yes ?_ | refine Ent.grc_no (by decide) ?_)
  refine Ent.ite (fun hq => ?_) (fun hq => ?_)
  · have hq : k = 2 := by simpa using hq
    have hw : width k = 2 := by unfold width; rw [if_neg hq1, if_pos hq]
    refine Ent.pick blk g (I16_spec hb.skip.skip.skip h1 (fun h => ?_) (fun h => ?_))
    · repeat (first | refine Ent.runW (wrap_i64 (by omega) (by omega)) ?_ | refine Ent.runWL (wrap_i64 (by omega) (by omega)) ?_ | refine Ent.runWR (wrap_i64 (by omega) (by omega)) ?_ | refine Ent.run ?_ | refine Ent.runL ?_ | refine Ent.runR ?_ | refine Ent.drawn ?_ | refine Ent.store (by kernel_rfl) ?_ | refine Ent.resN ?_ | refine Ent.res1 ?_ | refine Ent.gop_yes ?_ | refine Ent.gop_no (by decide) ?_ | refine Ent.gop_undef ?_ | refine Ent.glt_undef ?_ | refine Ent.grc_undef ?_ | refine Ent.glt_yes ?_ | refine Ent.glt_no (by decide) ?_ | refine Ent.grc_yes ?_ | refine Ent.grc_no (by decide) ?_)
      refine hkk _ _ ?_
      repeat (first | refine Ent.runW (wrap_i64 (by omega) (by omega)) ?_ | refine Ent.runWL (wrap_i64 (by omega) (by omega)) ?_ | refine Ent.runWR (wrap_i64 (by omega) (by omega)) ?_ | refine Ent.run ?_ | refine Ent.runL ?_ | refine Ent.runR ?_ | refine Ent.drawn ?_ | refine Ent.store (by kernel_rfl) ?_ | refine Ent.resN ?_ | refine Ent.res1 ?_ | refine Ent.gop_yes ?_ | refine Ent.gop_no (by decide) ?_ | refine Ent.gop_undef ?_ | refine Ent.glt_undef ?_ | refine Ent.grc_undef ?_ | refine Ent.glt_yes ?_ | refine Ent.glt_no (by decide) ?_ | refine Ent.grc_yes ?_ | refine Ent.grc_no (by decide) ?_)
      refine Ent.pick blk g1 (Ent.drop (Ent.pick blk g2 (Ent.drop (Ent.pick blk g3 (Ent.drop ?_)))))
      exact he 1 (by unfold Cd.get; rw [if_pos (by omega)]) at_ h1 k
    · repeat (first | refine Ent.runW (wrap_i64 (by omega) (by omega)) ?_ | refine Ent.runWL (wrap_i64 (by omega) (by omega)) ?_ | refine Ent.runWR (wrap_i64 (by omega) (by omega)) ?_ | refine Ent.run ?_ | refine Ent.runL ?_ | refine Ent.runR ?_ | refine Ent.drawn ?_ | refine Ent.store (by kernel_rfl) ?_ | refine Ent.resN ?_ | refine Ent.res1 ?_ | refine Ent.gop_yes ?_ | refine Ent.gop_no (by decide) ?_ | refine Ent.gop_undef ?_ | refine Ent.glt_undef ?_ | refine Ent.grc_undef ?_ | refine Ent.glt_yes ?_ | refine Ent.glt_no (by decide) ?_ | refine Ent.grc_yes ?_ | refine Ent.grc_no (by decide) ?_)
      rw [sgn_i16 _ (beN_take _ _ _)]
      rw [i64_id _ _ (by decide) (beN_take _ _ _)]
      repeat (first | refine Ent.runW (wrap_i64 (by omega) (by omega)) ?_ | refine Ent.runWL (wrap_i64 (by omega) (by omega)) ?_ | refine Ent.runWR (wrap_i64 (by omega) (by omega)) ?_ | refine Ent.run ?_ | refine Ent.runL ?_ | refine Ent.runR ?_ | refine Ent.drawn ?_ | refine Ent.store (by kernel_rfl) ?_ | refine Ent.resN ?_ | refine Ent.res1 ?_ | refine Ent.gop_yes ?_ | refine Ent.gop_no (by decide) ?_ | refine Ent.gop_undef ?_ | refine Ent.glt_undef ?_ | refine Ent.grc_undef ?_ | refine Ent.glt_yes ?_ | refine Ent.glt_no (by decide) ?_ | refine Ent.grc_yes ?_ | refine Ent.grc_no (by decide) ?_)
      refine hkk _ _ ?_
      repeat (first | refine Ent.runW (wrap_i64 (by omega) (by omega)) ?_ | refine Ent.runWL (wrap_i64 (by omega) (by omega)) ?_ | refine Ent.runWR (wrap_i64 (by omega) (by omega)) ?_ | refine Ent.run ?_ | refine Ent.runL ?_ | refine Ent.runR ?_ | refine Ent.drawn ?_ | refine Ent.store (by kernel_rfl) ?_ | refine Ent.resN ?_ | refine Ent.res1 ?_ | refine Ent.gop_yes ?_ | refine Ent.gop_no (by decide) ?_ | refine Ent.gop_undef ?_ | refine Ent.glt_undef ?_ | refine Ent.grc_undef ?_ | refine Ent.glt_yes ?_ | refine Ent.glt_no (by decide) ?_ | refine Ent.grc_yes ?_ | refine Ent.grc_no (by decide) ?_)
      refine Ent.pick blk g1 (Ent.drop (Ent.pick blk g2 (Ent.drop (Ent.pick blk g3 (Ent.drop ?_)))))
      refine Ent.add own_nilL (Ent.add own_nilB (nd_close (n := .mk k (numAt bs at_ 2) false [] []) ?_))
      exact hk _ _ (by unfold Cd.get; rw [if_neg (by omega), hw]) (by omega) _ _ _ _
  have hq2 : ¬ k = 2 := by simpa using hq
  clear hq
  repeat (first | refine Ent.runW (wrap_i64 (by omega) (by omega)) ?_ | refine Ent.runWL (wrap_i64 (by omega) (by omega)) ?_ | refine Ent.runWR (wrap_i64 (by omega) (by omega)) ?_ | refine Ent.run ?_ | refine Ent.runL ?_ | refine Ent.runR ?_ | refine Ent.drawn ?_ | refine Ent.store (by kernel_rfl) ?_ | refine Ent.resN ?_ | refine Ent.res1 ?_ | refine Ent.gop_yes ?_ | refine Ent.gop_no (by decide) ?_ | refine Ent.gop_undef ?_ | refine Ent.glt_undef ?_ | refine Ent.grc_undef ?_ | refine Ent.glt_yes ?_ | refine Ent.glt_no (by decide) ?_ | refine Ent.grc_yes ?_ | refine Ent.grc_no (by decide) ?_)
  refine Ent.ite (fun hq => ?_) (fun hq => ?_)
  · have hq : k = 3 := by simpa using hq
    have hw : width k = 4 := by unfold width; rw [if_neg hq1, if_neg hq2, if_pos hq]
    refine Ent.pick blk g (I32_spec hb.skip.skip.skip h1 (fun h => ?_) (fun h => ?_))
    · repeat (first | refine Ent.runW (wrap_i64 (by omega) (by omega)) ?_ | refine Ent.runWL (wrap_i64 (by omega) (by omega)) ?_ | refine Ent.runWR (wrap_i64 (by omega) (by omega)) ?_ | refine Ent.run ?_ | refine Ent.runL ?_ | refine Ent.runR ?_ | refine Ent.drawn ?_ | refine Ent.store (by kernel_rfl) ?_ | refine Ent.resN ?_ | refine Ent.res1 ?_ | refine Ent.gop_yes ?_ | refine Ent.gop_no (by decide) ?_ | refine Ent.gop_undef ?_ | refine Ent.glt_undef ?_ | refine Ent.grc_undef ?_ | refine Ent.glt_yes ?_ | refine Ent.glt_no (by decide) ?_ | refine Ent.grc_yes ?_ | refine Ent.grc_no (by decide) ?_)
      refine hkk _ _ ?_
      repeat (first | refine Ent.runW (wrap_i64 (by omega) (by omega)) ?_ | refine Ent.runWL (wrap_i64 (by omega) (by omega)) ?_ | refine Ent.runWR (wrap_i64 (by omega) (by omega)) ?_ | refine Ent.run ?_ | refine Ent.runL ?_ | refine Ent.runR ?_ | refine Ent.drawn ?_ | refine Ent.store (by kernel_rfl) ?_ | refine Ent.resN ?_ | refine Ent.res1 ?_ | refine Ent.gop_yes ?_ | refine Ent.gop_no (by decide) ?_ | refine Ent.gop_undef ?_ | refine Ent.glt_undef ?_ | refine Ent.grc_undef ?_ | refine Ent.glt_yes ?_ | refine Ent.glt_no (by decide) ?_ | refine Ent.grc_yes ?_ | refine Ent.grc_no (by decide) ?_)
      refine Ent.pick blk g1 (Ent.drop (Ent.pick blk g2 (Ent.drop (Ent.pick blk g3 (Ent.drop ?_)))))
      exact he 1 (by unfold Cd.get; rw [if_pos (by omega)]) at_ h1 k
    · repeat (first | refine Ent.runW (wrap_i64 (by omega) (by omega)) ?_ | refine Ent.runWL (wrap_i64 (by omega) (by omega)) ?_ | refine Ent.runWR (wrap_i64 (by omega) (by omega)) ?_ | refine Ent.run ?_ | refine Ent.runL ?_ | refine Ent.runR ?_ | refine Ent.drawn ?_ | refine Ent.store (by kernel_rfl) ?_ | refine Ent.resN ?_ | refine Ent.res1 ?_ | refine Ent.gop_yes ?_ | refine Ent.gop_no (by decide) ?_ | refine Ent.gop_undef ?_ | refine Ent.glt_undef ?_ | refine Ent.grc_undef ?_ | refine Ent.glt_yes ?_ | refine Ent.glt_no (by decide) ?_ | refine Ent.grc_yes ?_ | refine Ent.grc_no (by decide) ?_)
      rw [sgn_i32 _ (beN_take _ _ _)]
      rw [i64_id _ _ (by decide) (beN_take _ _ _)]
      repeat (first | refine Ent.runW (wrap_i64 (by omega) (by omega)) ?_ | refine Ent.runWL (wrap_i64 (by omega) (by omega)) ?_ | refine Ent.runWR (wrap_i64 (by omega) (by omega)) ?_ | refine Ent.run ?_ | refine Ent.runL ?_ | refine Ent.runR ?_ | refine Ent.drawn ?_ | refine Ent.store (by kernel_rfl) ?_ | refine Ent.resN ?_ | refine Ent.res1 ?_ | refine Ent.gop_yes ?_ | refine Ent.gop_no (by decide) ?_ | refine Ent.gop_undef ?_ | refine Ent.glt_undef ?_ | refine Ent.grc_undef ?_ | refine Ent.glt_yes ?_ | refine Ent.glt_no (by decide) ?_ | refine Ent.grc_yes ?_ | refine Ent.grc_no (by decide) ?_)
      refine hkk _ _ ?_
      repeat (first | refine Ent.runW (wrap_i64 (by omega) (by omega)) ?_ | refine Ent.runWL (wrap_i64 (by omega) (by omega)) ?_ | refine Ent.runWR (wrap_i64 (by omega) (by omega)) ?_ | refine Ent.run ?_ | refine Ent.runL ?_ | refine Ent.runR ?_ | refine Ent.drawn ?_ | refine Ent.store (by kernel_rfl) ?_ | refine Ent.resN ?_ | refine Ent.res1 ?_ | refine Ent.gop_yes ?_ | refine Ent.gop_no (by decide) ?_ | refine Ent.gop_undef ?_ | refine Ent.glt_undef ?_ | refine Ent.grc_undef ?_ | refine Ent.glt_yes ?_ | refine Ent.glt_no (by decide) ?_ | refine Ent.grc_yes ?_ | refine Ent.grc_no (by decide) ?_)
      refine Ent.pick blk g1 (Ent.drop (Ent.pick blk g2 (Ent.drop (Ent.pick blk g3 (Ent.drop ?_)))))
      refine Ent.add own_nilL (Ent.add own_nilB (nd_close (n := .mk k (numAt bs at_ 4) false [] []) ?_))
      exact hk _ _ (by unfold Cd.get; rw [if_neg (by omega), hw]) (by omega) _ _ _ _
  · have hq3 : ¬ k = 3 := by simpa using hq
    clear hq
    have hw : width k = 8 := by unfold width; rw [if_neg hq1, if_neg hq2, if_neg hq3]
    refine Ent.pick blk g (I64_spec hb.skip.skip.skip h1 (fun h => ?_) (fun h => ?_))
    · repeat (first | refine Ent.runW (wrap_i64 (by omega) (by omega)) ?_ | refine Ent.runWL (wrap_i64 (by omega) (by omega)) ?_ | refine Ent.runWR (wrap_i64 (by omega) (by omega)) ?_ | refine Ent.run ?_ | refine Ent.runL ?_ | refine Ent.runR ?_ | refine Ent.drawn ?_ | refine Ent.store (by kernel_rfl) ?_ | refine Ent.resN ?_ | refine Ent.res1 ?_ | refine Ent.gop_yes ?_ | refine Ent.gop_no (by decide) ?_ | refine Ent.gop_undef ?_ | refine Ent.glt_undef ?_ | refine Ent.grc_undef ?_ | refine Ent.glt_yes ?_ | refine Ent.glt_no (by decide) ?_ | refine Ent.grc_yes ?_ | refine Ent.grc_no (by decide) ?_)
      refine hkk _ _ ?_
      repeat (first | refine Ent.runW (wrap_i64 (by omega) (by omega)) ?_ | refine Ent.runWL (wrap_i64 (by omega) (by omega)) ?_ | refine Ent.runWR (wrap_i64 (by omega) (by omega)) ?_ | refine Ent.run ?_ | refine Ent.runL ?_ | refine Ent.runR ?_ | refine Ent.drawn ?_ | refine Ent.store (by kernel_rfl) ?_ | refine Ent.resN ?_ | refine Ent.res1 ?_ | refine Ent.gop_yes ?_ | refine Ent.gop_no (by decide) ?_ | refine Ent.gop_undef ?_ | refine Ent.glt_undef ?_ | refine Ent.grc_undef ?_ | refine Ent.glt_yes ?_ | refine Ent.glt_no (by decide) ?_ | refine Ent.grc_yes ?_ | refine Ent.grc_no (by decide) ?_)
      refine Ent.pick blk g1 (Ent.drop (Ent.pick blk g2 (Ent.drop (Ent.pick blk g3 (Ent.drop ?_)))))
      exact he 1 (by unfold Cd.get; rw [if_pos (by omega)]) at_ h1 k
    · repeat (first | refine Ent.runW (wrap_i64 (by omega) (by omega)) ?_ | refine Ent.runWL (wrap_i64 (by omega) (by omega)) ?_ | refine Ent.runWR (wrap_i64 (by omega) (by omega)) ?_ | refine Ent.run ?_ | refine Ent.runL ?_ | refine Ent.runR ?_ | refine Ent.drawn ?_ | refine Ent.store (by kernel_rfl) ?_ | refine Ent.resN ?_ | refine Ent.res1 ?_ | refine Ent.gop_yes ?_ | refine Ent.gop_no (by decide) ?_ | refine Ent.gop_undef ?_ | refine Ent.glt_undef ?_ | refine Ent.grc_undef ?_ | refine Ent.glt_yes ?_ | refine Ent.glt_no (by decide) ?_ | refine Ent.grc_yes ?_ | refine Ent.grc_no (by decide) ?_)
      rw [sgn_i64 _ (beN_take _ _ _)]
      skip
      repeat (first | refine Ent.runW (wrap_i64 (by omega) (by omega)) ?_ | refine Ent.runWL (wrap_i64 (by omega) (by omega)) ?_ | refine Ent.runWR (wrap_i64 (by omega) (by omega)) ?_ | refine Ent.run ?_ | refine Ent.runL ?_ | refine Ent.runR ?_ | refine Ent.drawn ?_ | refine Ent.store (by kernel_rfl) ?_ | refine Ent.resN ?_ | refine Ent.res1 ?_ | refine Ent.gop_yes ?_ | refine Ent.gop_no (by decide) ?_ | refine Ent.gop_undef ?_ | refine Ent.glt_undef ?_ | refine Ent.grc_undef ?_ | refine Ent.glt_yes ?_ | refine Ent.glt_no (by decide) ?_ | refine Ent.grc_yes ?_ | refine Ent.grc_no (by decide) ?_)
      refine hkk _ _ ?_
      repeat (first | refine Ent.runW (wrap_i64 (by omega) (by omega)) ?_ | refine Ent.runWL (wrap_i64 (by omega) (by omega)) ?_ | refine Ent.runWR (wrap_i64 (by omega) (by omega)) ?_ | refine Ent.run ?_ | refine Ent.runL ?_ | refine Ent.runR ?_ | refine Ent.drawn ?_ | refine Ent.store (by kernel_rfl) ?_ | refine Ent.resN ?_ | refine Ent.res1 ?_ | refine Ent.gop_yes ?_ | refine Ent.gop_no (by decide) ?_ | refine Ent.gop_undef ?_ | refine Ent.glt_undef ?_ | refine Ent.grc_undef ?_ | refine Ent.glt_yes ?_ | refine Ent.glt_no (by decide) ?_ | refine Ent.grc_yes ?_ | refine Ent.grc_no (by decide) ?_)
      refine Ent.pick blk g1 (Ent.drop (Ent.pick blk g2 (Ent.drop (Ent.pick blk g3 (Ent.drop ?_)))))
      refine Ent.add own_nilL (Ent.add own_nilB (nd_close (n := .mk k (numAt bs at_ 8) false [] []) ?_))
      exact hk _ _ (by unfold Cd.get; rw [if_neg (by omega), hw]) (by omega) _ _ _ _
end Go.Lt
