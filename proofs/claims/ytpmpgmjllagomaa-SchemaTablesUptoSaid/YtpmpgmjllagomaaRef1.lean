/- The references' helpers for bytes. Conditions: none. -/
import Derived.Test.YtpmpgmjllagomaaRow
set_option linter.unusedVariables false
set_option maxHeartbeats 4000000
set_option linter.unusedSimpArgs false
set_option maxRecDepth 100000
namespace Go.Lt
open Go
attribute [local irreducible] op gop lt glt rc grc ite' drawn also ldR
section
variable {P : Program} {w0 : World} {p : List HP} {Pn : PK} {K : Value → WP} {s : Sem Next} {b : Bool}
theorem Ent.runB [r : Run P p s (.bool b)] (h1 : b = true → Ent w0 p (K (.bool true))) (h2 : b = false → Ent w0 p (K (.bool false))) : Ent w0 p (op P Pn s K) := by
  refine Ent.run (v := .bool b) ?_
  cases b
  · exact h2 rfl
  · exact h1 rfl
end
variable {w0 : World} {p : List HP} {Pn : PK} {K : Value → WP}
theorem getD_lt {bs : List UInt8} {i : Nat} (h : i < bs.length) : bs.getD (Int.toNat (i : Int)) 0 = bs[i] := by simp [List.getD_eq_getElem?_getD, List.getElem?_eq_getElem h]
theorem Copy_spec {v : Value} {bs : List UInt8} (hb : RdB p v bs) (hl : bs.length ≤ 1073741824) (hk : ∀ A c, Ent w0 (ownB T.u8 (.slice A bs.length c) bs :: p) (K (.slice A bs.length c))) :
    Ent w0 p (op PR Pn (S.fn F.leatref01_Copy [v]) K) := by
  obtain ⟨A0, c0, rfl, h1, h2⟩ := hb.shape
  refine Ent.call (fun w h => enter.leatref01_Copy h) ?_
  unfold W.leatref01_Copy
  refine Ent.bsliceR (sz := 1) (by omega) rfl fun g => ?_
  refine Ent.L2 (σ := Nat × Option Addr × Nat) (fun s => .slice s.2.1 s.1 s.2.2) (fun s => .int .i64 s.1)
    (fun s => pure' (s.1 ≤ bs.length) :: ownB T.u8 (.slice s.2.1 s.1 s.2.2) (bs.take s.1) :: p) (fun s => bs.length - s.1) (0, some ⟨g, 0, none⟩, 0) (fun w hs => hs.add ⟨Nat.zero_le _, fun _ => rfl⟩) ?_
  rintro ⟨i, A, c⟩ k hrec
  refine Ent.pure fun hi => ?_
  simp only at hi hrec ⊢
  repeat (first | refine Ent.runW (wrap_i64 (by omega) (by omega)) ?_ | refine Ent.runWL (wrap_i64 (by omega) (by omega)) ?_ | refine Ent.runWR (wrap_i64 (by omega) (by omega)) ?_ | refine Ent.run ?_ | refine Ent.runL ?_ | refine Ent.runR ?_ | refine Ent.drawn ?_ | refine Ent.store (by kernel_rfl) ?_ | refine Ent.resN ?_ | refine Ent.res1 ?_ | refine Ent.gop_yes ?_ | refine Ent.gop_no (by decide) ?_ | refine Ent.gop_undef ?_ | refine Ent.glt_undef ?_ | refine Ent.grc_undef ?_ | refine Ent.glt_yes ?_ | refine Ent.glt_no (by decide) ?_ | refine Ent.grc_yes ?_ | refine Ent.grc_no (by decide) ?_)
  refine Ent.ite (fun hq => ?_) (fun hq => ?_)
  · have hlt : i < bs.length := by simpa using hq
    obtain ⟨a, ha, hld⟩ := (hb.skip (a := ownB T.u8 (.slice A i c) (bs.take i))).at (P := PR) (t := T.L_uint8) (k := .i64) (i := (i : Int)) (by omega) (by omega)
    refine Ent.at_ (fun w _ => ha w) ?_
    repeat (first | refine Ent.runW (wrap_i64 (by omega) (by omega)) ?_ | refine Ent.runWL (wrap_i64 (by omega) (by omega)) ?_ | refine Ent.runWR (wrap_i64 (by omega) (by omega)) ?_ | refine Ent.run ?_ | refine Ent.runL ?_ | refine Ent.runR ?_ | refine Ent.drawn ?_ | refine Ent.store (by kernel_rfl) ?_ | refine Ent.resN ?_ | refine Ent.res1 ?_ | refine Ent.gop_yes ?_ | refine Ent.gop_no (by decide) ?_ | refine Ent.gop_undef ?_ | refine Ent.glt_undef ?_ | refine Ent.grc_undef ?_ | refine Ent.glt_yes ?_ | refine Ent.glt_no (by decide) ?_ | refine Ent.grc_yes ?_ | refine Ent.grc_no (by decide) ?_)
    rw [getD_lt hlt]
    refine pushB (by simp; omega) fun A' c' => ?_
    repeat (first | refine Ent.runW (wrap_i64 (by omega) (by omega)) ?_ | refine Ent.runWL (wrap_i64 (by omega) (by omega)) ?_ | refine Ent.runWR (wrap_i64 (by omega) (by omega)) ?_ | refine Ent.run ?_ | refine Ent.runL ?_ | refine Ent.runR ?_ | refine Ent.drawn ?_ | refine Ent.store (by kernel_rfl) ?_ | refine Ent.resN ?_ | refine Ent.res1 ?_ | refine Ent.gop_yes ?_ | refine Ent.gop_no (by decide) ?_ | refine Ent.gop_undef ?_ | refine Ent.glt_undef ?_ | refine Ent.grc_undef ?_ | refine Ent.glt_yes ?_ | refine Ent.glt_no (by decide) ?_ | refine Ent.grc_yes ?_ | refine Ent.grc_no (by decide) ?_)
    have := hrec (i + 1, A', c') (by simp only; omega)
    simp only [Int.natCast_add, Int.natCast_one] at this
    rw [List.take_succ_eq_append_getElem hlt] at this
    rw [show (bs.take i).length = i by simp; omega]
    exact Ent.add ⟨hlt, fun _ => rfl⟩ this
  · have hlt : i = bs.length := by
      have : ¬ (i : Int) < bs.length := by simpa using hq
      omega
    subst hlt
    rw [List.take_of_length_le (by omega)]
    exact hk A c
theorem Cat_spec {v u : Value} {xs bs : List UInt8} (ha : RdB p v xs) (hb : RdB p u bs) (hl : xs.length + bs.length ≤ 1073741824) (hk : ∀ A c, Ent w0 (ownB T.u8 (.slice A (xs ++ bs).length c) (xs ++ bs) :: p) (K (.slice A (xs ++ bs).length c))) :
    Ent w0 p (op PR Pn (S.fn F.leatref01_Cat [v, u]) K) := by
  obtain ⟨A0, c0, rfl, h1, h2⟩ := hb.shape
  refine Ent.call (fun w h => enter.leatref01_Cat h) ?_
  unfold W.leatref01_Cat
  refine Copy_spec ha (by omega) fun A1 c1 => ?_
  refine Ent.L2 (σ := Nat × Option Addr × Nat) (fun s => .slice s.2.1 (xs.length + s.1) s.2.2) (fun s => .int .i64 s.1)
    (fun s => pure' (s.1 ≤ bs.length) :: ownB T.u8 (.slice s.2.1 (xs.length + s.1) s.2.2) (xs ++ bs.take s.1) :: p) (fun s => bs.length - s.1) (0, A1, c1) (fun w hs => by
      have : Sat (ownB T.u8 (.slice A1 (xs.length + 0) c1) (xs ++ bs.take 0) :: p) w0 w := by simpa using hs
      exact this.add ⟨Nat.zero_le _, fun _ => rfl⟩) ?_
  rintro ⟨i, A, c⟩ k hrec
  refine Ent.pure fun hi => ?_
  simp only at hi hrec ⊢
  repeat (first | refine Ent.runW (wrap_i64 (by omega) (by omega)) ?_ | refine Ent.runWL (wrap_i64 (by omega) (by omega)) ?_ | refine Ent.runWR (wrap_i64 (by omega) (by omega)) ?_ | refine Ent.run ?_ | refine Ent.runL ?_ | refine Ent.runR ?_ | refine Ent.drawn ?_ | refine Ent.store (by kernel_rfl) ?_ | refine Ent.resN ?_ | refine Ent.res1 ?_ | refine Ent.gop_yes ?_ | refine Ent.gop_no (by decide) ?_ | refine Ent.gop_undef ?_ | refine Ent.glt_undef ?_ | refine Ent.grc_undef ?_ | refine Ent.glt_yes ?_ | refine Ent.glt_no (by decide) ?_ | refine Ent.grc_yes ?_ | refine Ent.grc_no (by decide) ?_)
  refine Ent.ite (fun hq => ?_) (fun hq => ?_)
  · have hlt : i < bs.length := by simpa using hq
    obtain ⟨a, ha, hld⟩ := (hb.skip (a := ownB T.u8 (.slice A (xs.length + i) c) (xs ++ bs.take i))).at (P := PR) (t := T.L_uint8) (k := .i64) (i := (i : Int)) (by omega) (by omega)
    refine Ent.at_ (fun w _ => ha w) ?_
    repeat (first | refine Ent.runW (wrap_i64 (by omega) (by omega)) ?_ | refine Ent.runWL (wrap_i64 (by omega) (by omega)) ?_ | refine Ent.runWR (wrap_i64 (by omega) (by omega)) ?_ | refine Ent.run ?_ | refine Ent.runL ?_ | refine Ent.runR ?_ | refine Ent.drawn ?_ | refine Ent.store (by kernel_rfl) ?_ | refine Ent.resN ?_ | refine Ent.res1 ?_ | refine Ent.gop_yes ?_ | refine Ent.gop_no (by decide) ?_ | refine Ent.gop_undef ?_ | refine Ent.glt_undef ?_ | refine Ent.grc_undef ?_ | refine Ent.glt_yes ?_ | refine Ent.glt_no (by decide) ?_ | refine Ent.grc_yes ?_ | refine Ent.grc_no (by decide) ?_)
    rw [getD_lt hlt]
    refine pushB (by simp; omega) fun A' c' => ?_
    repeat (first | refine Ent.runW (wrap_i64 (by omega) (by omega)) ?_ | refine Ent.runWL (wrap_i64 (by omega) (by omega)) ?_ | refine Ent.runWR (wrap_i64 (by omega) (by omega)) ?_ | refine Ent.run ?_ | refine Ent.runL ?_ | refine Ent.runR ?_ | refine Ent.drawn ?_ | refine Ent.store (by kernel_rfl) ?_ | refine Ent.resN ?_ | refine Ent.res1 ?_ | refine Ent.gop_yes ?_ | refine Ent.gop_no (by decide) ?_ | refine Ent.gop_undef ?_ | refine Ent.glt_undef ?_ | refine Ent.grc_undef ?_ | refine Ent.glt_yes ?_ | refine Ent.glt_no (by decide) ?_ | refine Ent.grc_yes ?_ | refine Ent.grc_no (by decide) ?_)
    have := hrec (i + 1, A', c') (by simp only; omega)
    simp only [Int.natCast_add, Int.natCast_one] at this
    rw [List.take_succ_eq_append_getElem hlt, ← List.append_assoc] at this
    rw [show (xs ++ bs.take i).length = xs.length + i by simp; omega]
    exact Ent.add ⟨hlt, fun _ => rfl⟩ this
  · have hlt : i = bs.length := by
      have : ¬ (i : Int) < bs.length := by simpa using hq
      omega
    subst hlt
    rw [List.take_of_length_le (by omega)]
    have := hk A c
    rw [List.length_append] at this
    exact this
/-- What Piece copies. -/
def pieceF (bs : List UInt8) (lo hi : Int) : List UInt8 := (bs.take hi.toNat).drop lo.toNat
theorem Piece_spec {v : Value} {bs : List UInt8} {lo hi : Int} (hb : RdB p v bs) (hl : bs.length ≤ 1073741824) (hlo : -9223372036854775808 ≤ lo ∧ lo ≤ 9223372036854775807) (hhi : -9223372036854775808 ≤ hi ∧ hi ≤ 9223372036854775807) (hk : ∀ A c, Ent w0 (ownB T.u8 (.slice A (pieceF bs lo hi).length c) (pieceF bs lo hi) :: p) (K (.slice A (pieceF bs lo hi).length c))) :
    Ent w0 p (op PR Pn (S.fn F.leatref01_Piece [v, .int .i64 lo, .int .i64 hi]) K) := by
  obtain ⟨A0, c0, rfl, h1, h2⟩ := hb.shape
  refine Ent.call (fun w h => enter.leatref01_Piece h) ?_
  unfold W.leatref01_Piece
  refine Ent.bsliceR (sz := 1) (by omega) rfl fun g => ?_
  refine Ent.J1 fun kk hkk => ?_
  have key : Ent w0 (row T.u8 1 (.slice (some ⟨g, 0, none⟩) 0 0) 0 [] :: p) (kk (.int .i64 lo.toNat)) := by
    refine hkk _ _ ?_
    refine Ent.L2 (σ := Nat × Nat × Option Addr × Nat) (fun s => .slice s.2.2.1 s.2.1 s.2.2.2) (fun s => .int .i64 ((lo.toNat + s.1 : Nat) : Int))
      (fun s => pure' (s.2.1 = s.1 ∧ s.1 ≤ (pieceF bs lo hi).length) :: ownB T.u8 (.slice s.2.2.1 s.2.1 s.2.2.2) ((pieceF bs lo hi).take s.1) :: p) (fun s => (pieceF bs lo hi).length - s.1) (0, 0, some ⟨g, 0, none⟩, 0) (fun w hs => hs.add ⟨⟨rfl, Nat.zero_le _⟩, fun _ => rfl⟩) ?_
    rintro ⟨i, j, A, c⟩ k hrec
    refine Ent.pure fun hi' => ?_
    obtain ⟨hi1, hi2⟩ := hi'
    simp only at hi1 hi2 hrec ⊢
    subst hi1
    have hpl : (pieceF bs lo hi).length = min hi.toNat bs.length - lo.toNat := by simp [pieceF]
    have hfin : ¬ j < (pieceF bs lo hi).length → Ent w0 (ownB T.u8 (.slice A j c) ((pieceF bs lo hi).take j) :: p) (K (.slice A j c)) := fun hge => by
      have : j = (pieceF bs lo hi).length := by omega
      subst this
      rw [List.take_of_length_le (by omega)]
      exact hk A c
    refine Ent.run ?_
    refine Ent.runB (fun hq => ?_) (fun hq => ?_)
    · have hq : ((lo.toNat + j : Nat) : Int) < bs.length := by simpa using hq
      repeat (first | refine Ent.runW (wrap_i64 (by omega) (by omega)) ?_ | refine Ent.runWL (wrap_i64 (by omega) (by omega)) ?_ | refine Ent.runWR (wrap_i64 (by omega) (by omega)) ?_ | refine Ent.run ?_ | refine Ent.runL ?_ | refine Ent.runR ?_ | refine Ent.drawn ?_ | refine Ent.store (by kernel_rfl) ?_ | refine Ent.resN ?_ | refine Ent.res1 ?_ | refine Ent.gop_yes ?_ | refine Ent.gop_no (by decide) ?_ | refine Ent.gop_undef ?_ | refine Ent.glt_undef ?_ | refine Ent.grc_undef ?_ | refine Ent.glt_yes ?_ | refine Ent.glt_no (by decide) ?_ | refine Ent.grc_yes ?_ | refine Ent.grc_no (by decide) ?_)
      refine Ent.ite (fun hq2 => ?_) (fun hq2 => ?_)
      · have hq2 : ((lo.toNat + j : Nat) : Int) < hi := by simpa using hq2
        have hlt : j < (pieceF bs lo hi).length := by omega
        obtain ⟨a, ha, hld⟩ := (hb.skip (a := ownB T.u8 (.slice A j c) ((pieceF bs lo hi).take j))).at (P := PR) (t := T.L_uint8) (k := .i64) (i := ((lo.toNat + j : Nat) : Int)) (by omega) (by omega)
        refine Ent.at_ (fun w _ => ha w) ?_
        repeat (first | refine Ent.runW (wrap_i64 (by omega) (by omega)) ?_ | refine Ent.runWL (wrap_i64 (by omega) (by omega)) ?_ | refine Ent.runWR (wrap_i64 (by omega) (by omega)) ?_ | refine Ent.run ?_ | refine Ent.runL ?_ | refine Ent.runR ?_ | refine Ent.drawn ?_ | refine Ent.store (by kernel_rfl) ?_ | refine Ent.resN ?_ | refine Ent.res1 ?_ | refine Ent.gop_yes ?_ | refine Ent.gop_no (by decide) ?_ | refine Ent.gop_undef ?_ | refine Ent.glt_undef ?_ | refine Ent.grc_undef ?_ | refine Ent.glt_yes ?_ | refine Ent.glt_no (by decide) ?_ | refine Ent.grc_yes ?_ | refine Ent.grc_no (by decide) ?_)
        rw [getD_lt (by omega)]
        have e : bs[lo.toNat + j]'(by omega) = (pieceF bs lo hi)[j] := by simp [pieceF]
        rw [e]
        refine pushB (by simp; omega) fun A' c' => ?_
        repeat (first | refine Ent.runW (wrap_i64 (by omega) (by omega)) ?_ | refine Ent.runWL (wrap_i64 (by omega) (by omega)) ?_ | refine Ent.runWR (wrap_i64 (by omega) (by omega)) ?_ | refine Ent.run ?_ | refine Ent.runL ?_ | refine Ent.runR ?_ | refine Ent.drawn ?_ | refine Ent.store (by kernel_rfl) ?_ | refine Ent.resN ?_ | refine Ent.res1 ?_ | refine Ent.gop_yes ?_ | refine Ent.gop_no (by decide) ?_ | refine Ent.gop_undef ?_ | refine Ent.glt_undef ?_ | refine Ent.grc_undef ?_ | refine Ent.glt_yes ?_ | refine Ent.glt_no (by decide) ?_ | refine Ent.grc_yes ?_ | refine Ent.grc_no (by decide) ?_)
        have := hrec (j + 1, j + 1, A', c') (by simp only; omega)
        simp only [← Nat.add_assoc, Int.natCast_add, Int.natCast_one] at this ⊢
        rw [List.take_succ_eq_append_getElem hlt] at this
        rw [show ((pieceF bs lo hi).take j).length = j by simp; omega]
        exact Ent.add ⟨⟨trivial, hlt⟩, fun _ => rfl⟩ this
      · refine hfin ?_
        have : ¬ ((lo.toNat + j : Nat) : Int) < hi := by simpa using hq2
        omega
    · repeat (first | refine Ent.runW (wrap_i64 (by omega) (by omega)) ?_ | refine Ent.runWL (wrap_i64 (by omega) (by omega)) ?_ | refine Ent.runWR (wrap_i64 (by omega) (by omega)) ?_ | refine Ent.run ?_ | refine Ent.runL ?_ | refine Ent.runR ?_ | refine Ent.drawn ?_ | refine Ent.store (by kernel_rfl) ?_ | refine Ent.resN ?_ | refine Ent.res1 ?_ | refine Ent.gop_yes ?_ | refine Ent.gop_no (by decide) ?_ | refine Ent.gop_undef ?_ | refine Ent.glt_undef ?_ | refine Ent.grc_undef ?_ | refine Ent.glt_yes ?_ | refine Ent.glt_no (by decide) ?_ | refine Ent.grc_yes ?_ | refine Ent.grc_no (by decide) ?_)
      refine Ent.ite_f ?_
      refine hfin ?_
      have : ¬ ((lo.toNat + j : Nat) : Int) < bs.length := by simpa using hq
      omega
  repeat (first | refine Ent.runW (wrap_i64 (by omega) (by omega)) ?_ | refine Ent.runWL (wrap_i64 (by omega) (by omega)) ?_ | refine Ent.runWR (wrap_i64 (by omega) (by omega)) ?_ | refine Ent.run ?_ | refine Ent.runL ?_ | refine Ent.runR ?_ | refine Ent.drawn ?_ | refine Ent.store (by kernel_rfl) ?_ | refine Ent.resN ?_ | refine Ent.res1 ?_ | refine Ent.gop_yes ?_ | refine Ent.gop_no (by decide) ?_ | refine Ent.gop_undef ?_ | refine Ent.glt_undef ?_ | refine Ent.grc_undef ?_ | refine Ent.glt_yes ?_ | refine Ent.glt_no (by decide) ?_ | refine Ent.grc_yes ?_ | refine Ent.grc_no (by decide) ?_)
  refine Ent.ite (fun hq => ?_) (fun hq => ?_)
  · have hq : lo < 0 := by simpa using hq
    rw [show ((lo.toNat : Nat) : Int) = 0 by omega] at key
    exact key
  · have hq : ¬ lo < 0 := by simpa using hq
    rw [show ((lo.toNat : Nat) : Int) = lo by omega] at key
    exact key
def marks : List UInt8 := (List.range 96).map fun i => UInt8.ofNat (i * 7 + 13)
theorem marks_length : marks.length = 96 := by simp [marks]
theorem u8_wrapN (v : Nat) : IntKind.u8.wrap (v : Int) = ((UInt8.ofNat v).toNat : Int) := u8_wrap v
theorem Wide_spec {v : Value} {bs : List UInt8} (hb : RdB p v bs) (hl : bs.length ≤ 1073741824) (hk : ∀ A c, Ent w0 (ownB T.u8 (.slice A (bs.length + 96) c) (bs ++ marks) :: p) (K (.slice A (bs.length + 96) c))) :
    Ent w0 p (op PR Pn (S.fn F.leatref01_Wide [v]) K) := by
  refine Ent.call (fun w h => enter.leatref01_Wide h) ?_
  unfold W.leatref01_Wide
  refine Copy_spec hb hl fun A1 c1 => ?_
  refine Ent.L2 (σ := Nat × Option Addr × Nat) (fun s => .slice s.2.1 (bs.length + s.1) s.2.2) (fun s => .int .i64 s.1)
    (fun s => pure' (s.1 ≤ 96) :: ownB T.u8 (.slice s.2.1 (bs.length + s.1) s.2.2) (bs ++ marks.take s.1) :: p) (fun s => 96 - s.1) (0, A1, c1) (fun w hs => by
      have : Sat (ownB T.u8 (.slice A1 (bs.length + 0) c1) (bs ++ marks.take 0) :: p) w0 w := by simpa using hs
      exact this.add ⟨Nat.zero_le _, fun _ => rfl⟩) ?_
  rintro ⟨i, A, c⟩ k hrec
  refine Ent.pure fun hi => ?_
  simp only at hi hrec ⊢
  repeat (first | refine Ent.runW (wrap_i64 (by omega) (by omega)) ?_ | refine Ent.runWL (wrap_i64 (by omega) (by omega)) ?_ | refine Ent.runWR (wrap_i64 (by omega) (by omega)) ?_ | refine Ent.run ?_ | refine Ent.runL ?_ | refine Ent.runR ?_ | refine Ent.drawn ?_ | refine Ent.store (by kernel_rfl) ?_ | refine Ent.resN ?_ | refine Ent.res1 ?_ | refine Ent.gop_yes ?_ | refine Ent.gop_no (by decide) ?_ | refine Ent.gop_undef ?_ | refine Ent.glt_undef ?_ | refine Ent.grc_undef ?_ | refine Ent.glt_yes ?_ | refine Ent.glt_no (by decide) ?_ | refine Ent.grc_yes ?_ | refine Ent.grc_no (by decide) ?_)
  refine Ent.ite (fun hq => ?_) (fun hq => ?_)
  · have hlt : i < 96 := by have : (i : Int) < 96 := by simpa using hq
                            omega
    repeat (first | refine Ent.runW (wrap_i64 (by omega) (by omega)) ?_ | refine Ent.runWL (wrap_i64 (by omega) (by omega)) ?_ | refine Ent.runWR (wrap_i64 (by omega) (by omega)) ?_ | refine Ent.run ?_ | refine Ent.runL ?_ | refine Ent.runR ?_ | refine Ent.drawn ?_ | refine Ent.store (by kernel_rfl) ?_ | refine Ent.resN ?_ | refine Ent.res1 ?_ | refine Ent.gop_yes ?_ | refine Ent.gop_no (by decide) ?_ | refine Ent.gop_undef ?_ | refine Ent.glt_undef ?_ | refine Ent.grc_undef ?_ | refine Ent.glt_yes ?_ | refine Ent.glt_no (by decide) ?_ | refine Ent.grc_yes ?_ | refine Ent.grc_no (by decide) ?_)
    rw [show (i : Int) * 7 + 13 = ((i * 7 + 13 : Nat) : Int) by omega, u8_wrapN]
    refine pushB (by simp; omega) fun A' c' => ?_
    repeat (first | refine Ent.runW (wrap_i64 (by omega) (by omega)) ?_ | refine Ent.runWL (wrap_i64 (by omega) (by omega)) ?_ | refine Ent.runWR (wrap_i64 (by omega) (by omega)) ?_ | refine Ent.run ?_ | refine Ent.runL ?_ | refine Ent.runR ?_ | refine Ent.drawn ?_ | refine Ent.store (by kernel_rfl) ?_ | refine Ent.resN ?_ | refine Ent.res1 ?_ | refine Ent.gop_yes ?_ | refine Ent.gop_no (by decide) ?_ | refine Ent.gop_undef ?_ | refine Ent.glt_undef ?_ | refine Ent.grc_undef ?_ | refine Ent.glt_yes ?_ | refine Ent.glt_no (by decide) ?_ | refine Ent.grc_yes ?_ | refine Ent.grc_no (by decide) ?_)
    have := hrec (i + 1, A', c') (by simp only; omega)
    simp only [Int.natCast_add, Int.natCast_one] at this
    have hm := marks_length
    rw [List.take_succ_eq_append_getElem (by omega), ← List.append_assoc] at this
    rw [show marks[i]'(by omega) = UInt8.ofNat (i * 7 + 13) by simp [marks]] at this
    rw [show (bs ++ marks.take i).length = bs.length + i by simp; omega]
    exact Ent.add ⟨hlt, fun _ => rfl⟩ this
  · have hlt : i = 96 := by
      have : ¬ (i : Int) < 96 := by simpa using hq
      omega
    subst hlt
    rw [List.take_of_length_le (by rw [marks_length]; omega)]
    exact hk A c
theorem Same_spec {v u : Value} {xs bs : List UInt8} (ha : RdB p v xs) (hb : RdB p u bs) (hk : Ent w0 p (K (.bool (decide (xs = bs))))) :
    Ent w0 p (op PR Pn (S.fn F.leatref01_Same [v, u]) K) := by
  obtain ⟨A0, c0, rfl, h1, h2⟩ := ha.shape
  obtain ⟨A1, c1, rfl, h3, h4⟩ := hb.shape
  refine Ent.call (fun w h => enter.leatref01_Same h) ?_
  unfold W.leatref01_Same
  repeat (first | refine Ent.runW (wrap_i64 (by omega) (by omega)) ?_ | refine Ent.runWL (wrap_i64 (by omega) (by omega)) ?_ | refine Ent.runWR (wrap_i64 (by omega) (by omega)) ?_ | refine Ent.run ?_ | refine Ent.runL ?_ | refine Ent.runR ?_ | refine Ent.drawn ?_ | refine Ent.store (by kernel_rfl) ?_ | refine Ent.resN ?_ | refine Ent.res1 ?_ | refine Ent.gop_yes ?_ | refine Ent.gop_no (by decide) ?_ | refine Ent.gop_undef ?_ | refine Ent.glt_undef ?_ | refine Ent.grc_undef ?_ | refine Ent.glt_yes ?_ | refine Ent.glt_no (by decide) ?_ | refine Ent.grc_yes ?_ | refine Ent.grc_no (by decide) ?_)
  refine Ent.ite (fun hq => ?_) (fun hq => ?_)
  · have hq : ¬ xs.length = bs.length := by
      intro h
      rw [h] at hq
      simp at hq
    rw [decide_eq_false (fun h => hq (by rw [h]))] at hk
    exact hk
  · have hq : xs.length = bs.length := by
      have : (xs.length : Int) = bs.length := by simpa using hq
      omega
    refine Ent.L2 (σ := Nat) (fun s => .bool false) (fun i => .int .i64 i) (fun i => pure' (i ≤ xs.length ∧ xs.take i = bs.take i) :: p) (fun i => xs.length - i) 0 (fun w hs => hs.add ⟨⟨Nat.zero_le _, by simp⟩, fun _ => rfl⟩) ?_
    intro i k hrec
    refine Ent.pure fun hi => ?_
    repeat (first | refine Ent.runW (wrap_i64 (by omega) (by omega)) ?_ | refine Ent.runWL (wrap_i64 (by omega) (by omega)) ?_ | refine Ent.runWR (wrap_i64 (by omega) (by omega)) ?_ | refine Ent.run ?_ | refine Ent.runL ?_ | refine Ent.runR ?_ | refine Ent.drawn ?_ | refine Ent.store (by kernel_rfl) ?_ | refine Ent.resN ?_ | refine Ent.res1 ?_ | refine Ent.gop_yes ?_ | refine Ent.gop_no (by decide) ?_ | refine Ent.gop_undef ?_ | refine Ent.glt_undef ?_ | refine Ent.grc_undef ?_ | refine Ent.glt_yes ?_ | refine Ent.glt_no (by decide) ?_ | refine Ent.grc_yes ?_ | refine Ent.grc_no (by decide) ?_)
    refine Ent.ite (fun hq2 => ?_) (fun hq2 => ?_)
    · have hlt : i < xs.length := by simpa using hq2
      obtain ⟨a, ha', hld⟩ := ha.at (P := PR) (t := T.L_uint8) (k := .i64) (i := (i : Int)) (by omega) (by omega)
      obtain ⟨b, hb', hld2⟩ := hb.at (P := PR) (t := T.L_uint8) (k := .i64) (i := (i : Int)) (by omega) (by omega)
      repeat (first | refine Ent.runW (wrap_i64 (by omega) (by omega)) ?_ | refine Ent.runWL (wrap_i64 (by omega) (by omega)) ?_ | refine Ent.runWR (wrap_i64 (by omega) (by omega)) ?_ | refine Ent.run ?_ | refine Ent.runL ?_ | refine Ent.runR ?_ | refine Ent.drawn ?_ | refine Ent.store (by kernel_rfl) ?_ | refine Ent.resN ?_ | refine Ent.res1 ?_ | refine Ent.gop_yes ?_ | refine Ent.gop_no (by decide) ?_ | refine Ent.gop_undef ?_ | refine Ent.glt_undef ?_ | refine Ent.grc_undef ?_ | refine Ent.glt_yes ?_ | refine Ent.glt_no (by decide) ?_ | refine Ent.grc_yes ?_ | refine Ent.grc_no (by decide) ?_)
      refine Ent.atL (fun w _ => ha' w) ?_
      repeat (first | refine Ent.runW (wrap_i64 (by omega) (by omega)) ?_ | refine Ent.runWL (wrap_i64 (by omega) (by omega)) ?_ | refine Ent.runWR (wrap_i64 (by omega) (by omega)) ?_ | refine Ent.run ?_ | refine Ent.runL ?_ | refine Ent.runR ?_ | refine Ent.drawn ?_ | refine Ent.store (by kernel_rfl) ?_ | refine Ent.resN ?_ | refine Ent.res1 ?_ | refine Ent.gop_yes ?_ | refine Ent.gop_no (by decide) ?_ | refine Ent.gop_undef ?_ | refine Ent.glt_undef ?_ | refine Ent.grc_undef ?_ | refine Ent.glt_yes ?_ | refine Ent.glt_no (by decide) ?_ | refine Ent.grc_yes ?_ | refine Ent.grc_no (by decide) ?_)
      refine Ent.atL (fun w _ => hb' w) ?_
      repeat (first | refine Ent.runW (wrap_i64 (by omega) (by omega)) ?_ | refine Ent.runWL (wrap_i64 (by omega) (by omega)) ?_ | refine Ent.runWR (wrap_i64 (by omega) (by omega)) ?_ | refine Ent.run ?_ | refine Ent.runL ?_ | refine Ent.runR ?_ | refine Ent.drawn ?_ | refine Ent.store (by kernel_rfl) ?_ | refine Ent.resN ?_ | refine Ent.res1 ?_ | refine Ent.gop_yes ?_ | refine Ent.gop_no (by decide) ?_ | refine Ent.gop_undef ?_ | refine Ent.glt_undef ?_ | refine Ent.grc_undef ?_ | refine Ent.glt_yes ?_ | refine Ent.glt_no (by decide) ?_ | refine Ent.grc_yes ?_ | refine Ent.grc_no (by decide) ?_)
      rw [getD_lt hlt, getD_lt (by omega)]
      have e1 := List.take_succ_eq_append_getElem hlt
      have e2 := List.take_succ_eq_append_getElem (show i < bs.length by omega)
      refine Ent.ite (fun hne => ?_) (fun hne => ?_)
      · rw [decide_eq_false (fun h => ?_)] at hk
        · exact hk
        · subst h
          simp at hne
      · repeat (first | refine Ent.runW (wrap_i64 (by omega) (by omega)) ?_ | refine Ent.runWL (wrap_i64 (by omega) (by omega)) ?_ | refine Ent.runWR (wrap_i64 (by omega) (by omega)) ?_ | refine Ent.run ?_ | refine Ent.runL ?_ | refine Ent.runR ?_ | refine Ent.drawn ?_ | refine Ent.store (by kernel_rfl) ?_ | refine Ent.resN ?_ | refine Ent.res1 ?_ | refine Ent.gop_yes ?_ | refine Ent.gop_no (by decide) ?_ | refine Ent.gop_undef ?_ | refine Ent.glt_undef ?_ | refine Ent.grc_undef ?_ | refine Ent.glt_yes ?_ | refine Ent.glt_no (by decide) ?_ | refine Ent.grc_yes ?_ | refine Ent.grc_no (by decide) ?_)
        have := hrec (i + 1) (by omega)
        simp only [Int.natCast_add, Int.natCast_one] at this
        refine Ent.add ⟨⟨hlt, ?_⟩, fun _ => rfl⟩ this
        rw [e1, e2, hi.2]
        congr 2
        have : (xs[i].toNat : Int) = bs[i].toNat := by simpa using hne
        exact UInt8.toNat_inj.1 (by omega)
    · have : i = xs.length := by
        have : ¬ (i : Int) < xs.length := by simpa using hq2
        omega
      subst this
      have h := hi.2
      rw [List.take_of_length_le (by omega), List.take_of_length_le (by omega)] at h
      rw [decide_eq_true h] at hk
      exact hk
theorem Intact_spec {v u : Value} {xs bs : List UInt8} (ha : RdB p v xs) (hb : RdB p u bs) (hl : bs.length ≤ 1073741824) (hk : Ent w0 p (K (.bool (decide (xs = bs ++ marks))))) :
    Ent w0 p (op PR Pn (S.fn F.leatref01_Intact [v, u]) K) := by
  refine Ent.call (fun w h => enter.leatref01_Intact h) ?_
  unfold W.leatref01_Intact
  refine Wide_spec hb hl fun A c => Ent.freeze fun x hx => ?_
  have := ownB_rd hx
  refine Same_spec (xs := xs) (bs := bs ++ marks) ha.skip (RdB.here ?_) (Ent.drop hk)
  rw [show bs.length + 96 = (bs ++ marks).length by simp [marks_length]] at this ⊢
  exact this
end Go.Lt
