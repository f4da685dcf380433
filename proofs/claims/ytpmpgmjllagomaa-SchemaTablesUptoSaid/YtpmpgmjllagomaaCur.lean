/- cursor: its Reader and its Writer. Conditions: none. -/
import Derived.Test.YtpmpgmjllagomaaSeatA
import Derived.Test.YtpmpgmjllagomaaBytes
set_option linter.unusedVariables false
set_option maxHeartbeats 4000000
set_option linter.unusedSimpArgs false
set_option maxRecDepth 100000
namespace Go.Lt
open Go
attribute [local irreducible] op gop lt glt rc grc ite' drawn also ldR
/-- The bytes as one number, the highest first. -/
def beN (bs : List UInt8) : Nat := bs.foldl (fun v c => v * 256 + c.toNat) 0
theorem beN_snoc (bs : List UInt8) (c : UInt8) : beN (bs ++ [c]) = beN bs * 256 + c.toNat := by simp [beN]
theorem beN_lt (bs : List UInt8) : beN bs < 256 ^ bs.length := by
  have key : ∀ (bs : List UInt8) (v : Nat), bs.foldl (fun v c => v * 256 + c.toNat) v < (v + 1) * 256 ^ bs.length := by
    intro bs
    induction bs with
    | nil => intro v; simp
    | cons c r ih =>
      intro v
      have h := ih (v * 256 + c.toNat)
      have hc := c.toNat_lt
      rw [List.foldl_cons, List.length_cons, Nat.pow_succ]
      refine Nat.lt_of_lt_of_le h ?_
      rw [show (v + 1) * (256 ^ r.length * 256) = ((v + 1) * 256) * 256 ^ r.length by rw [Nat.mul_comm (256 ^ r.length), Nat.mul_assoc]]
      exact Nat.mul_le_mul_right _ (by omega)
  have := key bs 0
  simpa [beN] using this
theorem bor_byte (a : Nat) (c : UInt8) (h : a < 72057594037927936) : bor .u64 ((a : Int) * 256) (c.toNat : Int) = ((a * 256 + c.toNat : Nat) : Int) := by
  have hc := c.toNat_lt
  have h1 : ((a : Int) * 256) = ((a * 256 : Nat) : Int) := by omega
  rw [h1, bor_nat (by simp [IntKind.bits]; omega) (by simp [IntKind.bits]; omega)]
  have : a * 256 ||| c.toNat = a * 256 + c.toNat := by
    have := Nat.shiftLeft_add_eq_or_of_lt (b := c.toNat) (i := 8) (by omega) a
    rw [Nat.shiftLeft_eq] at this
    exact this.symm
  rw [this, wrap_u64 (by omega) (by omega)]
theorem shl8 (a : Nat) (h : a < 72057594037927936) : shlI .u64 (a : Int) 8 = (a : Int) * 256 := by
  unfold shlI
  rw [wrap_u64] <;> simp [IntKind.bits] <;> omega
variable {w0 : World} {p : List HP} {Pn : PK} {K : Value → WP}
theorem Left_spec {g c n : Nat} {A : Option Addr} {at_ : Nat} (h1 : at_ ≤ n) (h2 : n ≤ maxLen) (hk : Ent w0 (blk g [.slice A n c, .int .i64 at_] :: p) (K (.int .i64 ((n - at_ : Nat) : Int)))) :
    Ent w0 (blk g [.slice A n c, .int .i64 at_] :: p) (op PR Pn (S.fn F.cursor_Reader_Left [.pointer (some ⟨g, 0, none⟩)]) K) := by
  simp only [maxLen] at h2
  refine Ent.call (fun w h => enter.cursor_Reader_Left h) ?_
  unfold W.cursor_Reader_Left
  repeat (first | refine Ent.runW (wrap_i64 (by omega) (by omega)) ?_ | refine Ent.runWL (wrap_i64 (by omega) (by omega)) ?_ | refine Ent.runWR (wrap_i64 (by omega) (by omega)) ?_ | refine Ent.run ?_ | refine Ent.runL ?_ | refine Ent.runR ?_ | refine Ent.drawn ?_ | refine Ent.store (by kernel_rfl) ?_ | refine Ent.resN ?_ | refine Ent.res1 ?_ | refine Ent.gop_yes ?_ | refine Ent.gop_no (by decide) ?_ | refine Ent.gop_undef ?_ | refine Ent.glt_undef ?_ | refine Ent.grc_undef ?_ | refine Ent.glt_yes ?_ | refine Ent.glt_no (by decide) ?_ | refine Ent.grc_yes ?_ | refine Ent.grc_no (by decide) ?_)
  rw [show (n : Int) - at_ = ((n - at_ : Nat) : Int) by omega]
  exact hk
/-- number: n bytes as one number, or ErrShort. -/
theorem number_spec {g c m at_ n : Nat} {A : Option Addr} {bs : List UInt8} (hb : RdB p (.slice A m c) bs) (h1 : at_ ≤ m) (hn : n ≤ 8)
    (hs : m - at_ < n → Ent w0 (blk g [.slice A m c, .int .i64 at_] :: p) (K (.tuple [.int .u64 0, .int .i64 1].toArray)))
    (hk : n ≤ m - at_ → Ent w0 (blk g [.slice A m c, .int .i64 ((at_ + n : Nat) : Int)] :: p) (K (.tuple [.int .u64 (beN ((bs.drop at_).take n) : Nat), .int .i64 0].toArray))) :
    Ent w0 (blk g [.slice A m c, .int .i64 at_] :: p) (op PR Pn (S.fn F.cursor_Reader_number [.pointer (some ⟨g, 0, none⟩), .int .i64 n]) K) := by
  have hm : m ≤ maxLen := by obtain ⟨A', c', h3, h4, h5, _⟩ := hb; injection h3 with e1 e2 e3; omega
  have hc : m ≤ c ∧ m = bs.length := by obtain ⟨A', c', h3, h4, h5, _⟩ := hb; injection h3 with e1 e2 e3; subst e3; omega
  have hm' := hm
  simp only [maxLen] at hm'
  refine Ent.call (fun w h => enter.cursor_Reader_number h) ?_
  unfold W.cursor_Reader_number
  refine Left_spec h1 hm ?_
  repeat (first | refine Ent.runW (wrap_i64 (by omega) (by omega)) ?_ | refine Ent.run ?_ | refine Ent.runL ?_ | refine Ent.drawn ?_)
  refine Ent.ite (fun h => ?_) (fun h => ?_)
  · exact hs (by simp at h; omega)
  · have hle : n ≤ m - at_ := by simp at h; omega
    refine Ent.drawn ?_
    repeat (first | refine Ent.runWL (wrap_i64 (by omega) (by omega)) ?_ | refine Ent.runL ?_)
    refine Ent.atL (fun w _ => sl_run (k := .i64) (l := at_) (h := at_ + n) (sz := 1) (.inl rfl) (.inl (by simp)) (by omega) (by omega)) ?_
    repeat (first | refine Ent.runWL (wrap_i64 (by omega) (by omega)) ?_ | refine Ent.runL ?_)
    have hb2 := (hb.sub (l := at_) (m := at_ + n) (by omega) (by omega)).skip (a := blk g [.slice A m c, .int .i64 at_])
    rw [show at_ + n - at_ = n by omega] at hb2 ⊢
    generalize hds : List.take n (List.drop at_ bs) = ds at hb2 hk
    have hdl : ds.length = n := by rw [← hds]; simp; omega
    refine Ent.L2 (σ := Nat) (fun i => .int .u64 (beN (ds.take i) : Nat)) (fun i => .int .i64 i) (fun i => pure' (i ≤ n) :: blk g [.slice A m c, .int .i64 at_] :: p) (fun i => n - i) 0 (fun w hs => hs.add ⟨Nat.zero_le _, fun _ => rfl⟩) ?_
    intro i k hrec
    refine Ent.pure fun hin => ?_
    refine Ent.run ?_
    refine Ent.ite (fun h => ?_) (fun h => ?_)
    · have hi : i < n := by simpa using h
      obtain ⟨a, ha, hl⟩ := hb2.at (P := PR) (t := 23) (k := .i64) (i := (i : Int)) (by omega) (by omega)
      refine Ent.at_ (fun w _ => ha w) ?_
      refine Ent.run ?_
      have hlt : beN (ds.take i) < 72057594037927936 := by
        have := beN_lt (ds.take i)
        have h2 : (ds.take i).length ≤ 7 := by simp; omega
        exact Nat.lt_of_lt_of_le this (Nat.le_trans (Nat.pow_le_pow_right (by omega) h2) (by decide))
      refine Ent.run ?_
      rw [shl8 _ hlt]
      refine Ent.runW (wrap_u64 (by omega) (by have := (ds.getD (Int.toNat i) 0).toNat_lt; omega)) ?_
      refine Ent.run ?_
      rw [bor_byte _ _ hlt]
      refine Ent.runW (wrap_i64 (by omega) (by omega)) ?_
      have := hrec (i + 1) (by omega)
      rw [List.take_succ_eq_append_getElem (by omega), beN_snoc] at this
      rw [show (((i : Nat) : Int) + 1) = ((i + 1 : Nat) : Int) by omega]
      rw [show ds.getD (Int.toNat i) 0 = ds[i] by simp [List.getD_eq_getElem?_getD, List.getElem?_eq_getElem (show i < ds.length by omega)]]
      exact Ent.add ⟨by omega, fun _ => rfl⟩ this
    · have : i = n := by simp at h; omega
      subst this
      repeat (first | refine Ent.runW (wrap_i64 (by omega) (by omega)) ?_ | refine Ent.run ?_)
      refine Ent.store (by kernel_rfl) ?_
      rw [List.take_of_length_le (by omega)]
      exact hk hle

theorem RdB.shape {v : Value} {bs : List UInt8} {p : List HP} (h : RdB p v bs) : ∃ A c, v = .slice A bs.length c ∧ bs.length ≤ c ∧ c ≤ 9223372036854775807 := by
  obtain ⟨A, c, h1, h2, h3, _⟩ := h
  exact ⟨A, c, h1, h2, by simpa [maxLen] using h3⟩
theorem RdB.src {v : Value} {bs : List UInt8} {p : List HP} (h : RdB p v bs) : Src p 1 v bs.length (bs.map u8) := by
  obtain ⟨A, c, rfl, h2, h3, h4⟩ := h
  refine ⟨fun w0 w hs => ⟨A, c, rfl, fun j u hu => ?_⟩, by simp, fun d hd => by
    obtain ⟨b, _, rfl⟩ := List.mem_map.1 hd
    rfl⟩
  rcases h4 with rfl | ⟨b, o, rfl, h5⟩
  · simp at hu
  · rw [List.getElem?_map] at hu
    obtain ⟨x, hx, rfl⟩ := Option.map_eq_some_iff.1 hu
    exact ⟨_, rfl, by rw [add_none]; exact h5 w0 w hs j x hx⟩
theorem ownB_nil : ownB T.u8 (.slice none 0 0) [] (fun _ => none) := row_nil _ _
/-- append(v, x...) of bytes. -/
theorem appendB {t : Nat} {v x : Value} {bs ds : List UInt8} {fl : List Bool} {ty : TypeId} [ht : SlE PR t T.u8] (hx : RdB p x ds) (hl : bs.length + ds.length ≤ 4294967296) (hk : ∀ A c, Ent w0 (ownB T.u8 (.slice A (bs.length + ds.length) c) (bs ++ ds) :: p) (K (.slice A (bs.length + ds.length) c))) :
    Ent w0 (ownB T.u8 v bs :: p) (op PR Pn (S.bi .append #[t, t] ty fl [v, x]) K) := by
  haveI := hx.src
  haveI : Zero PR T.u8 (.int .u8 0) 1 := ⟨by kernel_rfl⟩
  refine Ent.append (z := .int .u8 0) (sz := 1) (by rfl) (by omega) hl fun A c => ?_
  have := hk A c
  unfold ownB at this
  rw [List.map_append, List.length_append] at this
  exact this
theorem Clone_spec {v : Value} {bs : List UInt8} (hb : RdB p v bs) (hl : bs.length ≤ 4294967296) (hk : ∀ A c, Ent w0 (ownB T.u8 (.slice A bs.length c) bs :: p) (K (.slice A bs.length c))) : Ent w0 p (op PR Pn (S.fn F.bytes_Clone [v]) K) := by
  obtain ⟨A, c, rfl, h1, h2⟩ := hb.shape
  refine Ent.call (fun w h => enter.bytes_Clone h) ?_
  unfold W.bytes_Clone
  repeat (first | refine Ent.runW (wrap_i64 (by omega) (by omega)) ?_ | refine Ent.runWL (wrap_i64 (by omega) (by omega)) ?_ | refine Ent.runWR (wrap_i64 (by omega) (by omega)) ?_ | refine Ent.run ?_ | refine Ent.runL ?_ | refine Ent.runR ?_ | refine Ent.drawn ?_ | refine Ent.store (by kernel_rfl) ?_ | refine Ent.resN ?_ | refine Ent.res1 ?_ | refine Ent.gop_yes ?_ | refine Ent.gop_no (by decide) ?_ | refine Ent.gop_undef ?_ | refine Ent.glt_undef ?_ | refine Ent.grc_undef ?_ | refine Ent.glt_yes ?_ | refine Ent.glt_no (by decide) ?_ | refine Ent.grc_yes ?_ | refine Ent.grc_no (by decide) ?_)
  refine Ent.ite (fun h => ?_) (fun h => ?_)
  · have : bs = [] := by
      obtain ⟨A', c', e, _, _, h4⟩ := hb
      injection e with e1
      subst e1
      rcases h4 with h4 | ⟨b, o, h5, _⟩
      · exact h4
      · rw [h5] at h; cases h
    subst this
    exact Ent.add ownB_nil (hk none 0)
  · refine Ent.bsliceR (sz := 1) (by omega) rfl fun g => ?_
    refine appendB (bs := []) hb (by simpa using hl) fun A c => ?_
    have := hk A c
    simpa using this
theorem I8_spec {g c m at_ : Nat} {A : Option Addr} {bs : List UInt8} (hb : RdB p (.slice A m c) bs) (h1 : at_ ≤ m)
    (hs : m - at_ < 1 → Ent w0 (blk g [.slice A m c, .int .i64 at_] :: p) (K (.tuple [.int .i8 0, .int .i64 1].toArray)))
    (hk : 1 ≤ m - at_ → Ent w0 (blk g [.slice A m c, .int .i64 ((at_ + 1 : Nat) : Int)] :: p) (K (.tuple [.int .i8 (IntKind.i8.wrap (beN ((bs.drop at_).take 1) : Nat)), .int .i64 0].toArray))) :
    Ent w0 (blk g [.slice A m c, .int .i64 at_] :: p) (op PR Pn (S.fn F.cursor_Reader_I8 [.pointer (some ⟨g, 0, none⟩)]) K) := by
  refine Ent.call (fun w h => enter.cursor_Reader_I8 h) ?_
  unfold W.cursor_Reader_I8
  refine number_spec (n := 1) hb h1 (by omega) (fun h => ?_) (fun h => ?_)
  · repeat (first | refine Ent.runW (wrap_i64 (by omega) (by omega)) ?_ | refine Ent.runWL (wrap_i64 (by omega) (by omega)) ?_ | refine Ent.runWR (wrap_i64 (by omega) (by omega)) ?_ | refine Ent.run ?_ | refine Ent.runL ?_ | refine Ent.runR ?_ | refine Ent.drawn ?_ | refine Ent.store (by kernel_rfl) ?_ | refine Ent.resN ?_ | refine Ent.res1 ?_ | refine Ent.gop_yes ?_ | refine Ent.gop_no (by decide) ?_ | refine Ent.gop_undef ?_ | refine Ent.glt_undef ?_ | refine Ent.grc_undef ?_ | refine Ent.glt_yes ?_ | refine Ent.glt_no (by decide) ?_ | refine Ent.grc_yes ?_ | refine Ent.grc_no (by decide) ?_)
    exact hs h
  · repeat (first | refine Ent.runW (wrap_i64 (by omega) (by omega)) ?_ | refine Ent.runWL (wrap_i64 (by omega) (by omega)) ?_ | refine Ent.runWR (wrap_i64 (by omega) (by omega)) ?_ | refine Ent.run ?_ | refine Ent.runL ?_ | refine Ent.runR ?_ | refine Ent.drawn ?_ | refine Ent.store (by kernel_rfl) ?_ | refine Ent.resN ?_ | refine Ent.res1 ?_ | refine Ent.gop_yes ?_ | refine Ent.gop_no (by decide) ?_ | refine Ent.gop_undef ?_ | refine Ent.glt_undef ?_ | refine Ent.grc_undef ?_ | refine Ent.glt_yes ?_ | refine Ent.glt_no (by decide) ?_ | refine Ent.grc_yes ?_ | refine Ent.grc_no (by decide) ?_)
    exact hk h
theorem I16_spec {g c m at_ : Nat} {A : Option Addr} {bs : List UInt8} (hb : RdB p (.slice A m c) bs) (h1 : at_ ≤ m)
    (hs : m - at_ < 2 → Ent w0 (blk g [.slice A m c, .int .i64 at_] :: p) (K (.tuple [.int .i16 0, .int .i64 1].toArray)))
    (hk : 2 ≤ m - at_ → Ent w0 (blk g [.slice A m c, .int .i64 ((at_ + 2 : Nat) : Int)] :: p) (K (.tuple [.int .i16 (IntKind.i16.wrap (beN ((bs.drop at_).take 2) : Nat)), .int .i64 0].toArray))) :
    Ent w0 (blk g [.slice A m c, .int .i64 at_] :: p) (op PR Pn (S.fn F.cursor_Reader_I16 [.pointer (some ⟨g, 0, none⟩)]) K) := by
  refine Ent.call (fun w h => enter.cursor_Reader_I16 h) ?_
  unfold W.cursor_Reader_I16
  refine number_spec (n := 2) hb h1 (by omega) (fun h => ?_) (fun h => ?_)
  · repeat (first | refine Ent.runW (wrap_i64 (by omega) (by omega)) ?_ | refine Ent.runWL (wrap_i64 (by omega) (by omega)) ?_ | refine Ent.runWR (wrap_i64 (by omega) (by omega)) ?_ | refine Ent.run ?_ | refine Ent.runL ?_ | refine Ent.runR ?_ | refine Ent.drawn ?_ | refine Ent.store (by kernel_rfl) ?_ | refine Ent.resN ?_ | refine Ent.res1 ?_ | refine Ent.gop_yes ?_ | refine Ent.gop_no (by decide) ?_ | refine Ent.gop_undef ?_ | refine Ent.glt_undef ?_ | refine Ent.grc_undef ?_ | refine Ent.glt_yes ?_ | refine Ent.glt_no (by decide) ?_ | refine Ent.grc_yes ?_ | refine Ent.grc_no (by decide) ?_)
    exact hs h
  · repeat (first | refine Ent.runW (wrap_i64 (by omega) (by omega)) ?_ | refine Ent.runWL (wrap_i64 (by omega) (by omega)) ?_ | refine Ent.runWR (wrap_i64 (by omega) (by omega)) ?_ | refine Ent.run ?_ | refine Ent.runL ?_ | refine Ent.runR ?_ | refine Ent.drawn ?_ | refine Ent.store (by kernel_rfl) ?_ | refine Ent.resN ?_ | refine Ent.res1 ?_ | refine Ent.gop_yes ?_ | refine Ent.gop_no (by decide) ?_ | refine Ent.gop_undef ?_ | refine Ent.glt_undef ?_ | refine Ent.grc_undef ?_ | refine Ent.glt_yes ?_ | refine Ent.glt_no (by decide) ?_ | refine Ent.grc_yes ?_ | refine Ent.grc_no (by decide) ?_)
    exact hk h
theorem I32_spec {g c m at_ : Nat} {A : Option Addr} {bs : List UInt8} (hb : RdB p (.slice A m c) bs) (h1 : at_ ≤ m)
    (hs : m - at_ < 4 → Ent w0 (blk g [.slice A m c, .int .i64 at_] :: p) (K (.tuple [.int .i32 0, .int .i64 1].toArray)))
    (hk : 4 ≤ m - at_ → Ent w0 (blk g [.slice A m c, .int .i64 ((at_ + 4 : Nat) : Int)] :: p) (K (.tuple [.int .i32 (IntKind.i32.wrap (beN ((bs.drop at_).take 4) : Nat)), .int .i64 0].toArray))) :
    Ent w0 (blk g [.slice A m c, .int .i64 at_] :: p) (op PR Pn (S.fn F.cursor_Reader_I32 [.pointer (some ⟨g, 0, none⟩)]) K) := by
  refine Ent.call (fun w h => enter.cursor_Reader_I32 h) ?_
  unfold W.cursor_Reader_I32
  refine number_spec (n := 4) hb h1 (by omega) (fun h => ?_) (fun h => ?_)
  · repeat (first | refine Ent.runW (wrap_i64 (by omega) (by omega)) ?_ | refine Ent.runWL (wrap_i64 (by omega) (by omega)) ?_ | refine Ent.runWR (wrap_i64 (by omega) (by omega)) ?_ | refine Ent.run ?_ | refine Ent.runL ?_ | refine Ent.runR ?_ | refine Ent.drawn ?_ | refine Ent.store (by kernel_rfl) ?_ | refine Ent.resN ?_ | refine Ent.res1 ?_ | refine Ent.gop_yes ?_ | refine Ent.gop_no (by decide) ?_ | refine Ent.gop_undef ?_ | refine Ent.glt_undef ?_ | refine Ent.grc_undef ?_ | refine Ent.glt_yes ?_ | refine Ent.glt_no (by decide) ?_ | refine Ent.grc_yes ?_ | refine Ent.grc_no (by decide) ?_)
    exact hs h
  · repeat (first | refine Ent.runW (wrap_i64 (by omega) (by omega)) ?_ | refine Ent.runWL (wrap_i64 (by omega) (by omega)) ?_ | refine Ent.runWR (wrap_i64 (by omega) (by omega)) ?_ | refine Ent.run ?_ | refine Ent.runL ?_ | refine Ent.runR ?_ | refine Ent.drawn ?_ | refine Ent.store (by kernel_rfl) ?_ | refine Ent.resN ?_ | refine Ent.res1 ?_ | refine Ent.gop_yes ?_ | refine Ent.gop_no (by decide) ?_ | refine Ent.gop_undef ?_ | refine Ent.glt_undef ?_ | refine Ent.grc_undef ?_ | refine Ent.glt_yes ?_ | refine Ent.glt_no (by decide) ?_ | refine Ent.grc_yes ?_ | refine Ent.grc_no (by decide) ?_)
    exact hk h
theorem I64_spec {g c m at_ : Nat} {A : Option Addr} {bs : List UInt8} (hb : RdB p (.slice A m c) bs) (h1 : at_ ≤ m)
    (hs : m - at_ < 8 → Ent w0 (blk g [.slice A m c, .int .i64 at_] :: p) (K (.tuple [.int .i64 0, .int .i64 1].toArray)))
    (hk : 8 ≤ m - at_ → Ent w0 (blk g [.slice A m c, .int .i64 ((at_ + 8 : Nat) : Int)] :: p) (K (.tuple [.int .i64 (IntKind.i64.wrap (beN ((bs.drop at_).take 8) : Nat)), .int .i64 0].toArray))) :
    Ent w0 (blk g [.slice A m c, .int .i64 at_] :: p) (op PR Pn (S.fn F.cursor_Reader_I64 [.pointer (some ⟨g, 0, none⟩)]) K) := by
  refine Ent.call (fun w h => enter.cursor_Reader_I64 h) ?_
  unfold W.cursor_Reader_I64
  refine number_spec (n := 8) hb h1 (by omega) (fun h => ?_) (fun h => ?_)
  · repeat (first | refine Ent.runW (wrap_i64 (by omega) (by omega)) ?_ | refine Ent.runWL (wrap_i64 (by omega) (by omega)) ?_ | refine Ent.runWR (wrap_i64 (by omega) (by omega)) ?_ | refine Ent.run ?_ | refine Ent.runL ?_ | refine Ent.runR ?_ | refine Ent.drawn ?_ | refine Ent.store (by kernel_rfl) ?_ | refine Ent.resN ?_ | refine Ent.res1 ?_ | refine Ent.gop_yes ?_ | refine Ent.gop_no (by decide) ?_ | refine Ent.gop_undef ?_ | refine Ent.glt_undef ?_ | refine Ent.grc_undef ?_ | refine Ent.glt_yes ?_ | refine Ent.glt_no (by decide) ?_ | refine Ent.grc_yes ?_ | refine Ent.grc_no (by decide) ?_)
    exact hs h
  · repeat (first | refine Ent.runW (wrap_i64 (by omega) (by omega)) ?_ | refine Ent.runWL (wrap_i64 (by omega) (by omega)) ?_ | refine Ent.runWR (wrap_i64 (by omega) (by omega)) ?_ | refine Ent.run ?_ | refine Ent.runL ?_ | refine Ent.runR ?_ | refine Ent.drawn ?_ | refine Ent.store (by kernel_rfl) ?_ | refine Ent.resN ?_ | refine Ent.res1 ?_ | refine Ent.gop_yes ?_ | refine Ent.gop_no (by decide) ?_ | refine Ent.gop_undef ?_ | refine Ent.glt_undef ?_ | refine Ent.grc_undef ?_ | refine Ent.glt_yes ?_ | refine Ent.glt_no (by decide) ?_ | refine Ent.grc_yes ?_ | refine Ent.grc_no (by decide) ?_)
    exact hk h

theorem RdB.len {A : Option Addr} {m c : Nat} {bs : List UInt8} {p : List HP} (hb : RdB p (.slice A m c) bs) : m = bs.length ∧ m ≤ c ∧ c ≤ 9223372036854775807 := by
  obtain ⟨A', c', e, h1, h2⟩ := hb.shape
  injection e with e1 e2 e3
  subst e2; subst e3
  exact ⟨rfl, h1, h2⟩
theorem Skip_spec {g c m at_ : Nat} {n : Int} {A : Option Addr} (hm : m ≤ 9223372036854775807) (h1 : at_ ≤ m) (hn : -9223372036854775808 ≤ n ∧ n ≤ 9223372036854775807)
    (hneg : n < 0 → Ent w0 (blk g [.slice A m c, .int .i64 at_] :: p) (K (.int .i64 3)))
    (hs : 0 ≤ n → ((m - at_ : Nat) : Int) < n → Ent w0 (blk g [.slice A m c, .int .i64 at_] :: p) (K (.int .i64 1)))
    (hk : 0 ≤ n → n ≤ ((m - at_ : Nat) : Int) → Ent w0 (blk g [.slice A m c, .int .i64 ((at_ : Int) + n)] :: p) (K (.int .i64 0))) :
    Ent w0 (blk g [.slice A m c, .int .i64 at_] :: p) (op PR Pn (S.fn F.cursor_Reader_Skip [.pointer (some ⟨g, 0, none⟩), .int .i64 n]) K) := by
  refine Ent.call (fun w h => enter.cursor_Reader_Skip h) ?_
  unfold W.cursor_Reader_Skip
  repeat (first | refine Ent.runW (wrap_i64 (by omega) (by omega)) ?_ | refine Ent.runWL (wrap_i64 (by omega) (by omega)) ?_ | refine Ent.runWR (wrap_i64 (by omega) (by omega)) ?_ | refine Ent.run ?_ | refine Ent.runL ?_ | refine Ent.runR ?_ | refine Ent.drawn ?_ | refine Ent.store (by kernel_rfl) ?_ | refine Ent.resN ?_ | refine Ent.res1 ?_ | refine Ent.gop_yes ?_ | refine Ent.gop_no (by decide) ?_ | refine Ent.gop_undef ?_ | refine Ent.glt_undef ?_ | refine Ent.grc_undef ?_ | refine Ent.glt_yes ?_ | refine Ent.glt_no (by decide) ?_ | refine Ent.grc_yes ?_ | refine Ent.grc_no (by decide) ?_)
  refine Ent.ite (fun h => ?_) (fun h => ?_)
  · exact hneg (by simpa using h)
  · have h0 : 0 ≤ n := by simpa using h
    refine Left_spec h1 (by simp only [maxLen]; omega) ?_
    repeat (first | refine Ent.runW (wrap_i64 (by omega) (by omega)) ?_ | refine Ent.runWL (wrap_i64 (by omega) (by omega)) ?_ | refine Ent.runWR (wrap_i64 (by omega) (by omega)) ?_ | refine Ent.run ?_ | refine Ent.runL ?_ | refine Ent.runR ?_ | refine Ent.drawn ?_ | refine Ent.store (by kernel_rfl) ?_ | refine Ent.resN ?_ | refine Ent.res1 ?_ | refine Ent.gop_yes ?_ | refine Ent.gop_no (by decide) ?_ | refine Ent.gop_undef ?_ | refine Ent.glt_undef ?_ | refine Ent.grc_undef ?_ | refine Ent.glt_yes ?_ | refine Ent.glt_no (by decide) ?_ | refine Ent.grc_yes ?_ | refine Ent.grc_no (by decide) ?_)
    refine Ent.ite (fun h => ?_) (fun h => ?_)
    · exact hs h0 (by simpa using h)
    · have h2 : n ≤ ((m - at_ : Nat) : Int) := by simpa using h
      repeat (first | refine Ent.runW (wrap_i64 (by omega) (by omega)) ?_ | refine Ent.runWL (wrap_i64 (by omega) (by omega)) ?_ | refine Ent.runWR (wrap_i64 (by omega) (by omega)) ?_ | refine Ent.run ?_ | refine Ent.runL ?_ | refine Ent.runR ?_ | refine Ent.drawn ?_ | refine Ent.store (by kernel_rfl) ?_ | refine Ent.resN ?_ | refine Ent.res1 ?_ | refine Ent.gop_yes ?_ | refine Ent.gop_no (by decide) ?_ | refine Ent.gop_undef ?_ | refine Ent.glt_undef ?_ | refine Ent.grc_undef ?_ | refine Ent.glt_yes ?_ | refine Ent.glt_no (by decide) ?_ | refine Ent.grc_yes ?_ | refine Ent.grc_no (by decide) ?_)
      exact hk h0 h2
/-- Take: n bytes as new memory. -/
theorem Take_spec {g c m at_ : Nat} {n : Int} {A : Option Addr} {bs : List UInt8} (hb : RdB p (.slice A m c) bs) (hlen : m ≤ 4294967296) (h1 : at_ ≤ m) (hn : -9223372036854775808 ≤ n ∧ n ≤ 9223372036854775807)
    (hneg : n < 0 → Ent w0 (blk g [.slice A m c, .int .i64 at_] :: p) (K (.tuple [.slice none 0 0, .int .i64 3].toArray)))
    (hs : 0 ≤ n → ((m - at_ : Nat) : Int) < n → Ent w0 (blk g [.slice A m c, .int .i64 at_] :: p) (K (.tuple [.slice none 0 0, .int .i64 1].toArray)))
    (hk : ∀ B d, 0 ≤ n → n ≤ ((m - at_ : Nat) : Int) → Ent w0 (ownB T.u8 (.slice B n.toNat d) ((bs.drop at_).take n.toNat) :: blk g [.slice A m c, .int .i64 ((at_ : Int) + n)] :: p) (K (.tuple [.slice B n.toNat d, .int .i64 0].toArray))) :
    Ent w0 (blk g [.slice A m c, .int .i64 at_] :: p) (op PR Pn (S.fn F.cursor_Reader_Take [.pointer (some ⟨g, 0, none⟩), .int .i64 n]) K) := by
  obtain ⟨e1, e2, e3⟩ := hb.len
  refine Ent.call (fun w h => enter.cursor_Reader_Take h) ?_
  unfold W.cursor_Reader_Take
  repeat (first | refine Ent.runW (wrap_i64 (by omega) (by omega)) ?_ | refine Ent.runWL (wrap_i64 (by omega) (by omega)) ?_ | refine Ent.runWR (wrap_i64 (by omega) (by omega)) ?_ | refine Ent.run ?_ | refine Ent.runL ?_ | refine Ent.runR ?_ | refine Ent.drawn ?_ | refine Ent.store (by kernel_rfl) ?_ | refine Ent.resN ?_ | refine Ent.res1 ?_ | refine Ent.gop_yes ?_ | refine Ent.gop_no (by decide) ?_ | refine Ent.gop_undef ?_ | refine Ent.glt_undef ?_ | refine Ent.grc_undef ?_ | refine Ent.glt_yes ?_ | refine Ent.glt_no (by decide) ?_ | refine Ent.grc_yes ?_ | refine Ent.grc_no (by decide) ?_)
  refine Skip_spec (by omega) h1 hn (fun h => ?_) (fun h h' => ?_) (fun h h' => ?_)
  · repeat (first | refine Ent.runW (wrap_i64 (by omega) (by omega)) ?_ | refine Ent.runWL (wrap_i64 (by omega) (by omega)) ?_ | refine Ent.runWR (wrap_i64 (by omega) (by omega)) ?_ | refine Ent.run ?_ | refine Ent.runL ?_ | refine Ent.runR ?_ | refine Ent.drawn ?_ | refine Ent.store (by kernel_rfl) ?_ | refine Ent.resN ?_ | refine Ent.res1 ?_ | refine Ent.gop_yes ?_ | refine Ent.gop_no (by decide) ?_ | refine Ent.gop_undef ?_ | refine Ent.glt_undef ?_ | refine Ent.grc_undef ?_ | refine Ent.glt_yes ?_ | refine Ent.glt_no (by decide) ?_ | refine Ent.grc_yes ?_ | refine Ent.grc_no (by decide) ?_)
    refine Ent.ite_t ?_
    exact hneg h
  · repeat (first | refine Ent.runW (wrap_i64 (by omega) (by omega)) ?_ | refine Ent.runWL (wrap_i64 (by omega) (by omega)) ?_ | refine Ent.runWR (wrap_i64 (by omega) (by omega)) ?_ | refine Ent.run ?_ | refine Ent.runL ?_ | refine Ent.runR ?_ | refine Ent.drawn ?_ | refine Ent.store (by kernel_rfl) ?_ | refine Ent.resN ?_ | refine Ent.res1 ?_ | refine Ent.gop_yes ?_ | refine Ent.gop_no (by decide) ?_ | refine Ent.gop_undef ?_ | refine Ent.glt_undef ?_ | refine Ent.grc_undef ?_ | refine Ent.glt_yes ?_ | refine Ent.glt_no (by decide) ?_ | refine Ent.grc_yes ?_ | refine Ent.grc_no (by decide) ?_)
    refine Ent.ite_t ?_
    exact hs h h'
  · repeat (first | refine Ent.runW (wrap_i64 (by omega) (by omega)) ?_ | refine Ent.runWL (wrap_i64 (by omega) (by omega)) ?_ | refine Ent.runWR (wrap_i64 (by omega) (by omega)) ?_ | refine Ent.run ?_ | refine Ent.runL ?_ | refine Ent.runR ?_ | refine Ent.drawn ?_ | refine Ent.store (by kernel_rfl) ?_ | refine Ent.resN ?_ | refine Ent.res1 ?_ | refine Ent.gop_yes ?_ | refine Ent.gop_no (by decide) ?_ | refine Ent.gop_undef ?_ | refine Ent.glt_undef ?_ | refine Ent.grc_undef ?_ | refine Ent.glt_yes ?_ | refine Ent.glt_no (by decide) ?_ | refine Ent.grc_yes ?_ | refine Ent.grc_no (by decide) ?_)
    refine Ent.ite_f ?_
    repeat (first | refine Ent.runW (wrap_i64 (by omega) (by omega)) ?_ | refine Ent.runWL (wrap_i64 (by omega) (by omega)) ?_ | refine Ent.runWR (wrap_i64 (by omega) (by omega)) ?_ | refine Ent.run ?_ | refine Ent.runL ?_ | refine Ent.runR ?_ | refine Ent.drawn ?_ | refine Ent.store (by kernel_rfl) ?_ | refine Ent.resN ?_ | refine Ent.res1 ?_ | refine Ent.gop_yes ?_ | refine Ent.gop_no (by decide) ?_ | refine Ent.gop_undef ?_ | refine Ent.glt_undef ?_ | refine Ent.grc_undef ?_ | refine Ent.glt_yes ?_ | refine Ent.glt_no (by decide) ?_ | refine Ent.grc_yes ?_ | refine Ent.grc_no (by decide) ?_)
    obtain ⟨k, rfl⟩ := Int.eq_ofNat_of_zero_le h
    refine Ent.atL (fun w _ => sl_run (k := .i64) (l := at_) (h := at_ + k) (sz := 1) (.inl rfl) (.inl (by simp)) (by omega) (by omega)) ?_
    have hb2 := (hb.sub (l := at_) (m := at_ + k) (by omega) (by omega)).skip (a := blk g [.slice A m c, .int .i64 ((at_ : Int) + k)])
    refine Clone_spec hb2 (by simp; omega) fun B d => ?_
    repeat (first | refine Ent.runW (wrap_i64 (by omega) (by omega)) ?_ | refine Ent.runWL (wrap_i64 (by omega) (by omega)) ?_ | refine Ent.runWR (wrap_i64 (by omega) (by omega)) ?_ | refine Ent.run ?_ | refine Ent.runL ?_ | refine Ent.runR ?_ | refine Ent.drawn ?_ | refine Ent.store (by kernel_rfl) ?_ | refine Ent.resN ?_ | refine Ent.res1 ?_ | refine Ent.gop_yes ?_ | refine Ent.gop_no (by decide) ?_ | refine Ent.gop_undef ?_ | refine Ent.glt_undef ?_ | refine Ent.grc_undef ?_ | refine Ent.glt_yes ?_ | refine Ent.glt_no (by decide) ?_ | refine Ent.grc_yes ?_ | refine Ent.grc_no (by decide) ?_)
    have e : (List.take (at_ + k - at_) (List.drop at_ bs)).length = k := by simp; omega
    rw [e, show at_ + k - at_ = k by omega]
    exact hk B d h h'
theorem End_spec {g c m at_ : Nat} {A : Option Addr} (h1 : at_ ≤ m) (hk : Ent w0 (blk g [.slice A m c, .int .i64 at_] :: p) (K (.int .i64 (if at_ < m then 2 else 0)))) :
    Ent w0 (blk g [.slice A m c, .int .i64 at_] :: p) (op PR Pn (S.fn F.cursor_Reader_End [.pointer (some ⟨g, 0, none⟩)]) K) := by
  refine Ent.call (fun w h => enter.cursor_Reader_End h) ?_
  unfold W.cursor_Reader_End
  repeat (first | refine Ent.runW (wrap_i64 (by omega) (by omega)) ?_ | refine Ent.runWL (wrap_i64 (by omega) (by omega)) ?_ | refine Ent.runWR (wrap_i64 (by omega) (by omega)) ?_ | refine Ent.run ?_ | refine Ent.runL ?_ | refine Ent.runR ?_ | refine Ent.drawn ?_ | refine Ent.store (by kernel_rfl) ?_ | refine Ent.resN ?_ | refine Ent.res1 ?_ | refine Ent.gop_yes ?_ | refine Ent.gop_no (by decide) ?_ | refine Ent.gop_undef ?_ | refine Ent.glt_undef ?_ | refine Ent.grc_undef ?_ | refine Ent.glt_yes ?_ | refine Ent.glt_no (by decide) ?_ | refine Ent.grc_yes ?_ | refine Ent.grc_no (by decide) ?_)
  refine Ent.ite (fun h => ?_) (fun h => ?_)
  · rw [if_pos (by simpa using h)] at hk; exact hk
  · rw [if_neg (by simpa using h)] at hk; exact hk
theorem NewReader_spec {v : Value} {bs : List UInt8} (hb : RdB p v bs) (hl : bs.length ≤ 4294967296)
    (hk : ∀ g A c, Ent w0 (blk g [.slice A bs.length c, .int .i64 0] :: ownB T.u8 (.slice A bs.length c) bs :: p) (K (.pointer (some ⟨g, 0, none⟩)))) : Ent w0 p (op PR Pn (S.fn F.cursor_NewReader [v]) K) := by
  refine Ent.call (fun w h => enter.cursor_NewReader h) ?_
  unfold W.cursor_NewReader
  refine Clone_spec hb hl fun A c => ?_
  repeat (first | refine Ent.runW (wrap_i64 (by omega) (by omega)) ?_ | refine Ent.runWL (wrap_i64 (by omega) (by omega)) ?_ | refine Ent.runWR (wrap_i64 (by omega) (by omega)) ?_ | refine Ent.run ?_ | refine Ent.runL ?_ | refine Ent.runR ?_ | refine Ent.drawn ?_ | refine Ent.store (by kernel_rfl) ?_ | refine Ent.resN ?_ | refine Ent.res1 ?_ | refine Ent.gop_yes ?_ | refine Ent.gop_no (by decide) ?_ | refine Ent.gop_undef ?_ | refine Ent.glt_undef ?_ | refine Ent.grc_undef ?_ | refine Ent.glt_yes ?_ | refine Ent.glt_no (by decide) ?_ | refine Ent.grc_yes ?_ | refine Ent.grc_no (by decide) ?_)
  refine Ent.box fun g => ?_
  exact hk g _ _

/-! ### The Writer -/
def beB : Nat → Nat → List UInt8
  | 0, _ => []
  | n + 1, v => UInt8.ofNat (v / 256 ^ n) :: beB n v
theorem beB_length : ∀ (n v : Nat), (beB n v).length = n
  | 0, _ => rfl
  | n + 1, v => by simp [beB, beB_length n v]
/-- A number's n lowest bytes, two's complement, the highest first. -/
def beI (n : Nat) (a : Int) : List UInt8 := beB n (a % 18446744073709551616).toNat
theorem beI_length (n : Nat) (a : Int) : (beI n a).length = n := beB_length _ _
/-- A writer: what it holds, and its room. -/
def wr (g : Nat) (x : List UInt8 × Nat) : HP := ex fun v => both [blk g [v, .int .i64 (x.2 : Int)], ownB T.u8 v x.1]
theorem wr_open {g most : Nat} {bs : List UInt8} {φ : WP} (h : ∀ A c, bs.length ≤ c → Ent w0 (blk g [.slice A bs.length c, .int .i64 (most : Int)] :: ownB T.u8 (.slice A bs.length c) bs :: p) φ) : Ent w0 (wr g (bs, most) :: p) φ := by
  refine Ent.ex fun v => Ent.split ?_
  refine Ent.perm (List.Perm.swap _ _ _) ?_
  refine Ent.freeze fun x hx => ?_
  obtain ⟨A, c, rfl, hc, _⟩ := ownB_rd hx
  refine Ent.thaw hx (Ent.perm (List.Perm.swap _ _ _) (h A c hc))
theorem wr_close {g most : Nat} {bs : List UInt8} {v : Value} {φ : WP} (h : Ent w0 (wr g (bs, most) :: p) φ) : Ent w0 (blk g [v, .int .i64 (most : Int)] :: ownB T.u8 v bs :: p) φ := by
  refine Ent.join' (q := [blk g [v, .int .i64 (most : Int)], ownB T.u8 v bs]) ?_
  exact Ent.imp (fun x hx => ⟨v, hx⟩) h
theorem Room_spec {g most : Nat} {bs : List UInt8} (h1 : bs.length ≤ most) (h2 : most ≤ 1048576) (hk : Ent w0 (wr g (bs, most) :: p) (K (.int .i64 ((most - bs.length : Nat) : Int)))) :
    Ent w0 (wr g (bs, most) :: p) (op PR Pn (S.fn F.cursor_Writer_Room [.pointer (some ⟨g, 0, none⟩)]) K) := by
  refine wr_open fun A c hc => ?_
  refine Ent.call (fun w h => enter.cursor_Writer_Room h) ?_
  unfold W.cursor_Writer_Room
  repeat (first | refine Ent.runW (wrap_i64 (by omega) (by omega)) ?_ | refine Ent.runWL (wrap_i64 (by omega) (by omega)) ?_ | refine Ent.runWR (wrap_i64 (by omega) (by omega)) ?_ | refine Ent.run ?_ | refine Ent.runL ?_ | refine Ent.runR ?_ | refine Ent.drawn ?_ | refine Ent.store (by kernel_rfl) ?_ | refine Ent.resN ?_ | refine Ent.res1 ?_ | refine Ent.gop_yes ?_ | refine Ent.gop_no (by decide) ?_ | refine Ent.gop_undef ?_ | refine Ent.glt_undef ?_ | refine Ent.grc_undef ?_ | refine Ent.glt_yes ?_ | refine Ent.glt_no (by decide) ?_ | refine Ent.grc_yes ?_ | refine Ent.grc_no (by decide) ?_)
  rw [show (most : Int) - (bs.length : Int) = ((most - bs.length : Nat) : Int) by omega]
  exact wr_close hk

theorem shr_nat (v i : Nat) (h : 8 * i ≤ 64) : shrI .u64 (v : Int) (8 * (i : Int)) = ((v / 256 ^ i : Nat) : Int) := by
  unfold shrI
  have e : min (8 * (i : Int)).toNat IntKind.u64.bits = 8 * i := by
    simp only [IntKind.bits]
    omega
  have e2 : (2 : Int) ^ (8 * i) = ((256 ^ i : Nat) : Int) := by
    rw [Int.pow_mul]
    simp
  rw [e, Int.fdiv_eq_ediv_of_nonneg _ (by exact Int.pow_nonneg (by omega)), e2]
  simp
theorem u8_wrap (v : Nat) : IntKind.u8.wrap (v : Int) = ((UInt8.ofNat v).toNat : Int) := by
  have : (UInt8.ofNat v).toNat = v % 256 := by simp
  rw [this]
  unfold IntKind.wrap
  simp [IntKind.bits, IntKind.signed]
theorem u64_wrap (a : Int) : IntKind.u64.wrap a = ((a % 18446744073709551616).toNat : Int) := by
  unfold IntKind.wrap
  simp only [IntKind.bits, IntKind.signed]
  simp
  omega
theorem Wnumber_spec {g most n v : Nat} {bs : List UInt8} (hv : v < 18446744073709551616) (h1 : bs.length ≤ most) (h2 : most ≤ 1048576) (hn : n ≤ 8)
    (hs : most - bs.length < n → Ent w0 (wr g (bs, most) :: p) (K (.int .i64 10)))
    (hk : n ≤ most - bs.length → Ent w0 (wr g (bs ++ beB n v, most) :: p) (K (.int .i64 0))) :
    Ent w0 (wr g (bs, most) :: p) (op PR Pn (S.fn F.cursor_Writer_number [.pointer (some ⟨g, 0, none⟩), .int .u64 v, .int .i64 n]) K) := by
  refine Ent.call (fun w h => enter.cursor_Writer_number h) ?_
  unfold W.cursor_Writer_number
  refine Room_spec h1 h2 ?_
  repeat (first | refine Ent.runW (wrap_i64 (by omega) (by omega)) ?_ | refine Ent.runWL (wrap_i64 (by omega) (by omega)) ?_ | refine Ent.runWR (wrap_i64 (by omega) (by omega)) ?_ | refine Ent.run ?_ | refine Ent.runL ?_ | refine Ent.runR ?_ | refine Ent.drawn ?_ | refine Ent.store (by kernel_rfl) ?_ | refine Ent.resN ?_ | refine Ent.res1 ?_ | refine Ent.gop_yes ?_ | refine Ent.gop_no (by decide) ?_ | refine Ent.gop_undef ?_ | refine Ent.glt_undef ?_ | refine Ent.grc_undef ?_ | refine Ent.glt_yes ?_ | refine Ent.glt_no (by decide) ?_ | refine Ent.grc_yes ?_ | refine Ent.grc_no (by decide) ?_)
  refine Ent.ite (fun h => ?_) (fun h => ?_)
  · exact hs (by simp at h; omega)
  · have hr : n ≤ most - bs.length := by simp at h; omega
    repeat (first | refine Ent.runW (wrap_i64 (by omega) (by omega)) ?_ | refine Ent.runWL (wrap_i64 (by omega) (by omega)) ?_ | refine Ent.runWR (wrap_i64 (by omega) (by omega)) ?_ | refine Ent.run ?_ | refine Ent.runL ?_ | refine Ent.runR ?_ | refine Ent.drawn ?_ | refine Ent.store (by kernel_rfl) ?_ | refine Ent.resN ?_ | refine Ent.res1 ?_ | refine Ent.gop_yes ?_ | refine Ent.gop_no (by decide) ?_ | refine Ent.gop_undef ?_ | refine Ent.glt_undef ?_ | refine Ent.grc_undef ?_ | refine Ent.glt_yes ?_ | refine Ent.glt_no (by decide) ?_ | refine Ent.grc_yes ?_ | refine Ent.grc_no (by decide) ?_)
    refine Ent.L1 (σ := Nat × List UInt8) (fun s => .int .i64 ((s.1 : Int) - 1)) (fun s => pure' (s.2 ++ beB s.1 v = beB n v ∧ s.2.length + s.1 = n) :: wr g (bs ++ s.2, most) :: p) (fun s => s.1) (n, []) (fun w hs => by
      have : Sat (wr g (bs ++ [], most) :: p) w0 w := by rw [List.append_nil]; exact hs
      exact this.add ⟨⟨rfl, by simp⟩, fun _ => rfl⟩) ?_
    rintro ⟨j, done⟩ k hrec
    refine Ent.pure fun hin => ?_
    obtain ⟨hin, hjl⟩ := hin
    simp only at hin hjl hrec ⊢
    repeat (first | refine Ent.runW (wrap_i64 (by omega) (by omega)) ?_ | refine Ent.runWL (wrap_i64 (by omega) (by omega)) ?_ | refine Ent.runWR (wrap_i64 (by omega) (by omega)) ?_ | refine Ent.run ?_ | refine Ent.runL ?_ | refine Ent.runR ?_ | refine Ent.drawn ?_ | refine Ent.store (by kernel_rfl) ?_ | refine Ent.resN ?_ | refine Ent.res1 ?_ | refine Ent.gop_yes ?_ | refine Ent.gop_no (by decide) ?_ | refine Ent.gop_undef ?_ | refine Ent.glt_undef ?_ | refine Ent.grc_undef ?_ | refine Ent.glt_yes ?_ | refine Ent.glt_no (by decide) ?_ | refine Ent.grc_yes ?_ | refine Ent.grc_no (by decide) ?_)
    refine Ent.ite (fun h => ?_) (fun h => ?_)
    · have hj : 0 < j := by simp at h; omega
      obtain ⟨j, rfl⟩ : ∃ m, j = m + 1 := ⟨j - 1, by omega⟩
      rw [show ((j + 1 : Nat) : Int) - 1 = (j : Int) by omega]
      refine Ent.drawn ?_
      refine wr_open fun A c hc => ?_
      repeat (first | refine Ent.runW (wrap_i64 (by omega) (by omega)) ?_ | refine Ent.runWL (wrap_i64 (by omega) (by omega)) ?_ | refine Ent.runWR (wrap_i64 (by omega) (by omega)) ?_ | refine Ent.run ?_ | refine Ent.runL ?_ | refine Ent.runR ?_ | refine Ent.drawn ?_ | refine Ent.store (by kernel_rfl) ?_ | refine Ent.resN ?_ | refine Ent.res1 ?_ | refine Ent.gop_yes ?_ | refine Ent.gop_no (by decide) ?_ | refine Ent.gop_undef ?_ | refine Ent.glt_undef ?_ | refine Ent.grc_undef ?_ | refine Ent.glt_yes ?_ | refine Ent.glt_no (by decide) ?_ | refine Ent.grc_yes ?_ | refine Ent.grc_no (by decide) ?_)
      rw [shr_nat v j (by omega), u8_wrap]
      refine Ent.bslice fun g' => ?_
      repeat (first | refine Ent.runW (wrap_i64 (by omega) (by omega)) ?_ | refine Ent.runWL (wrap_i64 (by omega) (by omega)) ?_ | refine Ent.runWR (wrap_i64 (by omega) (by omega)) ?_ | refine Ent.run ?_ | refine Ent.runL ?_ | refine Ent.runR ?_ | refine Ent.drawn ?_ | refine Ent.store (by kernel_rfl) ?_ | refine Ent.resN ?_ | refine Ent.res1 ?_ | refine Ent.gop_yes ?_ | refine Ent.gop_no (by decide) ?_ | refine Ent.gop_undef ?_ | refine Ent.glt_undef ?_ | refine Ent.grc_undef ?_ | refine Ent.glt_yes ?_ | refine Ent.glt_no (by decide) ?_ | refine Ent.grc_yes ?_ | refine Ent.grc_no (by decide) ?_)
      refine Ent.perm (q := blk g' [.int .u8 ((UInt8.ofNat (v / 256 ^ j)).toNat : Int)] :: row T.u8 1 (.slice A (bs ++ done).length c) (bs ++ done).length ((bs ++ done).map u8) :: blk g [.slice A (bs ++ done).length c, .int .i64 (most : Int)] :: p) (List.Perm.cons _ (List.Perm.swap _ _ _)) ?_
      haveI : Zero PR T.u8 (.int .u8 0) 1 := ⟨by kernel_rfl⟩
      refine Ent.append1 (e := T.u8) (z := .int .u8 0) rfl rfl (by omega) (by simp; omega) fun A' c' => ?_
      repeat (first | refine Ent.runW (wrap_i64 (by omega) (by omega)) ?_ | refine Ent.runWL (wrap_i64 (by omega) (by omega)) ?_ | refine Ent.runWR (wrap_i64 (by omega) (by omega)) ?_ | refine Ent.run ?_ | refine Ent.runL ?_ | refine Ent.runR ?_ | refine Ent.drawn ?_ | refine Ent.store (by kernel_rfl) ?_ | refine Ent.resN ?_ | refine Ent.res1 ?_ | refine Ent.gop_yes ?_ | refine Ent.gop_no (by decide) ?_ | refine Ent.gop_undef ?_ | refine Ent.glt_undef ?_ | refine Ent.grc_undef ?_ | refine Ent.glt_yes ?_ | refine Ent.glt_no (by decide) ?_ | refine Ent.grc_yes ?_ | refine Ent.grc_no (by decide) ?_)
      have e : ∀ V, row T.u8 1 V ((bs ++ done).length + 1) ((bs ++ done).map u8 ++ [.int .u8 ((UInt8.ofNat (v / 256 ^ j)).toNat : Int)]) = ownB T.u8 V (bs ++ (done ++ [UInt8.ofNat (v / 256 ^ j)])) := fun V => by
        unfold ownB
        rw [← List.append_assoc, show ((bs ++ done ++ [UInt8.ofNat (v / 256 ^ j)]).map u8) = (bs ++ done).map u8 ++ [u8 (UInt8.ofNat (v / 256 ^ j))] from List.map_append, List.length_append (bs := [_])]
        rfl
      rw [e]
      refine Ent.perm (List.Perm.swap _ _ _) (wr_close ?_)
      have := hrec (j, done ++ [UInt8.ofNat (v / 256 ^ j)]) (by simp)
      simp only at this
      exact Ent.add ⟨⟨by rw [← hin]; simp [beB], by simp; omega⟩, fun _ => rfl⟩ this
    · have : j = 0 := by simp at h; omega
      subst this
      simp only [beB, List.append_nil] at hin
      rw [hin]
      exact hk hr
theorem WI8_spec {g most : Nat} {bs : List UInt8} {a : Int} (h1 : bs.length ≤ most) (h2 : most ≤ 1048576)
    (hs : most - bs.length < 1 → Ent w0 (wr g (bs, most) :: p) (K (.int .i64 10)))
    (hk : 1 ≤ most - bs.length → Ent w0 (wr g (bs ++ beI 1 a, most) :: p) (K (.int .i64 0))) :
    Ent w0 (wr g (bs, most) :: p) (op PR Pn (S.fn F.cursor_Writer_I8 [.pointer (some ⟨g, 0, none⟩), .int .i8 a]) K) := by
  refine Ent.call (fun w h => enter.cursor_Writer_I8 h) ?_
  unfold W.cursor_Writer_I8
  repeat (first | refine Ent.runW (wrap_i64 (by omega) (by omega)) ?_ | refine Ent.runWL (wrap_i64 (by omega) (by omega)) ?_ | refine Ent.runWR (wrap_i64 (by omega) (by omega)) ?_ | refine Ent.run ?_ | refine Ent.runL ?_ | refine Ent.runR ?_ | refine Ent.drawn ?_ | refine Ent.store (by kernel_rfl) ?_ | refine Ent.resN ?_ | refine Ent.res1 ?_ | refine Ent.gop_yes ?_ | refine Ent.gop_no (by decide) ?_ | refine Ent.gop_undef ?_ | refine Ent.glt_undef ?_ | refine Ent.grc_undef ?_ | refine Ent.glt_yes ?_ | refine Ent.glt_no (by decide) ?_ | refine Ent.grc_yes ?_ | refine Ent.grc_no (by decide) ?_)
  rw [u64_wrap]
  refine Wnumber_spec (n := 1) (by omega) h1 h2 (by omega) (fun h => ?_) (fun h => ?_)
  · exact hs h
  · exact hk h
theorem WI16_spec {g most : Nat} {bs : List UInt8} {a : Int} (h1 : bs.length ≤ most) (h2 : most ≤ 1048576)
    (hs : most - bs.length < 2 → Ent w0 (wr g (bs, most) :: p) (K (.int .i64 10)))
    (hk : 2 ≤ most - bs.length → Ent w0 (wr g (bs ++ beI 2 a, most) :: p) (K (.int .i64 0))) :
    Ent w0 (wr g (bs, most) :: p) (op PR Pn (S.fn F.cursor_Writer_I16 [.pointer (some ⟨g, 0, none⟩), .int .i16 a]) K) := by
  refine Ent.call (fun w h => enter.cursor_Writer_I16 h) ?_
  unfold W.cursor_Writer_I16
  repeat (first | refine Ent.runW (wrap_i64 (by omega) (by omega)) ?_ | refine Ent.runWL (wrap_i64 (by omega) (by omega)) ?_ | refine Ent.runWR (wrap_i64 (by omega) (by omega)) ?_ | refine Ent.run ?_ | refine Ent.runL ?_ | refine Ent.runR ?_ | refine Ent.drawn ?_ | refine Ent.store (by kernel_rfl) ?_ | refine Ent.resN ?_ | refine Ent.res1 ?_ | refine Ent.gop_yes ?_ | refine Ent.gop_no (by decide) ?_ | refine Ent.gop_undef ?_ | refine Ent.glt_undef ?_ | refine Ent.grc_undef ?_ | refine Ent.glt_yes ?_ | refine Ent.glt_no (by decide) ?_ | refine Ent.grc_yes ?_ | refine Ent.grc_no (by decide) ?_)
  rw [u64_wrap]
  refine Wnumber_spec (n := 2) (by omega) h1 h2 (by omega) (fun h => ?_) (fun h => ?_)
  · exact hs h
  · exact hk h
theorem WI32_spec {g most : Nat} {bs : List UInt8} {a : Int} (h1 : bs.length ≤ most) (h2 : most ≤ 1048576)
    (hs : most - bs.length < 4 → Ent w0 (wr g (bs, most) :: p) (K (.int .i64 10)))
    (hk : 4 ≤ most - bs.length → Ent w0 (wr g (bs ++ beI 4 a, most) :: p) (K (.int .i64 0))) :
    Ent w0 (wr g (bs, most) :: p) (op PR Pn (S.fn F.cursor_Writer_I32 [.pointer (some ⟨g, 0, none⟩), .int .i32 a]) K) := by
  refine Ent.call (fun w h => enter.cursor_Writer_I32 h) ?_
  unfold W.cursor_Writer_I32
  repeat (first | refine Ent.runW (wrap_i64 (by omega) (by omega)) ?_ | refine Ent.runWL (wrap_i64 (by omega) (by omega)) ?_ | refine Ent.runWR (wrap_i64 (by omega) (by omega)) ?_ | refine Ent.run ?_ | refine Ent.runL ?_ | refine Ent.runR ?_ | refine Ent.drawn ?_ | refine Ent.store (by kernel_rfl) ?_ | refine Ent.resN ?_ | refine Ent.res1 ?_ | refine Ent.gop_yes ?_ | refine Ent.gop_no (by decide) ?_ | refine Ent.gop_undef ?_ | refine Ent.glt_undef ?_ | refine Ent.grc_undef ?_ | refine Ent.glt_yes ?_ | refine Ent.glt_no (by decide) ?_ | refine Ent.grc_yes ?_ | refine Ent.grc_no (by decide) ?_)
  rw [u64_wrap]
  refine Wnumber_spec (n := 4) (by omega) h1 h2 (by omega) (fun h => ?_) (fun h => ?_)
  · exact hs h
  · exact hk h
theorem WI64_spec {g most : Nat} {bs : List UInt8} {a : Int} (h1 : bs.length ≤ most) (h2 : most ≤ 1048576)
    (hs : most - bs.length < 8 → Ent w0 (wr g (bs, most) :: p) (K (.int .i64 10)))
    (hk : 8 ≤ most - bs.length → Ent w0 (wr g (bs ++ beI 8 a, most) :: p) (K (.int .i64 0))) :
    Ent w0 (wr g (bs, most) :: p) (op PR Pn (S.fn F.cursor_Writer_I64 [.pointer (some ⟨g, 0, none⟩), .int .i64 a]) K) := by
  refine Ent.call (fun w h => enter.cursor_Writer_I64 h) ?_
  unfold W.cursor_Writer_I64
  repeat (first | refine Ent.runW (wrap_i64 (by omega) (by omega)) ?_ | refine Ent.runWL (wrap_i64 (by omega) (by omega)) ?_ | refine Ent.runWR (wrap_i64 (by omega) (by omega)) ?_ | refine Ent.run ?_ | refine Ent.runL ?_ | refine Ent.runR ?_ | refine Ent.drawn ?_ | refine Ent.store (by kernel_rfl) ?_ | refine Ent.resN ?_ | refine Ent.res1 ?_ | refine Ent.gop_yes ?_ | refine Ent.gop_no (by decide) ?_ | refine Ent.gop_undef ?_ | refine Ent.glt_undef ?_ | refine Ent.grc_undef ?_ | refine Ent.glt_yes ?_ | refine Ent.glt_no (by decide) ?_ | refine Ent.grc_yes ?_ | refine Ent.grc_no (by decide) ?_)
  rw [u64_wrap]
  refine Wnumber_spec (n := 8) (by omega) h1 h2 (by omega) (fun h => ?_) (fun h => ?_)
  · exact hs h
  · exact hk h

theorem NewWriter_spec {n : Nat} (hn : n ≤ 1048576) (hk : ∀ g, Ent w0 (wr g ([], n) :: p) (K (.pointer (some ⟨g, 0, none⟩)))) : Ent w0 p (op PR Pn (S.fn F.cursor_NewWriter [.int .i64 n]) K) := by
  refine Ent.call (fun w h => enter.cursor_NewWriter h) ?_
  unfold W.cursor_NewWriter
  repeat (first | refine Ent.runW (wrap_i64 (by omega) (by omega)) ?_ | refine Ent.runWL (wrap_i64 (by omega) (by omega)) ?_ | refine Ent.runWR (wrap_i64 (by omega) (by omega)) ?_ | refine Ent.run ?_ | refine Ent.runL ?_ | refine Ent.runR ?_ | refine Ent.drawn ?_ | refine Ent.store (by kernel_rfl) ?_ | refine Ent.resN ?_ | refine Ent.res1 ?_ | refine Ent.gop_yes ?_ | refine Ent.gop_no (by decide) ?_ | refine Ent.gop_undef ?_ | refine Ent.glt_undef ?_ | refine Ent.grc_undef ?_ | refine Ent.glt_yes ?_ | refine Ent.glt_no (by decide) ?_ | refine Ent.grc_yes ?_ | refine Ent.grc_no (by decide) ?_)
  refine Ent.box fun g => ?_
  rw [show min (max (n : Int) 0) 1048576 = (n : Int) by omega]
  refine Ent.add ownB_nil (Ent.perm (List.Perm.swap _ _ _) (wr_close (hk g)))
theorem Bytes_spec {g most : Nat} {bs : List UInt8} (h1 : bs.length ≤ 1048576) (hk : ∀ A c, Ent w0 (ownB T.u8 (.slice A bs.length c) bs :: wr g (bs, most) :: p) (K (.slice A bs.length c))) :
    Ent w0 (wr g (bs, most) :: p) (op PR Pn (S.fn F.cursor_Writer_Bytes [.pointer (some ⟨g, 0, none⟩)]) K) := by
  refine wr_open fun A c hc => ?_
  refine Ent.call (fun w h => enter.cursor_Writer_Bytes h) ?_
  unfold W.cursor_Writer_Bytes
  repeat (first | refine Ent.runW (wrap_i64 (by omega) (by omega)) ?_ | refine Ent.runWL (wrap_i64 (by omega) (by omega)) ?_ | refine Ent.runWR (wrap_i64 (by omega) (by omega)) ?_ | refine Ent.run ?_ | refine Ent.runL ?_ | refine Ent.runR ?_ | refine Ent.drawn ?_ | refine Ent.store (by kernel_rfl) ?_ | refine Ent.resN ?_ | refine Ent.res1 ?_ | refine Ent.gop_yes ?_ | refine Ent.gop_no (by decide) ?_ | refine Ent.gop_undef ?_ | refine Ent.glt_undef ?_ | refine Ent.grc_undef ?_ | refine Ent.glt_yes ?_ | refine Ent.glt_no (by decide) ?_ | refine Ent.grc_yes ?_ | refine Ent.grc_no (by decide) ?_)
  refine Ent.perm (List.Perm.swap _ _ _) (Ent.freeze fun x hx => ?_)
  refine Clone_spec (RdB.here (ownB_rd hx)) (by omega) fun B d => ?_
  refine Ent.perm (List.Perm.swap _ _ _) (Ent.thaw hx ?_)
  refine Ent.perm (q := blk g [.slice A bs.length c, .int .i64 (most : Int)] :: ownB T.u8 (.slice A bs.length c) bs :: ownB T.u8 (.slice B bs.length d) bs :: p) ?_ (wr_close (Ent.perm (List.Perm.swap _ _ _) (hk B d)))
  exact (List.Perm.cons _ (List.Perm.swap _ _ _)).trans (List.Perm.swap _ _ _)
/-- Raw, of one part. -/
theorem Raw_spec {g most gp c : Nat} {bs ds : List UInt8} {v : Value} (hd : RdB p v ds) (h1 : bs.length ≤ most) (h2 : most ≤ 1048576) (hdl : ds.length ≤ 1073741824)
    (hs : most - bs.length < ds.length → Ent w0 (wr g (bs, most) :: p) (K (.int .i64 10)))
    (hk : ds.length ≤ most - bs.length → Ent w0 (wr g (bs ++ ds, most) :: p) (K (.int .i64 0))) :
    Ent w0 (blk gp [v] :: wr g (bs, most) :: p) (op PR Pn (S.fn F.cursor_Writer_Raw [.pointer (some ⟨g, 0, none⟩), .slice (some ⟨gp, 0, none⟩) 1 c]) K) := by
  obtain ⟨A, cv, rfl, hcv, hcm⟩ := hd.shape
  refine Ent.call (fun w h => enter.cursor_Writer_Raw h) ?_
  unfold W.cursor_Writer_Raw
  repeat (first | refine Ent.runW (wrap_i64 (by omega) (by omega)) ?_ | refine Ent.runWL (wrap_i64 (by omega) (by omega)) ?_ | refine Ent.runWR (wrap_i64 (by omega) (by omega)) ?_ | refine Ent.run ?_ | refine Ent.runL ?_ | refine Ent.runR ?_ | refine Ent.drawn ?_ | refine Ent.store (by kernel_rfl) ?_ | refine Ent.resN ?_ | refine Ent.res1 ?_ | refine Ent.gop_yes ?_ | refine Ent.gop_no (by decide) ?_ | refine Ent.gop_undef ?_ | refine Ent.glt_undef ?_ | refine Ent.grc_undef ?_ | refine Ent.glt_yes ?_ | refine Ent.glt_no (by decide) ?_ | refine Ent.grc_yes ?_ | refine Ent.grc_no (by decide) ?_)
  refine Ent.L2 (σ := Bool) (fun b => .int .i64 (if b then (ds.length : Int) else 0)) (fun b => .int .i64 (if b then 1 else 0)) (fun b => blk gp [.slice A ds.length cv] :: wr g (bs, most) :: p) (fun b => if b then 0 else 1) false (fun w hs => hs) ?_
  intro b k hrec
  cases b with
  | false =>
    simp only [Bool.false_eq_true, if_false]
    repeat (first | refine Ent.runW (wrap_i64 (by omega) (by omega)) ?_ | refine Ent.runWL (wrap_i64 (by omega) (by omega)) ?_ | refine Ent.runWR (wrap_i64 (by omega) (by omega)) ?_ | refine Ent.run ?_ | refine Ent.runL ?_ | refine Ent.runR ?_ | refine Ent.drawn ?_ | refine Ent.store (by kernel_rfl) ?_ | refine Ent.resN ?_ | refine Ent.res1 ?_ | refine Ent.gop_yes ?_ | refine Ent.gop_no (by decide) ?_ | refine Ent.gop_undef ?_ | refine Ent.glt_undef ?_ | refine Ent.grc_undef ?_ | refine Ent.glt_yes ?_ | refine Ent.glt_no (by decide) ?_ | refine Ent.grc_yes ?_ | refine Ent.grc_no (by decide) ?_)
    refine Ent.ite_t ?_
    refine Ent.at_ (fun w _ => ia_run (sz := 1) (k := .i64) (i := 0) (by omega) (by omega)) ?_
    simp only [add_none, Int.toNat_zero, Nat.zero_mul, Nat.add_zero]
    repeat (first | refine Ent.runW (wrap_i64 (by omega) (by omega)) ?_ | refine Ent.runWL (wrap_i64 (by omega) (by omega)) ?_ | refine Ent.runWR (wrap_i64 (by omega) (by omega)) ?_ | refine Ent.run ?_ | refine Ent.runL ?_ | refine Ent.runR ?_ | refine Ent.drawn ?_ | refine Ent.store (by kernel_rfl) ?_ | refine Ent.resN ?_ | refine Ent.res1 ?_ | refine Ent.gop_yes ?_ | refine Ent.gop_no (by decide) ?_ | refine Ent.gop_undef ?_ | refine Ent.glt_undef ?_ | refine Ent.grc_undef ?_ | refine Ent.glt_yes ?_ | refine Ent.glt_no (by decide) ?_ | refine Ent.grc_yes ?_ | refine Ent.grc_no (by decide) ?_)
    have := hrec true (by simp)
    simpa using this
  | true =>
    simp only [if_true]
    repeat (first | refine Ent.runW (wrap_i64 (by omega) (by omega)) ?_ | refine Ent.runWL (wrap_i64 (by omega) (by omega)) ?_ | refine Ent.runWR (wrap_i64 (by omega) (by omega)) ?_ | refine Ent.run ?_ | refine Ent.runL ?_ | refine Ent.runR ?_ | refine Ent.drawn ?_ | refine Ent.store (by kernel_rfl) ?_ | refine Ent.resN ?_ | refine Ent.res1 ?_ | refine Ent.gop_yes ?_ | refine Ent.gop_no (by decide) ?_ | refine Ent.gop_undef ?_ | refine Ent.glt_undef ?_ | refine Ent.grc_undef ?_ | refine Ent.glt_yes ?_ | refine Ent.glt_no (by decide) ?_ | refine Ent.grc_yes ?_ | refine Ent.grc_no (by decide) ?_)
    refine Ent.ite_f ?_
    refine Ent.perm (List.Perm.swap _ _ _) (Room_spec h1 h2 ?_)
    repeat (first | refine Ent.runW (wrap_i64 (by omega) (by omega)) ?_ | refine Ent.runWL (wrap_i64 (by omega) (by omega)) ?_ | refine Ent.runWR (wrap_i64 (by omega) (by omega)) ?_ | refine Ent.run ?_ | refine Ent.runL ?_ | refine Ent.runR ?_ | refine Ent.drawn ?_ | refine Ent.store (by kernel_rfl) ?_ | refine Ent.resN ?_ | refine Ent.res1 ?_ | refine Ent.gop_yes ?_ | refine Ent.gop_no (by decide) ?_ | refine Ent.gop_undef ?_ | refine Ent.glt_undef ?_ | refine Ent.grc_undef ?_ | refine Ent.glt_yes ?_ | refine Ent.glt_no (by decide) ?_ | refine Ent.grc_yes ?_ | refine Ent.grc_no (by decide) ?_)
    refine Ent.ite (fun h => ?_) (fun h => ?_)
    · exact Ent.perm (List.Perm.refl _) (Ent.perm (List.Perm.swap _ _ _) (Ent.drop (hs (by simp at h; omega))))
    · have hr : ds.length ≤ most - bs.length := by simp at h; omega
      repeat (first | refine Ent.runW (wrap_i64 (by omega) (by omega)) ?_ | refine Ent.runWL (wrap_i64 (by omega) (by omega)) ?_ | refine Ent.runWR (wrap_i64 (by omega) (by omega)) ?_ | refine Ent.run ?_ | refine Ent.runL ?_ | refine Ent.runR ?_ | refine Ent.drawn ?_ | refine Ent.store (by kernel_rfl) ?_ | refine Ent.resN ?_ | refine Ent.res1 ?_ | refine Ent.gop_yes ?_ | refine Ent.gop_no (by decide) ?_ | refine Ent.gop_undef ?_ | refine Ent.glt_undef ?_ | refine Ent.grc_undef ?_ | refine Ent.glt_yes ?_ | refine Ent.glt_no (by decide) ?_ | refine Ent.grc_yes ?_ | refine Ent.grc_no (by decide) ?_)
      refine Ent.perm (List.Perm.swap _ _ _) ?_
      refine Ent.L1 (σ := Bool) (fun b => .int .i64 (if b then 1 else 0)) (fun b => blk gp [.slice A ds.length cv] :: wr g (if b then bs ++ ds else bs, most) :: p) (fun b => if b then 0 else 1) false (fun w hs => hs) ?_
      intro b k hrec
      cases b with
      | false =>
        simp only [Bool.false_eq_true, if_false]
        repeat (first | refine Ent.runW (wrap_i64 (by omega) (by omega)) ?_ | refine Ent.runWL (wrap_i64 (by omega) (by omega)) ?_ | refine Ent.runWR (wrap_i64 (by omega) (by omega)) ?_ | refine Ent.run ?_ | refine Ent.runL ?_ | refine Ent.runR ?_ | refine Ent.drawn ?_ | refine Ent.store (by kernel_rfl) ?_ | refine Ent.resN ?_ | refine Ent.res1 ?_ | refine Ent.gop_yes ?_ | refine Ent.gop_no (by decide) ?_ | refine Ent.gop_undef ?_ | refine Ent.glt_undef ?_ | refine Ent.grc_undef ?_ | refine Ent.glt_yes ?_ | refine Ent.glt_no (by decide) ?_ | refine Ent.grc_yes ?_ | refine Ent.grc_no (by decide) ?_)
        refine Ent.ite_t ?_
        refine Ent.at_ (fun w _ => ia_run (sz := 1) (k := .i64) (i := 0) (by omega) (by omega)) ?_
        simp only [add_none, Int.toNat_zero, Nat.zero_mul, Nat.add_zero]
        repeat (first | refine Ent.runW (wrap_i64 (by omega) (by omega)) ?_ | refine Ent.runWL (wrap_i64 (by omega) (by omega)) ?_ | refine Ent.runWR (wrap_i64 (by omega) (by omega)) ?_ | refine Ent.run ?_ | refine Ent.runL ?_ | refine Ent.runR ?_ | refine Ent.drawn ?_ | refine Ent.store (by kernel_rfl) ?_ | refine Ent.resN ?_ | refine Ent.res1 ?_ | refine Ent.gop_yes ?_ | refine Ent.gop_no (by decide) ?_ | refine Ent.gop_undef ?_ | refine Ent.glt_undef ?_ | refine Ent.grc_undef ?_ | refine Ent.glt_yes ?_ | refine Ent.glt_no (by decide) ?_ | refine Ent.grc_yes ?_ | refine Ent.grc_no (by decide) ?_)
        refine Ent.perm (List.Perm.swap _ _ _) (wr_open fun B c' hc' => ?_)
        repeat (first | refine Ent.runW (wrap_i64 (by omega) (by omega)) ?_ | refine Ent.runWL (wrap_i64 (by omega) (by omega)) ?_ | refine Ent.runWR (wrap_i64 (by omega) (by omega)) ?_ | refine Ent.run ?_ | refine Ent.runL ?_ | refine Ent.runR ?_ | refine Ent.drawn ?_ | refine Ent.store (by kernel_rfl) ?_ | refine Ent.resN ?_ | refine Ent.res1 ?_ | refine Ent.gop_yes ?_ | refine Ent.gop_no (by decide) ?_ | refine Ent.gop_undef ?_ | refine Ent.glt_undef ?_ | refine Ent.grc_undef ?_ | refine Ent.glt_yes ?_ | refine Ent.glt_no (by decide) ?_ | refine Ent.grc_yes ?_ | refine Ent.grc_no (by decide) ?_)
        refine Ent.perm (q := ownB T.u8 (.slice B bs.length c') bs :: blk g [.slice B bs.length c', .int .i64 (most : Int)] :: blk gp [.slice A ds.length cv] :: p) (List.Perm.swap _ _ _) ?_
        refine appendB hd.skip.skip (by omega) fun B' d' => ?_
        repeat (first | refine Ent.runW (wrap_i64 (by omega) (by omega)) ?_ | refine Ent.runWL (wrap_i64 (by omega) (by omega)) ?_ | refine Ent.runWR (wrap_i64 (by omega) (by omega)) ?_ | refine Ent.run ?_ | refine Ent.runL ?_ | refine Ent.runR ?_ | refine Ent.drawn ?_ | refine Ent.store (by kernel_rfl) ?_ | refine Ent.resN ?_ | refine Ent.res1 ?_ | refine Ent.gop_yes ?_ | refine Ent.gop_no (by decide) ?_ | refine Ent.gop_undef ?_ | refine Ent.glt_undef ?_ | refine Ent.grc_undef ?_ | refine Ent.glt_yes ?_ | refine Ent.glt_no (by decide) ?_ | refine Ent.grc_yes ?_ | refine Ent.grc_no (by decide) ?_)
        refine Ent.perm (List.Perm.swap _ _ _) (wr_close (Ent.perm (List.Perm.swap _ _ _) ?_))
        have := hrec true (by simp)
        simpa using this
      | true =>
        simp only [if_true]
        repeat (first | refine Ent.runW (wrap_i64 (by omega) (by omega)) ?_ | refine Ent.runWL (wrap_i64 (by omega) (by omega)) ?_ | refine Ent.runWR (wrap_i64 (by omega) (by omega)) ?_ | refine Ent.run ?_ | refine Ent.runL ?_ | refine Ent.runR ?_ | refine Ent.drawn ?_ | refine Ent.store (by kernel_rfl) ?_ | refine Ent.resN ?_ | refine Ent.res1 ?_ | refine Ent.gop_yes ?_ | refine Ent.gop_no (by decide) ?_ | refine Ent.gop_undef ?_ | refine Ent.glt_undef ?_ | refine Ent.grc_undef ?_ | refine Ent.glt_yes ?_ | refine Ent.glt_no (by decide) ?_ | refine Ent.grc_yes ?_ | refine Ent.grc_no (by decide) ?_)
        refine Ent.ite_f ?_
        exact Ent.drop (hk hr)
/-- A number of n bytes, two's complement. -/
def sgn (n : Nat) (v : Nat) : Int := if v < 256 ^ n / 2 then v else (v : Int) - (256 ^ n : Nat)
def numAt (bs : List UInt8) (at_ n : Nat) : Int := sgn n (beN ((bs.drop at_).take n))
end Go.Lt
