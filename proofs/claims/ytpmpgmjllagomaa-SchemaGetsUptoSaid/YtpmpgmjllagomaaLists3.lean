/- The references spoil lists of bytes. Conditions: none. -/
import Derived.Test.YtpmpgmjllagomaaLists2
set_option linter.unusedVariables false
set_option maxHeartbeats 4000000
set_option linter.unusedSimpArgs false
set_option maxRecDepth 100000
namespace Go.Lt
open Go
attribute [local irreducible] op gop lt glt rc grc ite' drawn also ldR
section
variable {w0 : World} {p : List HP} {Pn : PK} {K : Value → WP} {φ : WP}
theorem ownBs_cons {v : Value} {vs : List Value} {d : List UInt8} {ds : List (List UInt8)} (h : Ent w0 (ownB T.u8 v d :: ownBs vs ds :: p) φ) : Ent w0 (ownBs (v :: vs) (d :: ds) :: p) φ := Ent.sepE h
theorem ownBs_one {v : Value} {d : List UInt8} {x : HL} (h : ownB T.u8 v d x) : ownBs [v] [d] x := ⟨x, fun _ => none, h, fun _ => rfl, fun _ => .inr rfl, fun i => by simp⟩
theorem ownBs_snoc {v : Value} {vs : List Value} {d : List UInt8} {ds : List (List UInt8)} (h : Ent w0 (ownBs (vs ++ [v]) (ds ++ [d]) :: p) φ) : Ent w0 (ownBs vs ds :: ownB T.u8 v d :: p) φ :=
  Ent.sepI (Ent.imp (fun x hx => ownBs_app (sep_mono (fun _ h => h) (fun _ h => ownBs_one h) hx)) h)
theorem SpoilLists_spec {va ub : Value} {vs us : List Value} {ds : List (List UInt8)} (hv : RdD p (.sl T.L_uint8 1 (vs.map D.sc)) [va]) (hu : RdD p (.sl T.L_uint8 1 (us.map D.sc)) [ub]) (h1 : vs.length = ds.length) (h2 : us.length = ds.length) (hls : ds.length ≤ 1073741824)
    (hsl : ∀ v ∈ vs, IsSl v) (hr : ∀ (i : Nat) (u : Value) (d : List UInt8), us[i]? = some u → ds[i]? = some d → RdB p u d) (hbl : ∀ d ∈ ds, d.length ≤ 1048576) (hk : Ent w0 p (K (.bool true))) :
    Ent w0 (ownBs vs ds :: p) (op PR Pn (S.fn F.leatref07_SpoilLists [va, ub]) K) := by
  obtain ⟨Aa, ca, rfl, hsa1, hsa2⟩ := hv.shape
  obtain ⟨Ab, cb, rfl, hsb1, hsb2⟩ := hu.shape
  simp only [List.length_map] at hsa1 hsb1 ⊢
  rw [List.length_map] at hv hu
  refine Ent.call (fun w h => enter.leatref07_SpoilLists h) ?_
  unfold W.leatref07_SpoilLists
  repeat (first | refine Ent.runW (wrap_i64 (by omega) (by omega)) ?_ | refine Ent.runWL (wrap_i64 (by omega) (by omega)) ?_ | refine Ent.runWR (wrap_i64 (by omega) (by omega)) ?_ | refine Ent.run ?_ | refine Ent.runL ?_ | refine Ent.runR ?_ | refine Ent.drawn ?_ | refine Ent.store (by kernel_rfl) ?_ | refine Ent.resN ?_ | refine Ent.res1 ?_ | refine Ent.gop_yes ?_ | refine Ent.gop_no (by decide) ?_ | refine Ent.gop_undef ?_ | refine Ent.glt_undef ?_ | refine Ent.grc_undef ?_ | refine Ent.glt_yes ?_ | refine Ent.glt_no (by decide) ?_ | refine Ent.grc_yes ?_ | refine Ent.grc_no (by decide) ?_)
  rw [decide_eq_true (show (vs.length : Int) = us.length by omega)]
  refine Ent.ite_f ?_
  refine Ent.L1 (σ := Nat) (fun i => .int .i64 i) (fun i => pure' (i ≤ ds.length) :: ownBs (vs.take i) ((ds.take i).map (List.map turn)) :: ownBs (vs.drop i) (ds.drop i) :: p) (fun i => ds.length - i) 0 ?_ ?_
  · intro w hw
    refine Sat.add (a := pure' _) ⟨Nat.zero_le _, fun _ => rfl⟩ ?_
    refine Sat.add (a := ownBs _ _) (fun _ => rfl) ?_
    exact hw
  intro i k hrec
  refine Ent.pure fun hi => ?_
  repeat (first | refine Ent.runW (wrap_i64 (by omega) (by omega)) ?_ | refine Ent.runWL (wrap_i64 (by omega) (by omega)) ?_ | refine Ent.runWR (wrap_i64 (by omega) (by omega)) ?_ | refine Ent.run ?_ | refine Ent.runL ?_ | refine Ent.runR ?_ | refine Ent.drawn ?_ | refine Ent.store (by kernel_rfl) ?_ | refine Ent.resN ?_ | refine Ent.res1 ?_ | refine Ent.gop_yes ?_ | refine Ent.gop_no (by decide) ?_ | refine Ent.gop_undef ?_ | refine Ent.glt_undef ?_ | refine Ent.grc_undef ?_ | refine Ent.glt_yes ?_ | refine Ent.glt_no (by decide) ?_ | refine Ent.grc_yes ?_ | refine Ent.grc_no (by decide) ?_)
  refine Ent.ite (fun hq => ?_) (fun hq => ?_)
  · have hlt : i < vs.length := by simpa using hq
    have hltd : i < ds.length := by omega
    obtain ⟨b3, o3, cs3, hia3, hcs3, hcl3, hld3⟩ := RdD.index (P := PR) (t := T.L_L_uint8) (k := .i64) (i := i) hv (by omega) (by omega) (d := .sc vs[i]) (by simp [List.getElem?_eq_getElem hlt])
    obtain ⟨rfl, _⟩ := hcs3
    refine Ent.at_ (fun w _ => hia3 w) ?_
    haveI := LoadN.one hld3
    repeat (first | refine Ent.runW (wrap_i64 (by omega) (by omega)) ?_ | refine Ent.runWL (wrap_i64 (by omega) (by omega)) ?_ | refine Ent.runWR (wrap_i64 (by omega) (by omega)) ?_ | refine Ent.run ?_ | refine Ent.runL ?_ | refine Ent.runR ?_ | refine Ent.drawn ?_ | refine Ent.store (by kernel_rfl) ?_ | refine Ent.resN ?_ | refine Ent.res1 ?_ | refine Ent.gop_yes ?_ | refine Ent.gop_no (by decide) ?_ | refine Ent.gop_undef ?_ | refine Ent.glt_undef ?_ | refine Ent.grc_undef ?_ | refine Ent.glt_yes ?_ | refine Ent.glt_no (by decide) ?_ | refine Ent.grc_yes ?_ | refine Ent.grc_no (by decide) ?_)
    rw [List.drop_eq_getElem_cons hlt, List.drop_eq_getElem_cons hltd]
    obtain ⟨A, n, c, hvi⟩ := hsl _ (List.getElem_mem hlt)
    refine Ent.take (ownBs (vs[i] :: vs.drop (i + 1)) (ds[i] :: ds.drop (i + 1))) (ownBs_cons ?_)
    rw [hvi]
    refine Spoil_spec (by have := hbl _ (List.getElem_mem hltd); omega) ?_
    rw [← hvi]
    repeat (first | refine Ent.runW (wrap_i64 (by omega) (by omega)) ?_ | refine Ent.runWL (wrap_i64 (by omega) (by omega)) ?_ | refine Ent.runWR (wrap_i64 (by omega) (by omega)) ?_ | refine Ent.run ?_ | refine Ent.runL ?_ | refine Ent.runR ?_ | refine Ent.drawn ?_ | refine Ent.store (by kernel_rfl) ?_ | refine Ent.resN ?_ | refine Ent.res1 ?_ | refine Ent.gop_yes ?_ | refine Ent.gop_no (by decide) ?_ | refine Ent.gop_undef ?_ | refine Ent.glt_undef ?_ | refine Ent.grc_undef ?_ | refine Ent.glt_yes ?_ | refine Ent.glt_no (by decide) ?_ | refine Ent.grc_yes ?_ | refine Ent.grc_no (by decide) ?_)
    have := hrec (i + 1) (by omega)
    simp only [Int.natCast_add, Int.natCast_one] at this
    refine Ent.take (ownB T.u8 vs[i] (ds[i].map turn)) (Ent.take (ownBs (vs.take i) ((ds.take i).map (List.map turn))) (ownBs_snoc ?_))
    rw [List.take_succ_eq_append_getElem hlt, List.take_succ_eq_append_getElem hltd, List.map_append] at this
    exact Ent.add ⟨hltd, fun _ => rfl⟩ this
  have hlt : i = ds.length := by
    have : ¬ (i : Int) < vs.length := by simpa using hq
    omega
  subst hlt
  rw [show vs.take ds.length = vs by rw [← h1]; exact List.take_length, show ds.take ds.length = ds from List.take_length]
  clear hrec
  -- the lists grow
  refine Ent.L1 (σ := Nat × HL) (fun s => .int .i64 s.1) (fun s => pure' (s.1 ≤ ds.length ∧ ∀ (j : Nat) (v : Value) (d : List UInt8), j < s.1 → vs[j]? = some v → ds[j]? = some d → rdB s.2 v (d.map turn)) :: exact s.2 :: ownBs (vs.drop s.1) ((ds.drop s.1).map (List.map turn)) :: p) (fun s => ds.length - s.1) (0, fun _ => none) ?_ ?_
  · intro w hw
    refine Sat.add (a := pure' _) ⟨⟨Nat.zero_le _, fun j v d hj => by omega⟩, fun _ => rfl⟩ ?_
    refine Sat.add (a := exact _) rfl ?_
    have : Sat (ownBs vs (ds.map (List.map turn)) :: p) w0 w := Sat.keep hw
    exact this
  rintro ⟨i, X⟩ k2 hrec
  refine Ent.pure fun hp => ?_
  obtain ⟨hi, hX⟩ := hp
  simp only at hi hX hrec ⊢
  repeat (first | refine Ent.runW (wrap_i64 (by omega) (by omega)) ?_ | refine Ent.runWL (wrap_i64 (by omega) (by omega)) ?_ | refine Ent.runWR (wrap_i64 (by omega) (by omega)) ?_ | refine Ent.run ?_ | refine Ent.runL ?_ | refine Ent.runR ?_ | refine Ent.drawn ?_ | refine Ent.store (by kernel_rfl) ?_ | refine Ent.resN ?_ | refine Ent.res1 ?_ | refine Ent.gop_yes ?_ | refine Ent.gop_no (by decide) ?_ | refine Ent.gop_undef ?_ | refine Ent.glt_undef ?_ | refine Ent.grc_undef ?_ | refine Ent.glt_yes ?_ | refine Ent.glt_no (by decide) ?_ | refine Ent.grc_yes ?_ | refine Ent.grc_no (by decide) ?_)
  refine Ent.ite (fun hq => ?_) (fun hq => ?_)
  · have hlt : i < vs.length := by simpa using hq
    have hltd : i < ds.length := by omega
    obtain ⟨b3, o3, cs3, hia3, hcs3, hcl3, hld3⟩ := RdD.index (P := PR) (t := T.L_L_uint8) (k := .i64) (i := i) hv (by omega) (by omega) (d := .sc vs[i]) (by simp [List.getElem?_eq_getElem hlt])
    obtain ⟨rfl, _⟩ := hcs3
    refine Ent.at_ (fun w _ => hia3 w) ?_
    haveI := LoadN.one hld3
    repeat (first | refine Ent.runW (wrap_i64 (by omega) (by omega)) ?_ | refine Ent.runWL (wrap_i64 (by omega) (by omega)) ?_ | refine Ent.runWR (wrap_i64 (by omega) (by omega)) ?_ | refine Ent.run ?_ | refine Ent.runL ?_ | refine Ent.runR ?_ | refine Ent.drawn ?_ | refine Ent.store (by kernel_rfl) ?_ | refine Ent.resN ?_ | refine Ent.res1 ?_ | refine Ent.gop_yes ?_ | refine Ent.gop_no (by decide) ?_ | refine Ent.gop_undef ?_ | refine Ent.glt_undef ?_ | refine Ent.grc_undef ?_ | refine Ent.glt_yes ?_ | refine Ent.glt_no (by decide) ?_ | refine Ent.grc_yes ?_ | refine Ent.grc_no (by decide) ?_)
    rw [List.drop_eq_getElem_cons hlt, List.drop_eq_getElem_cons hltd, List.map_cons]
    refine Ent.take (ownBs (vs[i] :: vs.drop (i + 1)) (ds[i].map turn :: (ds.drop (i + 1)).map (List.map turn))) (ownBs_cons ?_)
    have hdl := hbl _ (List.getElem_mem hltd)
    refine grow_start ?_
    obtain ⟨A, n, c, hvi⟩ := hsl _ (List.getElem_mem hlt)
    rw [hvi]
    refine Ent.L2 (σ := Nat × Option Addr × Nat × Nat × List UInt8) (fun s => .slice s.2.1 s.2.2.1 s.2.2.2.1) (fun s => .int .i64 s.1)
      (fun s => pure' (s.1 ≤ 70 ∧ s.2.2.2.2.length = ds[i].length + s.1) :: grow (.slice A n c) (ds[i].map turn) (.slice s.2.1 s.2.2.1 s.2.2.2.1) s.2.2.2.2 :: ownBs (vs.drop (i + 1)) ((ds.drop (i + 1)).map (List.map turn)) :: exact X :: p) (fun s => 70 - s.1) (0, A, n, c, ds[i].map turn) ?_ ?_
    · intro w hw
      exact Sat.add (a := pure' _) ⟨⟨by omega, by simp⟩, fun _ => rfl⟩ hw
    rintro ⟨kk, A', n', c', es⟩ k3 hrec3
    refine Ent.pure fun hp => ?_
    obtain ⟨hkk, hes⟩ := hp
    simp only at hkk hes hrec3 ⊢
    repeat (first | refine Ent.runW (wrap_i64 (by omega) (by omega)) ?_ | refine Ent.runWL (wrap_i64 (by omega) (by omega)) ?_ | refine Ent.runWR (wrap_i64 (by omega) (by omega)) ?_ | refine Ent.run ?_ | refine Ent.runL ?_ | refine Ent.runR ?_ | refine Ent.drawn ?_ | refine Ent.store (by kernel_rfl) ?_ | refine Ent.resN ?_ | refine Ent.res1 ?_ | refine Ent.gop_yes ?_ | refine Ent.gop_no (by decide) ?_ | refine Ent.gop_undef ?_ | refine Ent.glt_undef ?_ | refine Ent.grc_undef ?_ | refine Ent.glt_yes ?_ | refine Ent.glt_no (by decide) ?_ | refine Ent.grc_yes ?_ | refine Ent.grc_no (by decide) ?_)
    refine Ent.ite (fun hq => ?_) (fun hq => ?_)
    · have hq : (kk : Int) < 70 := by simpa using hq
      repeat (first | refine Ent.runW (wrap_i64 (by omega) (by omega)) ?_ | refine Ent.runWL (wrap_i64 (by omega) (by omega)) ?_ | refine Ent.runWR (wrap_i64 (by omega) (by omega)) ?_ | refine Ent.run ?_ | refine Ent.runL ?_ | refine Ent.runR ?_ | refine Ent.drawn ?_ | refine Ent.store (by kernel_rfl) ?_ | refine Ent.resN ?_ | refine Ent.res1 ?_ | refine Ent.gop_yes ?_ | refine Ent.gop_no (by decide) ?_ | refine Ent.gop_undef ?_ | refine Ent.glt_undef ?_ | refine Ent.grc_undef ?_ | refine Ent.glt_yes ?_ | refine Ent.glt_no (by decide) ?_ | refine Ent.grc_yes ?_ | refine Ent.grc_no (by decide) ?_)
      rw [show (kk : Int) + (i : Int) = ((kk + i : Nat) : Int) by omega, u8_wrap]
      refine pushG (by omega) fun A5 c5 => ?_
      repeat (first | refine Ent.runW (wrap_i64 (by omega) (by omega)) ?_ | refine Ent.runWL (wrap_i64 (by omega) (by omega)) ?_ | refine Ent.runWR (wrap_i64 (by omega) (by omega)) ?_ | refine Ent.run ?_ | refine Ent.runL ?_ | refine Ent.runR ?_ | refine Ent.drawn ?_ | refine Ent.store (by kernel_rfl) ?_ | refine Ent.resN ?_ | refine Ent.res1 ?_ | refine Ent.gop_yes ?_ | refine Ent.gop_no (by decide) ?_ | refine Ent.gop_undef ?_ | refine Ent.glt_undef ?_ | refine Ent.grc_undef ?_ | refine Ent.glt_yes ?_ | refine Ent.glt_no (by decide) ?_ | refine Ent.grc_yes ?_ | refine Ent.grc_no (by decide) ?_)
      have := hrec3 (kk + 1, A5, es.length + 1, c5, es ++ [UInt8.ofNat (kk + i)]) (by simp only; omega)
      simp only [Int.natCast_add, Int.natCast_one] at this
      exact Ent.add ⟨⟨by omega, by simp; omega⟩, fun _ => rfl⟩ this
    · repeat (first | refine Ent.runW (wrap_i64 (by omega) (by omega)) ?_ | refine Ent.runWL (wrap_i64 (by omega) (by omega)) ?_ | refine Ent.runWR (wrap_i64 (by omega) (by omega)) ?_ | refine Ent.run ?_ | refine Ent.runL ?_ | refine Ent.runR ?_ | refine Ent.drawn ?_ | refine Ent.store (by kernel_rfl) ?_ | refine Ent.resN ?_ | refine Ent.res1 ?_ | refine Ent.gop_yes ?_ | refine Ent.gop_no (by decide) ?_ | refine Ent.gop_undef ?_ | refine Ent.glt_undef ?_ | refine Ent.grc_undef ?_ | refine Ent.glt_yes ?_ | refine Ent.glt_no (by decide) ?_ | refine Ent.grc_yes ?_ | refine Ent.grc_no (by decide) ?_)
      refine Ent.freeze fun y hy => ?_
      have hyr := (grow_rd hy).1
      refine Ent.take (exact X) (Ent.take (exact y) (Ent.merge fun Z hyZ hXZ => ?_))
      have := hrec (i + 1, Z) (by simp only; omega)
      simp only [Int.natCast_add, Int.natCast_one] at this
      refine Ent.keep (Ent.add ?_ this)
      refine ⟨⟨hltd, fun j v d hj hv hd => ?_⟩, fun _ => rfl⟩
      by_cases hji : j = i
      · subst hji
        rw [List.getElem?_eq_getElem hlt] at hv
        rw [List.getElem?_eq_getElem hltd] at hd
        injection hv with hv
        injection hd with hd
        subst hv; subst hd
        rw [hvi]
        exact hyr.mono hyZ
      · exact (hX j v d (by omega) hv hd).mono hXZ
  have hlt : i = ds.length := by
    have : ¬ (i : Int) < vs.length := by simpa using hq
    omega
  subst hlt
  clear hrec
  refine Ent.L2 (σ := Nat) (fun _ => .bool false) (fun i => .int .i64 i) (fun i => pure' (i ≤ ds.length) :: exact X :: p) (fun i => ds.length - i) 0 ?_ ?_
  · intro w hw
    exact Sat.add (a := pure' _) ⟨Nat.zero_le _, fun _ => rfl⟩ (Sat.keep hw)
  intro i k hrec
  refine Ent.pure fun hi => ?_
  repeat (first | refine Ent.runW (wrap_i64 (by omega) (by omega)) ?_ | refine Ent.runWL (wrap_i64 (by omega) (by omega)) ?_ | refine Ent.runWR (wrap_i64 (by omega) (by omega)) ?_ | refine Ent.run ?_ | refine Ent.runL ?_ | refine Ent.runR ?_ | refine Ent.drawn ?_ | refine Ent.store (by kernel_rfl) ?_ | refine Ent.resN ?_ | refine Ent.res1 ?_ | refine Ent.gop_yes ?_ | refine Ent.gop_no (by decide) ?_ | refine Ent.gop_undef ?_ | refine Ent.glt_undef ?_ | refine Ent.grc_undef ?_ | refine Ent.glt_yes ?_ | refine Ent.glt_no (by decide) ?_ | refine Ent.grc_yes ?_ | refine Ent.grc_no (by decide) ?_)
  refine Ent.ite (fun hq => ?_) (fun hq => ?_)
  · have hlt : i < vs.length := by simpa using hq
    have hltd : i < ds.length := by omega
    have hltu : i < us.length := by omega
    obtain ⟨b3, o3, cs3, hia3, hcs3, hcl3, hld3⟩ := RdD.index (P := PR) (t := T.L_L_uint8) (k := .i64) (i := i) hv (by omega) (by omega) (d := .sc vs[i]) (by simp [List.getElem?_eq_getElem hlt])
    obtain ⟨rfl, _⟩ := hcs3
    obtain ⟨b4, o4, cs4, hia4, hcs4, hcl4, hld4⟩ := RdD.index (P := PR) (t := T.L_L_uint8) (k := .i64) (i := i) hu (by omega) (by omega) (d := .sc us[i]) (by simp [List.getElem?_eq_getElem hltu])
    obtain ⟨rfl, _⟩ := hcs4
    repeat (first | refine Ent.runW (wrap_i64 (by omega) (by omega)) ?_ | refine Ent.runWL (wrap_i64 (by omega) (by omega)) ?_ | refine Ent.runWR (wrap_i64 (by omega) (by omega)) ?_ | refine Ent.run ?_ | refine Ent.runL ?_ | refine Ent.runR ?_ | refine Ent.drawn ?_ | refine Ent.store (by kernel_rfl) ?_ | refine Ent.resN ?_ | refine Ent.res1 ?_ | refine Ent.gop_yes ?_ | refine Ent.gop_no (by decide) ?_ | refine Ent.gop_undef ?_ | refine Ent.glt_undef ?_ | refine Ent.grc_undef ?_ | refine Ent.glt_yes ?_ | refine Ent.glt_no (by decide) ?_ | refine Ent.grc_yes ?_ | refine Ent.grc_no (by decide) ?_)
    refine Ent.atL (fun w _ => hia3 w) ?_
    haveI := LoadN.one hld3
    repeat (first | refine Ent.runW (wrap_i64 (by omega) (by omega)) ?_ | refine Ent.runWL (wrap_i64 (by omega) (by omega)) ?_ | refine Ent.runWR (wrap_i64 (by omega) (by omega)) ?_ | refine Ent.run ?_ | refine Ent.runL ?_ | refine Ent.runR ?_ | refine Ent.drawn ?_ | refine Ent.store (by kernel_rfl) ?_ | refine Ent.resN ?_ | refine Ent.res1 ?_ | refine Ent.gop_yes ?_ | refine Ent.gop_no (by decide) ?_ | refine Ent.gop_undef ?_ | refine Ent.glt_undef ?_ | refine Ent.grc_undef ?_ | refine Ent.glt_yes ?_ | refine Ent.glt_no (by decide) ?_ | refine Ent.grc_yes ?_ | refine Ent.grc_no (by decide) ?_)
    refine Ent.atL (fun w _ => hia4 w) ?_
    haveI := LoadN.one hld4
    repeat (first | refine Ent.runW (wrap_i64 (by omega) (by omega)) ?_ | refine Ent.runWL (wrap_i64 (by omega) (by omega)) ?_ | refine Ent.runWR (wrap_i64 (by omega) (by omega)) ?_ | refine Ent.run ?_ | refine Ent.runL ?_ | refine Ent.runR ?_ | refine Ent.drawn ?_ | refine Ent.store (by kernel_rfl) ?_ | refine Ent.resN ?_ | refine Ent.res1 ?_ | refine Ent.gop_yes ?_ | refine Ent.gop_no (by decide) ?_ | refine Ent.gop_undef ?_ | refine Ent.glt_undef ?_ | refine Ent.grc_undef ?_ | refine Ent.glt_yes ?_ | refine Ent.glt_no (by decide) ?_ | refine Ent.grc_yes ?_ | refine Ent.grc_no (by decide) ?_)
    have hx := hX i _ _ hltd (List.getElem?_eq_getElem hlt) (List.getElem?_eq_getElem hltd)
    refine Turned_spec (RdB.here hx) (hr i _ _ (List.getElem?_eq_getElem hltu) (List.getElem?_eq_getElem hltd)).skip ?_
    rw [decide_eq_true rfl]
    repeat (first | refine Ent.runW (wrap_i64 (by omega) (by omega)) ?_ | refine Ent.runWL (wrap_i64 (by omega) (by omega)) ?_ | refine Ent.runWR (wrap_i64 (by omega) (by omega)) ?_ | refine Ent.run ?_ | refine Ent.runL ?_ | refine Ent.runR ?_ | refine Ent.drawn ?_ | refine Ent.store (by kernel_rfl) ?_ | refine Ent.resN ?_ | refine Ent.res1 ?_ | refine Ent.gop_yes ?_ | refine Ent.gop_no (by decide) ?_ | refine Ent.gop_undef ?_ | refine Ent.glt_undef ?_ | refine Ent.grc_undef ?_ | refine Ent.glt_yes ?_ | refine Ent.glt_no (by decide) ?_ | refine Ent.grc_yes ?_ | refine Ent.grc_no (by decide) ?_)
    refine Ent.ite_f ?_
    repeat (first | refine Ent.runW (wrap_i64 (by omega) (by omega)) ?_ | refine Ent.runWL (wrap_i64 (by omega) (by omega)) ?_ | refine Ent.runWR (wrap_i64 (by omega) (by omega)) ?_ | refine Ent.run ?_ | refine Ent.runL ?_ | refine Ent.runR ?_ | refine Ent.drawn ?_ | refine Ent.store (by kernel_rfl) ?_ | refine Ent.resN ?_ | refine Ent.res1 ?_ | refine Ent.gop_yes ?_ | refine Ent.gop_no (by decide) ?_ | refine Ent.gop_undef ?_ | refine Ent.glt_undef ?_ | refine Ent.grc_undef ?_ | refine Ent.glt_yes ?_ | refine Ent.glt_no (by decide) ?_ | refine Ent.grc_yes ?_ | refine Ent.grc_no (by decide) ?_)
    have := hrec (i + 1) (by omega)
    simp only [Int.natCast_add, Int.natCast_one] at this
    exact Ent.add ⟨hltd, fun _ => rfl⟩ this
  · exact Ent.keep hk
end
end Go.Lt
