/- Data in memory, of any shape: read, or one's own. Conditions: none. -/
import Derived.Test.YtpmpgmjllagomaaBytes
set_option linter.unusedVariables false
set_option maxHeartbeats 4000000
set_option linter.unusedSimpArgs false
set_option maxRecDepth 100000
namespace Go.Lt
open Go
attribute [local irreducible] op gop lt glt rc grc ite' drawn also ldR
/-- A datum: one cell's value; a slice, of elements of type e that take sz cells each; a struct's parts in a row. -/
inductive D where
  | sc (v : Value)
  | sl (e sz : Nat) (l : List D)
  | st (l : List D)
mutual
/-- The cells cs read as the datum, C telling what the addresses hold. -/
def Rd (C : Addr → Value → Prop) : D → List Value → Prop
  | .sc v, cs => cs = [v] ∧ v.oneCell' = true
  | .sl _ sz l, cs => ∃ A c, cs = [.slice A l.length c] ∧ l.length ≤ c ∧ c ≤ maxLen ∧ (l = [] ∨ ∃ b o, A = some ⟨b, o, none⟩ ∧ RdC C sz l b o)
  | .st l, cs => RdP C l cs
def RdP (C : Addr → Value → Prop) : List D → List Value → Prop
  | [], cs => cs = []
  | d :: r, cs => ∃ a b, cs = a ++ b ∧ Rd C d a ∧ RdP C r b
def RdC (C : Addr → Value → Prop) (sz : Nat) : List D → Nat → Nat → Prop
  | [], _, _ => True
  | d :: r, b, o => (∃ cs, Rd C d cs ∧ cs.length = sz ∧ ∀ j u, cs[j]? = some u → C ⟨b, o + j, none⟩ u) ∧ RdC C sz r b (o + sz)
end
mutual
theorem Rd.mono {C C' : Addr → Value → Prop} (hC : ∀ a v, C a v → C' a v) : ∀ (d : D) (cs : List Value), Rd C d cs → Rd C' d cs
  | .sc v, cs, h => h
  | .sl e sz l, cs, h => by
    obtain ⟨A, c, h1, h2, h3, h4⟩ := h
    exact ⟨A, c, h1, h2, h3, h4.imp id fun ⟨b, o, h5, h6⟩ => ⟨b, o, h5, RdC.mono hC sz l b o h6⟩⟩
  | .st l, cs, h => RdP.mono hC l cs h
theorem RdP.mono {C C' : Addr → Value → Prop} (hC : ∀ a v, C a v → C' a v) : ∀ (l : List D) (cs : List Value), RdP C l cs → RdP C' l cs
  | [], cs, h => h
  | d :: r, cs, h => by
    obtain ⟨a, b, h1, h2, h3⟩ := h
    exact ⟨a, b, h1, Rd.mono hC d a h2, RdP.mono hC r b h3⟩
theorem RdC.mono {C C' : Addr → Value → Prop} (hC : ∀ a v, C a v → C' a v) (sz : Nat) : ∀ (l : List D) (b o : Nat), RdC C sz l b o → RdC C' sz l b o
  | [], b, o, h => trivial
  | d :: r, b, o, h => by
    obtain ⟨⟨cs, h1, h2, h3⟩, h4⟩ := h
    exact ⟨⟨cs, Rd.mono hC d cs h1, h2, fun j u hu => hC _ _ (h3 j u hu)⟩, RdC.mono hC sz r b (o + sz) h4⟩
end
mutual
theorem Rd.ones {C : Addr → Value → Prop} : ∀ (d : D) (cs : List Value), Rd C d cs → ∀ v ∈ cs, v.oneCell' = true
  | .sc v, cs, h => by
    obtain ⟨h1, h2⟩ := h
    subst h1
    intro u hu
    rw [List.mem_singleton.1 hu]
    exact h2
  | .sl e sz l, cs, h => by
    obtain ⟨A, c, h1, _⟩ := h
    subst h1
    intro u hu
    rw [List.mem_singleton.1 hu]
    rfl
  | .st l, cs, h => RdP.ones l cs h
theorem RdP.ones {C : Addr → Value → Prop} : ∀ (l : List D) (cs : List Value), RdP C l cs → ∀ v ∈ cs, v.oneCell' = true
  | [], cs, h => by
    have : cs = [] := h
    subst this
    intro v hv
    cases hv
  | d :: r, cs, h => by
    obtain ⟨a, b, h1, h2, h3⟩ := h
    subst h1
    intro v hv
    rcases List.mem_append.1 hv with hv | hv
    · exact Rd.ones d a h2 v hv
    · exact RdP.ones r b h3 v hv
end
theorem RdC.get {C : Addr → Value → Prop} {sz : Nat} : ∀ {l : List D} {b o i : Nat} {d : D}, RdC C sz l b o → l[i]? = some d → ∃ cs, Rd C d cs ∧ cs.length = sz ∧ ∀ j u, cs[j]? = some u → C ⟨b, o + i * sz + j, none⟩ u
  | [], b, o, i, d, h, hi => by simp at hi
  | x :: r, b, o, i, d, h, hi => by
    obtain ⟨h1, h2⟩ := h
    cases i with
    | zero =>
      simp at hi
      subst hi
      simpa using h1
    | succ i =>
      obtain ⟨cs, h3, h4, h5⟩ := RdC.get h2 (by simpa using hi)
      refine ⟨cs, h3, h4, fun j u hu => ?_⟩
      have := h5 j u hu
      rw [show o + (i + 1) * sz + j = o + sz + i * sz + j by rw [Nat.succ_mul]; omega]
      exact this
theorem RdC.mk {C : Addr → Value → Prop} {sz : Nat} : ∀ {l : List D} {b o : Nat}, (∀ i d, l[i]? = some d → ∃ cs, Rd C d cs ∧ cs.length = sz ∧ ∀ j u, cs[j]? = some u → C ⟨b, o + i * sz + j, none⟩ u) → RdC C sz l b o
  | [], b, o, h => trivial
  | x :: r, b, o, h => by
    refine ⟨by simpa using h 0 x rfl, RdC.mk fun i d hi => ?_⟩
    obtain ⟨cs, h3, h4, h5⟩ := h (i + 1) d (by simpa using hi)
    refine ⟨cs, h3, h4, fun j u hu => ?_⟩
    have := h5 j u hu
    rw [show o + sz + i * sz + j = o + (i + 1) * sz + j by rw [Nat.succ_mul]; omega]
    exact this
/-- What p's worlds hold. -/
def PC (p : List HP) (a : Addr) (v : Value) : Prop := ∀ w0 w, Sat p w0 w → w.cell? a = some v
theorem PC.skip {p : List HP} {b : HP} {a : Addr} {v : Value} (h : PC p a v) : PC (b :: p) a v := fun w0 w hs => h w0 w hs.drop
theorem PC.here {x : HL} {p : List HP} {a : Addr} {v : Value} (h : hcell x a v) : PC (exact x :: p) a v := fun w0 w hs => by
  obtain ⟨y, hy, hsub⟩ := hs.head
  cases hy
  exact h.world hsub
abbrev RdD (p : List HP) (d : D) (cs : List Value) : Prop := Rd (PC p) d cs
theorem RdD.skip {p : List HP} {b : HP} {d : D} {cs : List Value} (h : RdD p d cs) : RdD (b :: p) d cs := Rd.mono (fun _ _ h => h.skip) d cs h
theorem RdD.here {p : List HP} {x : HL} {d : D} {cs : List Value} (h : Rd (hcell x) d cs) : RdD (exact x :: p) d cs := Rd.mono (fun _ _ h => PC.here h) d cs h
/-! ### One's own -/
mutual
def Ow : D → List Value → HP
  | .sc v, cs => pure' (cs = [v] ∧ v.oneCell' = true)
  | .sl e sz l, cs => ex fun v : Value => ex fun i : List (List Value) => both [pure' (cs = [v]), row e sz v l.length i.flatten, OwC sz l i]
  | .st l, cs => OwP l cs
def OwP : List D → List Value → HP
  | [], cs => pure' (cs = [])
  | d :: r, cs => ex fun a : List Value => ex fun b : List Value => both [pure' (cs = a ++ b), Ow d a, OwP r b]
def OwC (sz : Nat) : List D → List (List Value) → HP
  | [], i => pure' (i = [])
  | d :: r, i => ex fun a : List Value => ex fun b : List (List Value) => both [pure' (i = a :: b ∧ a.length = sz), Ow d a, OwC sz r b]
end
theorem both_two {a b c : HP} {x : HL} (h : both [a, b, c] x) : ∃ y z u, a y ∧ b z ∧ c u ∧ (∀ i o, y i = some o → x i = some o) ∧ (∀ i o, z i = some o → x i = some o) ∧ (∀ i o, u i = some o → x i = some o) := by
  obtain ⟨y, r, h1, ⟨z, r', h2, ⟨u, e, h3, he, h4, h5⟩, h6, h7⟩, h8, h9⟩ := h
  refine ⟨y, z, u, h1, h2, h3, fun i o hi => by rw [h9, hi]; rfl, fun i o hi => ?_, fun i o hi => ?_⟩
  · have : r i = some o := by rw [h7, hi]; rfl
    rw [h9]
    rcases h8 i with h | h
    · rw [h, this]; rfl
    · rw [h] at this; cases this
  · have e1 : r' i = some o := by rw [h5, hi]; rfl
    have : r i = some o := by
      rw [h7]
      rcases h6 i with h | h
      · rw [h, e1]; rfl
      · rw [h] at e1; cases e1
    rw [h9]
    rcases h8 i with h | h
    · rw [h, this]; rfl
    · rw [h] at this; cases this
theorem hcell.mono {x y : HL} {a : Addr} {v : Value} (hs : ∀ i o, x i = some o → y i = some o) (h : hcell x a v) : hcell y a v := by
  obtain ⟨cs, t, fr, h1, h2, h3⟩ := h
  exact ⟨cs, t, fr, hs _ _ h1, h2, h3⟩
theorem flatten_get {sz : Nat} : ∀ (i : List (List Value)) (n : Nat) (a : List Value), (∀ x ∈ i, x.length = sz) → i[n]? = some a → ∀ j u, a[j]? = some u → i.flatten[n * sz + j]? = some u
  | [], n, a, h, hn, j, u, hu => by simp at hn
  | x :: r, n, a, h, hn, j, u, hu => by
    have hx := h x List.mem_cons_self
    cases n with
    | zero =>
      simp at hn
      subst hn
      have : j < x.length := (List.getElem?_eq_some_iff.1 hu).1
      simp [List.getElem?_append_left this, hu]
    | succ n =>
      have := flatten_get r n a (fun y hy => h y (List.mem_cons_of_mem _ hy)) (by simpa using hn) j u hu
      rw [List.flatten_cons, List.getElem?_append_right (by rw [hx, Nat.succ_mul]; omega), hx, show (n + 1) * sz + j - sz = n * sz + j by rw [Nat.succ_mul]; omega]
      exact this
mutual
theorem Ow.rd : ∀ (d : D) (cs : List Value) (x : HL), Ow d cs x → Rd (hcell x) d cs
  | .sc v, cs, x, h => h.1
  | .sl e sz l, cs, x, h => by
    obtain ⟨v, i, h⟩ := h
    obtain ⟨y, z, u, ⟨rfl, _⟩, hz, hu, _, hzx, hux⟩ := both_two h
    obtain ⟨hi1, hi2⟩ := OwC.lens sz l i u hu
    obtain ⟨h1, ⟨rfl, h2, _⟩ | ⟨g, cap, cur, rfl, h2, h3, h4, h5, h6⟩⟩ := hz
    · have : l = [] := List.eq_nil_of_length_eq_zero h2
      subst this
      exact ⟨none, 0, rfl, by simp, by simp [maxLen], .inl rfl⟩
    · refine ⟨_, cap, rfl, h2, h3, .inr ⟨g, 0, rfl, ?_⟩⟩
      have hrow : ∀ k c, i.flatten[k]? = some c → hcell x ⟨g, k, none⟩ c := fun k c hk => by
        refine hcell.mono hzx ⟨cur, e, (0, 0), by rw [h6]; simp [one], rfl, ?_⟩
        rw [← h5, List.getElem?_take] at hk
        split at hk
        · simpa using hk
        · cases hk
      exact RdC.mk fun n d hn => by
        have hn' : n < i.length := by rw [hi1]; exact (List.getElem?_eq_some_iff.1 hn).1
        have hin : i[n]? = some i[n] := List.getElem?_eq_getElem hn'
        have hd := OwC.rd sz l i u hu n d i[n] hn hin
        refine ⟨i[n], Rd.mono (fun a v h => h.mono hux) d _ hd, hi2 _ (List.getElem_mem hn'), fun j c hc => ?_⟩
        rw [Nat.zero_add]
        exact hrow _ _ (flatten_get i n i[n] hi2 hin j c hc)
  | .st l, cs, x, h => OwP.rd l cs x h
theorem OwP.rd : ∀ (l : List D) (cs : List Value) (x : HL), OwP l cs x → RdP (hcell x) l cs
  | [], cs, x, h => h.1
  | d :: r, cs, x, h => by
    obtain ⟨a, b, h⟩ := h
    obtain ⟨y, z, u, ⟨rfl, _⟩, hz, hu, _, hzx, hux⟩ := both_two h
    exact ⟨a, b, rfl, Rd.mono (fun _ _ h => h.mono hzx) d a (Ow.rd d a z hz), RdP.mono (fun _ _ h => h.mono hux) r b (OwP.rd r b u hu)⟩
theorem OwC.rd (sz : Nat) : ∀ (l : List D) (i : List (List Value)) (x : HL), OwC sz l i x → ∀ (n : Nat) (d : D) (a : List Value), l[n]? = some d → i[n]? = some a → Rd (hcell x) d a
  | [], i, x, h, n, d, a, hn, ha => by simp at hn
  | d :: r, i, x, h, n, d', a', hn, ha => by
    obtain ⟨a, b, h⟩ := h
    obtain ⟨y, z, u, ⟨⟨rfl, _⟩, _⟩, hz, hu, _, hzx, hux⟩ := both_two h
    cases n with
    | zero =>
      simp at hn ha
      subst hn
      subst ha
      exact Rd.mono (fun _ _ h => h.mono hzx) d a (Ow.rd d a z hz)
    | succ n => exact Rd.mono (fun _ _ h => h.mono hux) d' a' (OwC.rd sz r b u hu n d' a' (by simpa using hn) (by simpa using ha))
theorem OwC.lens (sz : Nat) : ∀ (l : List D) (i : List (List Value)) (x : HL), OwC sz l i x → i.length = l.length ∧ ∀ a ∈ i, a.length = sz
  | [], i, x, h => by
    have : i = [] := h.1
    subst this
    exact ⟨rfl, fun a ha => by cases ha⟩
  | d :: r, i, x, h => by
    obtain ⟨a, b, h⟩ := h
    obtain ⟨y, z, u, ⟨⟨rfl, hl⟩, _⟩, hz, hu, _, _, _⟩ := both_two h
    obtain ⟨h1, h2⟩ := OwC.lens sz r b u hu
    refine ⟨by simp [h1], fun c hc => ?_⟩
    rcases List.mem_cons.1 hc with rfl | hc
    · exact hl
    · exact h2 c hc
end

/-! ### Steps -/
section
variable {P : Program} {Pn : PK} {w0 : World} {p : List HP} {K : Value → WP}
theorem both_three {a b c : HP} {φ : WP} (h : Ent w0 (a :: b :: c :: p) φ) : Ent w0 (both [a, b, c] :: p) φ := Ent.split h
theorem Ow.open_sl {e sz : Nat} {l : List D} {v : Value} {φ : WP} (h : ∀ i : List (List Value), Ent w0 (row e sz v l.length i.flatten :: OwC sz l i :: p) φ) : Ent w0 (Ow (.sl e sz l) [v] :: p) φ := by
  refine Ent.ex fun v' => Ent.ex fun i => both_three (Ent.pure fun hv => ?_)
  injection hv with hv
  subst hv
  exact h i
theorem sepL_three {a b c : HP} {x : HL} (h : sepL [a, b, c] x) : both [a, b, c] x := h
theorem Ent.fold {a b c : HP} {φ : WP} (h : Ent w0 (both [a, b, c] :: p) φ) : Ent w0 (a :: b :: c :: p) φ := Ent.join' (q := [a, b, c]) h
theorem pure_and {φ : Prop} {q r : HP} {x : HL} (hφ : φ) (h : sepL [q, r] x) : both [pure' φ, q, r] x := ⟨fun _ => none, x, ⟨hφ, fun _ => rfl⟩, h, fun _ => .inl rfl, fun _ => by simp⟩
theorem Ow.close_sl {e sz : Nat} {l : List D} {v : Value} {i : List (List Value)} {φ : WP} (h : Ent w0 (Ow (.sl e sz l) [v] :: p) φ) : Ent w0 (row e sz v l.length i.flatten :: OwC sz l i :: p) φ :=
  Ent.join' (q := [row e sz v l.length i.flatten, OwC sz l i]) (Ent.imp (fun x hx => ⟨v, i, pure_and rfl hx⟩) h)
theorem Ow.nil (e sz : Nat) : Ow (.sl e sz []) [.slice none 0 0] (fun _ => none) :=
  ⟨.slice none 0 0, [], pure_and rfl ⟨fun _ => none, fun _ => none, row_nil e sz, ⟨fun _ => none, fun _ => none, ⟨rfl, fun _ => rfl⟩, fun _ => rfl, fun _ => .inl rfl, fun _ => rfl⟩, fun _ => .inl rfl, fun _ => rfl⟩⟩
theorem OwC.snoc {sz : Nat} {d : D} {cs : List Value} (hl : cs.length = sz) : ∀ (l : List D) (i : List (List Value)) (x : HL), sep (OwC sz l i) (Ow d cs) x → OwC sz (l ++ [d]) (i ++ [cs]) x
  | [], i, x, ⟨y, z, ⟨hi, hy⟩, hz, h3, h4⟩ => by
    subst hi
    have : x = z := funext fun j => by rw [h4, hy]; simp
    subst this
    exact ⟨cs, [], pure_and ⟨rfl, hl⟩ ⟨x, fun _ => none, hz, ⟨fun _ => none, fun _ => none, ⟨rfl, fun _ => rfl⟩, fun _ => rfl, fun _ => .inl rfl, fun _ => rfl⟩, fun _ => .inr rfl, fun _ => by simp⟩⟩
  | a :: l, i, x, h => by
    obtain ⟨y, z, ⟨c, r, hy⟩, hz, h3, h4⟩ := h
    obtain ⟨e0, t, ⟨⟨rfl, hc⟩, hemp⟩, ⟨u, s, hu, ⟨s', e1, hs', he1, h5, h6⟩, h7, h8⟩, h9, h10⟩ := hy
    have ht : y = t := funext fun j => by rw [h10, hemp]; simp
    subst ht
    have hs : s = s' := funext fun j => by rw [h6, he1]; simp
    subst hs
    -- y = u + s; x = y + z
    have hx : sep (Ow a c) (OwC sz (l ++ [d]) (r ++ [cs])) x := by
      have h0 : sep (sep (Ow a c) (OwC sz l r)) (Ow d cs) x := ⟨y, z, ⟨u, s, hu, hs', h7, h8⟩, hz, h3, h4⟩
      exact sep_mono (fun _ h => h) (fun w hw => OwC.snoc hl l r w hw) (sep_assoc h0)
    exact ⟨c, r ++ [cs], pure_and ⟨rfl, hc⟩ (sep_mono (fun _ h => h) (fun _ h => sep_emp h) hx)⟩
/-- append(v, x) of one element that is one's own. -/
theorem Ent.appendD {t e sz g c : Nat} {z : Value} {v : Value} {cs zs : List Value} {d : D} {l : List D} {fl : List Bool} {ty : TypeId} [ht : SlE P t e] [hz : Zero P e z sz] [hc : CellsOf z zs] (hl : cs.length = sz) (hzs : zs.length = sz) (hsz : 0 < sz) (hlen : l.length + 1 ≤ 4294967296)
    (h : ∀ A c, Ent w0 (Ow (.sl e sz (l ++ [d])) [.slice A (l.length + 1) c] :: p) (K (.slice A (l.length + 1) c))) : Ent w0 (blk g cs :: Ow d cs :: Ow (.sl e sz l) [v] :: p) (op P Pn (S.bi .append #[t, t] ty fl [v, .slice (some ⟨g, 0, none⟩) 1 c]) K) := by
  refine Ent.perm (List.Perm.swap _ _ _) (Ent.freeze fun x hx => ?_)
  haveI : Ones cs := ⟨Rd.ones d cs (Ow.rd d cs x hx)⟩
  refine Ent.thaw hx ?_
  refine Ent.perm (q := Ow (.sl e sz l) [v] :: Ow d cs :: blk g cs :: p) ?_ (Ow.open_sl fun i => ?_)
  · exact (List.Perm.cons _ (List.Perm.swap _ _ _)).trans ((List.Perm.swap _ _ _).trans (List.Perm.cons _ (List.Perm.refl _)))
  · refine Ent.perm (q := blk g cs :: row e sz v l.length i.flatten :: OwC sz l i :: Ow d cs :: p) ?_ ?_
    · exact ((List.Perm.cons _ ((List.Perm.cons _ (List.Perm.swap _ _ _)).trans (List.Perm.swap _ _ _))).trans (List.Perm.swap _ _ _))
    · refine Ent.append1 hl hzs hsz hlen fun A c => ?_
      have e1 : i.flatten ++ cs = (i ++ [cs]).flatten := by simp
      have e2 : l.length + 1 = (l ++ [d]).length := by simp
      rw [e1]
      refine Ent.perm (q := OwC sz l i :: Ow d cs :: row e sz (.slice A (l.length + 1) c) (l.length + 1) (i ++ [cs]).flatten :: p) ((List.Perm.swap _ _ _).trans (List.Perm.cons _ (List.Perm.swap _ _ _))) ?_
      refine Ent.join' (q := [OwC sz l i, Ow d cs]) ?_
      refine Ent.imp (b := OwC sz (l ++ [d]) (i ++ [cs])) (fun y hy => OwC.snoc hl l i y (sep_mono (fun _ h => h) (fun _ h => sepL_one h) hy)) ?_
      refine Ent.perm (List.Perm.swap _ _ _) ?_
      have := h A c
      rw [e2] at this ⊢
      exact Ow.close_sl this
/-- An element of a slice that is read. -/
theorem RdD.index {t e e' sz n c : Nat} {A : Option Addr} {l : List D} {z : Value} {k : IntKind} {i : Int} [ht : SlE P t e'] [hz : Zero P e' z sz] (h : RdD p (.sl e sz l) [.slice A n c]) (h0 : 0 ≤ i) (h1 : i < n) {d : D} (hd : l[i.toNat]? = some d) :
    ∃ b o cs, (∀ w, (S.ia t (.slice A n c) (.int k i)).run P w = .ok (.value (.pointer (some ⟨b, o, none⟩))) w) ∧ RdD p d cs ∧ cs.length = sz ∧ LoadN p b o sz cs := by
  obtain ⟨A', c', h3, h4, h5, h6⟩ := h
  injection h3 with h3
  injection h3 with e1 e2 e3
  subst e1; subst e2; subst e3
  rcases h6 with h6 | ⟨b, o, rfl, h7⟩
  · subst h6; simp at hd
  · obtain ⟨cs, h8, h9, h10⟩ := h7.get hd
    refine ⟨b, o + i.toNat * sz, cs, fun w => ?_, h8, h9, ⟨fun w0 w hs => ⟨h9, fun j u hu => h10 j u hu w0 w hs⟩⟩⟩
    have := ia_run (P := P) (t := t) (k := k) (c := c) (a := ⟨b, o, none⟩) (sz := sz) (w := w) h0 h1
    rw [add_none] at this
    exact this
theorem LoadN.one {b o : Nat} {v : Value} (h : LoadN p b o 1 [v]) : LoadAt p ⟨b, o, none⟩ v := ⟨fun w0 w hs => by have := (h.out w0 w hs).2 0 v rfl; simpa using this⟩
theorem RdD.shape {e sz : Nat} {l : List D} {v : Value} (h : RdD p (.sl e sz l) [v]) : ∃ A c, v = .slice A l.length c ∧ l.length ≤ c ∧ c ≤ 9223372036854775807 := by
  obtain ⟨A, c, h1, h2, h3, _⟩ := h
  injection h1 with h1
  exact ⟨A, c, h1, h2, by simpa [maxLen] using h3⟩
/-! ### Bytes are such data -/
def bytesD (e : Nat) (bs : List UInt8) : D := .sl e 1 (bs.map fun b => .sc (u8 b))
theorem RdB.toD {e : Nat} {v : Value} {bs : List UInt8} (h : RdB p v bs) : RdD p (bytesD e bs) [v] := by
  obtain ⟨A, c, rfl, h2, h3, h4⟩ := h
  refine ⟨A, c, by simp, by simpa using h2, h3, ?_⟩
  rcases h4 with rfl | ⟨b, o, rfl, h5⟩
  · exact .inl rfl
  · refine .inr ⟨b, o, rfl, RdC.mk fun i d hd => ?_⟩
    rw [List.getElem?_map] at hd
    obtain ⟨x, hx, rfl⟩ := Option.map_eq_some_iff.1 hd
    refine ⟨[u8 x], ⟨rfl, rfl⟩, rfl, fun j u hu => ?_⟩
    cases j with
    | zero =>
      simp at hu
      subst hu
      intro w0 w hs
      have := h5 w0 w hs i x hx
      simpa using this
    | succ j => simp at hu
theorem RdB.ofD {e : Nat} {v : Value} {bs : List UInt8} (h : RdD p (bytesD e bs) [v]) : RdB p v bs := by
  obtain ⟨A, c, h1, h2, h3, h4⟩ := h
  injection h1 with h1
  subst h1
  simp only [List.length_map] at h2 ⊢
  refine ⟨A, c, rfl, h2, h3, ?_⟩
  rcases h4 with h4 | ⟨b, o, rfl, h5⟩
  · exact .inl (by simpa using h4)
  · refine .inr ⟨b, o, rfl, fun w0 w hs i u hu => ?_⟩
    obtain ⟨cs, ⟨rfl, _⟩, _, h6⟩ := h5.get (i := i) (d := .sc (u8 u)) (by simp [hu])
    have := h6 0 _ rfl w0 w hs
    simpa using this
theorem OwC_bytes : ∀ (bs : List UInt8) (i : List (List Value)) (x : HL), OwC 1 (bs.map fun b => D.sc (u8 b)) i x → i.flatten = bs.map u8 ∧ emp x
  | [], i, x, h => by
    have : i = [] := h.1
    subst this
    exact ⟨rfl, h.2⟩
  | b :: r, i, x, h => by
    obtain ⟨a, c, e0, t, ⟨⟨rfl, _⟩, hemp⟩, ⟨u, s, ⟨⟨rfl, _⟩, hu⟩, ⟨s', e1, hs', he1, h5, h6⟩, h7, h8⟩, h9, h10⟩ := h
    obtain ⟨h1, h2⟩ := OwC_bytes r c s' hs'
    refine ⟨by simp [h1], fun j => ?_⟩
    rw [h10, hemp, h8, hu, h6, h2, he1]
    rfl
theorem OwC_bytes' : ∀ (bs : List UInt8), OwC 1 (bs.map fun b => D.sc (u8 b)) (bs.map fun b => [u8 b]) (fun _ => none)
  | [] => ⟨rfl, fun _ => rfl⟩
  | b :: r => ⟨[u8 b], r.map fun b => [u8 b], pure_and ⟨rfl, rfl⟩ ⟨fun _ => none, fun _ => none, ⟨⟨rfl, rfl⟩, fun _ => rfl⟩, sep_emp (OwC_bytes' r), fun _ => .inl rfl, fun _ => rfl⟩⟩
theorem ownB_toD {e : Nat} {v : Value} {bs : List UInt8} {x : HL} (h : ownB e v bs x) : Ow (bytesD e bs) [v] x := by
  refine ⟨v, bs.map fun b => [u8 b], pure_and rfl ⟨x, fun _ => none, ?_, sep_emp (OwC_bytes' bs), fun _ => .inr rfl, fun _ => by simp⟩⟩
  have e1 : (bs.map fun b => [u8 b]).flatten = bs.map u8 := by
    clear h
    induction bs with
    | nil => rfl
    | cons b r ih => simp [ih]
  rw [e1, List.length_map]
  exact h
theorem ownB_ofD {e : Nat} {v : Value} {bs : List UInt8} {x : HL} (h : Ow (bytesD e bs) [v] x) : ownB e v bs x := by
  obtain ⟨v', i, e0, t, ⟨hv, hemp⟩, ⟨y, s, hy, ⟨s', e1, hs', he1, h5, h6⟩, h7, h8⟩, h9, h10⟩ := h
  injection hv with hv
  subst hv
  obtain ⟨h1, h2⟩ := OwC_bytes bs i s' hs'
  have : x = y := funext fun j => by
    rw [h10, hemp, h8, h6, h2, he1]
    simp
  subst this
  rw [h1, List.length_map] at hy
  exact hy
end
end Go.Lt
