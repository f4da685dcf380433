/- Messages by tables of fields: fields, trees and codecs as plain data. Conditions: none. -/
import Derived.Test.YtpmpgmjllagomaaCur
import Derived.Test.YtpmpgmjllagomaaUtf
import Derived.Test.YtpmpgmjllagomaaData
set_option linter.unusedVariables false
set_option maxHeartbeats 4000000
set_option linter.unusedSimpArgs false
set_option maxRecDepth 100000
namespace Go.Lt
open Go
attribute [local irreducible] op gop lt glt rc grc ite' drawn also ldR
/-- A field of a table. -/
inductive Fld where
  | mk (name : ByteArray) (kind frm to : Int) (elem : List Fld)
def Fld.name : Fld → ByteArray | .mk n _ _ _ _ => n
def Fld.kind : Fld → Int | .mk _ k _ _ _ => k
def Fld.frm : Fld → Int | .mk _ _ f _ _ => f
def Fld.to : Fld → Int | .mk _ _ _ t _ => t
def Fld.elem : Fld → List Fld | .mk _ _ _ _ e => e
/-- A value. -/
inductive Nd where
  | mk (kind num : Int) (null : Bool) (data : List UInt8) (list : List Nd)
def Nd.kind : Nd → Int | .mk k _ _ _ _ => k
def Nd.num : Nd → Int | .mk _ n _ _ _ => n
def Nd.null : Nd → Bool | .mk _ _ b _ _ => b
def Nd.data : Nd → List UInt8 | .mk _ _ _ d _ => d
def Nd.list : Nd → List Nd | .mk _ _ _ _ l => l
mutual
def fldD : Fld → D
  | .mk n k f t e => .st [.sc (.string n), .sc (.int .i64 k), .sc (.int .i64 f), .sc (.int .i64 t), .sl T.api_Field 5 (fldsD e)]
def fldsD : List Fld → List D
  | [] => []
  | f :: r => fldD f :: fldsD r
end
mutual
def ndD : Nd → D
  | .mk k n b d l => .st [.sc (.int .i64 k), .sc (.int .i64 n), .sc (.bool b), bytesD T.u8 d, .sl T.api_Node 5 (ndsD l)]
def ndsD : List Nd → List D
  | [] => []
  | n :: r => ndD n :: ndsD r
end
theorem fldsD_map (l : List Fld) : fldsD l = l.map fldD := by induction l <;> simp_all [fldsD]
theorem ndsD_map (l : List Nd) : ndsD l = l.map ndD := by induction l <;> simp_all [ndsD]
theorem ndsD_length (l : List Nd) : (ndsD l).length = l.length := by rw [ndsD_map, List.length_map]
theorem fldsD_length (l : List Fld) : (fldsD l).length = l.length := by rw [fldsD_map, List.length_map]
/-- A codec: what a field of a version comes to. -/
inductive Cd where
  | num (k : Int)
  | txt (k : Int)
  | blb (k : Int)
  | arr (c : Cd)
  | rcd (l : List Cd)
mutual
def cdV (C : Addr → Value → Prop) : Cd → Value → Prop
  | .num k, v => v = .iface T.schema_number (.agg [.int .i64 k].toArray)
  | .txt k, v => v = .iface T.schema_text (.agg [.int .i64 k].toArray)
  | .blb k, v => v = .iface T.schema_blob (.agg [.int .i64 k].toArray)
  | .arr c, v => ∃ u, v = .iface T.schema_array (.agg [u].toArray) ∧ cdV C c u ∧ (∃ t x, u = .iface t x)
  | .rcd l, v => ∃ A c, v = .iface T.schema_record (.agg [.slice A l.length c].toArray) ∧ l.length ≤ c ∧ c ≤ maxLen ∧ l.length ≤ 1048576 ∧ (l = [] ∨ ∃ b o, A = some ⟨b, o, none⟩ ∧ cdC C l b o)
def cdC (C : Addr → Value → Prop) : List Cd → Nat → Nat → Prop
  | [], _, _ => True
  | c :: r, b, o => (∃ v, cdV C c v ∧ (∃ t x, v = .iface t x) ∧ C ⟨b, o, none⟩ v) ∧ cdC C r b (o + 1)
end
/-! ### Reading -/
def width (k : Int) : Nat := if k = 1 then 1 else if k = 2 then 2 else if k = 3 then 4 else 8
/-- n values one behind the other. -/
def getsF (g : Nat → Except Int (Nd × Nat)) : Nat → Nat → Except Int (List Nd × Nat)
  | 0, at_ => .ok ([], at_)
  | n + 1, at_ => match g at_ with
    | .error e => .error e
    | .ok (x, a) => match getsF g n a with
      | .error e => .error e
      | .ok (l, a) => .ok (x :: l, a)
mutual
def Cd.get (bs : List UInt8) : Cd → Nat → Except Int (Nd × Nat)
  | .num k, at_ => if bs.length - at_ < width k then .error 1 else .ok (.mk k (numAt bs at_ (width k)) false [] [], at_ + width k)
  | .txt k, at_ =>
    if bs.length - at_ < 2 then .error 1 else
    let n := numAt bs at_ 2
    if n = -1 ∧ k = 6 then .ok (.mk k 0 true [] [], at_ + 2) else
    if n < 0 then .error 5 else if 255 < n then .error 4 else
    if bs.length - (at_ + 2) < n.toNat then .error 1 else
    let d := (bs.drop (at_ + 2)).take n.toNat
    if utf d = false then .error 6 else .ok (.mk k 0 false d [], at_ + 2 + n.toNat)
  | .blb k, at_ =>
    if bs.length - at_ < 4 then .error 1 else
    let n := numAt bs at_ 4
    if n = -1 ∧ k = 8 then .ok (.mk k 0 true [] [], at_ + 4) else
    if n < 0 then .error 5 else
    if bs.length - (at_ + 4) < n.toNat then .error 1 else
    .ok (.mk k 0 false ((bs.drop (at_ + 4)).take n.toNat) [], at_ + 4 + n.toNat)
  | .arr c, at_ =>
    if bs.length - at_ < 4 then .error 1 else
    let n := numAt bs at_ 4
    if n < 0 then .error 5 else if 16 < n then .error 9 else
    match getsF (Cd.get bs c) n.toNat (at_ + 4) with
    | .error e => .error e
    | .ok (l, a) => .ok (.mk 9 0 false [] l, a)
  | .rcd l, at_ => match Cd.getl bs l at_ with
    | .error e => .error e
    | .ok (l, a) => .ok (.mk 10 0 false [] l, a)
def Cd.getl (bs : List UInt8) : List Cd → Nat → Except Int (List Nd × Nat)
  | [], at_ => .ok ([], at_)
  | c :: r, at_ => match Cd.get bs c at_ with
    | .error e => .error e
    | .ok (x, a) => match Cd.getl bs r a with
      | .error e => .error e
      | .ok (l, a) => .ok (x :: l, a)
end
end Go.Lt
