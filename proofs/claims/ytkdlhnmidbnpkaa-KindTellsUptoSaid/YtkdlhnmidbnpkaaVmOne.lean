/- A machine of values, and what its operations are in the model. -/
import Derived.RowKit
import Derived.OrdersHeld
import Derived.Laws.Tables
import Derived.DeepKeys3
import Derived.Laws.OwnMore
import Derived.Below
import Derived.MapKept
import Derived.Orders
import Derived.BigRegion
namespace Go.Vm
open Go
abbrev BA := ByteArray
inductive Kn where
 | int (k : IntKind)
 | bool
 | str
 | row (e : TypeId)
 | fn
 deriving DecidableEq
inductive C where
 | int (k : IntKind) (n : Int)
 | bool (b : Bool)
 | str (s : ByteArray)
 | nil (e : TypeId)
 | row (e : TypeId) (l : List (List C))
 | fn (g : Option FuncId)
inductive SV where
 | c (x : C)
 | arr (i : Nat)
 | sub (i lo n : Nat)
 | ptr (i off : Nat)
 | ept (i r off : Nat)
 | rop (e : TypeId) (l : List C) (off : Nat)
inductive TV where
 | one (v : SV)
 | agg (l : List SV)
 | tup (l : List TV)
 | fn (g : FuncId)  
 | fnp (g : FuncId) (fst : Bool) (i off : Nat)
 | fnr (g : FuncId) (fst : Bool) (e : TypeId) (l : List C) (off : Nat)  
 | itr (i : Nat)  
inductive Ob where
 | box (t : TypeId) (l : List SV)
 | arr (e : TypeId) (frz : Bool) (rows : List (List C))
 | iter (s : ByteArray) (pos : Nat)
 | mp (k e : TypeId) (rows : List (List C))  
def Kn.isFn : Kn → Bool
 | .fn => true
 | _ => false
structure St where
 tm : List (Nat × TV)
 ob : List (Nat × Ob)
 base : Nat
 nt : Nat
def Aa {α : Type} (l : List (Nat × α)) (i : Nat) : Option α := match l with
 | [] => none
 | (j, x) :: l => match Nat.beq i j with
  | true => some x
  | false => Aa l i
def put {α : Type} (l : List (Nat × α)) (i : Nat) (x : α) : List (Nat × α) := match l with
 | [] => [(i, x)]
 | (j, y) :: l => match Nat.beq i j with
  | true => (i, x) :: l
  | false => (j, y) :: put l i x
def del {α : Type} (l : List (Nat × α)) (i : Nat) : List (Nat × α) := match l with
 | [] => []
 | (j, y) :: l => match Nat.beq i j with
  | true => del l i
  | false => (j, y) :: del l i
inductive BC where
 | d (x : C)
 | own (e : TypeId) (l : List (List C))
inductive BT where
 | one (b : BC)
 | agg (l : List BC)
 | tup (l : List BT)
inductive Arg where
 | v (t : TV)
 | ref (t : TypeId) (l : List BC) (off : Nat)
 | fn (g : FuncId)
 | rop (e : TypeId) (l : List C) (off : Nat)
 | fnr (g : FuncId) (fst : Bool) (e : TypeId) (l : List C) (off : Nat)
 | mv (e : TypeId) (l : List (List C))  
structure Res where
 r : BT
 refs : List (List BC)
def C.kind : C → Kn
 | .int k _ => .int k
 | .bool _ => .bool
 | .str _ => .str
 | .nil e => .row e
 | .row e _ => .row e
 | .fn _ => .fn
def C.it : C → Int
 | .int _ n => n
 | _ => 0
def C.bl : C → Bool
 | .bool b => b
 | _ => false
def C.st : C → ByteArray
 | .str s => s
 | _ => .empty
def C.rows : C → List (List C)
 | .row _ l => l
 | _ => []
def C.fid : C → Option FuncId
 | .fn g => g
 | _ => none
def C.as (x : C) : Kn → C
 | .int k => .int k x.it
 | .bool => .bool x.bl
 | .str => .str x.st
 | .row e => .row e x.rows
 | .fn => .fn x.fid
def C.canon : C → C
 | .nil e => .row e []
 | x => x
instance : Inhabited C := ⟨.bool false⟩
def C.val? : C → Option Value
 | .int k n => some (.int k n)
 | .bool b => some (.bool b)
 | .str s => some (.string s)
 | .nil _ => none
 | .row _ _ => none
 | .fn _ => none
def SV.val? : SV → Option Value
 | .c x => x.val?
 | _ => none
def SV.vals? : List SV → Option (List Value)
 | [] => some []
 | x :: l => match x.val? with
  | some v => match SV.vals? l with
   | some l => some (v :: l)
   | none => none
  | none => none
def TV.val? : TV → Option Value
 | .one x => x.val?
 | .agg l => match SV.vals? l with
  | some l => some (.agg l.toArray)
  | none => none
 | _ => none
def SV.of? : Value → Option SV
 | .int k n => some (.c (.int k n))
 | .bool b => some (.c (.bool b))
 | .string s => some (.c (.str s))
 | _ => none
def SV.ofs? : List Value → Option (List SV)
 | [] => some []
 | x :: l => match SV.of? x with
  | some v => match SV.ofs? l with
   | some l => some (v :: l)
   | none => none
  | none => none
def TV.of? : Value → Option TV
 | .agg a => match SV.ofs? a.toList with
  | some l => some (.agg l)
  | none => none
 | .tuple a => match a.toList with
  | [] => some (.tup [])
  | _ => none
 | v => match SV.of? v with
  | some x => some (.one x)
  | none => none
def pure? {α : Type} (P : Program) : Sem α → Option α
 | .pure a => some a
 | .program k => pure? P (k P)
 | _ => none
theorem pure?_run {α : Type} (P : Program) (W : World) : ∀ (s : Sem α) (a : α), pure? P s = some a → s.run P W = .ok a W := by
 intro s
 induction s with
 | pure a => intro b h; cases h; rfl
 | program k ih => intro b h; exact ih P b h
 | _ => intro b h; cases h
section
variable (P : Program)
def D6 (t : TypeId) : TypeId := match P.underlying t with
 | some (.slice e) => e
 | _ => 0
def Jj (t : TypeId) : Option Bool := match P.underlying t with
 | some (.struct _) => some true
 | some (.array _ _) => some true
 | some _ => some false
 | none => none
def Pj (t : TypeId) : Bool := match P.underlying t with
 | some (.struct _) => (P.built t []).isSome
 | _ => false
def G1 (t : TypeId) : Bool := match P.underlying t with
 | some .string => true
 | _ => false
def Ej (t e : TypeId) : Bool := match P.underlying t with
 | some (.slice e') => match Nat.beq e e' with
  | true => match Nat.beq (P.cellsOf e) 0 with
   | true => false
   | false => true
  | false => false
 | _ => false
def Kj : Nat → TypeId → Option (List Kn)
 | 0, _ => none
 | d + 1, t => match P.underlying t with
  | some (.int k) => some [.int k]
  | some .bool => some [.bool]
  | some .string => some [.str]
  | some (.slice e) => some [.row e]
  | some (.func _ _ _) => some [.fn]
  | some (.struct fs) => fs.toList.foldr (fun f acc => match Kj d f.type with
   | some a => match acc with
    | some b => some (a ++ b)
    | none => none
   | none => none) (some [])
  | _ => none
def Dy (t : TypeId) : Option (List Kn) := match Kj P 6 t with
 | some l => match Nat.beq l.length (P.cellsOf t) with
  | true => some l
  | false => none
 | none => none
end
def St.opd (st : St) : Operand → Option TV
 | .tmp t => Aa st.tm t
 | .const v => TV.of? v
 | .func f => some (.fn f)
 | _ => none
def Oi (k : Kn) (v : Value) : Option SV := match k, v with
 | .row e, .slice none 0 0 => some (.c (.nil e))
 | .fn, .nilFunc => some (.c (.fn none))
 | _, .int k n => some (.c (.int k n))
 | _, .bool b => some (.c (.bool b))
 | _, .string s => some (.c (.str s))
 | _, _ => none
def Es : List Kn → List Value → Option (List SV)
 | [], [] => some []
 | k :: ks, v :: vs => match Oi k v with
  | some x => match Es ks vs with
   | some l => some (x :: l)
   | none => none
  | none => none
 | _, _ => none
def St.opdT (P : Program) (st : St) (t : TypeId) : Operand → Option TV
 | .const (.slice none 0 0) => some (.one (.c (.nil (D6 P t))))
 | .const (.agg a) => match TV.of? (.agg a) with
  | some tv => some tv
  | none => match Dy P t with
   | some ks => match Es ks a.toList with
    | some l => some (.agg l)
    | none => none
   | none => none
 | x => st.opd x
def St.opdF (P : Program) (st : St) (t : TypeId) (x : Operand) : Option (List SV) := match st.opdT P t x with
 | some (.one v) => some [v]
 | some (.agg l) => some l
 | some (.fn g) => some [.c (.fn (some g))]
 | _ => none
def St.opdVal (st : St) (x : Operand) : Value := match st.opd x with
 | some v => match v.val? with
  | some v => v
  | none => undef
 | none => undef
def St.hasVal (st : St) (x : Operand) : Bool := match st.opd x with
 | some v => v.val?.isSome
 | none => false
def St.hasVals (st : St) : List Operand → Bool
 | [] => true
 | x :: l => match st.hasVal x with
  | true => st.hasVals l
  | false => false
structure Up where
 tv : TV
 ob : List (Nat × Option Ob)
 rd : List Nat
def Up.val (tv : TV) : Up := ⟨tv, [], []⟩
def Ek (P : Program) (st : St) (o : Oper) : Option Up :=
 match st.hasVals o.op.operands.toList with
 | true => match pure? P (execOp st.opdVal o) with
  | some (.value v) => match TV.of? v with
   | some t => some (.val t)
   | none => none
  | _ => none
 | false => none
def St.opdInt (st : St) (x : Operand) : Option Int := match st.opd x with
 | some (.one (.c (.int _ n))) => some n
 | _ => none
def St.toC (st : St) : SV → Option C
 | .c x => some x
 | .arr i => match Aa st.ob i with
  | some (.arr e _ rows) => some (.row e rows)
  | _ => none
 | .sub i lo n => match Aa st.ob i with
  | some (.arr e _ rows) => some (.row e ((rows.drop lo).take n))
  | _ => none
 | _ => none
def St.toCs (st : St) : List SV → Option (List C)
 | [] => some []
 | v :: l => match st.toC v with
  | some x => match st.toCs l with
   | some l => some (x :: l)
   | none => none
  | none => none
def SV.ids : SV → List Nat
 | .arr i => [i]
 | .sub i _ _ => [i]
 | _ => []
def TV.cells : TV → List SV
 | .one v => [v]
 | .agg l => l
 | _ => []
def Cy : List SV → List Nat
 | [] => []
 | v :: l => v.ids ++ Cy l
def part (P : Program) (t : TypeId) (l : List SV) (off : Nat) : Option TV :=
 match Jj P t with
 | some true => match Nat.ble (off + P.cellsOf t) l.length with
  | true => some (.agg ((l.drop off).take (P.cellsOf t)))
  | false => none
 | some false => match l.drop off with
  | v :: _ => some (.one v)
  | [] => none
 | none => none
def Mz (ks : List Kn) (l : List C) : List SV := match ks with
 | [] => []
 | k :: ks => .c ((l.headD default).as k) :: Mz ks l.tail
def field? (P : Program) (t : TypeId) (j : Nat) : Option Field := match P.underlying t with
 | some (.struct fs) => fs[j]?
 | _ => none
def Jy (l : List SV) (off : Nat) : List SV → List SV
 | [] => l
 | v :: vs => Jy (l.set off v) (off + 1) vs
def Gi (l : List C) (off : Nat) : List C → List C
 | [] => l
 | v :: vs => Gi (l.set off v) (off + 1) vs
def zeroCells (P : Program) (t : TypeId) : Option (List SV) := match Dy P t with
 | some ks => match P.info? t with
  | some i => match i.zero with
   | some z => Es ks z.cells.toList
   | none => none
  | none => none
 | none => none
def Jb (P : Program) (t : TypeId) : Option (Nat × TypeId) := match P.underlying t with
 | some (.array n e) => match Nat.beq (P.cellsOf e) 0 with
  | true => none
  | false => some (n, e)
 | _ => none
def J3 (P : Program) (t : TypeId) : Option (List SV) := match zeroCells P t with
 | some l => some l
 | none => match Jb P t with
  | some (n, e) => match Dy P e, P.info? t with
   | some ks, some i => match i.zero with
    | some z => Es (List.replicate n ks).flatten z.cells.toList
    | none => none
   | _, _ => none
  | none => none
def L3 : List Nat → Bool
 | [] => true
 | i :: l => match l.contains i with
  | true => false
  | false => L3 l
def Lx (ks : List Kn) (l : List C) : Bool := decide (l.map C.kind = ks)
def Ho (P : Program) (e : TypeId) : Option (List C) := match zeroCells P e, Dy P e with
 | some l, some ks => match St.toCs ⟨[], [], 0, 0⟩ l with
  | some cs => match Lx ks cs with
   | true => some cs
   | false => none
  | none => none
 | _, _ => none
def Gg (P : Program) (t : TypeId) (st : St) : List SV → List (Nat × Operand) → Option (List SV)
 | l, [] => some l
 | l, (j, x) :: rest => match field? P t j with
  | some f => match st.opdF P f.type x with
   | some vc => match Nat.beq vc.length (P.cellsOf f.type), Nat.ble (f.offset + vc.length) l.length with
    | true, true => Gg P t st (Jy l f.offset vc) rest
    | _, _ => none
   | none => none
  | none => none
def Gf (P : Program) (e : TypeId) (st : St) : List SV → List (Nat × Operand) → Option (List SV)
 | l, [] => some l
 | l, (j, x) :: rest => match st.opdF P e x with
  | some vc => match Nat.beq vc.length (P.cellsOf e), Nat.ble (j * P.cellsOf e + vc.length) l.length with
   | true, true => Gf P e st (Jy l (j * P.cellsOf e) vc) rest
   | _, _ => none
  | none => none
def Ir (P : Program) (e : TypeId) (st : St) (ks : List Kn) : List (List C) → List (Nat × Operand) → Option (List (List C) × List Nat)
 | l, [] => some (l, [])
 | l, (j, x) :: rest => match st.opdF P e x with
  | some vc => match st.toCs vc with
   | some cs => match Lx ks cs, Nat.blt j l.length with
    | true, true => match Ir P e st ks (l.set j cs) rest with
     | some (l', ids) => some (l', Cy vc ++ ids)
     | none => none
    | _, _ => none
   | none => none
  | none => none
def St.freeze (st : St) : List Nat → List (Nat × Option Ob)
 | [] => []
 | i :: l => match Aa st.ob i with
  | some (.arr e _ rows) => (i, some (.arr e true rows)) :: st.freeze l
  | _ => st.freeze l
def C6 (P : Program) (e : TypeId) (n : Nat) : Bool := decide (n * P.bytesOf e ≤ 70368744177664 ∧ n ≤ 70368744177664)
def St.rowOf (st : St) (e : TypeId) : SV → Option (List (List C) × List Nat)
 | .c (.nil _) => some ([], [])
 | .c (.row e' l) => match Nat.beq e' e with
  | true => some (l, [])
  | false => none
 | .arr i => match Aa st.ob i with
  | some (.arr e' _ rows) => match Nat.beq e' e with
   | true => some (rows, [i])
   | false => none
  | _ => none
 | .sub i lo n => match Aa st.ob i with
  | some (.arr e' _ rows) => match Nat.beq e' e with
   | true => some ((rows.drop lo).take n, [i])
   | false => none
  | _ => none
 | _ => none
def Fh (s : ByteArray) : List (List C) := s.data.toList.map fun b => [.int .u8 b.toNat]
def H6 (P : Program) (st : St) (t : TypeId) (a : Operand) : Option Up := match st.opd a with
 | some (.one (.ptr i off)) => match Aa st.ob i with
  | some (.box _ l) => match part P t l off with
   | some tv => some ⟨tv, [], [i]⟩
   | none => none
  | _ => none
 | some (.one (.ept i r off)) => match Aa st.ob i with
  | some (.arr e _ rows) => match Dy P e with
   | some ks => match part P t (Mz ks (rows.getD r [])) off with
    | some tv => some ⟨tv, [], [i]⟩
    | none => none
   | none => none
  | _ => none
 | some (.one (.rop e l off)) => match Dy P e with
  | some ks => match part P t (Mz ks l) off with
   | some tv => some (.val tv)
   | none => none
  | none => none
 | _ => none
def Kv (P : Program) (st : St) (t : TypeId) (a x : Operand) : Option Up := match st.opd a with
 | some (.one (.ptr i off)) => match Aa st.ob i with
  | some (.box u l) => match st.opdF P t x with
   | some vc => match Nat.beq vc.length (P.cellsOf t), Nat.ble (off + vc.length) l.length, Nat.beq vc.length 0 with
    | true, true, false => some ⟨.tup [], [(i, some (.box u (Jy l off vc)))], [i]⟩
    | _, _, _ => none
   | none => none
  | _ => none
 | some (.one (.ept i r off)) => match Aa st.ob i with
  | some (.arr e false rows) => match Dy P e with
   | some ks => match st.opdF P t x with
    | some vc => match st.toCs vc with
     | some cs => match Nat.beq cs.length (P.cellsOf t), Lx ((ks.drop off).take cs.length) cs, (Cy vc).contains i, L3 (Cy vc) with
      | true, true, false, true => match Nat.beq cs.length 0 with
       | true => none
       | false => some ⟨.tup [], st.freeze (Cy vc) ++ [(i, some (.arr e false (rows.set r (Gi (rows.getD r []) off cs))))], i :: Cy vc⟩
      | _, _, _, _ => none
     | none => none
    | none => none
   | none => none
  | _ => none
 | _ => none
section
variable {Ω : Type} (K : Up → Option Ω)
def Jx (e : TypeId) (n : Int) : Nat → List (List C) → Option Ω
 | _, [] => none
 | i, r :: l => match decide (n = (i : Int)) with
  | true => K (.val (.one (.rop e r 0)))
  | false => Jx e n (i + 1) l
def Jr (P : Program) (st : St) (t : TypeId) (x j : Operand) : Option Ω := match st.opd x, st.opdInt j with
 | some (.one (.c (.row e l))), some n => match Ej P t e, Dy P e with
  | true, some ks => match ks.any Kn.isFn with
   | true => Jx K e n 0 l
   | false => match decide (0 ≤ n) with
    | true => match decide (n < l.length) with
     | true => K (.val (.one (.rop e (l.getD n.toNat []) 0)))
     | false => none
    | false => none
  | _, _ => none
 | some (.one (.arr i)), some n => match Aa st.ob i with
  | some (.arr e _ rows) => match Ej P t e with
   | true => match decide (0 ≤ n) with
    | true => match decide (n < rows.length) with
     | true => K ⟨.one (.ept i n.toNat 0), [], [i]⟩
     | false => none
    | false => none
   | false => none
  | _ => none
 | some (.one (.sub i lo m)), some n => match Aa st.ob i with
  | some (.arr e _ _) => match Ej P t e with
   | true => match decide (0 ≤ n) with
    | true => match decide (n < m) with
     | true => K ⟨.one (.ept i (lo + n.toNat) 0), [], [i]⟩
     | false => none
    | false => none
   | false => none
  | _ => none
 | _, _ => none
end
def Ks (P : Program) (st : St) (t : TypeId) (x : Operand) (j : Nat) : Option Up := match field? P t j with
 | some f => match Nat.beq (P.cellsOf f.type) 0, st.opd x with
  | false, some (.one (.ptr i off)) => match Aa st.ob i with
   | some (.box _ _) => some ⟨.one (.ptr i (off + f.offset)), [], [i]⟩
   | _ => none
  | false, some (.one (.ept i r off)) => match Aa st.ob i with
   | some (.arr _ _ _) => some ⟨.one (.ept i r (off + f.offset)), [], [i]⟩
   | _ => none
  | false, some (.one (.rop e l off)) => some (.val (.one (.rop e l (off + f.offset))))
  | _, _ => none
 | none => none
def Kr (P : Program) (st : St) (t : TypeId) (x : Operand) (j : Nat) : Option Up := match field? P t j with
 | some f => match st.opd x with
  | some (.agg l) => match part P f.type l f.offset with
   | some tv => some (.val tv)
   | none => none
  | _ => none
 | none => none
def E4 (st : St) (x : Option Operand) (d : Int) : Option Int := match x with
 | none => some d
 | some x => st.opdInt x
section
variable {Ω : Type} (K : Up → Option Ω)
def inB (a b n : Int) (k : Option Ω) : Option Ω := match decide (0 ≤ b) with
 | true => match decide (b ≤ n) with
  | true => match decide (0 ≤ a) with
   | true => match decide (a ≤ b) with
    | true => k
    | false => none
   | false => none
  | false => none
 | false => none
def Jt (P : Program) (st : St) (t : TypeId) (x : Operand) (lo hi : Option Operand) : Option Ω := match st.opd x with
 | some (.one (.c (.str s))) => match G1 P t, E4 st lo 0, E4 st hi s.size with
  | true, some a, some b => inB a b s.size (K (.val (.one (.c (.str (s.extract a.toNat b.toNat))))))
  | _, _, _ => none
 | some (.one (.c (.nil e))) => match Ej P t e, E4 st lo 0, E4 st hi 0 with
  | true, some a, some b => inB a b 0 (K (.val (.one (.c (.nil e)))))
  | _, _, _ => none
 | some (.one (.c (.row e l))) => match Ej P t e, E4 st lo 0, E4 st hi l.length with
  | true, some a, some b => inB a b l.length (K (.val (.one (.c (.row e ((l.take b.toNat).drop a.toNat))))))
  | _, _, _ => none
 | some (.one (.arr i)) => match Aa st.ob i with
  | some (.arr e _ rows) => match Ej P t e, E4 st lo 0, E4 st hi rows.length with
   | true, some a, some b => inB a b rows.length (K ⟨.one (.sub i a.toNat (b.toNat - a.toNat)), [], [i]⟩)
   | _, _, _ => none
  | _ => none
 | some (.one (.sub i l0 m)) => match Aa st.ob i with
  | some (.arr e _ _) => match Ej P t e, E4 st lo 0, E4 st hi m with
   | true, some a, some b => inB a b m (K ⟨.one (.sub i (l0 + a.toNat) (b.toNat - a.toNat)), [], [i]⟩)
   | _, _, _ => none
  | _ => none
 | _ => none
def Jw (P : Program) (e : TypeId) (n : Int) (l : List SV) : Nat → Nat → Option Ω
 | _, 0 => none
 | i, m + 1 => match decide (n = (i : Int)) with
  | true => match part P e l (i * P.cellsOf e) with
   | some tv => K (.val tv)
   | none => none
  | false => Jw P e n l (i + 1) m
def Jq (P : Program) (st : St) (t : TypeId) (x j : Operand) : Option Ω := match st.opd x, st.opdInt j with
 | some (.agg l), some n => match Jb P t with
  | some (len, e) => Jw K P e n l 0 len
  | none => none
 | some (.one (.c (.str s))), some n => match G1 P t with
  | true => match decide (0 ≤ n) with
   | true => match decide (n < s.size) with
    | true => K (.val (.one (.c (.int .u8 (s.data.getD n.toNat 0).toNat))))
    | false => none
   | false => none
  | false => none
 | _, _ => none
end
def Kt (P : Program) (st : St) (t : TypeId) (x : Operand) : Option Up := match st.opd x with
 | some (.one (.c (.str s))) => match G1 P t with
  | true => some (.val (.one (.c (.int .i64 s.size))))
  | false => none
 | some (.one (.c (.nil e))) => match Ej P t e with
  | true => some (.val (.one (.c (.int .i64 0))))
  | false => none
 | some (.one (.c (.row e l))) => match Ej P t e with
  | true => some (.val (.one (.c (.int .i64 l.length))))
  | false => none
 | some (.one (.arr i)) => match Aa st.ob i with
  | some (.arr e _ rows) => match Ej P t e with
   | true => some ⟨.one (.c (.int .i64 rows.length)), [], [i]⟩
   | false => none
  | _ => none
 | some (.one (.sub i _ n)) => match Aa st.ob i with
  | some (.arr e _ _) => match Ej P t e with
   | true => some ⟨.one (.c (.int .i64 n)), [], [i]⟩
   | false => none
  | _ => none
 | _ => none
section
variable {Ω : Type} (K : Up → Option Ω)
def Ha (P : Program) (st : St) (e t2 : TypeId) (x : Operand) : Option (List (List C) × List Nat) := match st.opdT P t2 x with
 | some (.one (.c (.str z))) => match G1 P t2, decide (Dy P e = some [.int .u8]) with
  | true, true => some (Fh z, [])
  | _, _ => none
 | some (.one v) => match Ej P t2 e with
  | true => st.rowOf e v
  | false => none
 | _ => none
def H4 (P : Program) (st : St) (id : Nat) (t t2 : TypeId) (s x : Operand) : Option Ω :=
 match Ej P t (D6 P t), Ho P (D6 P t), Ha P st (D6 P t) t2 x with
 | true, some _, some (new, ids) => match st.opdT P t s with
  | some (.one (.c (.nil _))) => match C6 P (D6 P t) new.length with
   | true => K ⟨.one (.arr id), [(id, some (.arr (D6 P t) false new))], ids⟩
   | false => none
  | some (.one (.arr i)) => match Aa st.ob i with
   | some (.arr e' fz rows) => match Nat.beq (D6 P t) e' with
    | true => match C6 P e' (rows.length + new.length) with
     | true => K ⟨.one (.arr id), [(i, none), (id, some (.arr e' fz (rows ++ new)))], i :: ids⟩
     | false => none
    | false => none
   | _ => none
  | some (.one (.sub i lo n)) => match Aa st.ob i with
   | some (.arr e' false rows) => match Nat.beq (D6 P t) e' with
    | true => match C6 P e' (n + new.length) with
     | true => K ⟨.one (.arr id), [(i, none), (id, some (.arr e' false ((rows.drop lo).take n ++ new)))], i :: ids⟩
     | false => none
    | false => none
   | _ => none
  | _ => none
 | _, _, _ => none
def Js (P : Program) (st : St) (id : Nat) (t : TypeId) (l c : Operand) : Option Ω := match st.opdInt l, st.opdInt c with
 | some n, some m => match Ho P (D6 P t) with
  | some z => match decide (0 ≤ n) with
   | true => match decide (n ≤ m) with
    | true => match C6 P (D6 P t) m.toNat, Ej P t (D6 P t) with
     | true, true => K ⟨.one (.arr id), [(id, some (.arr (D6 P t) false (List.replicate n.toNat z)))], []⟩
     | _, _ => none
    | false => none
   | false => none
  | none => none
 | _, _ => none
end
def Kq (P : Program) (st : St) (id : Nat) (t : TypeId) (len : Nat) (parts : List (Nat × Operand)) : Option Up :=
 match Ho P (D6 P t), Dy P (D6 P t) with
 | some z, some ks => match Ir P (D6 P t) st ks (List.replicate len z) parts with
  | some (rows, ids) => match Nat.ble (len * P.cellsOf (D6 P t)) 16777216, Ej P t (D6 P t) with
   | true, true => some ⟨.one (.arr id), st.freeze ids ++ [(id, some (.arr (D6 P t) false rows))], ids⟩
   | _, _ => none
  | none => none
 | _, _ => none
def Jh (P : Program) (t : TypeId) : Option Kn := match P.underlying t with
 | some (.int k) => some (.int k)
 | some .bool => some .bool
 | some .string => some .str
 | _ => none
def Nf (P : Program) : Nat → List Field → Option (List Kn)
 | _, [] => some []
 | j, f :: l => match Jh P f.type, Nf P (j + 1) l with
  | some k, some ks => match Nat.beq f.offset j, decide (f.name = "_") with
   | true, false => some (k :: ks)
   | _, _ => none
  | _, _ => none
def Ng (P : Program) (t : TypeId) : Option (List Kn) := match P.underlying t with
 | some (.struct fs) => match P.stoodInHeld t, P.eqGuardType P.depth t with
  | false, false => Nf P 0 fs.toList
  | _, _ => none
 | _ => none
def eq1 : Kn → SV → SV → Option Bool
 | .int k, .c (.int k1 a), .c (.int k2 b) => match decide (k1 = k), decide (k2 = k) with
  | true, true => some (a == b)
  | _, _ => none
 | .bool, .c (.bool a), .c (.bool b) => some (a == b)
 | .str, .c (.str a), .c (.str b) => some (a == b)
 | _, _, _ => none
def Ls : List Kn → List SV → List SV → Option Bool
 | [], [], [] => some true
 | k :: ks, a :: l, b :: m => match eq1 k a b, Ls ks l m with
  | some z, some r => some (z && r)
  | _, _ => none
 | _, _, _ => none
def Hz (P : Program) (st : St) (o : Oper) : Option Bool := match o.op with
 | .binOp _ t x y _ => match st.opd x, st.opd y with
  | some (.agg a), some (.agg b) => match Ng P t with
   | some ks => Ls ks a b
   | none => none
  | _, _ => none
 | _ => none
section
variable {Ω : Type} (K : Up → Option Ω)
def D4 (u : Option Up) : Option Ω := match u with
 | some u => (let _ := Up.val; K u)  
 | none => none
def two (st : St) (x y : Operand) (f : IntKind → IntKind → Int → Int → Option Ω) : Option Ω := match st.opd x, st.opd y with
 | some (.one (.c (.int k a))), some (.one (.c (.int k' b))) => f k k' a b
 | _, _ => none
def Qj (st : St) (x y : Operand) : Option (ByteArray × ByteArray) := match st.opd x, st.opd y with
 | some (.one (.c (.str a))), some (.one (.c (.str b))) => some (a, b)
 | _, _ => none
def G4 (P : Program) (st : St) (o : Oper) (op : BinOp) (x y : Operand) : Option Ω := match op with
 | .quo => two st x y fun k k' a b => match decide (k = k') with
  | true => match decide (b = 0) with
   | false => K (.val (.one (.c (.int k (k.wrap (a.tdiv b))))))
   | true => none
  | false => none
 | .rem => two st x y fun k k' a b => match decide (k = k') with
  | true => match decide (b = 0) with
   | false => K (.val (.one (.c (.int k (a.tmod b)))))
   | true => none
  | false => none
 | .shl => two st x y fun k _ a b => match decide (b < 0) with
   | false => K (.val (.one (.c (.int k (k.wrap (a * 2 ^ (min b.toNat k.bits)))))))
   | true => none
 | .shr => two st x y fun k _ a b => match decide (b < 0) with
   | false => K (.val (.one (.c (.int k (a.fdiv (2 ^ (min b.toNat k.bits)))))))
   | true => none
 | .add => match Qj st x y with
  | some (a, b) => match decide (a.size + b.size ≤ 4611686018427387904) with
   | true => K (.val (.one (.c (.str (a ++ b)))))
   | false => none
  | none => D4 K (Ek P st o)
 | .eql => match Hz P st o with
  | some z => K (.val (.one (.c (.bool z))))
  | none => D4 K (Ek P st o)
 | .neq => match Hz P st o with
  | some z => K (.val (.one (.c (.bool (!z)))))
  | none => D4 K (Ek P st o)
 | _ => D4 K (Ek P st o)
end
def Er (s : ByteArray) : Nat → Nat → List Int
 | 0, _ => []
 | b + 1, i => if i < s.size then ((Utf8.decode s i).1 : Int) :: Er s b (i + (Utf8.decode s i).2) else []
def E7 (s : ByteArray) : List (List C) := (Er s s.size 0).map fun n => [.int .i32 n]
def Ee (l : List (List C)) : ByteArray := ⟨(l.map fun r => UInt8.ofNat (r.headD default).it.toNat).toArray⟩
section
variable {Ω : Type} (K : Up → Option Ω)
def H5 (P : Program) (st : St) (o : Oper) (src dst : TypeId) (x : Operand) : Option Ω := match st.opd x with
 | some (.one (.c (.str s))) => match P.underlying dst with
  | some (.slice e) => match P.underlying e, G1 P src, decide (Dy P e = some [.int .u8]), decide (Dy P e = some [.int .i32]) with
   | some (.int .u8), true, true, _ => match C6 P e s.size with
    | true => K (.val (.one (.c (.row e (Fh s)))))
    | false => none
   | some (.int .i32), true, _, true => match C6 P e s.size with
    | true => K (.val (.one (.c (.row e (E7 s)))))
    | false => none
   | _, _, _, _ => none
  | _ => D4 K (Ek P st o)
 | some (.one v) => match P.underlying dst, P.underlying src with
  | some .string, some (.slice e) => match P.underlying e, decide (Dy P e = some [.int .u8]) with
   | some (.int .u8), true => match st.rowOf e v with
    | some (rows, ids) => K ⟨.one (.c (.str (Ee rows))), [], ids⟩
    | none => none
   | _, _ => none
  | _, _ => D4 K (Ek P st o)
 | _ => D4 K (Ek P st o)
end
def okE (P : Program) (e : TypeId) : Bool := match Dy P e with
 | some _ => match Nat.beq (P.cellsOf e) 0 with
  | true => false
  | false => true
 | none => false
def Fm (P : Program) (st : St) : SV → Option (BC × List Nat × List Nat)  
 | .c (.nil e) => match okE P e with
  | true => some (.own e [], [], [])
  | false => none
 | .c x => some (.d x, [], [])
 | .arr i => match Aa st.ob i with
  | some (.arr e false rows) => some (.own e rows, [i], [])
  | some (.arr e true rows) => some (.d (.row e rows), [], [i])
  | _ => none
 | .sub i lo n => match Aa st.ob i with
  | some (.arr e _ rows) => some (.d (.row e ((rows.drop lo).take n)), [], [i])
  | _ => none
 | _ => none
def Ht (P : Program) (st : St) : List SV → Option (List BC × List Nat × List Nat)
 | [] => some ([], [], [])
 | v :: l => match Fm P st v with
  | some (b, m, n) => match Ht P st l with
   | some (bs, ms, ns) => some (b :: bs, m ++ ms, n ++ ns)
   | none => none
  | none => none
structure D3 where
 a : List Arg
 boxes : List Nat
 moved : List Nat
 lent : List Nat
def En (P : Program) (st : St) : TV → Option D3
 | .one (.ptr i off) => match Aa st.ob i with
  | some (.box t l) => match Ht P st l with
   | some (bs, ms, ns) => some ⟨[.ref t bs off], [i], ms, ns⟩
   | none => none
  | _ => none
 | .one (.rop e l off) => some ⟨[.rop e l off], [], [], []⟩
 | .one v => match st.toC v with
  | some x => some ⟨[.v (.one (.c x.canon))], [], [], v.ids⟩
  | none => none
 | .agg l => match st.toCs l with
  | some cs => some ⟨[.v (.agg (cs.map fun x => .c x.canon))], [], [], Cy l⟩
  | none => none
 | .tup _ => none
 | .fn g => some ⟨[.fn g], [], [], []⟩
 | .fnp g fst i off => match Aa st.ob i with
  | some (.box t l) => match st.toCs l, Dy P t with
   | some cs, some ks => match Lx ks (cs.map C.canon) with
    | true => some ⟨[.fnr g fst t (cs.map C.canon) off], [], [], i :: Cy l⟩
    | false => none
   | _, _ => none
  | _ => none
 | .fnr g fst e l off => some ⟨[.fnr g fst e l off], [], [], []⟩
 | .itr _ => none
def Xr (np : Nat) (ops : List Oper) : List Nat := ops.flatMap fun o => match o.op with
 | .call c => match c.callee, c.args.toList with
  | .builtin .append, .tmp t :: _ => match Nat.blt t np with
   | true => [t]
   | false => ops.flatMap fun o' => match o'.dst, o'.op with
    | some t', .move (.tmp p) => match Nat.beq t' t, Nat.blt p np with
     | true, true => [p]
     | _, _ => []
    | _, _ => []
  | _, _ => []
 | _ => []
def Code.apps (np : Nat) : Code → List Nat
 | .region _ ops _ => Xr np ops.toList
 | .seq a b => Code.apps np a ++ Code.apps np b
 | .cond _ a b => Code.apps np a ++ Code.apps np b
 | .block _ c => Code.apps np c
 | .scope c => Code.apps np c
 | .loop c => Code.apps np c
 | _ => []
def Uk (P : Program) (f : FuncId) : List Nat := match P.funcs[f]? with
 | some fn => match fn.body with
  | some c => Code.apps fn.params.size c
  | none => []
 | none => []
def Gv (P : Program) (st : St) (v : SV) : Option D3 := match Fm P st v with
 | some (.own e rows, ms, ns) => some ⟨[.mv e rows], [], ms, ns⟩
 | _ => En P st (.one v)
def Il (P : Program) (st : St) (f : FuncId) (j : Nat) (tv : TV) : Option D3 := match tv with
 | .one (.arr i) => match (Uk P f).contains j with
  | true => Gv P st (.arr i)
  | false => En P st (.one (.arr i))
 | .one (.c (.nil e)) => match (Uk P f).contains j with
  | true => Gv P st (.c (.nil e))
  | false => En P st (.one (.c (.nil e)))
 | t => En P st t
def D3.app (a b : D3) : D3 := ⟨a.a ++ b.a, a.boxes ++ b.boxes, a.moved ++ b.moved, a.lent ++ b.lent⟩
def Ge (P : Program) (st : St) (f : FuncId) : Nat → List Operand → List TypeId → Option D3
 | _, [], _ => some ⟨[], [], [], []⟩
 | j, x :: l, ts => match st.opdT P (ts.headD 0) x with
  | some tv => match Il P st f j tv with
   | some a => match Ge P st f (j + 1) l ts.tail with
    | some b => some ⟨a.a ++ b.a, a.boxes ++ b.boxes, a.moved ++ b.moved, a.lent ++ b.lent⟩
    | none => none
   | none => none
  | none => none
def Ja (l m : List Nat) : Bool := l.all fun i => match m.contains i with
 | true => false
 | false => true
def Kn.isRow : Kn → Bool
 | .row _ => true
 | _ => false
def BC.isRow (P : Program) : BC → Bool
 | .d (.row _ _) => true
 | .d _ => false
 | .own e _ => match Dy P e with
  | some ks => ks.any Kn.isRow
  | none => true
mutual
def BT.hasRow (P : Program) : BT → Bool
 | .one b => b.isRow P
 | .agg l => l.any (BC.isRow P)
 | .tup l => BT.hasRows P l
def BT.hasRows (P : Program) : List BT → Bool
 | [] => false
 | b :: l => b.hasRow P || BT.hasRows P l
end
def Ei (id : Nat) : List BC → List SV × List (Nat × Option Ob) × Nat
 | [] => ([], [], id)
 | .d x :: l => match Ei id l with
  | (vs, obs, n) => (.c x :: vs, obs, n)
 | .own e rows :: l => match Ei (id + 1) l with
  | (vs, obs, n) => (.arr id :: vs, (id, some (.arr e false rows)) :: obs, n)
def Fw (id : Nat) : BT → TV × List (Nat × Option Ob) × Nat
 | .one b => match Ei id [b] with
  | (v :: _, obs, n) => (.one v, obs, n)
  | ([], obs, n) => (.tup [], obs, n)
 | .agg l => match Ei id l with
  | (vs, obs, n) => (.agg vs, obs, n)
 | .tup _ => (.tup [], [], id)
def Gn (id : Nat) : List BT → List TV × List (Nat × Option Ob) × Nat
 | [] => ([], [], id)
 | b :: l => match Fw id b with
  | (v, obs, n) => match Gn n l with
   | (vs, obs2, m) => (v :: vs, obs ++ obs2, m)
def J5 (id : Nat) : BT → TV × List (Nat × Option Ob) × Nat
 | .tup l => match Gn id l with
  | (vs, obs, n) => (.tup vs, obs, n)
 | b => Fw id b
def Ez (st : St) (id : Nat) : List Nat → List (List BC) → Option (List (Nat × Option Ob) × Nat)
 | [], [] => some ([], id)
 | i :: is, l :: ls => match Aa st.ob i with
  | some (.box t _) => match Ei id l with
   | (vs, obs, n) => match Ez st n is ls with
    | some (r, m) => some ((i, some (.box t vs)) :: obs ++ r, m)
    | none => none
  | _ => none
 | _, _ => none
def E5 (P : Program) (st : St) (A : D3) (R : Res) : List (Nat × Option Ob) := match A.lent with
 | [] => []
 | i :: l => match R.r.hasRow P || R.refs.any (fun l => l.any (BC.isRow P)) with
  | true => st.freeze (i :: l)
  | false => []
def He (P : Program) (st : St) (A : D3) (R : Res) : Bool := match R.r.hasRow P || R.refs.any (fun l => l.any (BC.isRow P)) with
 | true => A.lent.all fun i => match Aa st.ob i with
  | some (.box _ _) => false
  | some (.iter _ _) => false
  | some (.mp _ _ _) => false
  | _ => true
 | false => true
def Ii (P : Program) (st : St) (id : Nat) (A : D3) (R : Res) : Option Up := match J5 id R.r with
 | (tv, obs, n) => match Ez st n A.boxes R.refs with
  | some (obs2, m) => match Nat.ble m (id + 127) with
   | true => some ⟨tv, A.moved.map (fun i => (i, none)) ++ E5 P st A R ++ obs ++ obs2, A.boxes ++ A.moved ++ A.lent⟩
   | false => none
  | none => none
section
variable {Ω : Type} (K : Up → Option Ω)
def Gh (P : Program) (call : FuncId → List Arg → (Res → Option Ω) → Option Ω) (st : St) (id : Nat) (f : FuncId) (A : D3) : Option Ω :=
 match L3 (A.boxes ++ A.moved), Ja (A.boxes ++ A.moved) A.lent with
 | true, true => call f A.a fun R => match He P st A R with
  | true => D4 K (Ii P st id A R)
  | false => none
 | _, _ => none
def G5 (P : Program) (call : FuncId → List Arg → (Res → Option Ω) → Option Ω) (st : St) (id : Nat) (f : FuncId) (xs : List Operand) (ts : List TypeId) : Option Ω :=
 match Ge P st f 0 xs ts with
 | some A => Gh K P call st id f A
 | none => none
def Hf (P : Program) (call : FuncId → List Arg → (Res → Option Ω) → Option Ω) (st : St) (id : Nat) (f : FuncId) (fst : Bool) (tv : TV) (xs : List Operand) (ts : List TypeId) : Option Ω :=
 match En P st tv with
 | some B => match Ge P st f 1000000 xs ts with
  | some A => match fst with
   | true => Gh K P call st id f (B.app A)
   | false => Gh K P call st id f (A.app B)
  | none => none
 | none => none
end
def In {Ω : Type} (P : Program) (call : FuncId → List Arg → (Res → Option Ω) → Option Ω) (st : St) (id : Nat) (o : Oper) (c : Call) (K : Up → Option Ω) : Option Ω :=
 match c.callee with
 | .builtin .len => match c.args.toList, c.argTypes.toList with
  | [x], [t] => D4 K (Kt P st t x)
  | _, _ => none
 | .builtin .append => match c.args.toList, c.argTypes.toList with
  | [s, x], [t, t2] => H4 K P st id t t2 s x
  | _, _ => none
 | .builtin .min => D4 K (Ek P st o)
 | .builtin .max => D4 K (Ek P st o)
 | .value (.func f) => G5 K P call st id f c.args.toList c.argTypes.toList
 | .value (.tmp t) => match Aa st.tm t with
  | some (.fn g) => G5 K P call st id g c.args.toList c.argTypes.toList
  | some (.fnp g fst i off) => Hf K P call st id g fst (.one (.ptr i off)) c.args.toList c.argTypes.toList
  | some (.fnr g fst e l off) => Hf K P call st id g fst (.one (.rop e l off)) c.args.toList c.argTypes.toList
  | some (.one (.c (.fn (some g)))) => G5 K P call st id g c.args.toList c.argTypes.toList
  | _ => none
 | _ => none
def Ns {Ω : Type} (K : Up → Option Ω) (st : St) (fn : Fn) (first captured : List Operand) : Option Ω := match fn, first, captured with
 | .func g, [], [] => K (.val (.fn g))
 | .func g, [x], [] => match st.opd x with
  | some (.one (.ptr i off)) => K (.val (.fnp g true i off))
  | some (.one (.rop e l off)) => K (.val (.fnr g true e l off))
  | _ => none
 | .func g, [], [x] => match st.opd x with
  | some (.one (.ptr i off)) => K (.val (.fnp g false i off))
  | some (.one (.rop e l off)) => K (.val (.fnr g false e l off))
  | _ => none
 | _, _, _ => none
def L8 {Ω : Type} (K : Up → Option Ω) (P : Program) (st : St) (id : Nat) (t : TypeId) (x : Operand) : Option Ω := match st.opd x, G1 P t with
 | some (.one (.c (.str s))), true => K ⟨.itr id, [(id, some (.iter s 0))], []⟩
 | _, _ => none
def L7 {Ω : Type} (K : Up → Option Ω) (st : St) (x : Operand) : Option Ω := match st.opd x with
 | some (.itr i) => match Aa st.ob i with
  | some (.iter s pos) => match decide (pos < s.size) with
   | true => K ⟨.tup [.one (.c (.bool true)), .one (.c (.int .i64 pos)), .one (.c (.int .i32 (Utf8.decode s pos).1))], [(i, some (.iter s (pos + (Utf8.decode s pos).2)))], [i]⟩
   | false => K ⟨.tup [.one (.c (.bool false))], [], [i]⟩
  | _ => none
 | _ => none
def Mo (P : Program) : Nat → List Field → Bool
 | _, [] => true
 | j, f :: l => G1 P f.type && Nat.beq f.offset j && Nat.beq (P.cellsOf f.type) 1 && f.name != "_" && Mo P (j + 1) l
def Ww (P : Program) (e : TypeId) : Bool := match P.info? e with
 | some i => match i.zero with
  | some (.bool false) => true
  | _ => false
 | none => false
def Ko (P : Program) (k e : TypeId) : Option Nat := match P.underlying k with
 | some (.struct fs) => match Mo P 0 fs.toList && Nat.beq (P.cellsOf k) fs.size && Nat.blt 0 P.types.size && P.keyTypeAt 3 k && P.keyType k && P.tiled 3 k with
  | true => match Ww P e with
   | true => some fs.size
   | false => none
  | false => none
 | _ => none
def Ki : List C → List ByteArray → Bool
 | _, [] => true
 | .str a :: r, b :: kc => (a == b) && Ki r kc
 | _, _ => false
def G2 : List (List C) → List ByteArray → Bool
 | [], _ => false
 | r :: l, kc => match Ki r kc with
  | true => ((r.drop kc.length).headD default).bl
  | false => G2 l kc
def K9 : List SV → Option (List ByteArray)
 | [] => some []
 | .c (.str s) :: l => match K9 l with
  | some r => some (s :: r)
  | none => none
 | _ => none
def Nt {Ω : Type} (K : Up → Option Ω) (P : Program) (id : Nat) (t : TypeId) : Option Ω := match P.underlying t with
 | some (.map k e) => match Ko P k e with
  | some _ => K ⟨.itr id, [(id, some (.mp k e []))], []⟩
  | none => K (.val (.itr id))
 | _ => K (.val (.itr id))
def Iv {Ω : Type} (X : Option Ω) : List ByteArray → Option Ω
 | [] => X
 | s :: l => match decide (s.size ≤ 70368744177664) with
  | true => Iv X l
  | false => none
def Jn (P : Program) (st : St) (t : TypeId) (x ix : Operand) : Option (Nat × TypeId × TypeId × List (List C) × List ByteArray) := match st.opd x with
 | some (.itr i) => match Aa st.ob i, P.underlying t with
  | some (.mp k e rows), some (.map k' e') => match Nat.beq k k', Nat.beq e e', st.opd ix with
   | true, true, some (.agg l) => match K9 l, Ko P k e with
    | some kc, some n => match Nat.beq kc.length n with
     | true => some (i, k, e, rows, kc)
     | false => none
    | _, _ => none
   | _, _, _ => none
  | _, _ => none
 | _ => none
def L5 {Ω : Type} (K : Up → Option Ω) (P : Program) (st : St) (t : TypeId) (x ix : Operand) : Option Ω := match Jn P st t x ix with
 | some (i, _, _, rows, kc) => Iv (K ⟨.one (.c (.bool (G2 rows kc))), [], [i]⟩) kc
 | none => none
def L6 {Ω : Type} (K : Up → Option Ω) (P : Program) (st : St) (t : TypeId) (x ix v : Operand) : Option Ω := match Jn P st t x ix with
 | some (i, k, e, rows, kc) => match st.opd v with
  | some (.one (.c (.bool b))) => Iv (K ⟨.tup [], [(i, some (.mp k e ((kc.map C.str ++ [.bool b]) :: rows)))], [i]⟩) kc
  | _ => none
 | none => none
def I6 {Ω : Type} (P : Program) (call : FuncId → List Arg → (Res → Option Ω) → Option Ω) (st : St) (id : Nat) (o : Oper) (K : Up → Option Ω) : Option Ω :=
 match o.op with
 | .move x => match st.opdT P o.type x with
  | some v => K (.val v)
  | none => none
 | .assign x => match st.opdT P o.type x with
  | some v => K (.val v)
  | none => none
 | .pick c a b => match st.opd c with
  | some (.one (.c (.bool z))) => match z with
   | true => match st.opdT P o.type a with
    | some v => K (.val v)
    | none => none
   | false => match st.opdT P o.type b with
    | some v => K (.val v)
    | none => none
  | _ => none
 | .alloc t => match J3 P t with
  | some l => K ⟨.one (.ptr id 0), [(id, some (.box t l))], []⟩
  | none => none
 | .box t x => match st.opdF P t x with
  | some vc => K ⟨.one (.ptr id 0), [(id, some (.box t vc))], []⟩
  | none => none
 | .build t parts => match J3 P t, Pj P t with
  | some l, true => match Gg P t st l parts.toList with
   | some l => K (.val (.agg l))
   | none => none
  | some l, false => match Jb P t with
   | some (_, e) => match Gf P e st l parts.toList with
    | some l => K (.val (.agg l))
    | none => none
   | none => none
  | _, _ => none
 | .buildSlice t len parts => D4 K (Kq P st id t len parts.toList)
 | .load t a => D4 K (H6 P st t a)
 | .store t a x => D4 K (Kv P st t a x)
 | .indexAddr t x j => Jr K P st t x j
 | .fieldAddr t x j => D4 K (Ks P st t x j)
 | .field t x j => D4 K (Kr P st t x j)
 | .slice t x lo hi none => Jt K P st t x lo hi
 | .index t x j => Jq K P st t x j
 | .makeSlice t l c => Js K P st id t l c
 | .extract t j => match st.opd t with
  | some (.tup l) => match l.drop j with
   | v :: _ => K (.val v)
   | [] => none
  | _ => none
 | .nilCheck x => match st.opd x with
  | some (.one (.ptr i off)) => match Aa st.ob i with
   | some (.box _ _) => K ⟨.one (.ptr i off), [], [i]⟩
   | _ => none
  | some (.fn g) => K (.val (.fn g))
  | some (.fnp g fst i off) => K (.val (.fnp g fst i off))
  | some (.fnr g fst e l off) => K (.val (.fnr g fst e l off))
  | some (.one (.rop e l off)) => K (.val (.one (.rop e l off)))
  | _ => none
 | .binOp op _ x y _ => G4 K P st o op x y
 | .call c => In P call st id o c K
 | .unOp .. => D4 K (Ek P st o)
 | .convert src dst x => H5 K P st o src dst x
 | .makeFunc fn first captured => Ns K st fn first.toList captured.toList
 | .range t x => L8 K P st id t x
 | .next x true => L7 K st x
 | .makeMap t none => Nt K P id t
 | .lookup t x ix false => L5 K P st t x ix
 | .mapUpdate t m k x => L6 K P st t m k x
 | _ => none
def step (P : Program) (call : FuncId → List Arg → Option Res) (st : St) (id : Nat) (o : Oper) : Option Up :=
 I6 P (fun f a K => match call f a with | some R => K R | none => none) st id o some
def Am (l : List (Nat × Ob)) : List (Nat × Option Ob) → List (Nat × Ob)
 | [] => l
 | (i, some x) :: r => Am (put l i x) r
 | (i, none) :: r => Am (del l i) r
def St.up (st : St) (dst : Option Nat) (u : Up) : St :=
 ⟨match dst with
  | some d => match Nat.blt d st.nt with
   | true => put st.tm d u.tv
   | false => st.tm
  | none => st.tm, Am st.ob u.ob, st.base, st.nt⟩
def Og {Ω : Type} (ops : Array Oper) (st : St) (o : Oper) (K : Bool → St → Option Ω) : Option Ω := match o.guard with
 | none => K true st
 | some (j, want) => match (ops[j]?).bind (·.dst) with
  | some d => match Aa st.tm d with
   | some (.one (.c (.bool b))) => match b with
    | true => K want ⟨put st.tm d (.one (.c (.bool true))), st.ob, st.base, st.nt⟩
    | false => K (!want) ⟨put st.tm d (.one (.c (.bool false))), st.ob, st.base, st.nt⟩
   | some (.tup []) => K false st
   | _ => none
  | none => none
def wanted (ops : Array Oper) (st : St) (o : Oper) : Option Bool := match o.guard with
 | none => some true
 | some (j, want) => match (ops[j]?).bind (·.dst) with
  | some d => match Aa st.tm d with
   | some (.one (.c (.bool b))) => some (match b with
    | true => want
    | false => !want)
   | some (.tup []) => some false
   | _ => none
  | none => none
def G8 : TV := .tup []
structure Met where
 i : Nat
 rt : List Nat
 wt : List Nat
 ro : List Nat
 wo : List Nat
def Lc : List Operand → List Nat
 | [] => []
 | .tmp t :: l => t :: Lc l
 | _ :: l => Lc l
def Pe (ops : Array Oper) (o : Oper) : List Nat := match o.guard with
 | none => []
 | some (j, _) => match (ops[j]?).bind (·.dst) with
  | some d => [d]
  | none => []
def Eq (ops : Array Oper) (i : Nat) (o : Oper) (u : Up) : Met :=
 ⟨i, Pe ops o ++ Lc o.op.operands.toList, o.dst.toList, u.rd, u.ob.map (·.1)⟩
def Met.apart (a b : Met) : Bool := Ja a.wt (b.rt ++ b.wt) && Ja a.rt b.wt && Ja a.wo (b.ro ++ b.wo) && Ja a.ro b.wo
def Lh (before : Array Nat) : List Met → Bool
 | [] => true
 | m :: l => l.all (fun x => (before.getD x.i 0).testBit m.i || m.apart x) && Lh before l
def J7 : Nat → List Oper → Bool
 | _, [] => true
 | i, o :: l => o.after.toList.all (fun e => Nat.blt e.on i || !Region.binds .any e) && J7 (i + 1) l
def Na (ops : Array Oper) (draw : Bool) (l : List Met) : Bool := match draw with
 | false => true
 | true => J7 0 ops.toList && Lh (Region.before ops) l
def Mj {Ω : Type} (P : Program) (call : FuncId → List Arg → (Res → Option Ω) → Option Ω) (ops : Array Oper) : List (Nat × Oper) → St → (St → List Met → Option Ω) → Option Ω
 | [], st, K => K st []
 | (i, o) :: l, st, K => Og ops st o fun b st => match b with
  | true => I6 P call st (st.base + 128 * i) o fun u => Mj P call ops l (st.up o.dst u) fun st' ms => K st' (Eq ops i o u :: ms)
  | false => Mj P call ops l (st.up o.dst (.val G8)) fun st' ms => K st' (Eq ops i o (.val G8) :: ms)
def Fu (P : Program) (call : FuncId → List Arg → Option Res) (ops : Array Oper) : List (Nat × Oper) → St → Option (St × List Met)
 | [], st => some (st, [])
 | (i, o) :: l, st => match wanted ops st o with
  | some true => match step P call st (st.base + 128 * i) o with
   | some u => match Fu P call ops l (st.up o.dst u) with
    | some (st', ms) => some (st', Eq ops i o u :: ms)
    | none => none
   | none => none
  | some false => match Fu P call ops l (st.up o.dst (.val G8)) with
   | some (st', ms) => some (st', Eq ops i o (.val G8) :: ms)
   | none => none
  | none => none
inductive Ex where
 | normal
 | exit (id : Nat)
 | ret
def H3 (body : St → (Ex → St → Prop) → Prop) (clean : St → St) : Nat → St → (Ex → St → Prop) → Prop
 | 0, _, _ => False
 | n + 1, st, K => body st fun e st' => match e with
  | .normal => H3 body clean n (clean st') K
  | .exit id => K (.exit id) st'
  | .ret => K .ret st'
def Km {Ω : Type} (body : St → (Ex → St → Option Ω) → Option Ω) (clean : St → St) : Nat → St → (Ex → St → Option Ω) → Option Ω
 | 0, _, _ => none
 | n + 1, st, K => body st fun e st' => match e with
  | .normal => Km body clean n (clean st') K
  | .exit id => K (.exit id) st'
  | .ret => K .ret st'
def G3 (ob : List (Nat × Ob)) : Nat → List Nat → List Nat → List Nat  
 | 0, _, done => done
 | _ + 1, [], done => done
 | k + 1, i :: l, done => match done.contains i with
  | true => G3 ob k l done
  | false => match Aa ob i with
   | some (.box _ cs) => G3 ob k (l ++ Cy cs ++ cs.flatMap (fun | .ptr j _ => [j] | .ept j _ _ => [j] | _ => [])) (done ++ [i])
   | some (.arr _ _ _) => G3 ob k l (done ++ [i])
   | some (.iter _ _) => G3 ob k l (done ++ [i])
   | some (.mp _ _ _) => G3 ob k l (done ++ [i])
   | none => G3 ob k l done
def idx (l : List Nat) (i : Nat) (n : Nat) : Nat := match l with
 | [] => n
 | j :: l => match Nat.beq i j with
  | true => n
  | false => idx l i (n + 1)
def SV.ren (g : Nat → Nat) : SV → SV
 | .arr i => .arr (g i)
 | .sub i lo n => .sub (g i) lo n
 | .ptr i o => .ptr (g i) o
 | .ept i r o => .ept (g i) r o
 | v => v
mutual
def TV.ren (g : Nat → Nat) : TV → TV
 | .one v => .one (v.ren g)
 | .agg l => .agg (l.map (SV.ren g))
 | .tup l => .tup (TV.rens g l)
 | .fn f => .fn f
 | .fnp f b i o => .fnp f b (g i) o
 | .fnr f b e l o => .fnr f b e l o
 | .itr i => .itr (g i)
def TV.rens (g : Nat → Nat) : List TV → List TV
 | [] => []
 | t :: l => t.ren g :: TV.rens g l
end
def TV.ids : TV → List Nat
 | .one (.ptr j _) => [j]
 | .one (.ept j _ _) => [j]
 | .one v => v.ids
 | .agg l => Cy l
 | .tup _ => []
 | .fn _ => []
 | .fnp _ _ i _ => [i]
 | .fnr _ _ _ _ _ => []
 | .itr i => [i]
def Iu (tm : List (Nat × TV)) : List Nat → List (Nat × TV)
 | [] => []
 | t :: l => match Aa tm t with
  | some v => (t, v) :: Iu tm l
  | none => Iu tm l
def St.clean (st : St) (np : Nat) (keep : List Nat) : St :=
 let tm := Iu st.tm keep
 let ids := G3 st.ob 100 ((List.range np).map (64 * ·) ++ tm.flatMap (fun x => x.2.ids)) []
 let g := fun i => match Nat.blt i (64 * np) && Nat.beq (i % 64) 0 with
  | true => i
  | false => 64 * np + idx ids i 0
 ⟨tm.map (fun x => (x.1, x.2.ren g)), ids.filterMap (fun i => match Aa st.ob i with
  | some (.box t l) => some (g i, .box t (l.map (SV.ren g)))
  | some (.arr e f r) => some (g i, .arr e f r)
  | some (.iter s p) => some (g i, .iter s p)
  | some (.mp k e r) => some (g i, .mp k e r)
  | none => none), 64 * np + ids.length + 1, st.nt⟩
def tidy (np : Nat) (keep : Nat → List Nat) (r : Nat) : Option (St → St) := match Nat.blt r 2000000 with
 | true => some fun st => st.clean np (keep r)
 | false => match keep r with
  | [] => none
  | i :: l => some fun st => st.clean np (i :: l)
def Fk (clean : Nat → Option (St → St)) (r : Nat) (st : St) : St := match clean r with
 | some f => f st
 | none => st
def goK {Ω : Type} (st : St) (G : St → Option Ω) : Option Ω := G st
def Code.rid : Code → Nat
 | .region id _ _ => id
 | .seq a _ => Code.rid a
 | .block _ b => Code.rid b
 | .scope b => Code.rid b
 | .loop b => Code.rid b
 | _ => 0
def O1 (ops : Array Oper) (draw : Bool) : Bool := match draw, Nat.beq ops.size 4 with
 | true, true => match (ops[1]?).map Oper.op, (ops[2]?).map Oper.op with
  | some (.store _ _ (.const (.bool true))), some (.store _ _ (.const (.bool false))) => true
  | _, _ => false
 | _, _ => false
def I1 (P : Program) (call : FuncId → List Arg → Option Res) (ops : Array Oper) : Nat → Array Bool → St → (St → Prop) → Prop
 | 0, listed, st, K => Region.ready .any ops listed = [] ∧ K st
 | fuel + 1, listed, st, K => (Region.ready .any ops listed = [] → K st) ∧ ∀ i, i ∈ Region.ready .any ops listed → ∃ o b u, ops[i]? = some o ∧ wanted ops st o = some b ∧
   (b = true → step P call st (st.base + 128 * i) o = some u) ∧ (b = false → u = .val G8) ∧ I1 P call ops fuel (listed.setIfInBounds i true) (st.up o.dst u) K
section
variable {Ω : Type} (eq : Ω → Ω → Bool)
def J8 (x y : Option Ω) : Option Ω := match x with
 | some r => match y with
  | some s => match eq r s with
   | true => some r
   | false => none
  | none => none
 | none => none
def Om (f : Nat → Option Ω) : Nat → List Nat → Option Ω
 | i, [] => f i
 | i, j :: l => J8 eq (f i) (Om f j l)
def Kx (P : Program) (call : FuncId → List Arg → (Res → Option Ω) → Option Ω) (ops : Array Oper) : Nat → Array Bool → St → (St → Option Ω) → Option Ω
 | 0, listed, st, K => match Region.ready .any ops listed with
  | [] => K st
  | _ => none
 | fuel + 1, listed, st, K => match Region.ready .any ops listed with
  | [] => K st
  | i :: l => Om eq (fun i => match ops[i]? with
   | some o => Og ops st o fun b st => match b with
    | true => I6 P call st (st.base + 128 * i) o fun u => Kx P call ops fuel (listed.setIfInBounds i true) (st.up o.dst u) K
    | false => Kx P call ops fuel (listed.setIfInBounds i true) (st.up o.dst (.val G8)) K
   | none => none) i l
end
def Ea (P : Program) (call : FuncId → List Arg → Option Res) (n : Nat) (clean : Nat → Option (St → St)) : Code → St → (Ex → St → Prop) → Prop
 | .skip, st, K => K .normal st
 | .region id ops draw, st, K => match O1 ops draw with
  | true => I1 P call ops ops.size (Array.replicate ops.size false) (Fk clean (2000000 + id) st) fun st' => K .normal ⟨st'.tm, st'.ob, st'.base + 128 * ops.size, st'.nt⟩
  | false => ∃ st' ms, Fu P call ops ((List.range ops.size).zip ops.toList) (Fk clean (2000000 + id) st) = some (st', ms) ∧ Na ops draw ms = true ∧ K .normal ⟨st'.tm, st'.ob, st'.base + 128 * ops.size, st'.nt⟩
 | .seq a b, st, K => Ea P call n clean a st fun e st' => match e with
  | .normal => Ea P call n clean b st' K
  | .exit id => K (.exit id) st'
  | .ret => K .ret st'
 | .cond c a b, st, K => match st.opd c with
  | some (.one (.c (.bool z))) => match z with
   | true => Ea P call n clean a st K
   | false => Ea P call n clean b st K
  | _ => False
 | .scope c, st, K => Ea P call n clean c st K
 | .block id c, st, K => Ea P call n clean c st fun e st' => match e with
  | .normal => K .normal st'
  | .exit id' => match Nat.beq id' id with
   | true => K .normal st'
   | false => K (.exit id') st'
  | .ret => K .ret st'
 | .loop c, st, K => H3 (Ea P call n clean c) (Fk clean (Code.rid c)) n (Fk clean (Code.rid c) st) K
 | .exit id, st, K => K (.exit id) st
 | .ret, st, K => K .ret st
 | _, _, _ => False
def Mh {Ω : Type} (eq : Ω → Ω → Bool) (P : Program) (call : FuncId → List Arg → (Res → Option Ω) → Option Ω) (ops : Array Oper) (draw : Bool) (K : Ex → St → Option Ω) (st : St) : Option Ω := match O1 ops draw with
 | true => Kx eq P call ops ops.size (Array.replicate ops.size false) st fun st' => K .normal ⟨st'.tm, st'.ob, st'.base + 128 * ops.size, st'.nt⟩
 | false => Mj P call ops ((List.range ops.size).zip ops.toList) st fun st' ms => match Na ops draw ms with
  | true => K .normal ⟨st'.tm, st'.ob, st'.base + 128 * ops.size, st'.nt⟩
  | false => none
def Fq {Ω : Type} (eq : Ω → Ω → Bool) (P : Program) (call : FuncId → List Arg → (Res → Option Ω) → Option Ω) (n : Nat) (clean : Nat → Option (St → St)) : Code → St → (Ex → St → Option Ω) → Option Ω
 | .skip, st, K => K .normal st
 | .region id ops draw, st, K => match clean (2000000 + id) with
  | some f => goK (f st) (Mh eq P call ops draw K)
  | none => Mh eq P call ops draw K st
 | .seq a b, st, K => Fq eq P call n clean a st fun e st' => match e with
  | .normal => Fq eq P call n clean b st' K
  | .exit id => K (.exit id) st'
  | .ret => K .ret st'
 | .cond c a b, st, K => match st.opd c with
  | some (.one (.c (.bool z))) => match z with
   | true => Fq eq P call n clean a st K
   | false => Fq eq P call n clean b st K
  | _ => none
 | .scope c, st, K => Fq eq P call n clean c st K
 | .block id c, st, K => Fq eq P call n clean c st fun e st' => match e with
  | .normal => K .normal st'
  | .exit id' => match Nat.beq id' id with
   | true => K .normal st'
   | false => K (.exit id') st'
  | .ret => K .ret st'
 | .loop c, st, K => Km (Fq eq P call n clean c) (Fk clean (Code.rid c)) n (Fk clean (Code.rid c) st) K
 | .exit id, st, K => K (.exit id) st
 | .ret, st, K => K .ret st
 | _, _, _ => none
def Iq {Ω : Type} (eq : Ω → Ω → Bool) (P : Program) (call : FuncId → List Arg → (Res → Option Ω) → Option Ω) (n : Nat) (clean : Nat → Option (St → St)) (st : St) : Code → List Nat → List Nat → (Ex → St → Option Ω) → Option Ω
 | .seq a b, 0 :: p, ms, K => Iq eq P call n clean st a p ms fun e st' => match e with
  | .normal => Fq eq P call n clean b st' K
  | .exit id => K (.exit id) st'
  | .ret => K .ret st'
 | .seq _ b, _ :: p, ms, K => Iq eq P call n clean st b p ms K
 | .cond _ a _, 0 :: p, ms, K => Iq eq P call n clean st a p ms K
 | .cond _ _ b, _ :: p, ms, K => Iq eq P call n clean st b p ms K
 | .scope c, _ :: p, ms, K => Iq eq P call n clean st c p ms K
 | .block id c, _ :: p, ms, K => Iq eq P call n clean st c p ms fun e st' => match e with
  | .normal => K .normal st'
  | .exit id' => match Nat.beq id' id with
   | true => K .normal st'
   | false => K (.exit id') st'
  | .ret => K .ret st'
 | .region _ ops draw, [], _, K => goK st (Mh eq P call ops draw K)
 | .loop c, [], m :: _, K => Km (Fq eq P call n clean c) (Fk clean (Code.rid c)) m st K
 | .loop c, _ :: p, m :: ms, K => Iq eq P call n clean st c p ms fun e st' => match e with
  | .normal => Km (Fq eq P call n clean c) (Fk clean (Code.rid c)) m (Fk clean (Code.rid c) st') K
  | .exit id => K (.exit id) st'
  | .ret => K .ret st'
 | _, _, _, _ => none
def Ky (P : Program) (st : St) (twice : List Nat) : SV → Option BC
 | .c (.nil e) => match okE P e with
  | true => some (.own e [])
  | false => none
 | .c x => some (.d x)
 | .arr i => match Aa st.ob i with
  | some (.arr e false rows) => match twice.contains i with
   | false => some (.own e rows)
   | true => some (.d (.row e rows))
  | some (.arr e true rows) => some (.d (.row e rows))
  | _ => none
 | .sub i lo n => match Aa st.ob i with
  | some (.arr e _ rows) => some (.d (.row e ((rows.drop lo).take n)))
  | _ => none
 | _ => none
def Mb (P : Program) (st : St) (twice : List Nat) : List SV → Option (List BC)
 | [] => some []
 | v :: l => match Ky P st twice v with
  | some b => match Mb P st twice l with
   | some bs => some (b :: bs)
   | none => none
  | none => none
def Me (P : Program) (st : St) (twice : List Nat) : TV → Option BT
 | .one v => match Ky P st twice v with
  | some b => some (.one b)
  | none => none
 | .agg l => match Mb P st twice l with
  | some bs => some (.agg bs)
  | none => none
 | _ => none
def Ju (P : Program) (st : St) (twice : List Nat) : List TV → Option (List BT)
 | [] => some []
 | v :: l => match Me P st twice v with
  | some b => match Ju P st twice l with
   | some bs => some (b :: bs)
   | none => none
  | none => none
def Jv (P : Program) (st : St) : List ResultVar → Option (List TV)
 | [] => some []
 | .tmp t :: l => match Aa st.tm t with
  | some v => match Jv P st l with
   | some vs => some (v :: vs)
   | none => none
  | none => none
 | .cell a t :: l => match H6 P st t (.tmp a) with
  | some u => match Jv P st l with
   | some vs => some (u.tv :: vs)
   | none => none
  | none => none
def F2 : List Nat → List Nat
 | [] => []
 | i :: l => match l.contains i with
  | true => i :: F2 l
  | false => F2 l
def enter (q : Nat) : List Arg → St → Option St
 | [], st => some st
 | .v t :: l, st => enter (q + 1) l ⟨put st.tm q t, st.ob, st.base, st.nt⟩
 | .ref t bs off :: l, st => match Ei (64 * q + 1) bs with
  | (vs, obs, n) => match Nat.ble n (64 * q + 64) with
   | true => enter (q + 1) l ⟨put st.tm q (.one (.ptr (64 * q) off)), Am (put st.ob (64 * q) (.box t vs)) obs, st.base, st.nt⟩
   | false => none
 | .fn g :: l, st => enter (q + 1) l ⟨put st.tm q (.fn g), st.ob, st.base, st.nt⟩
 | .mv e rows :: l, st => enter (q + 1) l ⟨put st.tm q (.one (.arr (64 * q))), Am st.ob [(64 * q, some (.arr e false rows))], st.base, st.nt⟩
 | .rop e c off :: l, st => enter (q + 1) l ⟨put st.tm q (.one (.rop e c off)), st.ob, st.base, st.nt⟩
 | .fnr g fst e c off :: l, st => enter (q + 1) l ⟨put st.tm q (.fnr g fst e c off), st.ob, st.base, st.nt⟩
def F5 (st : St) (q : Nat) : List Arg → Option (List (List SV))
 | [] => some []
 | .v _ :: l => F5 st (q + 1) l
 | .fn _ :: l => F5 st (q + 1) l
 | .mv _ _ :: l => F5 st (q + 1) l
 | .ref t _ _ :: l => match Aa st.ob (64 * q) with
  | some (.box t' vs) => match Nat.beq t t' with
   | true => match F5 st (q + 1) l with
    | some r => some (vs :: r)
    | none => none
   | false => none
  | _ => none
 | .rop _ _ _ :: l => F5 st (q + 1) l
 | .fnr _ _ _ _ _ :: l => F5 st (q + 1) l
def Md (P : Program) (st : St) (twice : List Nat) : List (List SV) → Option (List (List BC))
 | [] => some []
 | v :: l => match Mb P st twice v with
  | some b => match Md P st twice l with
   | some bs => some (b :: bs)
   | none => none
  | none => none
def Ie (wk : List Nat) : SV → SV
 | .c (.nil e) => match wk.contains e with
  | true => .c (.row e [])
  | false => .c (.nil e)
 | v => v
def Mq (wk : List Nat) : TV → TV
 | .one v => .one (Ie wk v)
 | .agg l => .agg (l.map (Ie wk))
 | t => t
def Oh (st : St) (wk : List Nat) (l : List Nat) : List Nat := l.filter fun i => match Aa st.ob i with
 | some (.arr e _ _) => wk.contains e
 | _ => false
def Jl (P : Program) (fn : Func) (args : List Arg) (e : Ex) (st : St) (wk : List Nat) : Option Res := match e with
 | .exit _ => none
 | _ => match Jv P st fn.results.toList, F5 st 0 args with
  | some vs, some bx => match Ju P st (Oh st wk (vs.flatMap TV.ids) ++ F2 (vs.flatMap TV.ids ++ bx.flatMap Cy)) (vs.map (Mq wk)), Md P st (Oh st wk (vs.flatMap TV.ids) ++ F2 (vs.flatMap TV.ids ++ bx.flatMap Cy)) bx with
   | some [b], some rs => some ⟨b, rs⟩
   | some bs, some rs => some ⟨.tup bs, rs⟩
   | _, _ => none
  | _, _ => none
def Mr : Nat := 1000000
noncomputable def opt (p : Res → Prop) : Option Res := open Classical in if h : ∃ R, p R then some (Classical.choose h) else none
noncomputable def call (P : Program) (ext : FuncId → List Arg → Option Res) (keep : FuncId → Nat → List Nat) : Nat → FuncId → List Arg → Option Res
 | 0, f, args => ext f args
 | k + 1, f, args => match ext f args with
  | some R => some R
  | none => match P.funcs[f]? with
   | some fn => match fn.body with
    | some c => match enter 0 args ⟨[], [], 64 * args.length, args.length + (fn.ntmps - args.length)⟩ with
     | some st0 => opt fun R => Ea P (call P ext keep k) k (tidy args.length (keep f)) c st0 fun e st => Jl P fn args e st (keep f Mr) = some R
     | none => none
    | none => none
   | none => none
def As {Ω : Type} (eq : Ω → Ω → Bool) (P : Program) (orK : FuncId → List Arg → (Res → Option Ω) → Option Ω) (keep : FuncId → Nat → List Nat) (k : Nat) (f : FuncId) (args : List Arg) (K : Res → Option Ω) : Option Ω := match P.funcs[f]? with
 | some fn => match fn.body with
  | some c => match enter 0 args ⟨[], [], 64 * args.length, args.length + (fn.ntmps - args.length)⟩ with
   | some st0 => Fq eq P orK k (tidy args.length (keep f)) c st0 fun e st => match Jl P fn args e st (keep f Mr) with
    | some R => K R
    | none => none
   | none => none
  | none => none
 | none => none
def Ak {Ω : Type} (eq : Ω → Ω → Bool) (P : Program) (orK : FuncId → List Arg → (Res → Option Ω) → Option Ω) (keep : FuncId → Nat → List Nat) (k : Nat) (f : FuncId) (args : List Arg) (path : List Nat) (ms : List Nat) (st : St) (K : Res → Option Ω) : Option Ω := match P.funcs[f]? with
 | some fn => match fn.body with
  | some c => Iq eq P orK k (tidy args.length (keep f)) st c path ms fun e st => match Jl P fn args e st (keep f Mr) with
   | some R => K R
   | none => none
  | none => none
 | none => none
end Go.Vm
namespace Go.Vm
open Go
def Ade (o : Oper) : List Nat := o.op.operands.toList.filterMap fun | .tmp t => some t | _ => none
def Aa2 (o : Oper) : Bool := match o.op with | .assign _ => true | _ => false
def ins (x : Nat) : List Nat → List Nat
 | [] => [x]
 | y :: l => match Nat.ble x y with
  | true => match Nat.beq x y with
   | true => y :: l
   | false => x :: y :: l
  | false => y :: ins x l
def Tu : List Nat → List Nat
 | [] => []
 | x :: l => ins x (Tu l)
structure W4 where
 regs : List (Nat × List Oper)
 conds : List Nat
def info : Code → W4
 | .region id ops _ => ⟨[(id, ops.toList)], []⟩
 | .seq a b => ⟨(info a).regs ++ (info b).regs, (info a).conds ++ (info b).conds⟩
 | .cond c a b => ⟨(info a).regs ++ (info b).regs, (match c with | .tmp t => [t] | _ => []) ++ (info a).conds ++ (info b).conds⟩
 | .block _ b => info b
 | .loop b => info b
 | .scope b => info b
 | _ => ⟨[], []⟩
def Sh (r : List (Nat × List Oper)) : List (Nat × Bool × Nat) := r.flatMap fun (id, ops) => ops.filterMap fun o => o.dst.map fun d => (d, Aa2 o, id)
def Iw : Code → List Code
 | .seq a b => Iw a ++ Iw b
 | .cond _ a b => Iw a ++ Iw b
 | .block _ b => Iw b
 | .loop b => b :: Iw b
 | .scope b => Iw b
 | _ => []
def Abb (fn : Func) (body : Code) (c : Code) : List Nat :=
 let I := info body
 let D := Sh I.regs
 let B := Sh (info c).regs
 let np := fn.params.size
 let res := fn.results.toList.map fun | .tmp t => t | .cell a _ => a
 let cross := (I.regs.flatMap fun (id, ops) => (ops.flatMap Ade).filter fun t => !(D.any fun (d, _, r) => d == t && r == id) || D.any (fun (d, a, _) => d == t && a)) ++ res
 let all := (List.range np ++ cross)
 all.filter fun t => !(B.any (fun (d, _, _) => d == t) && D.all (fun (d, a, r) => d != t || (!a && B.any (fun (_, _, r') => r' == r))))
def Ahk (P : Program) : List (Nat × Nat × List Nat) :=
 (List.range P.funcs.size).flatMap fun f => match P.funcs[f]? with
  | some fn => match fn.body with
   | some b => (Iw b).map fun c => (f, Code.rid c, Tu (Abb fn b c))
   | none => []
  | none => []
def Aga (l : List (Nat × Nat × List Nat)) (f r : Nat) : List Nat := match l with
 | [] => []
 | (g, s, k) :: l => match Nat.beq f g, Nat.beq r s with
  | true, true => k
  | _, _ => Aga l f r
def Wh (l : List (Nat × List Nat)) (r : Nat) : List Nat := match l with
 | [] => []
 | (s, k) :: l => match Nat.beq r s with
  | true => k
  | false => Wh l r
def Wi (l : List (Nat × List (Nat × List Nat))) (f r : Nat) : List Nat := match l with
 | [] => []
 | (g, k) :: l => match Nat.beq f g with
  | true => Wh k r
  | false => Wi l f r
end Go.Vm
set_option linter.unusedVariables false
namespace Go.Vm
open Go
variable {P : Program} {W W' : World} {Z Z' : Addr → Prop}
theorem Hs (a : Addr) (m n : Nat) : (a.add m).add n = a.add (m + n) := by
 unfold Addr.add
 by_cases h1 : m = 0 <;> by_cases h2 : n = 0 <;> simp [h1, h2, Nat.add_assoc]
theorem Aha (a : Addr) : a.add 0 = a := by simp [Addr.add]
theorem E9 (g o n : Nat) : (⟨g, o, none⟩ : Addr).add n = ⟨g, o + n, none⟩ := by
 unfold Addr.add
 by_cases h : n = 0 <;> simp [h]
theorem Qx (a : Addr) (n : Nat) : (a.add n).block = a.block := by
 unfold Addr.add
 split <;> rfl
inductive Ae (P : Program) (W : World) (Z : Addr → Prop) : C → Value → Prop where
 | int (k : IntKind) (n : Int) : Ae P W Z (.int k n) (.int k n)
 | bool (b : Bool) : Ae P W Z (.bool b) (.bool b)
 | str (s : ByteArray) : Ae P W Z (.str s) (.string s)
 | nil (e : TypeId) : Ae P W Z (.nil e) (.slice none 0 0)
 | fn (g : FuncId) : Ae P W Z (.fn (some g)) (.func (.func g) #[] #[])
 | fn0 : Ae P W Z (.fn none) .nilFunc
 | row (e : TypeId) (l : List (List C)) (ks : List Kn) (A : Option Addr) (c : Nat) (vs : Nat → Nat → Value)
   (hk : l ≠ [] → Dy P e = some ks) (hc : l.length ≤ c) (hm : c ≤ maxLen) (ht : ∀ r, r ∈ l → r.map C.kind = ks) (hs : l ≠ [] → A.isSome = true)
   (hA : ∀ j r o x ad, l[j]? = some r → r[o]? = some x → A = some ad → Z (ad.add (j * P.cellsOf e + o)) ∧ W.cell? (ad.add (j * P.cellsOf e + o)) = some (vs j o))
   (hr : ∀ j r o x, l[j]? = some r → r[o]? = some x → Ae P W Z x (vs j o)) : Ae P W Z (.row e l) (.slice A l.length c)
theorem Gp {a : Addr} (h : W'.heap[a.block]? = W.heap[a.block]?) : W'.cell? a = W.cell? a := World.cell?_of_block h
theorem Ae.mono {x : C} {v : Value} (h : Ae P W Z x v) (hW : ∀ A, Z A → W'.cell? A = W.cell? A) (hZ : ∀ A, Z A → Z' A) : Ae P W' Z' x v := by
 induction h with
 | int k n => exact .int k n
 | bool b => exact .bool b
 | str s => exact .str s
 | nil e => exact .nil e
 | fn g => exact .fn g
 | fn0 => exact .fn0
 | row e l ks A c vs hk hc hm ht hs hA hr ih =>
  refine .row e l ks A c vs hk hc hm ht hs (fun j r o x ad h1 h2 h3 => ?_) ih
  obtain ⟨h4, h5⟩ := hA j r o x ad h1 h2 h3
  refine ⟨hZ _ h4, ?_⟩
  rw [← h5]
  exact hW _ h4
theorem Ae.one {x : C} {v : Value} (h : Ae P W Z x v) : v.oneCell' = true := by
 cases h <;> rfl
theorem Ae.rowNil (e : TypeId) : Ae P W Z (.row e []) (.slice none 0 0) :=
 .row e [] [] none 0 (fun _ _ => undef) (fun h => absurd rfl h) (Nat.le_refl _) (Nat.zero_le _) (fun r h => by cases h) (fun h => absurd rfl h) (fun j r o x ad h1 => by simp at h1) (fun j r o x h1 => by simp at h1)
theorem Ae.canon {x : C} {v : Value} (h : Ae P W Z x v) : Ae P W Z x.canon v := by
 cases h with
 | nil e => exact .rowNil e
 | fn g => exact .fn g
 | fn0 => exact .fn0
 | int k n => exact .int k n
 | bool b => exact .bool b
 | str s => exact .str s
 | row e l ks A c vs hk hc hm ht hs hA hr => exact .row e l ks A c vs hk hc hm ht hs hA hr
theorem Ae.as {x : C} {v : Value} (h : Ae P W Z x v) : Ae P W Z (x.as x.kind) v := by
 cases h with
 | nil e => exact .rowNil e
 | fn g => exact .fn g
 | fn0 => exact .fn0
 | int k n => exact .int k n
 | bool b => exact .bool b
 | str s => exact .str s
 | row e l ks A c vs hk hc hm ht hs hA hr => exact .row e l ks A c vs hk hc hm ht hs hA hr
structure Env where
 box : Nat → Nat
 row : Nat → Option (Nat × Nat)
 cap : Nat → Nat
def Slc (pl : Option (Nat × Nat)) (cap sz lo n : Nat) (v : Value) : Prop :=
 lo + n ≤ cap ∧ ∃ A, v = .slice A n (cap - lo) ∧ (0 < cap - lo → ∃ g off, pl = some (g, off) ∧ A = some ⟨g, off + lo * sz, none⟩)
def Cs (P : Program) (W : World) (Z : Addr → Prop) (U : Nat → Prop) (E : Env) (ob : List (Nat × Ob)) : SV → Value → Prop
 | .c x, v => Ae P W Z x v
 | .arr i, v => U i ∧ v.oneCell' = true ∧ ∀ e f rows, Aa ob i = some (.arr e f rows) → Slc (E.row i) (E.cap i) (P.cellsOf e) 0 rows.length v
 | .sub i lo n, v => U i ∧ v.oneCell' = true ∧ ∀ e f rows, Aa ob i = some (.arr e f rows) → lo + n ≤ rows.length ∧ Slc (E.row i) (E.cap i) (P.cellsOf e) lo n v
 | .ptr i off, v => U i ∧ v.oneCell' = true ∧ ∀ t l, Aa ob i = some (.box t l) → v = .pointer (some ⟨E.box i, off, none⟩)
 | .ept i r off, v => U i ∧ v.oneCell' = true ∧ ∀ e f rows, Aa ob i = some (.arr e f rows) → r < rows.length ∧ ∃ g o, E.row i = some (g, o) ∧ v = .pointer (some ⟨g, o + r * P.cellsOf e + off, none⟩)
 | .rop e l off, v => ∃ b : Addr, v = .pointer (some (b.add off)) ∧ ∃ ks, Dy P e = some ks ∧ l.map C.kind = ks ∧ ∀ o x, l[o]? = some x → Z (b.add o) ∧ ∃ u, W.cell? (b.add o) = some u ∧ Ae P W Z x u
theorem Cs.one {U : Nat → Prop} {E : Env} {ob : List (Nat × Ob)} {x : SV} {v : Value} (h : Cs P W Z U E ob x v) : v.oneCell' = true := by
 cases x with
 | c x => exact Ae.one (show Ae P W Z x v from h)
 | arr i => exact h.2.1
 | sub i lo n => exact h.2.1
 | ptr i off => exact h.2.1
 | ept i r off => exact h.2.1
 | rop e l off => obtain ⟨b, rfl, _⟩ := h; rfl
inductive Aq {α β : Type} (R : α → β → Prop) : List α → List β → Prop where
 | nil : Aq R [] []
 | cons {x : α} {y : β} {l : List α} {m : List β} : R x y → Aq R l m → Aq R (x :: l) (y :: m)
section
variable {α β γ : Type} {R S : α → β → Prop}
theorem Aq.imp {l : List α} {m : List β} (h : Aq R l m) (f : ∀ x y, x ∈ l → R x y → S x y) : Aq S l m := by
 induction h with
 | nil => exact .nil
 | cons h1 _ ih => exact .cons (f _ _ List.mem_cons_self h1) (ih fun x y hx => f x y (List.mem_cons_of_mem _ hx))
theorem Aq.length {l : List α} {m : List β} (h : Aq R l m) : l.length = m.length := by
 induction h with
 | nil => rfl
 | cons _ _ ih => simp [ih]
theorem Aq.get {l : List α} {m : List β} (h : Aq R l m) : ∀ (i : Nat) (x : α), l[i]? = some x → ∃ y, m[i]? = some y ∧ R x y := by
 induction h with
 | nil => intro i x h; simp at h
 | cons h1 _ ih =>
  intro i x hx
  cases i with
  | zero => simp at hx; subst hx; exact ⟨_, rfl, h1⟩
  | succ i => simp at hx; simpa using ih i x hx
theorem Aq.mk {l : List α} {m : List β} (hl : l.length = m.length) (h : ∀ (i : Nat) (x : α) (y : β), l[i]? = some x → m[i]? = some y → R x y) : Aq R l m := by
 induction l generalizing m with
 | nil => cases m with
  | nil => exact .nil
  | cons _ _ => simp at hl
 | cons x l ih => cases m with
  | nil => simp at hl
  | cons y m => exact .cons (h 0 x y rfl rfl) (ih (by simpa using hl) fun i a b ha hb => h (i + 1) a b (by simpa using ha) (by simpa using hb))
theorem Aq.append {l l' : List α} {m m' : List β} (h : Aq R l m) (h' : Aq R l' m') : Aq R (l ++ l') (m ++ m') := by
 induction h with
 | nil => exact h'
 | cons h1 _ ih => exact .cons h1 ih
theorem Aq.take {l : List α} {m : List β} (h : Aq R l m) (n : Nat) : Aq R (l.take n) (m.take n) := by
 induction h generalizing n with
 | nil => simp; exact .nil
 | cons h1 _ ih => cases n with
  | zero => simp; exact .nil
  | succ n => simp; exact .cons h1 (ih n)
theorem Aq.drop {l : List α} {m : List β} (h : Aq R l m) (n : Nat) : Aq R (l.drop n) (m.drop n) := by
 induction h generalizing n with
 | nil => simp; exact .nil
 | cons h1 h2 ih => cases n with
  | zero => simp; exact .cons h1 h2
  | succ n => simp; exact ih n
theorem Aq.set {l : List α} {m : List β} (h : Aq R l m) {x : α} {y : β} (hxy : R x y) (n : Nat) : Aq R (l.set n x) (m.set n y) := by
 induction h generalizing n with
 | nil => simp; exact .nil
 | cons h1 h2 ih => cases n with
  | zero => simp; exact .cons hxy h2
  | succ n => simp; exact .cons h1 (ih n)
theorem Aq.map_left {f : γ → α} {l : List γ} {m : List β} (h : Aq (fun x y => R (f x) y) l m) : Aq R (l.map f) m := by
 induction h with
 | nil => exact .nil
 | cons h1 _ ih => exact .cons h1 ih
end
inductive D0 (P : Program) (W : World) (Z : Addr → Prop) (U : Nat → Prop) (E : Env) (ob : List (Nat × Ob)) : TV → Value → Prop where
 | one {v : SV} {u : Value} (h : Cs P W Z U E ob v u) : D0 P W Z U E ob (.one v) u
 | agg {l : List SV} {us : Array Value} (h : Aq (Cs P W Z U E ob) l us.toList) : D0 P W Z U E ob (.agg l) (.agg us)
 | tup {l : List TV} {us : Array Value} (hl : l.length = us.size) (h : ∀ (i : Nat) (t : TV) (u : Value), l[i]? = some t → us[i]? = some u → D0 P W Z U E ob t u) : D0 P W Z U E ob (.tup l) (.tuple us)
 | fn (g : FuncId) : D0 P W Z U E ob (.fn g) (.func (.func g) #[] #[])
 | fnp {g : FuncId} {fst : Bool} {i off : Nat} {u : Value} (h : Cs P W Z U E ob (.ptr i off) u) : D0 P W Z U E ob (.fnp g fst i off) (.func (.func g) (match fst with | true => #[u] | false => #[]) (match fst with | true => #[] | false => #[u]))
 | itr {i : Nat} {u : Value} (h : U i ∧ (∀ s pos, Aa ob i = some (.iter s pos) → u = .pointer (some ⟨E.box i, 0, none⟩)) ∧ ∀ k e l, Aa ob i = some (.mp k e l) → u = .map (some (E.box i))) : D0 P W Z U E ob (.itr i) u
 | fnr {g : FuncId} {fst : Bool} {e : TypeId} {l : List C} {off : Nat} {u : Value} (h : Cs P W Z U E ob (.rop e l off) u) : D0 P W Z U E ob (.fnr g fst e l off) (.func (.func g) (match fst with | true => #[u] | false => #[]) (match fst with | true => #[] | false => #[u]))
def Em (P : Program) (W : World) (Z : Addr → Prop) (e : TypeId) (rows : List (List C)) (pl : Option (Nat × Nat)) (cap : Nat) : Prop :=
 rows.length ≤ cap ∧ cap ≤ maxLen ∧ ∃ ks, Dy P e = some ks ∧ 0 < P.cellsOf e ∧ (∀ r, r ∈ rows → r.map C.kind = ks) ∧
 (0 < cap → ∃ g off cur, pl = some (g, off) ∧ W.heap[g]? = some (.cells cur e (0, 0)) ∧ off + cap * P.cellsOf e ≤ cur.size ∧
  ∀ j r o x, rows[j]? = some r → r[o]? = some x → ∃ u, cur[off + j * P.cellsOf e + o]? = some u ∧ Ae P W Z x u)
def Ep (kc : List ByteArray) : Value := .agg (kc.map Value.string).toArray
structure Oj (P : Program) (k e : TypeId) (n : Nat) (es : Array MapEntry) (clock : Nat) (rows : List (List C)) : Prop where
 ok : Ko P k e = some n
 st : MapKept.Stamped es clock
 key : ∀ x, x ∈ es.toList → ∃ l, keyOf P k x.key = some l
 at_ : ∀ kc x, kc.length = n → x ∈ es.toList → x.key = Ep kc → x.val = .bool (G2 rows kc)
 no : ∀ kc, kc.length = n → (∀ x, x ∈ es.toList → x.key ≠ Ep kc) → G2 rows kc = false
def G9 (P : Program) (W : World) (Z : Addr → Prop) (U : Nat → Prop) (E : Env) (ob : List (Nat × Ob)) (i : Nat) : Ob → Prop
 | .box t l => ∃ cur, W.heap[E.box i]? = some (.cells cur t (0, 0)) ∧ Aq (Cs P W Z U E ob) l cur.toList
 | .arr e _ rows => Em P W Z e rows (E.row i) (E.cap i)
 | .iter s pos => W.heap[E.box i]? = some (.stringIter s pos)
 | .mp k e rows => ∃ es clock n, W.heap[E.box i]? = some (.map es clock) ∧ Oj P k e n es clock rows
def Aw (E : Env) (i : Nat) : Ob → Option Nat
 | .box _ _ => some (E.box i)
 | .iter _ _ => some (E.box i)
 | .mp _ _ _ => some (E.box i)
 | .arr _ _ _ => if 0 < E.cap i then (E.row i).map (·.1) else none
def Frz (P : Program) (Z : Addr → Prop) (e : TypeId) (n g off : Nat) : Prop :=
 (∀ o, o < n * P.cellsOf e → Z ⟨g, off + o, none⟩) ∧ ∀ A, Z A → A.block = g → A.off < off + n * P.cellsOf e
def FC (P : Program) (E : Env) (i : Nat) (e : TypeId) (n : Nat) (A : Addr) : Prop := 0 < E.cap i ∧ ∃ g off, E.row i = some (g, off) ∧ A.block = g ∧ A.spot = none ∧ off ≤ A.off ∧ A.off < off + n * P.cellsOf e
theorem FC.blk {E : Env} {i : Nat} {e : TypeId} {n : Nat} {A : Addr} (h : FC P E i e n A) {f : Bool} {rows : List (List C)} : Aw E i (.arr e f rows) = some A.block := by
 obtain ⟨h1, g, off, h2, h3, _⟩ := h
 simp [Aw, h1, h2, h3]
theorem FC.frz {E : Env} {i : Nat} {e : TypeId} {n g off : Nat} (hc : 0 < E.cap i) (hp : E.row i = some (g, off)) {Z : Addr → Prop} (hz : ∀ A, Z A → A.block ≠ g) : Frz P (fun A => Z A ∨ FC P E i e n A) e n g off := by
 refine ⟨fun o ho => .inr ⟨hc, g, off, hp, rfl, rfl, Nat.le_add_right _ _, by show off + o < _; omega⟩, fun A hA hg => ?_⟩
 rcases hA with hA | ⟨_, g', off', h1, _, _, _, h2⟩
 ·exact absurd hg (hz A hA)
 ·rw [hp] at h1; cases h1; exact h2
structure Ih (P : Program) (W0 : World) (M : Nat → Prop) : Prop where
 sh : ∃ Ws : World, Ws.ShapedOpen P ∧ ∀ k, k < P.globals.size → W0.heap[k]? = Ws.heap[k]?
 low : P.globals.size ≤ W0.heap.size
 m : ∀ k, M k → P.globals.size ≤ k
theorem Ih.on {M M' : Nat → Prop} (h : Ih P W M) (hf : ∀ k, k < W.heap.size → ¬ M k → W'.heap[k]? = W.heap[k]?) (hs : W.heap.size ≤ W'.heap.size) (hm : ∀ k, M' k → M k ∨ W.heap.size ≤ k) : Ih P W' M' := by
 obtain ⟨Ws, h1, h2⟩ := h.sh
 refine ⟨⟨Ws, h1, fun k hk => (hf k (Nat.lt_of_lt_of_le hk h.low) (fun hM => ?_)).trans (h2 k hk)⟩, Nat.le_trans h.low hs, fun k hk => ?_⟩
 ·have := h.m k hM
  omega
 ·rcases hm k hk with g | g
  ·exact h.m k g
  ·exact Nat.le_trans h.low g
structure Rel (P : Program) (W0 : World) (M U : Nat → Prop) (st : St) (E : Env) (Z : Addr → Prop) (a : Act) (W : World) : Prop where
 nt : a.tmps.size = st.nt
 defers : a.defers = []
 tm : ∀ t tv, Aa st.tm t = some tv → t < st.nt ∧ D0 P W Z U E st.ob tv (a.tmps.getD t undef)
 ob : ∀ i o, Aa st.ob i = some o → G9 P W Z U E st.ob i o
 ids : ∀ i o, Aa st.ob i = some o → U i
 inj : ∀ i j o p g, Aa st.ob i = some o → Aa st.ob j = some p → Aw E i o = some g → Aw E j p = some g → i = j
 free : ∀ i o g, Aa st.ob i = some o → Aw E i o = some g → (∀ e rows, o ≠ .arr e true rows) → ∀ A, Z A → A.block ≠ g
 frz : ∀ i e rows g off, Aa st.ob i = some (.arr e true rows) → 0 < E.cap i → E.row i = some (g, off) → Frz P Z e rows.length g off
 zlt : ∀ A, Z A → A.block < W.heap.size
 own : ∀ i o g, Aa st.ob i = some o → Aw E i o = some g → M g ∨ W0.heap.size ≤ g
 frame : ∀ k, k < W0.heap.size → ¬ M k → W.heap[k]? = W0.heap[k]?
 size : W0.heap.size ≤ W.heap.size
 os : W.os = W0.os
 tape : W.tape = W0.tape
 output : W.output = W0.output
 hood : Ih P W0 M
end Go.Vm
set_option linter.unusedSimpArgs false
namespace Go.Vm
open Go
theorem Jf {i j : Nat} (h : i = j) : Nat.beq i j = true := by subst h; exact Nat.beq_refl i
theorem Lo {i j : Nat} (h : i ≠ j) : Nat.beq i j = false := by
 cases e : Nat.beq i j
 ·rfl
 ·exact absurd (Nat.eq_of_beq_eq_true e) h
section
variable {α : Type}
theorem H2 (j i : Nat) (x : α) (l : List (Nat × α)) : Aa ((j, x) :: l) i = if i = j then some x else Aa l i := by
 rw [Aa]
 by_cases h : i = j
 ·rw [if_pos h, Jf h]
 ·rw [if_neg h, Lo h]
theorem D8 (l : List (Nat × α)) (i : Nat) (x : α) (k : Nat) : Aa (put l i x) k = if k = i then some x else Aa l k := by
 induction l with
 | nil => rw [put, H2]
 | cons p l ih =>
  obtain ⟨j, y⟩ := p
  rw [put]
  by_cases h : i = j
  ·have e : Nat.beq i j = true := Jf h
   rw [e]
   simp only
   rw [H2, H2]
   by_cases h2 : k = i
   ·rw [if_pos h2, if_pos h2]
   ·rw [if_neg h2, if_neg h2, if_neg (by rw [← h]; exact h2)]
  ·have e : Nat.beq i j = false := Lo h
   rw [e]
   simp only
   rw [H2, H2, ih]
   by_cases h2 : k = j
   ·rw [if_pos h2, if_pos h2, if_neg (by rw [h2]; exact fun e => h e.symm)]
   ·rw [if_neg h2, if_neg h2]
theorem Gr (l : List (Nat × α)) (i k : Nat) : Aa (del l i) k = if k = i then none else Aa l k := by
 induction l with
 | nil => rw [del]; simp [Aa]
 | cons p l ih =>
  obtain ⟨j, y⟩ := p
  rw [del]
  by_cases h : i = j
  ·have e : Nat.beq i j = true := Jf h
   rw [e]
   simp only
   rw [ih, H2]
   by_cases h2 : k = i
   ·rw [if_pos h2, if_pos h2]
   ·rw [if_neg h2, if_neg h2, if_neg (by rw [← h]; exact h2)]
  ·have e : Nat.beq i j = false := Lo h
   rw [e]
   simp only
   rw [H2, H2, ih]
   by_cases h2 : k = j
   ·rw [if_pos h2, if_pos h2, if_neg (by rw [h2]; exact fun e => h e.symm)]
   ·rw [if_neg h2, if_neg h2]
end
variable {P : Program} {W0 W : World} {M U : Nat → Prop} {st : St} {E : Env} {Z : Addr → Prop} {a : Act}
theorem Ad9 (a : Act) (d : Nat) (v : Value) (hd : d < a.tmps.size) (t : Nat) : (a.put (some d) v).tmps.getD t undef = if t = d then v else a.tmps.getD t undef := by
 simp only [Act.put, Array.getD_eq_getD_getElem?, Array.getElem?_setIfInBounds]
 by_cases h : d = t
 ·subst h; simp [hd]
 ·rw [if_neg h, if_neg (fun e => h e.symm)]
theorem Aea (a : Act) (d : Option Nat) (v : Value) : (a.put d v).tmps.size = a.tmps.size := by
 cases d <;> simp [Act.put]
theorem Ad6 (a : Act) (d : Option Nat) (v : Value) : (a.put d v).defers = a.defers := by
 cases d <;> rfl
theorem Rel.val (R : Rel P W0 M U st E Z a W) (dst : Option Nat) {tv : TV} {v : Value} (hv : D0 P W Z U E st.ob tv v) : Rel P W0 M U (st.up dst (.val tv)) E Z (a.put dst v) W := by
 refine ⟨?_, ?_, ?_, R.ob, R.ids, R.inj, R.free, R.frz, R.zlt, R.own, R.frame, R.size, R.os, R.tape, R.output, R.hood⟩
 ·rw [Aea]; exact R.nt
 ·rw [Ad6]; exact R.defers
 ·intro t u hu
  cases dst with
  | none => exact R.tm t u hu
  | some d =>
   simp only [St.up, Up.val, Am] at hu ⊢
   by_cases hd : d < st.nt
   ·have e : Nat.blt d st.nt = true := Nat.ble_eq_true_of_le hd
    rw [e] at hu
    simp only at hu
    rw [D8] at hu
    rw [Ad9 a d v (by rw [R.nt]; exact hd)]
    by_cases ht : t = d
    ·rw [if_pos ht] at hu ⊢
     cases hu
     exact ⟨ht ▸ hd, hv⟩
    ·rw [if_neg ht] at hu ⊢
     exact R.tm t u hu
   ·have e : Nat.blt d st.nt = false := by
     cases h : Nat.blt d st.nt
     ·rfl
     ·exact absurd (Nat.le_of_ble_eq_true h) hd
    rw [e] at hu
    simp only at hu
    obtain ⟨h1, h2⟩ := R.tm t u hu
    refine ⟨h1, ?_⟩
    have : (a.put (some d) v).tmps.getD t undef = a.tmps.getD t undef := by
     simp only [Act.put, Array.getD_eq_getD_getElem?, Array.getElem?_setIfInBounds]
     rw [if_neg (by omega)]
    rw [this]
    exact h2
theorem Ahr {o : Oper} {next : Act → World → Prop} {Q : Exit → Act → World → Prop} {v : Value} {W' : World} (h : (execOp a.eval o).run P W = .ok (.value v) W') (hn : next (a.put o.dst v) W') : o.wp P a W next Q := by
 unfold Oper.wp
 rw [h]
 exact hn
theorem Cs.data {x : C} {v : Value} (h : Ae P W Z x v) : Cs P W Z U E st.ob (.c x) v := h
theorem We {v : SV} {u w : Value} (h : Cs P W Z U E st.ob v u) (hv : v.val? = some w) : u = w := by
 cases v with
 | c x =>
  have h : Ae P W Z x u := h
  simp only [SV.val?] at hv
  cases h <;> simp_all [C.val?]
 | _ => simp [SV.val?] at hv
theorem Af9 : ∀ {l : List SV} {us ws : List Value}, Aq (Cs P W Z U E st.ob) l us → SV.vals? l = some ws → us = ws := by
 intro l
 induction l with
 | nil => intro us ws h hv; cases h; simp [SV.vals?] at hv; exact hv.symm
 | cons x l ih =>
  intro us ws h hv
  cases h with
  | cons h1 h2 =>
   simp only [SV.vals?] at hv
   split at hv
   ·rename_i w hw
    split at hv
    ·rename_i l2 hl
     cases hv
     rw [We h1 hw, ih h2 hl]
    ·cases hv
   ·cases hv
theorem Agj {t : TV} {u w : Value} (h : D0 P W Z U E st.ob t u) (hv : t.val? = some w) : u = w := by
 cases h with
 | one h => exact We h hv
 | agg h =>
  simp only [TV.val?] at hv
  split at hv
  ·rename_i l hl
   cases hv
   congr 1
   rw [← Af9 h hl]
  ·cases hv
 | tup hl h => simp [TV.val?] at hv
 | fn g => simp [TV.val?] at hv
 | fnp h => simp [TV.val?] at hv
 | fnr h => simp [TV.val?] at hv
 | itr h => simp [TV.val?] at hv
theorem Wd {v : Value} {x : SV} (h : SV.of? v = some x) : Cs P W Z U E st.ob x v := by
 cases v <;> simp [SV.of?] at h <;> subst h
 ·exact Ae.bool _
 ·exact Ae.int _ _
 ·exact Ae.str _
theorem Af8 : ∀ {us : List Value} {l : List SV}, SV.ofs? us = some l → Aq (Cs P W Z U E st.ob) l us := by
 intro us
 induction us with
 | nil => intro l h; simp [SV.ofs?] at h; subst h; exact .nil
 | cons u us ih =>
  intro l h
  simp only [SV.ofs?] at h
  split at h
  ·rename_i x hx
   split at h
   ·rename_i m hm
    cases h
    exact .cons (Wd hx) (ih hm)
   ·cases h
  ·cases h
theorem Qi {v : Value} {t : TV} (h : TV.of? v = some t) : D0 P W Z U E st.ob t v := by
 unfold TV.of? at h
 split at h
 ·split at h
  ·cases h
   exact .agg (Af8 (by assumption))
  ·cases h
 ·rename_i arr
  cases arr with
  | mk l => cases l with
   | nil =>
    simp only [Option.some.injEq] at h
    subst h
    exact .tup rfl (fun i t u h => by simp at h)
   | cons x l => simp at h
 ·split at h
  ·cases h
   exact .one (Wd (by assumption))
  ·cases h
theorem C4 (R : Rel P W0 M U st E Z a W) {x : Operand} {t : TV} (h : st.opd x = some t) : D0 P W Z U E st.ob t (a.eval x) := by
 cases x with
 | tmp i => exact (R.tm i t h).2
 | const v => exact Qi h
 | global g => simp [St.opd] at h
 | func f => cases h; exact .fn f
theorem Ag9 {U : Nat → Prop} {E : Env} {ob : List (Nat × Ob)} : ∀ {ks : List Kn} {vs : List Value} {l : List SV}, Es ks vs = some l → Aq (Cs P W Z U E ob) l vs := by
 intro ks
 induction ks with
 | nil =>
  intro vs l h
  cases vs with
  | nil => simp [Es] at h; subst h; exact .nil
  | cons v vs => simp [Es] at h
 | cons k ks ih =>
  intro vs l h
  cases vs with
  | nil => simp [Es] at h
  | cons v vs =>
   simp only [Es] at h
   split at h
   ·rename_i x hx
    split at h
    ·rename_i l' hl
     cases h
     refine .cons ?_ (ih hl)
     unfold Oi at hx
     split at hx <;> cases hx
     ·exact Ae.nil _
     ·exact Ae.fn0
     ·exact Ae.int _ _
     ·exact Ae.bool _
     ·exact Ae.str _
    ·cases h
   ·cases h
theorem G6 (R : Rel P W0 M U st E Z a W) {x : Operand} {t : TV} {ty : TypeId} (h : st.opdT P ty x = some t) : D0 P W Z U E st.ob t (a.eval x) := by
 unfold St.opdT at h
 split at h
 ·cases h
  exact .one (Ae.nil _)
 ·split at h
  ·rename_i tv htv
   cases h
   exact Qi htv
  ·split at h
   ·split at h
    ·rename_i l hl
     cases h
     exact .agg (Ag9 hl)
    ·cases h
   ·cases h
 ·exact C4 R h
theorem Adf (R : Rel P W0 M U st E Z a W) {x : Operand} (h : st.hasVal x = true) : st.opdVal x = a.eval x := by
 unfold St.hasVal at h
 unfold St.opdVal
 cases ht : st.opd x with
 | none => rw [ht] at h; cases h
 | some t =>
  rw [ht] at h
  simp only at h ⊢
  obtain ⟨w, hw⟩ := Option.isSome_iff_exists.1 h
  rw [hw]
  exact (Agj (C4 R ht) hw).symm
theorem Aar {st : St} : ∀ {l : List Operand}, st.hasVals l = true → ∀ x, x ∈ l → st.hasVal x = true := by
 intro l
 induction l with
 | nil => intro _ x h; cases h
 | cons y l ih =>
  intro h x hx
  simp only [St.hasVals] at h
  split at h
  ·rcases List.mem_cons.1 hx with rfl | hx
   ·assumption
   ·exact ih h x hx
  ·cases h
end Go.Vm
namespace Go.Vm
open Go
variable {P : Program} {W0 W W' : World} {M U U' : Nat → Prop} {st : St} {E E' : Env} {Z Z' : Addr → Prop} {a : Act} {ob ob' : List (Nat × Ob)}
def D9 : Ob → Ob → Prop
 | .box _ _, .box _ _ => True
 | .arr e _ rows, .arr e' _ rows' => e = e' ∧ rows.length = rows'.length
 | .iter _ _, .iter _ _ => True
 | .mp _ _ _, .mp _ _ _ => True
 | _, _ => False
theorem D9.refl (o : Ob) : D9 o o := by cases o <;> simp [D9]
structure Eh (W W' : World) (Z Z' : Addr → Prop) (U U' : Nat → Prop) (E E' : Env) (ob ob' : List (Nat × Ob)) : Prop where
 z : ∀ k, Z k → Z' k
 u : ∀ k, U k → U' k
 w : ∀ A, Z A → W'.cell? A = W.cell? A
 e : ∀ i o', U i → Aa ob' i = some o' → E'.box i = E.box i ∧ E'.row i = E.row i ∧ E'.cap i = E.cap i
 o : ∀ i o', U i → Aa ob' i = some o' → ∃ o, Aa ob i = some o ∧ D9 o o'
theorem Cs.move {x : SV} {v : Value} (h : Cs P W Z U E ob x v) (K : Eh W W' Z Z' U U' E E' ob ob') : Cs P W' Z' U' E' ob' x v := by
 cases x with
 | c x => exact Ae.mono (show Ae P W Z x v from h) K.w K.z
 | arr i =>
  obtain ⟨hu, h1, h⟩ := h
  refine ⟨K.u i hu, h1, fun e f rows hl => ?_⟩
  obtain ⟨o, h2, h3⟩ := K.o i _ hu hl
  obtain ⟨e1, e2, e3⟩ := K.e i _ hu hl
  cases o with
  | box t l => exact h3.elim
  | iter _ _ => exact h3.elim
  | mp _ _ _ => exact h3.elim
  | arr e' f' rows' =>
   obtain ⟨rfl, h4⟩ := h3
   rw [e2, e3, ← h4]
   exact h _ _ _ h2
 | sub i lo n =>
  obtain ⟨hu, h1, h⟩ := h
  refine ⟨K.u i hu, h1, fun e f rows hl => ?_⟩
  obtain ⟨o, h2, h3⟩ := K.o i _ hu hl
  obtain ⟨e1, e2, e3⟩ := K.e i _ hu hl
  cases o with
  | box t l => exact h3.elim
  | iter _ _ => exact h3.elim
  | mp _ _ _ => exact h3.elim
  | arr e' f' rows' =>
   obtain ⟨rfl, h4⟩ := h3
   rw [e2, e3, ← h4]
   exact h _ _ _ h2
 | ptr i off =>
  obtain ⟨hu, h1, h⟩ := h
  refine ⟨K.u i hu, h1, fun t l hl => ?_⟩
  obtain ⟨o, h2, h3⟩ := K.o i _ hu hl
  obtain ⟨e1, e2, e3⟩ := K.e i _ hu hl
  cases o with
  | box t l => rw [e1]; exact h _ _ h2
  | iter _ _ => exact h3.elim
  | mp _ _ _ => exact h3.elim
  | arr e' f' rows' => exact h3.elim
 | ept i r off =>
  obtain ⟨hu, h1, h⟩ := h
  refine ⟨K.u i hu, h1, fun e f rows hl => ?_⟩
  obtain ⟨o, h2, h3⟩ := K.o i _ hu hl
  obtain ⟨e1, e2, e3⟩ := K.e i _ hu hl
  cases o with
  | box t l => exact h3.elim
  | iter _ _ => exact h3.elim
  | mp _ _ _ => exact h3.elim
  | arr e' f' rows' =>
   obtain ⟨rfl, h4⟩ := h3
   rw [e2, ← h4]
   exact h _ _ _ h2
 | rop e l off =>
  obtain ⟨b, h1, ks, h2, h3, h4⟩ := h
  refine ⟨b, h1, ks, h2, h3, fun o x ho => ?_⟩
  obtain ⟨h5, u, h6, h7⟩ := h4 o x ho
  exact ⟨K.z _ h5, u, by rw [← h6]; exact K.w _ h5, h7.mono K.w K.z⟩
theorem D0.move {t : TV} {v : Value} (h : D0 P W Z U E ob t v) (K : Eh W W' Z Z' U U' E E' ob ob') : D0 P W' Z' U' E' ob' t v := by
 induction h with
 | one h => exact .one (h.move K)
 | agg h => exact .agg (h.imp fun _ _ _ h => h.move K)
 | tup hl h ih => exact .tup hl ih
 | fn g => exact .fn g
 | fnp h => exact .fnp (h.move K)
 | fnr h => exact .fnr (h.move K)
 | itr h =>
  refine .itr ⟨K.u _ h.1, fun s pos hl => ?_, fun k e l hl => ?_⟩
  ·obtain ⟨o, h2, h3⟩ := K.o _ _ h.1 hl
   obtain ⟨e1, e2, e3⟩ := K.e _ _ h.1 hl
   cases o with
   | iter s' p' => rw [e1]; exact h.2.1 _ _ h2
   | _ => exact h3.elim
  ·obtain ⟨o, h2, h3⟩ := K.o _ _ h.1 hl
   obtain ⟨e1, e2, e3⟩ := K.e _ _ h.1 hl
   cases o with
   | mp k' e' l' => rw [e1]; exact h.2.2 _ _ _ h2
   | _ => exact h3.elim
theorem Em.move {e : TypeId} {rows : List (List C)} {pl : Option (Nat × Nat)} {cap : Nat} (h : Em P W Z e rows pl cap) (hz : ∀ k, Z k → Z' k) (hw : ∀ A, Z A → W'.cell? A = W.cell? A) (hg : ∀ g o, 0 < cap → pl = some (g, o) → W'.heap[g]? = W.heap[g]?) : Em P W' Z' e rows pl cap := by
 obtain ⟨h1, h2, ks, h3, h4, h5, h6⟩ := h
 refine ⟨h1, h2, ks, h3, h4, h5, fun hc => ?_⟩
 obtain ⟨g, off, cur, h7, h8, h9, h10⟩ := h6 hc
 refine ⟨g, off, cur, h7, by rw [hg g off hc h7]; exact h8, h9, fun j r o x hj hr => ?_⟩
 obtain ⟨u, h11, h12⟩ := h10 j r o x hj hr
 exact ⟨u, h11, h12.mono hw hz⟩
theorem G9.move {i : Nat} {o : Ob} (h : G9 P W Z U E ob i o) (K : Eh W W' Z Z' U U' E E' ob ob') (he : E'.box i = E.box i ∧ E'.row i = E.row i ∧ E'.cap i = E.cap i) (hg : ∀ g, Aw E i o = some g → W'.heap[g]? = W.heap[g]?) : G9 P W' Z' U' E' ob' i o := by
 obtain ⟨e1, e2, e3⟩ := he
 cases o with
 | box t l =>
  obtain ⟨cur, h1, h2⟩ := h
  exact ⟨cur, by rw [e1, hg _ rfl]; exact h1, h2.imp fun _ _ _ h => h.move K⟩
 | arr e f rows =>
  show Em P W' Z' e rows (E'.row i) (E'.cap i)
  rw [e2, e3]
  refine Em.move (show Em P W Z e rows (E.row i) (E.cap i) from h) K.z K.w fun g o hc hp => hg g ?_
  simp [Aw, hc, hp]
 | iter s pos =>
  show W'.heap[E'.box i]? = _
  rw [e1, hg _ rfl]
  exact h
 | mp k e l =>
  obtain ⟨es, c, n, h1, h2⟩ := h
  exact ⟨es, c, n, by rw [e1, hg _ rfl]; exact h1, h2⟩
theorem Rel.change (R : Rel P W0 M U st E Z a W) (K : Eh W W' Z Z' U U' E E' st.ob ob') (hob : ∀ i o, Aa ob' i = some o → G9 P W' Z' U' E' ob' i o)
  (hids : ∀ i o, Aa ob' i = some o → U' i) (hinj : ∀ i j o p g, Aa ob' i = some o → Aa ob' j = some p → Aw E' i o = some g → Aw E' j p = some g → i = j)
  (hfree : ∀ i o g, Aa ob' i = some o → Aw E' i o = some g → (∀ e rows, o ≠ .arr e true rows) → ∀ A, Z' A → A.block ≠ g)
  (hfrz : ∀ i e rows g off, Aa ob' i = some (.arr e true rows) → 0 < E'.cap i → E'.row i = some (g, off) → Frz P Z' e rows.length g off)
  (hzlt : ∀ A, Z' A → A.block < W'.heap.size) (hown : ∀ i o g, Aa ob' i = some o → Aw E' i o = some g → M g ∨ W0.heap.size ≤ g)
  (hframe : ∀ k, k < W0.heap.size → ¬ M k → W'.heap[k]? = W.heap[k]?) (hsize : W.heap.size ≤ W'.heap.size) (hos : W'.os = W.os) (htape : W'.tape = W.tape) (hout : W'.output = W.output) :
  Rel P W0 M U' ⟨st.tm, ob', st.base, st.nt⟩ E' Z' a W' :=
 ⟨R.nt, R.defers, fun t tv h => ⟨(R.tm t tv h).1, (R.tm t tv h).2.move K⟩, hob, hids, hinj, hfree, hfrz, hzlt, hown, fun k h1 h2 => (hframe k h1 h2).trans (R.frame k h1 h2), Nat.le_trans R.size hsize, hos.trans R.os, htape.trans R.tape, hout.trans R.output, R.hood⟩
theorem Rel.del (R : Rel P W0 M U st E Z a W) (i : Nat) : Rel P W0 M U ⟨st.tm, Vm.del st.ob i, st.base, st.nt⟩ E Z a W := by
 have hl : ∀ j o, Aa (Vm.del st.ob i) j = some o → Aa st.ob j = some o := by
  intro j o h
  rw [Gr] at h
  split at h
  ·cases h
  ·exact h
 have K : Eh W W Z Z U U E E st.ob (Vm.del st.ob i) := ⟨fun _ h => h, fun _ h => h, fun _ _ => rfl, fun _ _ _ _ => ⟨rfl, rfl, rfl⟩, fun j o _ h => ⟨o, hl j o h, D9.refl o⟩⟩
 exact R.change K (fun j o h => (R.ob j o (hl j o h)).move K ⟨rfl, rfl, rfl⟩ (fun _ _ => rfl)) (fun j o h => R.ids j o (hl j o h)) (fun j k o p g h1 h2 => R.inj j k o p g (hl _ _ h1) (hl _ _ h2))
  (fun j o g h => R.free j o g (hl _ _ h)) (fun j e rows g off h => R.frz j e rows g off (hl _ _ h)) R.zlt (fun j o g h => R.own j o g (hl _ _ h)) (fun _ _ _ => rfl) (Nat.le_refl _) rfl rfl rfl
theorem Rel.moreU (R : Rel P W0 M U st E Z a W) (hU : ∀ i, U i → U' i) : Rel P W0 M U' st E Z a W := by
 have K : Eh W W Z Z U U' E E st.ob st.ob := ⟨fun _ h => h, hU, fun _ _ => rfl, fun _ _ _ _ => ⟨rfl, rfl, rfl⟩, fun j o _ h => ⟨o, h, D9.refl o⟩⟩
 exact R.change K (fun j o h => (R.ob j o h).move K ⟨rfl, rfl, rfl⟩ (fun _ _ => rfl)) (fun j o h => hU _ (R.ids j o h)) R.inj R.free R.frz R.zlt R.own (fun _ _ _ => rfl) (Nat.le_refl _) rfl rfl rfl
theorem Rel.world (R : Rel P W0 M U st E Z a W) (hz : ∀ A, Z A → W'.cell? A = W.cell? A) (hb : ∀ i o g, Aa st.ob i = some o → Aw E i o = some g → W'.heap[g]? = W.heap[g]?)
  (hframe : ∀ k, k < W0.heap.size → ¬ M k → W'.heap[k]? = W.heap[k]?) (hsize : W.heap.size ≤ W'.heap.size) (hos : W'.os = W.os) (htape : W'.tape = W.tape) (hout : W'.output = W.output) : Rel P W0 M U st E Z a W' := by
 have K : Eh W W' Z Z U U E E st.ob st.ob := ⟨fun _ h => h, fun _ h => h, hz, fun _ _ _ _ => ⟨rfl, rfl, rfl⟩, fun j o _ h => ⟨o, h, D9.refl o⟩⟩
 exact R.change K (fun j o h => (R.ob j o h).move K ⟨rfl, rfl, rfl⟩ (fun g hg => hb j o g h hg)) R.ids R.inj R.free R.frz (fun k hk => Nat.lt_of_lt_of_le (R.zlt k hk) hsize) R.own hframe hsize hos htape hout
def Env.setBox (E : Env) (i g : Nat) : Env := ⟨fun j => if j = i then g else E.box j, E.row, E.cap⟩
def Env.setRow (E : Env) (i : Nat) (pl : Option (Nat × Nat)) (cap : Nat) : Env := ⟨E.box, fun j => if j = i then pl else E.row j, fun j => if j = i then cap else E.cap j⟩
theorem Rel.addG (R : Rel P W0 M U st E Z a W) {i : Nat} (hi : ¬ U i) {o : Ob} (hE : ∀ j, j ≠ i → E'.box j = E.box j ∧ E'.row j = E.row j ∧ E'.cap j = E.cap j)
  (hrep : G9 P W Z (fun j => U j ∨ j = i) E' (put st.ob i o) i o) (hfr : (∀ e rows, o ≠ .arr e true rows) → ∀ g, Aw E' i o = some g → ∀ A, Z A → A.block ≠ g)
  (hfz : ∀ e rows g off, o = .arr e true rows → 0 < E'.cap i → E'.row i = some (g, off) → Frz P Z e rows.length g off)
  (hg : ∀ g, Aw E' i o = some g → (M g ∨ W0.heap.size ≤ g) ∧ ∀ j p, Aa st.ob j = some p → Aw E j p ≠ some g) :
  Rel P W0 M (fun j => U j ∨ j = i) ⟨st.tm, put st.ob i o, st.base, st.nt⟩ E' Z a W := by
 have hl : ∀ j p, Aa (put st.ob i o) j = some p → (j = i ∧ p = o) ∨ (j ≠ i ∧ Aa st.ob j = some p) := by
  intro j p h
  rw [D8] at h
  split at h
  ·cases h; exact .inl ⟨by assumption, rfl⟩
  ·exact .inr ⟨by assumption, h⟩
 have hbk : ∀ j p, j ≠ i → Aw E' j p = Aw E j p := by
  intro j p hj
  obtain ⟨e1, e2, e3⟩ := hE j hj
  cases p <;> simp [Aw, e1, e2, e3]
 have K : Eh W W Z Z U (fun j => U j ∨ j = i) E E' st.ob (put st.ob i o) := by
  refine ⟨fun _ h => h, fun _ h => .inl h, fun _ _ => rfl, fun j p hu h => ?_, fun j p hu h => ?_⟩
  ·exact hE j (fun e => hi (e ▸ hu))
  ·rcases hl j p h with ⟨rfl, _⟩ | ⟨_, h⟩
   ·exact absurd hu hi
   ·exact ⟨p, h, D9.refl p⟩
 refine R.change K (fun j p h => ?_) (fun j p h => ?_) (fun j k p q g h1 h2 h3 h4 => ?_) (fun j p g h h2 h3 => ?_) (fun j e rows g off h h2 h2' => ?_) R.zlt (fun j p g h h2 => ?_) (fun _ _ _ => rfl) (Nat.le_refl _) rfl rfl rfl
 ·rcases hl j p h with ⟨rfl, rfl⟩ | ⟨hj, h⟩
  ·exact hrep
  ·exact (R.ob j p h).move K (hE j hj) (fun _ _ => rfl)
 ·rcases hl j p h with ⟨rfl, _⟩ | ⟨_, h⟩
  ·exact .inr rfl
  ·exact .inl (R.ids j p h)
 ·rcases hl j p h1 with ⟨e1, e2⟩ | ⟨hj, h5⟩ <;> rcases hl k q h2 with ⟨e3, e4⟩ | ⟨hk, h6⟩
  ·rw [e1, e3]
  ·rw [e1, e2] at h3
   exact absurd ((hbk k q hk).symm.trans h4) ((hg g h3).2 k q h6)
  ·rw [e3, e4] at h4
   exact absurd ((hbk j p hj).symm.trans h3) ((hg g h4).2 j p h5)
  ·exact R.inj j k p q g h5 h6 ((hbk j p hj).symm.trans h3) ((hbk k q hk).symm.trans h4)
 ·rcases hl j p h with ⟨rfl, rfl⟩ | ⟨hj, h⟩
  ·exact hfr h3 g h2
  ·exact R.free j p g h ((hbk j p hj).symm.trans h2) h3
 ·rcases hl j _ h with ⟨rfl, e2⟩ | ⟨hj, h⟩
  ·exact hfz e rows g off e2.symm h2 h2'
  ·obtain ⟨_, e2, e3⟩ := hE j hj
   exact R.frz j e rows g off h (by rw [← e3]; exact h2) (by rw [← e2]; exact h2')
 ·rcases hl j p h with ⟨rfl, rfl⟩ | ⟨hj, h⟩
  ·exact (hg g h2).1
  ·exact R.own j p g h ((hbk j p hj).symm.trans h2)
theorem Rel.add (R : Rel P W0 M U st E Z a W) {i : Nat} (hi : ¬ U i) {o : Ob} (hE : ∀ j, j ≠ i → E'.box j = E.box j ∧ E'.row j = E.row j ∧ E'.cap j = E.cap j)
  (hrep : G9 P W Z (fun j => U j ∨ j = i) E' (put st.ob i o) i o) (hn : ∀ e rows, o ≠ .arr e true rows)
  (hg : ∀ g, Aw E' i o = some g → (∀ A, Z A → A.block ≠ g) ∧ (M g ∨ W0.heap.size ≤ g) ∧ ∀ j p, Aa st.ob j = some p → Aw E j p ≠ some g) :
  Rel P W0 M (fun j => U j ∨ j = i) ⟨st.tm, put st.ob i o, st.base, st.nt⟩ E' Z a W :=
 R.addG hi hE hrep (fun _ g h => (hg g h).1) (fun e rows g off h => absurd h (hn e rows)) (fun g h => (hg g h).2)
end Go.Vm
namespace Go.Vm
open Go
variable {P : Program} {W0 W W' : World} {M U U' : Nat → Prop} {st : St} {E E' : Env} {Z Z' : Addr → Prop} {a : Act} {ob ob' : List (Nat × Ob)}
theorem D9.blk {o o' : Ob} (h : D9 o o') (i : Nat) : Aw E i o' = Aw E i o := by
 cases o <;> cases o' <;> simp_all [D9, Aw]
theorem G9.lt {i : Nat} {o : Ob} (h : G9 P W Z U E ob i o) {g : Nat} (hg : Aw E i o = some g) : g < W.heap.size := by
 cases o with
 | box t l =>
  obtain ⟨cur, h1, _⟩ := h
  simp only [Aw, Option.some.injEq] at hg
  subst hg
  exact (Array.getElem?_eq_some_iff.1 h1).1
 | arr e f rows =>
  obtain ⟨_, _, ks, _, _, _, h6⟩ := h
  simp only [Aw] at hg
  split at hg
  ·rename_i hc
   obtain ⟨g', off, cur, h7, h8, _⟩ := h6 hc
   rw [h7] at hg
   simp only [Option.map_some, Option.some.injEq] at hg
   subst hg
   exact (Array.getElem?_eq_some_iff.1 h8).1
  ·cases hg
 | iter s pos =>
  simp only [Aw, Option.some.injEq] at hg
  subst hg
  exact (Array.getElem?_eq_some_iff.1 (show W.heap[E.box i]? = _ from h)).1
 | mp k e l =>
  obtain ⟨es, c, n, h1, _⟩ := h
  simp only [Aw, Option.some.injEq] at hg
  subst hg
  exact (Array.getElem?_eq_some_iff.1 h1).1
theorem Rel.lt (R : Rel P W0 M U st E Z a W) {i : Nat} {o : Ob} (h : Aa st.ob i = some o) {g : Nat} (hg : Aw E i o = some g) : g < W.heap.size := (R.ob i o h).lt hg
theorem Fs {i : Nat} {o' : Ob} {j : Nat} {p : Ob} (h : Aa (put ob i o') j = some p) : (j = i ∧ p = o') ∨ (j ≠ i ∧ Aa ob j = some p) := by
 rw [D8] at h
 split at h
 ·cases h; exact .inl ⟨by assumption, rfl⟩
 ·exact .inr ⟨by assumption, h⟩
theorem Rel.upd (R : Rel P W0 M U st E Z a W) {i : Nat} {o o' : Ob} (h : Aa st.ob i = some o) (hs : D9 o o') (hzz : ∀ k, Z k → Z' k) (hzw : ∀ A, Z A → W'.cell? A = W.cell? A)
  (hw : ∀ k, Aw E i o ≠ some k → W'.heap[k]? = W.heap[k]?) (hrep : G9 P W' Z' U E (put st.ob i o') i o')
  (hz' : ∀ A, Z' A → Z A ∨ ∃ e rows, o' = .arr e true rows ∧ FC P E i e rows.length A) (hof : (∀ e rows, o' ≠ .arr e true rows) → (∀ e rows, o ≠ .arr e true rows)) (hfz : ∀ e rows g off, o' = .arr e true rows → 0 < E.cap i → E.row i = some (g, off) → Frz P Z' e rows.length g off)
  (hsize : W'.heap.size = W.heap.size) (hos : W'.os = W.os) (htape : W'.tape = W.tape) (hout : W'.output = W.output) : Rel P W0 M U ⟨st.tm, put st.ob i o', st.base, st.nt⟩ E Z' a W' := by
 have hb := D9.blk (E := E) hs i
 have K : Eh W W' Z Z' U U E E st.ob (put st.ob i o') := by
  refine ⟨hzz, fun _ h => h, hzw, fun _ _ _ _ => ⟨rfl, rfl, rfl⟩, fun j p _ hj => ?_⟩
  rcases Fs hj with ⟨rfl, rfl⟩ | ⟨_, hj⟩
  ·exact ⟨o, h, hs⟩
  ·exact ⟨p, hj, D9.refl p⟩
 have hother : ∀ j p g, j ≠ i → Aa st.ob j = some p → Aw E j p = some g → Aw E i o ≠ some g := fun j p g hj h1 h2 h3 => hj (R.inj j i p o g h1 h h2 h3)
 refine R.change K (fun j p hj => ?_) (fun j p hj => ?_) (fun j k p q g h1 h2 h3 h4 => ?_) (fun j p g hj h2 h3 => ?_) (fun j e rows g off hj h2 h2' => ?_) (fun k hk => ?_) (fun j p g hj h2 => ?_) (fun k hk hM => ?_) (Nat.le_of_eq hsize.symm) hos htape hout
 ·rcases Fs hj with ⟨rfl, rfl⟩ | ⟨hn, hj⟩
  ·exact hrep
  ·exact (R.ob j p hj).move K ⟨rfl, rfl, rfl⟩ (fun g hg => hw g (hother j p g hn hj hg))
 ·rcases Fs hj with ⟨rfl, rfl⟩ | ⟨hn, hj⟩
  ·exact R.ids _ _ h
  ·exact R.ids _ _ hj
 ·rcases Fs h1 with ⟨e1, e2⟩ | ⟨hj, h5⟩ <;> rcases Fs h2 with ⟨e3, e4⟩ | ⟨hk, h6⟩
  ·rw [e1, e3]
  ·rw [e1, e2, hb] at h3
   exact absurd h3 (hother k q g hk h6 h4)
  ·rw [e3, e4, hb] at h4
   exact absurd h4 (hother j p g hj h5 h3)
  ·exact R.inj j k p q g h5 h6 h3 h4
 ·rcases Fs hj with ⟨rfl, rfl⟩ | ⟨hn, hj⟩
  ·rw [hb] at h2
   intro A hz
   rcases hz' A hz with hz | ⟨e, rows, he, _⟩
   ·exact R.free _ _ g h h2 (hof h3) A hz
   ·exact absurd he (h3 e rows)
  ·intro A hz
   rcases hz' A hz with hz | ⟨e, rows, he, hz⟩
   ·exact R.free j p g hj h2 h3 A hz
   ·intro hg
    have := hz.blk (f := true) (rows := rows)
    rw [← he, hb, hg] at this
    exact hother j p g hn hj h2 this
 ·rcases Fs hj with ⟨rfl, e2⟩ | ⟨hn, hj⟩
  ·exact hfz e rows g off e2.symm h2 h2'
  ·obtain ⟨q1, q2⟩ := R.frz j e rows g off hj h2 h2'
   refine ⟨fun o ho => hzz _ (q1 o ho), fun A hA hg => ?_⟩
   rcases hz' A hA with hA | ⟨e', rows', he, hA⟩
   ·exact q2 A hA hg
   ·have := hA.blk (f := true) (rows := rows')
    rw [← he, hb, hg] at this
    exact absurd this (hother j _ g hn hj (by simp [Aw, h2, h2']))
 ·rw [hsize]
  rcases hz' k hk with hk | ⟨e, rows, he, hk⟩
  ·exact R.zlt k hk
  ·have := hk.blk (f := true) (rows := rows)
   rw [← he, hb] at this
   exact R.lt h this
 ·rcases Fs hj with ⟨rfl, rfl⟩ | ⟨hn, hj⟩
  ·rw [hb] at h2
   exact R.own _ _ g h h2
  ·exact R.own j p g hj h2
 ·refine hw k (fun e => ?_)
  rcases R.own i o k h e with h1 | h1
  ·exact hM h1
  ·omega
theorem N5 (W : World) (g : Nat) (cs : Array Value) : (∀ k, k ≠ g → (W.setRow g cs).heap[k]? = W.heap[k]?) ∧ (W.setRow g cs).heap.size = W.heap.size ∧ (W.setRow g cs).os = W.os ∧ (W.setRow g cs).tape = W.tape ∧ (W.setRow g cs).output = W.output :=
 ⟨fun k hk => setRow_other W g k cs hk, setRow_size W g cs, rfl, rfl, rfl⟩
theorem Rel.boxSet (R : Rel P W0 M U st E Z a W) {i : Nat} {t : TypeId} {l l' : List SV} {cur' : Array Value} (h : Aa st.ob i = some (.box t l)) (hl : Aq (Cs P W Z U E st.ob) l' cur'.toList) :
  Rel P W0 M U ⟨st.tm, put st.ob i (.box t l'), st.base, st.nt⟩ E Z a (W.setRow (E.box i) cur') := by
 obtain ⟨hk, hsz, h1, h2, h3⟩ := N5 W (E.box i) cur'
 have hz : ∀ A, Z A → A.block ≠ E.box i := R.free i _ _ h rfl (fun e rows hh => by cases hh)
 have hzw : ∀ A, Z A → (W.setRow (E.box i) cur').cell? A = W.cell? A := fun A hA => Gp (hk _ (hz A hA))
 obtain ⟨cur, hc, hcl⟩ := R.ob i _ h
 refine R.upd h (o' := .box t l') trivial (fun _ h => h) hzw (fun k hn => hk k (fun e => hn (by rw [e]; rfl))) ⟨cur', setRow_heap W _ cur cur' t (0, 0) hc, ?_⟩ (fun k hk => .inl hk) (fun _ e rows hh => by cases hh) (fun e rows g off hh => by cases hh) hsz h1 h2 h3
 have K : Eh W (W.setRow (E.box i) cur') Z Z U U E E st.ob (put st.ob i (.box t l')) := by
  refine ⟨fun _ h => h, fun _ h => h, hzw, fun _ _ _ _ => ⟨rfl, rfl, rfl⟩, fun j p _ hj => ?_⟩
  rcases Fs hj with ⟨rfl, rfl⟩ | ⟨_, hj⟩
  ·exact ⟨_, h, trivial⟩
  ·exact ⟨p, hj, D9.refl p⟩
 exact hl.imp fun _ _ _ h => h.move K
theorem Rel.rowSet (R : Rel P W0 M U st E Z a W) {i : Nat} {e : TypeId} {rows rows' : List (List C)} {g off : Nat} {cur cur' : Array Value} (h : Aa st.ob i = some (.arr e false rows)) (hc : 0 < E.cap i) (hp : E.row i = some (g, off)) (hg : W.heap[g]? = some (.cells cur e (0, 0))) (hlen : rows'.length = rows.length)
  (hsz' : off + E.cap i * P.cellsOf e ≤ cur'.size) (hks : ∀ ks, Dy P e = some ks → ∀ r, r ∈ rows' → r.map C.kind = ks)
  (hcells : ∀ j r o x, rows'[j]? = some r → r[o]? = some x → ∃ u, cur'[off + j * P.cellsOf e + o]? = some u ∧ Ae P W Z x u) :
  Rel P W0 M U ⟨st.tm, put st.ob i (.arr e false rows'), st.base, st.nt⟩ E Z a (W.setRow g cur') := by
 obtain ⟨hk, hsz, h1, h2, h3⟩ := N5 W g cur'
 have hb : Aw E i (.arr e false rows) = some g := by simp [Aw, hc, hp]
 have hz : ∀ A, Z A → A.block ≠ g := R.free i _ _ h hb (fun e rows hh => by cases hh)
 have hzw : ∀ A, Z A → (W.setRow g cur').cell? A = W.cell? A := fun A hA => Gp (hk _ (hz A hA))
 obtain ⟨r1, r2, ks, r3, r4, r5, r6⟩ := R.ob i _ h
 refine R.upd h (o' := .arr e false rows') ⟨rfl, hlen.symm⟩ (fun _ h => h) hzw (fun k hn => hk k (fun e => hn (by rw [e]; exact hb))) ⟨by rw [hlen]; exact r1, r2, ks, r3, r4, hks ks r3, fun _ => ⟨g, off, cur', hp, setRow_heap W g cur cur' e (0, 0) hg, hsz', fun j r o x hj hr => ?_⟩⟩ (fun k hk => .inl hk) (fun _ e rows hh => by cases hh) (fun e rows g off hh => by cases hh) hsz h1 h2 h3
 obtain ⟨u, h4, h5⟩ := hcells j r o x hj hr
 exact ⟨u, h4, h5.mono hzw (fun _ h => h)⟩
theorem Rel.freeze1 (R : Rel P W0 M U st E Z a W) {i : Nat} {e : TypeId} {f : Bool} {rows : List (List C)} (h : Aa st.ob i = some (.arr e f rows)) :
  Rel P W0 M U ⟨st.tm, put st.ob i (.arr e true rows), st.base, st.nt⟩ E (fun A => Z A ∨ FC P E i e rows.length A) a W := by
 refine R.upd h (o' := .arr e true rows) ⟨rfl, rfl⟩ (fun _ h => .inl h) (fun _ _ => rfl) (fun _ _ => rfl) ?_ (fun k hk => ?_) (fun hh => absurd rfl (hh e rows)) (fun e' rows' g off hh hc hp => ?_) rfl rfl rfl rfl
 ·exact Em.move (show Em P W Z e rows (E.row i) (E.cap i) from R.ob i _ h) (fun _ h => .inl h) (fun _ _ => rfl) (fun _ _ _ _ => rfl)
 ·rcases hk with hk | hk
  ·exact .inl hk
  ·exact .inr ⟨e, rows, rfl, hk⟩
 ·cases hh
  cases f with
  | false => exact FC.frz hc hp (R.free i _ g h (by simp [Aw, hc, hp]) (fun e rows hh => by cases hh))
  | true =>
   obtain ⟨q1, q2⟩ := R.frz i e rows g off h hc hp
   refine ⟨fun o ho => .inl (q1 o ho), fun A hA hg => ?_⟩
   rcases hA with hA | ⟨_, g', off', k1, _, _, _, k2⟩
   ·exact q2 A hA hg
   ·rw [hp] at k1; cases k1; exact k2
end Go.Vm
namespace Go.Vm
open Go
variable {P : Program} {W0 W W' : World} {M U U' : Nat → Prop} {st : St} {E E' : Env} {Z Z' : Addr → Prop} {a : Act} {ob ob' : List (Nat × Ob)} {o : Oper} {u : Up} {tv : TV} {id : Nat}
def Gl (U : Nat → Prop) (id : Nat) : Nat → Prop := fun j => U j ∨ (id ≤ j ∧ j < id + 128)
theorem Wo (st : St) (dst : Option Nat) (u : Up) (h : u.ob = []) : st.up dst u = st.up dst (.val u.tv) := by
 obtain ⟨t, ob, rd⟩ := u
 simp only at h
 subst h
 rfl
def D2 (P : Program) (W0 : World) (M U : Nat → Prop) (id : Nat) (E : Env) (Z : Addr → Prop) (st : St) (a : Act) (W : World) (o : Oper) (u : Up) : Prop :=
 ∃ r v W' E' Z', (execOp a.eval o).run P W = .ok r W' ∧ (r = .value v ∨ (r = .skip ∧ v = undef)) ∧ Rel P W0 M (Gl U id) (st.up o.dst u) E' Z' (a.put o.dst v) W' ∧ (∀ k, Z k → Z' k) ∧ (∀ A, Z' A → Z A ∨ M A.block ∨ W0.heap.size ≤ A.block) ∧ ∀ i, U i → E'.box i = E.box i
theorem Ds (R : Rel P W0 M U st E Z a W) {v : Value} (hr : (execOp a.eval o).run P W = .ok (.value v) W) (hu : u.ob = []) (hv : D0 P W Z U E st.ob u.tv v) : D2 P W0 M U id E Z st a W o u :=
 ⟨_, v, W, E, Z, hr, .inl rfl, by rw [Wo st o.dst u hu]; exact (R.val o.dst hv).moreU (fun _ h => .inl h), fun _ h => h, fun _ h => .inl h, fun _ _ => rfl⟩
theorem N1 {t : TypeId} {b : Bool} (h : Jj P t = some b) : (isAgg t).run P W = .ok b W := by
 unfold Jj at h
 unfold isAgg
 cases hu : P.underlying t with
 | none => rw [hu] at h; cases h
 | some d =>
  rw [hu] at h
  simp only [Sem.run_bind, run_underlying hu, Result.andThen_ok]
  cases d <;> simp_all
theorem Aaz {t : TypeId} {d : TypeDesc} (h : P.underlying t = some d) : ∃ i, P.info? t = some i := by
 unfold Program.underlying at h
 cases hi : P.info? t with
 | none => rw [hi] at h; cases h
 | some i => exact ⟨i, rfl⟩
theorem Vs {t : TypeId} {d : TypeDesc} (h : P.underlying t = some d) : (sizeOf t).run P W = .ok (P.cellsOf t) W := by
 obtain ⟨i, hi⟩ := Aaz h
 simp [sizeOf, typeInfo, hi, Program.cellsOf]
theorem Qy {t : TypeId} {b : Bool} (h : Jj P t = some b) : ∃ d, P.underlying t = some d := by
 unfold Jj at h
 cases hu : P.underlying t with
 | none => rw [hu] at h; cases h
 | some d => exact ⟨d, rfl⟩
theorem K6 {t : TypeId} {l : List SV} {off : Nat} {b : Addr} {us : List Value} (hl : Aq (Cs P W Z U E ob) l us) (hc : ∀ k u, us[k]? = some u → W.cell? (b.add k) = some u) (hp : part P t l off = some tv) :
  ∃ v, (Instr.loadAt t (.pointer (some (b.add off)))).run P W = .ok v W ∧ D0 P W Z U E ob tv v := by
 unfold part at hp
 split at hp
 ·rename_i hag
  obtain ⟨d, hd⟩ := Qy hag
  split at hp
  ·rename_i hle
   cases hp
   have hle := Nat.le_of_ble_eq_true hle
   have hlen := hl.length
   have hcs : ((us.drop off).take (P.cellsOf t)).length = P.cellsOf t := by simp; omega
   have hld := run_loadCells_list (P := P) W (b.add off) ((us.drop off).take (P.cellsOf t)) (fun j v hj => by
    rw [Hs]
    refine hc _ _ ?_
    rw [List.getElem?_take] at hj
    split at hj
    ·rw [List.getElem?_drop] at hj; exact hj
    ·cases hj)
   rw [hcs] at hld
   refine ⟨.agg ((us.drop off).take (P.cellsOf t)).toArray, ?_, .agg ((hl.drop off).take _)⟩
   simp [Instr.loadAt, Instr.sureAddr, loadVar, N1 hag, Vs hd, hld]
  ·cases hp
 ·rename_i hag
  split at hp
  ·rename_i v rest hv
   cases hp
   have h0 : l[off]? = some v := by
    have := congrArg (fun x => x[0]?) hv
    simpa [List.getElem?_drop] using this
   obtain ⟨u, h1, h2⟩ := hl.get off v h0
   refine ⟨u, ?_, .one h2⟩
   simp [Instr.loadAt, Instr.sureAddr, loadVar, N1 hag, run_load, hc off u h1]
  ·cases hp
 ·cases hp
theorem M0 : ∀ {ks : List Kn} {l : List C} {us : List Value}, l.map C.kind = ks → Aq (Ae P W Z) l us → Aq (Cs P W Z U E ob) (Mz ks l) us := by
 intro ks
 induction ks with
 | nil =>
  intro l us hk h
  cases h with
  | nil => exact .nil
  | cons _ _ => simp at hk
 | cons k ks ih =>
  intro l us hk h
  cases h with
  | nil => simp at hk
  | cons h1 h2 =>
   simp only [List.map_cons, List.cons.injEq] at hk
   obtain ⟨rfl, hk⟩ := hk
   exact .cons (Ae.as h1) (ih hk h2)
theorem My {l : List C} {b : Addr} (h : ∀ o x, l[o]? = some x → ∃ u, W.cell? (b.add o) = some u ∧ Ae P W Z x u) : ∃ us, Aq (Ae P W Z) l us ∧ ∀ k u, us[k]? = some u → W.cell? (b.add k) = some u := by
 induction l generalizing b with
 | nil => exact ⟨[], .nil, fun k u h => by simp at h⟩
 | cons x l ih =>
  obtain ⟨u, h1, h2⟩ := h 0 x rfl
  obtain ⟨us, h3, h4⟩ := ih (b := b.add 1) (fun o y ho => by
   obtain ⟨v, h5, h6⟩ := h (o + 1) y (by simpa using ho)
   exact ⟨v, by rw [Hs, Nat.add_comm]; exact h5, h6⟩)
  refine ⟨u :: us, .cons h2 h3, fun k w hk => ?_⟩
  cases k with
  | zero => simp at hk; subst hk; exact h1
  | succ k =>
   have := h4 k w (by simpa using hk)
   rw [Hs, Nat.add_comm] at this
   exact this
theorem Io {g : Nat} {cur : Array Value} {e : TypeId} (h : W.heap[g]? = some (.cells cur e (0, 0))) (k : Nat) : W.cell? ⟨g, k, none⟩ = cur[k]? := by
 simp [World.cell?, h]
theorem Qd {pl : Option (Nat × Nat)} {cap sz n : Nat} {v : Value} (h : Slc pl cap sz 0 n v) : n ≤ cap ∧ ∃ A, v = .slice A n cap ∧ (0 < cap → ∃ g off, pl = some (g, off) ∧ A = some ⟨g, off, none⟩) := by
 obtain ⟨h1, A, h2, h3⟩ := h
 simp only [Nat.zero_add, Nat.sub_zero, Nat.zero_mul, Nat.add_zero] at h1 h2 h3
 exact ⟨h1, A, h2, h3⟩
theorem Acz (R : Rel P W0 M U st E Z a W) {t : TypeId} {x : Operand} (ho : o.op = .load t x) (h : H6 P st t x = some u) : D2 P W0 M U id E Z st a W o u := by
 have hex : ∀ v, (Instr.loadAt t (a.eval x)).run P W = .ok v W → (execOp a.eval o).run P W = .ok (.value v) W := fun v hv => by
  simp [execOp, ho, hv]
 unfold H6 at h
 split at h
 ·rename_i i off hx
  split at h
  ·rename_i t' l hl
   split at h
   ·rename_i tv hp
    cases h
    have hr := C4 R hx
    generalize hv : a.eval x = v at hr
    cases hr with
    | one hr =>
     have he := hr.2.2 t' l hl
     obtain ⟨cur, h1, h2⟩ := R.ob i _ hl
     obtain ⟨w, h3, h4⟩ := K6 (b := ⟨E.box i, 0, none⟩) h2 (fun k u hk => by rw [E9, Io h1]; simpa using hk) hp
     rw [E9, Nat.zero_add, ← he, ← hv] at h3
     exact Ds R (hex w h3) rfl h4
   ·cases h
  ·cases h
 ·rename_i i r off hx
  split at h
  ·rename_i e f rows hl
   split at h
   ·rename_i ks hks
    split at h
    ·rename_i tv hp
     cases h
     have hr := C4 R hx
     generalize hv : a.eval x = v at hr
     cases hr with
     | one hr =>
      obtain ⟨hlt, g, o', hpl, he⟩ := hr.2.2 e f rows hl
      obtain ⟨r1, r2, ks', r3, r4, r5, r6⟩ := R.ob i _ hl
      rw [hks] at r3
      cases r3
      obtain ⟨g', off', cur, r7, r8, r9, r10⟩ := r6 (by omega)
      rw [hpl] at r7
      cases r7
      have hget : rows.getD r [] = rows[r] := by simp [List.getD, List.getElem?_eq_getElem hlt]
      rw [hget] at hp
      have hj : rows[r]? = some rows[r] := List.getElem?_eq_getElem hlt
      obtain ⟨us, h1, h2⟩ := My (l := rows[r]) (b := ⟨g, o' + r * P.cellsOf e, none⟩) (fun o x hx => by
       obtain ⟨w, h3, h4⟩ := r10 r _ o x hj hx
       exact ⟨w, by rw [E9, Io r8]; exact h3, h4⟩)
      obtain ⟨w, h3, h4⟩ := K6 (b := ⟨g, o' + r * P.cellsOf e, none⟩) (M0 (r5 _ (List.getElem_mem hlt)) h1) h2 hp
      rw [E9, ← he, ← hv] at h3
      exact Ds R (hex w h3) rfl h4
    ·cases h
   ·cases h
  ·cases h
 ·rename_i e l off hx
  split at h
  ·rename_i ks hks
   split at h
   ·rename_i tv hp
    cases h
    have hr := C4 R hx
    generalize hv : a.eval x = v at hr
    cases hr with
    | one hr =>
     obtain ⟨b, h1, ks', h2, h3, h4⟩ := hr
     rw [hks] at h2
     cases h2
     obtain ⟨us, h5, h6⟩ := My (l := l) (b := b) (fun o x hx => (h4 o x hx).2)
     obtain ⟨w, h7, h8⟩ := K6 (M0 h3 h5) h6 hp
     rw [← h1, ← hv] at h7
     exact Ds R (hex w h7) rfl h8
   ·cases h
  ·cases h
 ·cases h
end Go.Vm
namespace Go.Vm
open Go
variable {P : Program} {W0 W W' : World} {M U U' : Nat → Prop} {st : St} {E E' : Env} {Z Z' : Addr → Prop} {a : Act} {ob ob' : List (Nat × Ob)} {o : Oper} {u : Up} {tv : TV} {id : Nat}
theorem L4 (R : Rel P W0 M U st E Z a W) (hs : ∀ cs b, o.op ≠ .select cs b) (h : Ek P st o = some u) : D2 P W0 M U id E Z st a W o u := by
 unfold Ek at h
 split at h
 ·rename_i hv
  split at h
  ·rename_i v hp
   split at h
   ·rename_i t ht
    cases h
    have he : execOp st.opdVal o = execOp a.eval o := execOp_congr o hs fun x hx => Adf R (Aar hv x (Array.mem_toList_iff.2 hx))
    rw [he] at hp
    exact Ds R (pure?_run P W _ _ hp) rfl (Qi ht)
   ·cases h
  ·cases h
 ·cases h
theorem Uv (R : Rel P W0 M U st E Z a W) {x : Operand} {ty : TypeId} {v : TV} (ho : o.op = .move x ∨ o.op = .assign x) (h : st.opdT P ty x = some v) : D2 P W0 M U id E Z st a W o (.val v) := by
 refine Ds (v := a.eval x) R ?_ rfl (G6 R h)
 rcases ho with ho | ho <;> simp [execOp, ho]
theorem Uw (R : Rel P W0 M U st E Z a W) {c x y : Operand} {b : Bool} {ty : TypeId} {v : TV} (ho : o.op = .pick c x y) (hc : st.opd c = some (.one (.c (.bool b)))) (h : st.opdT P ty (if b then x else y) = some v) : D2 P W0 M U id E Z st a W o (.val v) := by
 have hr := C4 R hc
 generalize hv : a.eval c = w at hr
 cases hr with
 | one hr =>
  cases (show Ae P W Z (.bool b) w from hr)
  refine Ds (v := a.eval (if b then x else y)) R ?_ rfl (G6 R h)
  cases b <;> simp [execOp, ho, hv, asBool]
theorem Ac6 (R : Rel P W0 M U st E Z a W) {x : Operand} {i off : Nat} {t : TypeId} {l : List SV} (ho : o.op = .nilCheck x) (hx : st.opd x = some (.one (.ptr i off))) (hl : Aa st.ob i = some (.box t l)) : D2 P W0 M U id E Z st a W o ⟨.one (.ptr i off), [], [i]⟩ := by
 have hr := C4 R hx
 generalize hv : a.eval x = w at hr
 cases hr with
 | one hr =>
  have he := hr.2.2 t l hl
  refine Ds (v := w) R ?_ rfl (.one hr)
  simp [execOp, ho, hv, he]
theorem Acs (R : Rel P W0 M U st E Z a W) {x : Operand} {j : Nat} {l r : List TV} {v : TV} (ho : o.op = .extract x j) (hx : st.opd x = some (.tup l)) (hj : l.drop j = v :: r) : D2 P W0 M U id E Z st a W o (.val v) := by
 have hr := C4 R hx
 generalize hv : a.eval x = w at hr
 cases hr with
 | tup hl hr =>
  rename_i us
  have h0 : l[j]? = some v := by
   have := congrArg (fun x => x[0]?) hj
   simpa [List.getElem?_drop] using this
  have hlt : j < us.size := by rw [← hl]; exact (List.getElem?_eq_some_iff.1 h0).1
  refine Ds (v := us[j]) R ?_ rfl (hr j v us[j] h0 (by simp [hlt]))
  simp [execOp, ho, hv, Instr.extract, hlt]
theorem O6 {t : TypeId} {j : Nat} {f : Field} (h : field? P t j = some f) : ∃ fs, P.underlying t = some (.struct fs) ∧ fs[j]? = some f := by
 unfold field? at h
 split at h
 ·exact ⟨_, by assumption, h⟩
 ·cases h
theorem Hj {t : TypeId} (h : P.cellsOf t ≠ 0) : (sizeOf t).run P W = .ok (P.cellsOf t) W := by
 unfold Program.cellsOf at h
 cases hi : P.info? t with
 | none => rw [hi] at h; exact absurd rfl h
 | some i => simp [sizeOf, typeInfo, hi, Program.cellsOf]
theorem P8 {t : TypeId} {j : Nat} {f : Field} {b : Addr} (h : field? P t j = some f) (hn : P.cellsOf f.type ≠ 0) : (Instr.fieldAt t (.pointer (some b)) j).run P W = .ok (.pointer (some (b.add f.offset))) W := by
 obtain ⟨fs, h1, h2⟩ := O6 h
 simp [Instr.fieldAt, run_underlying h1, h2, Instr.sureAddr, fieldPlace, Hj hn, hn]
theorem Acv (R : Rel P W0 M U st E Z a W) {t : TypeId} {x : Operand} {j : Nat} (ho : o.op = .fieldAddr t x j) (h : Ks P st t x j = some u) : D2 P W0 M U id E Z st a W o u := by
 have hex : ∀ v, (Instr.fieldAt t (a.eval x) j).run P W = .ok v W → (execOp a.eval o).run P W = .ok (.value v) W := fun v hv => by simp [execOp, ho, hv]
 unfold Ks at h
 split at h
 ·rename_i f hf
  split at h
  ·rename_i i off hb hx
   have hn : P.cellsOf f.type ≠ 0 := Nat.ne_of_beq_eq_false hb
   split at h
   ·rename_i t' l hl
    cases h
    have hr := C4 R hx
    generalize hv : a.eval x = w at hr
    cases hr with
    | one hr =>
     have he := hr.2.2 t' l hl
     rw [hv] at hex
     refine Ds (v := .pointer (some ⟨E.box i, off + f.offset, none⟩)) R (hex _ ?_) rfl (.one ⟨hr.1, rfl, fun _ _ _ => rfl⟩)
     rw [he, P8 hf hn, E9]
   ·cases h
  ·rename_i i r off hb hx
   have hn : P.cellsOf f.type ≠ 0 := Nat.ne_of_beq_eq_false hb
   split at h
   ·rename_i e fz rows hl
    cases h
    have hr := C4 R hx
    generalize hv : a.eval x = w at hr
    cases hr with
    | one hr =>
     obtain ⟨h1, g, o', h2, he⟩ := hr.2.2 e fz rows hl
     rw [hv] at hex
     refine Ds (v := .pointer (some ⟨g, o' + r * P.cellsOf e + off + f.offset, none⟩)) R (hex _ ?_) rfl (.one ⟨hr.1, rfl, fun e' f' rows' hl' => ?_⟩)
     ·rw [he, P8 hf hn, E9]
     ·rw [hl] at hl'
      cases hl'
      exact ⟨h1, g, o', h2, by rw [Nat.add_assoc]⟩
   ·cases h
  ·rename_i e l off hb hx
   have hn : P.cellsOf f.type ≠ 0 := Nat.ne_of_beq_eq_false hb
   cases h
   have hr := C4 R hx
   generalize hv : a.eval x = w at hr
   cases hr with
   | one hr =>
    obtain ⟨b, he, hr⟩ := hr
    rw [hv] at hex
    refine Ds (v := .pointer (some (b.add (off + f.offset)))) R (hex _ ?_) rfl (.one ⟨b, rfl, hr⟩)
    rw [he, P8 hf hn, Hs]
  ·cases h
 ·cases h
theorem Vq {t : TypeId} {l : List SV} {off : Nat} {us : Array Value} (hl : Aq (Cs P W Z U E ob) l us.toList) (hp : part P t l off = some tv) : ∃ v, (Go.part t us off).run P W = .ok v W ∧ D0 P W Z U E ob tv v := by
 unfold part at hp
 split at hp
 ·rename_i hag
  obtain ⟨d, hd⟩ := Qy hag
  split at hp
  ·rename_i hle
   cases hp
   refine ⟨.agg (us.extract off (off + P.cellsOf t)), ?_, .agg ?_⟩
   ·simp [Go.part, N1 hag, Vs hd]
   ·have := (hl.drop off).take (P.cellsOf t)
    simpa [Array.toList_extract, List.extract_eq_take_drop] using this
  ·cases hp
 ·rename_i hag
  split at hp
  ·rename_i v rest hv
   cases hp
   have h0 : l[off]? = some v := by
    have := congrArg (fun x => x[0]?) hv
    simpa [List.getElem?_drop] using this
   obtain ⟨u, h1, h2⟩ := hl.get off v h0
   have h3 : us[off]? = some u := by simpa using h1
   exact ⟨u, by simp [Go.part, N1 hag, h3], .one h2⟩
  ·cases hp
 ·cases hp
theorem Acu (R : Rel P W0 M U st E Z a W) {t : TypeId} {x : Operand} {j : Nat} (ho : o.op = .field t x j) (h : Kr P st t x j = some u) : D2 P W0 M U id E Z st a W o u := by
 unfold Kr at h
 split at h
 ·rename_i f hf
  split at h
  ·rename_i l hx
   split at h
   ·rename_i tv hp
    cases h
    have hr := C4 R hx
    generalize hv : a.eval x = w at hr
    cases hr with
    | agg hr =>
     obtain ⟨v, h1, h2⟩ := Vq hr hp
     obtain ⟨fs, h3, h4⟩ := O6 hf
     exact Ds (v := v) R (by simp [execOp, ho, hv, Instr.field, run_underlying h3, h4, asAgg, h1]) rfl h2
   ·cases h
  ·cases h
 ·cases h
theorem F1 {t e : TypeId} (h : Ej P t e = true) : P.underlying t = some (.slice e) ∧ P.cellsOf e ≠ 0 := by
 unfold Ej at h
 split at h
 ·rename_i e' he
  split at h
  ·rename_i hb
   cases Nat.eq_of_beq_eq_true hb
   split at h
   ·cases h
   ·rename_i hc
    exact ⟨he, Nat.ne_of_beq_eq_false hc⟩
  ·cases h
 ·cases h
theorem J1 {t : TypeId} (h : G1 P t = true) : P.underlying t = some .string := by
 unfold G1 at h
 split at h
 ·assumption
 ·cases h
theorem Hg (R : Rel P W0 M U st E Z a W) {x : Operand} {n : Int} (h : st.opdInt x = some n) : ∃ k, a.eval x = .int k n := by
 unfold St.opdInt at h
 split at h
 ·rename_i k m hx
  cases h
  have hr := C4 R hx
  generalize hv : a.eval x = w at hr
  cases hr with
  | one hr =>
   cases (show Ae P W Z (.int k n) w from hr)
   exact ⟨k, rfl⟩
 ·cases h
theorem Acx (R : Rel P W0 M U st E Z a W) {t : TypeId} {x j : Operand} (ho : o.op = .indexAddr t x j) (h : Jr some P st t x j = some u) : D2 P W0 M U id E Z st a W o u := by
 have hex : ∀ v, (Instr.indexAt t (a.eval x) (a.eval j)).run P W = .ok v W → (execOp a.eval o).run P W = .ok (.value v) W := fun v hv => by simp [execOp, ho, hv]
 have hrun : ∀ {e : TypeId} {b : Addr} {len cap : Nat} {k : IntKind} {n : Int}, Ej P t e = true → 0 ≤ n → n < len → (Instr.indexAt t (.slice (some b) len cap) (.int k n)).run P W = .ok (.pointer (some (b.add (n.toNat * P.cellsOf e)))) W := by
  intro e b len cap k n hs h0 h1
  obtain ⟨h2, h3⟩ := F1 hs
  simp [Instr.indexAt, asIntOf, run_underlying h2, h0, h1, Hj h3]
 unfold Jr at h
 split at h
 ·rename_i e l n hx hj
  have hdata : Ej P t e = true → 0 ≤ n → n < l.length → D2 P W0 M U id E Z st a W o (.val (.one (.rop e (l.getD n.toNat []) 0))) := by
   intro hs h0 h1
   obtain ⟨k, hk⟩ := Hg R hj
   have hr := C4 R hx
   generalize hv : a.eval x = w at hr
   rw [hv, hk] at hex
   cases hr with
   | one hr =>
    cases (show Ae P W Z (.row e l) w from hr) with
    | row _ _ ks' A c vs hk' hc hm ht hsome hA hrr =>
     have hlt : n.toNat < l.length := by omega
     have hne : l ≠ [] := by intro e; rw [e] at hlt; simp at hlt
     obtain ⟨b, rfl⟩ := Option.isSome_iff_exists.1 (hsome hne)
     have hget : l.getD n.toNat [] = l[n.toNat] := by simp [List.getD, List.getElem?_eq_getElem hlt]
     refine Ds (v := .pointer (some (b.add (n.toNat * P.cellsOf e)))) R (hex _ (hrun hs h0 h1)) rfl (.one ?_)
     rw [hget]
     refine ⟨b.add (n.toNat * P.cellsOf e), by rw [Hs, Nat.add_zero], ks', hk' hne, ht _ (List.getElem_mem hlt), fun o' x' ho' => ?_⟩
     obtain ⟨h5, h6⟩ := hA n.toNat _ o' x' b (List.getElem?_eq_getElem hlt) ho' rfl
     exact ⟨by rw [Hs]; exact h5, _, by rw [Hs]; exact h6, hrr n.toNat _ o' x' (List.getElem?_eq_getElem hlt) ho'⟩
  have hsel : ∀ (m : List (List C)) (i : Nat), Jx some e n i m = some u → ∃ r, m[n.toNat - i]? = some r ∧ (i : Int) ≤ n ∧ u = .val (.one (.rop e r 0)) := by
   intro m
   induction m with
   | nil => intro i h; cases h
   | cons r m ihm =>
    intro i h
    simp only [Jx] at h
    split at h
    ·rename_i hc
     have hc := of_decide_eq_true hc
     cases h
     exact ⟨r, by rw [hc]; simp, by omega, rfl⟩
    ·obtain ⟨r', h1, h2, h3⟩ := ihm (i + 1) h
     refine ⟨r', ?_, by omega, h3⟩
     rw [show n.toNat - i = (n.toNat - (i + 1)) + 1 by omega, List.getElem?_cons_succ]
     exact h1
  split at h
  ·rename_i ks hs hks
   split at h
   ·obtain ⟨r, h1, h2, rfl⟩ := hsel l 0 h
    rw [Nat.sub_zero] at h1
    have hlt := (List.getElem?_eq_some_iff.1 h1).1
    have := hdata hs (by omega) (by omega)
    rw [List.getD_eq_getElem?_getD, h1] at this
    exact this
   ·split at h
    ·rename_i h0
     split at h
     ·rename_i h1
      cases h
      exact hdata hs (of_decide_eq_true h0) (of_decide_eq_true h1)
     ·cases h
    ·cases h
  ·cases h
 ·rename_i i n hx hj
  split at h
  ·rename_i e fz rows hl
   split at h
   ·rename_i hs
    split at h
    ·rename_i h0
     split at h
     ·rename_i h1
      cases h
      have h0 := of_decide_eq_true h0
      have h1 := of_decide_eq_true h1
      obtain ⟨k, hk⟩ := Hg R hj
      have hr := C4 R hx
      generalize hv : a.eval x = w at hr
      rw [hv, hk] at hex
      cases hr with
      | one hr =>
       obtain ⟨h2, A, h3, h4⟩ := Qd (hr.2.2 e fz rows hl)
       obtain ⟨g, off, h5, rfl⟩ := h4 (by omega)
       refine Ds (v := .pointer (some ⟨g, off + n.toNat * P.cellsOf e + 0, none⟩)) R (hex _ ?_) rfl (.one ⟨hr.1, rfl, fun e' f' rows' hl' => ?_⟩)
       ·rw [h3, hrun hs h0 h1, E9, Nat.add_zero]
       ·rw [hl] at hl'
        cases hl'
        exact ⟨by omega, g, off, h5, rfl⟩
     ·cases h
    ·cases h
   ·cases h
  ·cases h
 ·rename_i i lo m n hx hj
  split at h
  ·rename_i e fz rows hl
   split at h
   ·rename_i hs
    split at h
    ·rename_i h0
     split at h
     ·rename_i h1
      cases h
      have h0 := of_decide_eq_true h0
      have h1 := of_decide_eq_true h1
      obtain ⟨k, hk⟩ := Hg R hj
      have hr := C4 R hx
      generalize hv : a.eval x = w at hr
      rw [hv, hk] at hex
      cases hr with
      | one hr =>
       obtain ⟨h2, h2', A, h3, h4⟩ := hr.2.2 e fz rows hl
       obtain ⟨g, off, h5, rfl⟩ := h4 (by omega)
       refine Ds (v := .pointer (some ⟨g, off + (lo + n.toNat) * P.cellsOf e + 0, none⟩)) R (hex _ ?_) rfl (.one ⟨hr.1, rfl, fun e' f' rows' hl' => ?_⟩)
       ·rw [h3, hrun hs h0 h1, E9, Nat.add_zero, Nat.add_mul, Nat.add_assoc]
       ·rw [hl] at hl'
        cases hl'
        exact ⟨by omega, g, off, h5, rfl⟩
     ·cases h
    ·cases h
   ·cases h
  ·cases h
 ·cases h
end Go.Vm
namespace Go.Vm
open Go
variable {P : Program} {W0 W W' : World} {M U U' : Nat → Prop} {st : St} {E E' : Env} {Z Z' : Addr → Prop} {a : Act} {ob ob' : List (Nat × Ob)} {o : Oper} {u : Up} {tv : TV} {id : Nat}
theorem Ji {x y n : Int} {k : Option Up} {u : Up} (h : inB x y n k = some u) : 0 ≤ y ∧ y ≤ n ∧ 0 ≤ x ∧ x ≤ y ∧ k = some u := by
 unfold inB at h
 split at h
 ·rename_i h1
  split at h
  ·rename_i h2
   split at h
   ·rename_i h3
    split at h
    ·rename_i h4
     exact ⟨of_decide_eq_true h1, of_decide_eq_true h2, of_decide_eq_true h3, of_decide_eq_true h4, h⟩
    ·cases h
   ·cases h
  ·cases h
 ·cases h
theorem P7 {v : Value} {y : Nat} {c : BoundsCode} {k : IntKind} {n : Int} (hv : v = .int k n) (h0 : 0 ≤ n) (h1 : n ≤ y) : (Instr.sliceBound v y c).run P W = .ok n.toNat W := by
 subst hv
 simp [Instr.sliceBound, asIntOf, h0, h1]
theorem Vp (R : Rel P W0 M U st E Z a W) {isS : Bool} {len cap : Nat} {lo hi : Option Operand} {x y : Int} (hlo : E4 st lo 0 = some x) (hhi : E4 st hi len = some y) (h0 : 0 ≤ x) (h1 : x ≤ y) (h2 : y ≤ len) (h3 : len ≤ cap) :
  (Instr.sliceBounds isS len cap (lo.map a.eval) (hi.map a.eval) none).run P W = .ok (x.toNat, y.toNat, cap) W := by
 cases hi with
 | none =>
  simp only [E4, Option.some.injEq] at hhi
  subst hhi
  cases lo with
  | none =>
   simp only [E4, Option.some.injEq] at hlo
   subst hlo
   simp [Instr.sliceBounds]
  | some q =>
   simp only [E4] at hlo
   obtain ⟨k, hk⟩ := Hg R hlo
   simp [Instr.sliceBounds, P7 (P := P) (W := W) hk h0 (by omega : x ≤ (len : Int))]
 | some q2 =>
  simp only [E4] at hhi
  obtain ⟨k2, hk2⟩ := Hg R hhi
  have hb : ∀ c, (Instr.sliceBound (a.eval q2) cap c).run P W = .ok y.toNat W := fun c => P7 hk2 (by omega) (by omega)
  cases lo with
  | none =>
   simp only [E4, Option.some.injEq] at hlo
   subst hlo
   simp [Instr.sliceBounds, hb]
  | some q =>
   simp only [E4] at hlo
   obtain ⟨k, hk⟩ := Hg R hlo
   simp [Instr.sliceBounds, hb, P7 (P := P) (W := W) hk h0 (by omega : x ≤ (y.toNat : Int))]
theorem Ac9 (R : Rel P W0 M U st E Z a W) {t : TypeId} {x : Operand} {lo hi : Option Operand} (ho : o.op = .slice t x lo hi none) (h : Jt some P st t x lo hi = some u) : D2 P W0 M U id E Z st a W o u := by
 have hex : ∀ v, (Instr.slice t (a.eval x) (lo.map a.eval) (hi.map a.eval) none).run P W = .ok v W → (∀ n e, P.underlying t ≠ some (.array n e)) → (∃ d, P.underlying t = some d) → (execOp a.eval o).run P W = .ok (.value v) W := by
  intro v hv hna hd
  obtain ⟨d, hd⟩ := hd
  have : (Instr.sliceAt t (a.eval x) (lo.map a.eval) (hi.map a.eval) none).run P W = .ok v W := by
   unfold Instr.sliceAt
   simp only [Sem.run_bind, run_underlying hd, Result.andThen_ok]
   cases d with
   | array n e => exact absurd hd (hna n e)
   | _ => exact hv
  simp [execOp, ho, this]
 have hsl : ∀ {e : TypeId} {A : Option Addr} {len cap : Nat} {p q : Int}, Ej P t e = true → E4 st lo 0 = some p → E4 st hi len = some q → 0 ≤ p → p ≤ q → q ≤ len → len ≤ cap →
   (Instr.slice t (.slice A len cap) (lo.map a.eval) (hi.map a.eval) none).run P W = .ok (.slice (if cap = p.toNat then A else A.map (·.add (p.toNat * P.cellsOf e))) (q.toNat - p.toNat) (cap - p.toNat)) W := by
  intro e A len cap p q hs h1 h2 h3 h4 h5 h6
  obtain ⟨h7, h8⟩ := F1 hs
  simp only [Instr.slice, Sem.run_bind, run_underlying h7, Result.andThen_ok, Vp (isS := true) R h1 h2 h3 h4 h5 h6, Hj h8, Sem.run_pure]
 unfold Jt at h
 split at h
 ·rename_i s hx
  split at h
  ·rename_i p q hs hp hq
   obtain ⟨h1, h2, h3, h4, h5⟩ := Ji h
   cases h5
   have hr := C4 R hx
   generalize hv : a.eval x = w at hr
   rw [hv] at hex
   cases hr with
   | one hr =>
    cases (show Ae P W Z (.str s) w from hr)
    have hd := J1 hs
    refine Ds (v := .string (s.extract p.toNat q.toNat)) R (hex _ ?_ (fun n e hh => by rw [hd] at hh; cases hh) ⟨_, hd⟩) rfl (.one (Ae.str _))
    simp only [Instr.slice, Sem.run_bind, run_underlying hd, Result.andThen_ok, Vp (isS := false) R hp hq h3 h4 h2 (Nat.le_refl _), Sem.run_pure, Option.isSome_none, Bool.false_eq_true, if_false]
  ·cases h
 ·rename_i e hx
  split at h
  ·rename_i p q hs hp hq
   obtain ⟨h1, h2, h3, h4, h5⟩ := Ji h
   cases h5
   have hr := C4 R hx
   generalize hv : a.eval x = w at hr
   rw [hv] at hex
   cases hr with
   | one hr =>
    cases (show Ae P W Z (.nil e) w from hr)
    have hd := (F1 hs).1
    have hq0 : q = 0 := by omega
    have hp0 : p = 0 := by omega
    refine Ds (v := .slice none 0 0) R (hex _ ?_ (fun n e hh => by rw [hd] at hh; cases hh) ⟨_, hd⟩) rfl (.one (Ae.nil _))
    have := hsl (A := none) (len := 0) (cap := 0) hs hp (by simpa using hq) h3 h4 (by omega) (Nat.le_refl _)
    rw [this, hq0, hp0]
    simp
  ·cases h
 ·rename_i e l hx
  split at h
  ·rename_i p q hs hp hq
   obtain ⟨h1, h2, h3, h4, h5⟩ := Ji h
   cases h5
   have hr := C4 R hx
   generalize hv : a.eval x = w at hr
   rw [hv] at hex
   cases hr with
   | one hr =>
    cases (show Ae P W Z (.row e l) w from hr) with
    | row _ _ ks A c vs hk hc hm ht hsome hA hrr =>
     have hd := (F1 hs).1
     have hlen : ((l.take q.toNat).drop p.toNat).length = q.toNat - p.toNat := by simp; omega
     have hmem : ∀ j r, ((l.take q.toNat).drop p.toNat)[j]? = some r → l[p.toNat + j]? = some r := by
      intro j r hj
      rw [List.getElem?_drop, List.getElem?_take] at hj
      split at hj
      ·exact hj
      ·cases hj
     have hin : ∀ r, r ∈ (l.take q.toNat).drop p.toNat → r ∈ l := fun r hr => List.mem_of_mem_take (List.mem_of_mem_drop hr)
     refine Ds (v := .slice (if c = p.toNat then A else A.map (·.add (p.toNat * P.cellsOf e))) (q.toNat - p.toNat) (c - p.toNat)) R (hex _ (hsl hs hp hq h3 h4 h2 hc) (fun n e hh => by rw [hd] at hh; cases hh) ⟨_, hd⟩) rfl (.one ?_)
     show Ae P W Z (.row e ((l.take q.toNat).drop p.toNat)) _
     have key := Ae.row (P := P) (W := W) (Z := Z) e ((l.take q.toNat).drop p.toNat) ks (if c = p.toNat then A else A.map (·.add (p.toNat * P.cellsOf e))) (c - p.toNat) (fun j o => vs (p.toNat + j) o)
      (fun hne => hk (fun e => hne (by rw [e]; simp))) (by rw [hlen]; omega) (by omega) (fun r hr => ht r (hin r hr))
      (fun hne => by
       have : A.isSome = true := hsome (fun e => hne (by rw [e]; simp))
       split <;> simp [this])
      (fun j r o x ad hj hr he => by
       have hj' := hmem j r hj
       have hjlt : p.toNat + j < l.length := (List.getElem?_eq_some_iff.1 hj').1
       rw [if_neg (by omega)] at he
       cases hA0 : A with
       | none => rw [hA0] at he; cases he
       | some b =>
        rw [hA0] at he
        simp only [Option.map_some, Option.some.injEq] at he
        subst he
        obtain ⟨h6, h7⟩ := hA _ r o x b hj' hr hA0
        have e0 : p.toNat * P.cellsOf e + (j * P.cellsOf e + o) = (p.toNat + j) * P.cellsOf e + o := by rw [Nat.add_mul]; omega
        rw [Hs, e0]
        exact ⟨h6, h7⟩)
      (fun j r o x hj hr => hrr _ r o x (hmem j r hj) hr)
     rw [hlen] at key
     exact key
  ·cases h
 ·rename_i i hx
  split at h
  ·rename_i e fz rows hl
   split at h
   ·rename_i p q hs hp hq
    obtain ⟨h1, h2, h3, h4, h5⟩ := Ji h
    cases h5
    have hr := C4 R hx
    generalize hv : a.eval x = w at hr
    rw [hv] at hex
    cases hr with
    | one hr =>
     obtain ⟨h6, A, h7, h8⟩ := Qd (hr.2.2 e fz rows hl)
     have hd := (F1 hs).1
     rw [h7] at hex
     refine Ds (v := .slice (if E.cap i = p.toNat then A else A.map (·.add (p.toNat * P.cellsOf e))) (q.toNat - p.toNat) (E.cap i - p.toNat)) R (hex _ (hsl hs hp hq h3 h4 h2 h6) (fun n e hh => by rw [hd] at hh; cases hh) ⟨_, hd⟩) rfl (.one ⟨hr.1, rfl, fun e' f' rows' hl' => ?_⟩)
     rw [hl] at hl'
     cases hl'
     refine ⟨by omega, by omega, _, rfl, fun hc => ?_⟩
     obtain ⟨g, off, h9, h10⟩ := h8 (by omega)
     refine ⟨g, off, h9, ?_⟩
     rw [if_neg (by omega), h10]
     simp [E9]
   ·cases h
  ·cases h
 ·rename_i i l0 m hx
  split at h
  ·rename_i e fz rows hl
   split at h
   ·rename_i p q hs hp hq
    obtain ⟨h1, h2, h3, h4, h5⟩ := Ji h
    cases h5
    have hr := C4 R hx
    generalize hv : a.eval x = w at hr
    rw [hv] at hex
    cases hr with
    | one hr =>
     obtain ⟨h6, h6', A, h7, h8⟩ := hr.2.2 e fz rows hl
     have hd := (F1 hs).1
     rw [h7] at hex
     refine Ds (v := .slice (if E.cap i - l0 = p.toNat then A else A.map (·.add (p.toNat * P.cellsOf e))) (q.toNat - p.toNat) (E.cap i - l0 - p.toNat)) R (hex _ (hsl hs hp hq h3 h4 h2 (by omega)) (fun n e hh => by rw [hd] at hh; cases hh) ⟨_, hd⟩) rfl (.one ⟨hr.1, rfl, fun e' f' rows' hl' => ?_⟩)
     rw [hl] at hl'
     cases hl'
     refine ⟨by omega, by omega, _, by rw [Nat.sub_sub], fun hc => ?_⟩
     obtain ⟨g, off, h9, h10⟩ := h8 (by omega)
     refine ⟨g, off, h9, ?_⟩
     rw [if_neg (by omega), h10]
     simp [E9, Nat.add_mul, Nat.add_assoc]
   ·cases h
  ·cases h
 ·cases h
end Go.Vm
namespace Go.Vm
open Go
variable {P : Program} {W0 W W' : World} {M U U' : Nat → Prop} {st : St} {E E' : Env} {Z Z' : Addr → Prop} {a : Act} {ob ob' : List (Nat × Ob)} {o : Oper} {u : Up} {tv : TV} {id : Nat}
theorem Kw (R : Rel P W0 M U st E Z a W) {x : Operand} {s : ByteArray} (h : st.opd x = some (.one (.c (.str s)))) : a.eval x = .string s := by
 have hr := C4 R h
 generalize a.eval x = w at hr
 cases hr with
 | one hr => cases (show Ae P W Z (.str s) w from hr); rfl
theorem I0 (R : Rel P W0 M U st E Z a W) {x : Operand} {k : IntKind} {n : Int} (h : st.opd x = some (.one (.c (.int k n)))) : a.eval x = .int k n := by
 have hr := C4 R h
 generalize a.eval x = w at hr
 cases hr with
 | one hr => cases (show Ae P W Z (.int k n) w from hr); rfl
theorem Acw (R : Rel P W0 M U st E Z a W) {t : TypeId} {x j : Operand} (ho : o.op = .index t x j) (h : Jq some P st t x j = some u) : D2 P W0 M U id E Z st a W o u := by
 unfold Jq at h
 split at h
 ·rename_i l n hx hj
  split at h
  ·rename_i len e ha
   have hsel : ∀ (m i : Nat), Jw some P e n l i m = some u → ∃ tv, (i : Int) ≤ n ∧ n < i + m ∧ part P e l (n.toNat * P.cellsOf e) = some tv ∧ u = .val tv := by
    intro m
    induction m with
    | zero => intro i h; cases h
    | succ m ih =>
     intro i h
     simp only [Jw] at h
     split at h
     ·rename_i hc
      have hc := of_decide_eq_true hc
      split at h
      ·rename_i tv hp
       cases h
       exact ⟨tv, by omega, by omega, by rw [hc, Int.toNat_natCast]; exact hp, rfl⟩
      ·cases h
     ·obtain ⟨tv, h1, h2, h3⟩ := ih _ h
      exact ⟨tv, by omega, by omega, h3⟩
   obtain ⟨tv, h1, h2, h3, rfl⟩ := hsel _ _ h
   have hr := C4 R hx
   generalize hv : a.eval x = w at hr
   obtain ⟨k, hk⟩ := Hg R hj
   obtain ⟨g1, g2⟩ : P.underlying t = some (.array len e) ∧ P.cellsOf e ≠ 0 := by
    unfold Jb at ha
    split at ha
    ·split at ha
     ·cases ha
     ·rename_i hc
      cases ha
      exact ⟨by assumption, Nat.ne_of_beq_eq_false hc⟩
    ·cases ha
   cases hr with
   | agg hr =>
    obtain ⟨v, q1, q2⟩ := Vq hr h3
    exact Ds (v := v) R (by simp [execOp, ho, hv, hk, Instr.index, asIntOf, run_underlying g1, show 0 ≤ n by omega, show n < (len : Int) by omega, Hj g2, q1]) rfl q2
  ·cases h
 ·rename_i s n hx hj
  split at h
  ·rename_i hs
   split at h
   ·rename_i h0
    split at h
    ·rename_i h1
     cases h
     have h0 := of_decide_eq_true h0
     have h1 := of_decide_eq_true h1
     obtain ⟨k, hk⟩ := Hg R hj
     have hlt : n.toNat < s.size := by omega
     have hlt' : n.toNat < s.data.size := hlt
     refine Ds (v := .int .u8 (s.data.getD n.toNat 0).toNat) R ?_ rfl (.one (Ae.int _ _))
     have hb : (if 0 ≤ n then s[n.toNat]? else none) = some (s.data.getD n.toNat 0) := by
      rw [if_pos h0]
      have h2 : s[n.toNat]? = some s[n.toNat] := by simp [hlt]
      rw [h2]
      have h3 : s.data.getD n.toNat 0 = s.data[n.toNat] := by unfold Array.getD; rw [dif_pos hlt']; rfl
      rw [h3]
      rfl
     simp [execOp, ho, Kw R hx, hk, Instr.index, asIntOf, run_underlying (J1 hs), hb]
    ·cases h
   ·cases h
  ·cases h
 ·cases h
theorem Acy (R : Rel P W0 M U st E Z a W) {t : TypeId} {x : Operand} (ho : o.op = .call { callee := .builtin .len, args := #[x], argTypes := #[t] }) (h : Kt P st t x = some u) : D2 P W0 M U id E Z st a W o u := by
 have hrun : ∀ {v w : Value}, a.eval x = v → (∀ d, P.underlying t = some d → (match d, v with
  | .string, .string s => (pure (goInt s.size) : Sem Value)
  | .slice _, .slice _ n _ => pure (goInt n)
  | _, _ => stuck "").run P W = .ok w W) → (∃ d, P.underlying t = some d ∧ ((d = .string ∧ ∃ s, v = .string s) ∨ (∃ e, d = .slice e) ∧ ∃ A n c, v = .slice A n c)) → (execOp a.eval o).run P W = .ok (.value w) W := by
  intro v w hv h1 h2
  obtain ⟨d, hd, h2⟩ := h2
  have h3 := h1 d hd
  rcases h2 with ⟨rfl, s, rfl⟩ | ⟨⟨e, rfl⟩, A, n, c, rfl⟩ <;> simp [execOp, ho, resolve, invoke, builtin, Builtin.len_, hv, run_underlying hd] at h3 ⊢ <;> exact h3
 unfold Kt at h
 split at h
 ·rename_i s hx
  split at h
  ·rename_i hs
   cases h
   exact Ds R (hrun (Kw R hx) (w := goInt s.size) (fun d hd => by rw [J1 hs] at hd; cases hd; rfl) ⟨_, J1 hs, .inl ⟨rfl, s, rfl⟩⟩) rfl (.one (Ae.int _ _))
  ·cases h
 ·rename_i e hx
  split at h
  ·rename_i hs
   cases h
   have hr := C4 R hx
   generalize hv : a.eval x = w at hr
   cases hr with
   | one hr =>
    cases (show Ae P W Z (.nil e) w from hr)
    have hd := (F1 hs).1
    exact Ds R (hrun hv (w := goInt 0) (fun d hd' => by rw [hd] at hd'; cases hd'; rfl) ⟨_, hd, .inr ⟨⟨_, rfl⟩, _, _, _, rfl⟩⟩) rfl (.one (Ae.int _ _))
  ·cases h
 ·rename_i e l hx
  split at h
  ·rename_i hs
   cases h
   have hr := C4 R hx
   generalize hv : a.eval x = w at hr
   cases hr with
   | one hr =>
    cases (show Ae P W Z (.row e l) w from hr)
    have hd := (F1 hs).1
    exact Ds R (hrun hv (w := goInt l.length) (fun d hd' => by rw [hd] at hd'; cases hd'; rfl) ⟨_, hd, .inr ⟨⟨_, rfl⟩, _, _, _, rfl⟩⟩) rfl (.one (Ae.int _ _))
  ·cases h
 ·rename_i i hx
  split at h
  ·rename_i e fz rows hl
   split at h
   ·rename_i hs
    cases h
    have hr := C4 R hx
    generalize hv : a.eval x = w at hr
    cases hr with
    | one hr =>
     obtain ⟨h6, A, rfl, h8⟩ := Qd (hr.2.2 e fz rows hl)
     have hd := (F1 hs).1
     exact Ds R (hrun hv (w := goInt rows.length) (fun d hd' => by rw [hd] at hd'; cases hd'; rfl) ⟨_, hd, .inr ⟨⟨_, rfl⟩, _, _, _, rfl⟩⟩) rfl (.one (Ae.int _ _))
   ·cases h
  ·cases h
 ·rename_i i lo n hx
  split at h
  ·rename_i e fz rows hl
   split at h
   ·rename_i hs
    cases h
    have hr := C4 R hx
    generalize hv : a.eval x = w at hr
    cases hr with
    | one hr =>
     obtain ⟨h6, h6', A, rfl, h8⟩ := hr.2.2 e fz rows hl
     have hd := (F1 hs).1
     exact Ds R (hrun hv (w := goInt n) (fun d hd' => by rw [hd] at hd'; cases hd'; rfl) ⟨_, hd, .inr ⟨⟨_, rfl⟩, _, _, _, rfl⟩⟩) rfl (.one (Ae.int _ _))
   ·cases h
  ·cases h
 ·cases h
theorem Oa {x y : Operand} {f : IntKind → IntKind → Int → Int → Option Up} (h : two st x y f = some u) : ∃ k n k' m, st.opd x = some (.one (.c (.int k n))) ∧ st.opd y = some (.one (.c (.int k' m))) ∧ f k k' n m = some u := by
 unfold two at h
 split at h
 ·rename_i k n k' m h1 h2
  exact ⟨k, n, k', m, h1, h2, h⟩
 ·cases h
theorem Z7 {t : TypeId} {k : Kn} (h : Jh P t = some k) : Jj P t = some false := by
 unfold Jh at h
 unfold Jj
 split at h <;> first | (rename_i h1; rw [h1]) | cases h
theorem Ae6 {t : TypeId} {k : Kn} {x y : SV} {z : Bool} {u v : Value} {d : Nat} (h : Jh P t = some k) (he : eq1 k x y = some z) (hu : Cs P W Z U E ob x u) (hv : Cs P W Z U E ob y v) :
  (Op.equalIn (d + 1) t u v).run P W = .ok z W := by
 unfold Jh at h
 unfold eq1 at he
 split at he
 ·split at he
  ·rename_i h1 h2
   cases of_decide_eq_true h1
   cases of_decide_eq_true h2
   cases he
   cases (show Ae P W Z _ u from hu)
   cases (show Ae P W Z _ v from hv)
   split at h <;> first | cases h; done | skip
   rename_i hd
   cases h
   simp [Op.equalIn, run_underlying hd]
  ·cases he
 ·cases he
  cases (show Ae P W Z _ u from hu)
  cases (show Ae P W Z _ v from hv)
  split at h <;> first | cases h; done | skip
  rename_i hd
  simp [Op.equalIn, run_underlying hd]
 ·cases he
  cases (show Ae P W Z _ u from hu)
  cases (show Ae P W Z _ v from hv)
  split at h <;> first | cases h; done | skip
  rename_i hd
  simp [Op.equalIn, run_underlying hd]
 ·cases he
theorem Vr {t : TypeId} {k : Kn} {us : Array Value} {j : Nat} {u : Value} (h : Jh P t = some k) (hu : us[j]? = some u) : (Go.part t us j).run P W = .ok u W := by
 have h1 := Z7 h
 unfold Jh at h
 split at h <;> first | cases h; done | skip
 all_goals
  rename_i hd
  simp [Go.part, Go.isAgg, run_underlying hd, hu]
theorem Ae7 {us vs : Array Value} {d : Nat} : ∀ {fs : List Field} {j : Nat} {ks : List Kn} {l m : List SV} {z : Bool}, Nf P j fs = some ks → Ls ks l m = some z →
  (∀ i x, l[i]? = some x → ∃ u, us[j + i]? = some u ∧ Cs P W Z U E ob x u) → (∀ i x, m[i]? = some x → ∃ u, vs[j + i]? = some u ∧ Cs P W Z U E ob x u) →
  (forIn (m := Sem) fs ((none, ()) : Option Bool × Unit) (fun f r => do
   if f.name ≠ "_" then
    let __do_lift ← Go.part f.type us f.offset
    let __do_lift_1 ← Go.part f.type vs f.offset
    let __do_lift ← Op.equalIn (d + 1) f.type __do_lift __do_lift_1
    if (!__do_lift) = true then pure (ForInStep.done (some false, ())) else pure (ForInStep.yield (none, ()))
   else pure (ForInStep.yield (none, ())))).run P W = .ok (match z with | true => (none, ()) | false => (some false, ())) W := by
 intro fs
 induction fs with
 | nil =>
  intro j ks l m z h he _ _
  cases h
  cases l with
  | nil =>
   cases m with
   | nil => cases he; simp
   | cons _ _ => cases he
  | cons _ _ => cases he
 | cons f fs ih =>
  intro j ks l m z h he hl hm
  simp only [Nf] at h
  split at h
  ·rename_i k ks' h1 h2
   split at h
   ·rename_i h3 h4
    cases h
    have h3 := Nat.eq_of_beq_eq_true h3
    have h4 := of_decide_eq_false h4
    cases l with
    | nil => cases m <;> cases he
    | cons x l =>
     cases m with
     | nil => cases he
     | cons y m =>
      simp only [Ls] at he
      split at he
      ·rename_i z1 z2 h5 h6
       cases he
       obtain ⟨u, hu, ru⟩ := hl 0 x rfl
       obtain ⟨v, hv, rv⟩ := hm 0 y rfl
       rw [Nat.add_zero] at hu hv
       rw [List.forIn_cons]
       simp only [ne_eq, h4, not_false_eq_true, if_true, Sem.run_bind, h3, Vr h1 hu, Vr h1 hv, Result.andThen_ok, Ae6 (d := d) h1 h5 ru rv]
       cases z1 with
       | false => simp
       | true =>
        have := ih h2 h6 (fun i x hx => by
         obtain ⟨u, h7, h8⟩ := hl (i + 1) x (by simpa using hx)
         exact ⟨u, by rw [show j + 1 + i = j + (i + 1) by omega]; exact h7, h8⟩) (fun i x hx => by
         obtain ⟨u, h7, h8⟩ := hm (i + 1) x (by simpa using hx)
         exact ⟨u, by rw [show j + 1 + i = j + (i + 1) by omega]; exact h7, h8⟩)
        simpa using this
      ·cases he
   ·cases h
  ·cases h
theorem Ae8 {t : TypeId} {ks : List Kn} {l m : List SV} {us vs : Array Value} {z : Bool} (h : Ng P t = some ks) (he : Ls ks l m = some z) (hl : Aq (Cs P W Z U E ob) l us.toList) (hm : Aq (Cs P W Z U E ob) m vs.toList) :
  (Op.equal t (.agg us) (.agg vs)).run P W = .ok z W := by
 unfold Ng at h
 split at h
 ·rename_i fs hd
  split at h
  ·rename_i h1 h2
   have := Ae7 (P := P) (W := W) (Z := Z) (U := U) (E := E) (ob := ob) (us := us) (vs := vs) (d := 9998) h he (fun i x hx => by
    obtain ⟨u, h3, h4⟩ := hl.get i x hx
    exact ⟨u, by simpa using h3, h4⟩) (fun i x hx => by
    obtain ⟨u, h3, h4⟩ := hm.get i x hx
    exact ⟨u, by simpa using h3, h4⟩)
   show (Op.equalIn (9999 + 1) t (.agg us) (.agg vs)).run P W = _
   unfold Op.equalIn
   simp only [Sem.run_bind, run_underlying hd, Result.andThen_ok, run_program, h1]
   simp only [Bool.false_eq_true, if_false, ← Array.forIn_toList]
   simp only [Sem.run_bind, this, Result.andThen_ok]
   cases z <;> simp
  ·cases h
 ·cases h
theorem Sv (R : Rel P W0 M U st E Z a W) {op : BinOp} {tx ty : TypeId} {x y : Operand} {z : Bool} (ho : o.op = .binOp op tx x y ty) (h : Hz P st o = some z) : ∃ us vs, a.eval x = .agg us ∧ a.eval y = .agg vs ∧ (Op.equal tx (.agg us) (.agg vs)).run P W = .ok z W ∧ P.eqGuardType P.depth tx = false := by
 unfold Hz at h
 rw [ho] at h
 simp only at h
 split at h
 ·rename_i l m h1 h2
  split at h
  ·rename_i ks hk
   have r1 := C4 R h1
   have r2 := C4 R h2
   generalize a.eval x = v at r1
   generalize a.eval y = w at r2
   cases r1 with
   | agg r1 =>
    cases r2 with
    | agg r2 =>
     refine ⟨_, _, rfl, rfl, Ae8 hk h r1 r2, ?_⟩
     unfold Ng at hk
     split at hk
     ·split at hk
      ·assumption
      ·cases hk
     ·cases hk
  ·cases h
 ·cases h
theorem Acm (R : Rel P W0 M U st E Z a W) {op : BinOp} {tx ty : TypeId} {x y : Operand} (ho : o.op = .binOp op tx x y ty) (h : G4 some P st o op x y = some u) : D2 P W0 M U id E Z st a W o u := by
 have hs : ∀ cs b, o.op ≠ .select cs b := fun cs b e => by rw [ho] at e; cases e
 have hpure : D4 some (Ek P st o) = some u → D2 P W0 M U id E Z st a W o u := by
  intro h
  unfold D4 at h
  split at h
  ·cases h
   exact L4 R hs (by assumption)
  ·cases h
 unfold G4 at h
 split at h
 ·obtain ⟨k, n, k', m, h1, h2, h3⟩ := Oa h
  split at h3
  ·rename_i hk
   cases of_decide_eq_true hk
   split at h3
   ·rename_i hb
    cases h3
    have hb := of_decide_eq_false hb
    refine Ds (v := .int k (k.wrap (n.tdiv m))) R ?_ rfl (.one (Ae.int _ _))
    simp [execOp, ho, I0 R h1, I0 R h2, eqGuard, Go.binOp, Op.intDiv, hb]
   ·cases h3
  ·cases h3
 ·obtain ⟨k, n, k', m, h1, h2, h3⟩ := Oa h
  split at h3
  ·rename_i hk
   cases of_decide_eq_true hk
   split at h3
   ·rename_i hb
    cases h3
    have hb := of_decide_eq_false hb
    refine Ds (v := .int k (n.tmod m)) R ?_ rfl (.one (Ae.int _ _))
    simp [execOp, ho, I0 R h1, I0 R h2, eqGuard, Go.binOp, Op.intDiv, hb]
   ·cases h3
  ·cases h3
 ·obtain ⟨k, n, k', m, h1, h2, h3⟩ := Oa h
  split at h3
  ·rename_i hb
   cases h3
   have hb := of_decide_eq_false hb
   refine Ds (v := .int k (k.wrap (n * 2 ^ (min m.toNat k.bits)))) R ?_ rfl (.one (Ae.int _ _))
   simp [execOp, ho, I0 R h1, I0 R h2, eqGuard, Go.binOp, Op.shift, hb]
  ·cases h3
 ·obtain ⟨k, n, k', m, h1, h2, h3⟩ := Oa h
  split at h3
  ·rename_i hb
   cases h3
   have hb := of_decide_eq_false hb
   refine Ds (v := .int k (n.fdiv (2 ^ (min m.toNat k.bits)))) R ?_ rfl (.one (Ae.int _ _))
   simp [execOp, ho, I0 R h1, I0 R h2, eqGuard, Go.binOp, Op.shift, hb]
  ·cases h3
 ·split at h
  ·rename_i s r hsr
   unfold Qj at hsr
   split at hsr
   ·rename_i s' r' h1 h2
    cases hsr
    split at h
    ·rename_i hsz
     cases h
     have hsz := of_decide_eq_true hsz
     have hbig : ¬ (((s.size + r.size : Nat) : Int) > IntKind.i64.max) := by
      have : IntKind.i64.max = 9223372036854775807 := by decide
      rw [this]
      omega
     refine Ds (v := .string (s ++ r)) R ?_ rfl (.one (Ae.str _))
     simp only [execOp, ho, Kw R h1, Kw R h2, eqGuard, Go.binOp, Op.stringOp]
     rw [if_neg hbig]
     simp
    ·cases h
   ·cases hsr
  ·exact hpure h
 ·split at h
  ·rename_i z hz
   cases h
   obtain ⟨us, vs, h1, h2, h3, h4⟩ := Sv R ho hz
   refine Ds (v := .bool z) R ?_ rfl (.one (Ae.bool _))
   simp [execOp, ho, h1, h2, eqGuard, Go.binOp, h3, h4]
  ·exact hpure h
 ·split at h
  ·rename_i z hz
   cases h
   obtain ⟨us, vs, h1, h2, h3, h4⟩ := Sv R ho hz
   refine Ds (v := .bool !z) R ?_ rfl (.one (Ae.bool _))
   simp [execOp, ho, h1, h2, eqGuard, Go.binOp, h3, h4]
  ·exact hpure h
 ·exact hpure h
end Go.Vm
namespace Go.Vm
open Go
variable {P : Program} {W0 W W' : World} {M U U' : Nat → Prop} {st : St} {E E' : Env} {Z Z' : Addr → Prop} {a : Act} {ob ob' : List (Nat × Ob)} {o : Oper} {u : Up} {tv : TV} {id : Nat}
theorem I9 (st : St) (dst : Option Nat) (tv : TV) (obs : List (Nat × Option Ob)) (rd : List Nat) : st.up dst ⟨tv, obs, rd⟩ = (St.mk st.tm (Am st.ob obs) st.base st.nt).up dst (.val tv) := by
 cases dst <;> rfl
theorem Ij (W : World) (b : Obj) : (∀ k, k < W.heap.size → (W.alloc b).heap[k]? = W.heap[k]?) ∧ (W.alloc b).heap[W.heap.size]? = some b ∧ W.heap.size ≤ (W.alloc b).heap.size ∧ (W.alloc b).heap.size = W.heap.size + 1 :=
 ⟨fun k hk => Go.RowKit.Below.heap_alloc W b k hk, by show (W.heap.push b)[W.heap.size]? = some b; simp, by show W.heap.size ≤ (W.heap.push b).size; simp, by show (W.heap.push b).size = _; simp⟩
theorem Rel.alloc (R : Rel P W0 M U st E Z a W) (b : Obj) : Rel P W0 M U st E Z a (W.alloc b) := by
 obtain ⟨h1, _, h2, _⟩ := Ij W b
 exact R.world (fun A hA => Gp (h1 _ (R.zlt A hA))) (fun i o g hi hg => h1 g (R.lt hi hg)) (fun k hk _ => h1 k (Nat.lt_of_lt_of_le hk R.size)) h2 rfl rfl rfl
theorem Rel.newBox (R : Rel P W0 M U st E Z a W) {t : TypeId} {l : List SV} {cs : Array Value} (hi : ¬ U id) (hl : Aq (Cs P W Z U E st.ob) l cs.toList) :
  Rel P W0 M (fun j => U j ∨ j = id) ⟨st.tm, put st.ob id (.box t l), st.base, st.nt⟩ (E.setBox id W.heap.size) Z a (W.alloc (.cells cs t)) := by
 obtain ⟨h1, h2, h3, _⟩ := Ij W (.cells cs t)
 have R2 := R.alloc (.cells cs t)
 have hE : ∀ j, j ≠ id → (E.setBox id W.heap.size).box j = E.box j ∧ (E.setBox id W.heap.size).row j = E.row j ∧ (E.setBox id W.heap.size).cap j = E.cap j := fun j hj => ⟨by simp [Env.setBox, hj], rfl, rfl⟩
 refine R2.add hi hE ⟨cs, by simpa [Env.setBox] using h2, ?_⟩ (fun e rows h => by cases h) (fun g hg => ?_)
 ·have K : Eh W (W.alloc (.cells cs t)) Z Z U (fun j => U j ∨ j = id) E (E.setBox id W.heap.size) st.ob (put st.ob id (.box t l)) := by
   refine ⟨fun _ h => h, fun _ h => .inl h, fun A hA => Gp (h1 _ (R.zlt A hA)), fun j p hu h => hE j (fun e => hi (e ▸ hu)), fun j p hu h => ?_⟩
   rcases Fs h with ⟨rfl, _⟩ | ⟨_, h⟩
   ·exact absurd hu hi
   ·exact ⟨p, h, D9.refl p⟩
  exact hl.imp fun _ _ _ h => h.move K
 ·simp only [Aw, Env.setBox, if_true, Option.some.injEq] at hg
  subst hg
  refine ⟨fun A hz e => by have := R.zlt A hz; omega, .inr R.size, fun j p hj hb => ?_⟩
  exact Nat.lt_irrefl _ (R.lt hj hb)
theorem Fi {id : Nat} (hf : ∀ j, id ≤ j → j < id + 128 → ¬ U j) : ¬ U id := hf id (Nat.le_refl _) (by omega)
theorem S9 (R : Rel P W0 M U st E Z a W) {t : TypeId} {l : List SV} {cs : Array Value} (hf : ∀ j, id ≤ j → j < id + 128 → ¬ U j) (hl : Aq (Cs P W Z U E st.ob) l cs.toList)
  (hr : (execOp a.eval o).run P W = .ok (.value (.pointer (some ⟨W.heap.size, 0, none⟩))) (W.alloc (.cells cs t))) : D2 P W0 M U id E Z st a W o ⟨.one (.ptr id 0), [(id, some (.box t l))], []⟩ := by
 have R2 := R.newBox (t := t) (Fi hf) hl
 have hv : D0 P (W.alloc (.cells cs t)) Z (fun j => U j ∨ j = id) (E.setBox id W.heap.size) (put st.ob id (.box t l)) (.one (.ptr id 0)) (.pointer (some ⟨W.heap.size, 0, none⟩)) :=
  .one ⟨.inr rfl, rfl, fun t' l' hh => by simp [Env.setBox]⟩
 have R3 := (R2.val o.dst hv).moreU (U' := Gl U id) (fun j hj => by
  rcases hj with h | rfl
  ·exact .inl h
  ·exact .inr ⟨Nat.le_refl _, by omega⟩)
 exact ⟨.value (.pointer (some ⟨W.heap.size, 0, none⟩)), _, _, _, Z, hr, .inl rfl, by rw [I9]; exact R3, fun _ h => h, fun _ h => .inl h, fun i hi => by have : i ≠ id := fun e => Fi hf (e ▸ hi); simp [Env.setBox, this]⟩
theorem Qq : ∀ {ks : List Kn} {vs : List Value} {l : List SV}, Es ks vs = some l → Aq (Cs P W Z U E ob) l vs := by
 intro ks
 induction ks with
 | nil =>
  intro vs l h
  cases vs with
  | nil => simp [Es] at h; subst h; exact .nil
  | cons v vs => simp [Es] at h
 | cons k ks ih =>
  intro vs l h
  cases vs with
  | nil => simp [Es] at h
  | cons v vs =>
   simp only [Es] at h
   split at h
   ·rename_i x hx
    split at h
    ·rename_i l' hl
     cases h
     refine .cons ?_ (ih hl)
     unfold Oi at hx
     split at hx <;> cases hx
     ·exact Ae.nil _
     ·exact Ae.fn0
     ·exact Ae.int _ _
     ·exact Ae.bool _
     ·exact Ae.str _
    ·cases h
   ·cases h
theorem Wy {t : TypeId} {l : List SV} (h : zeroCells P t = some l) : ∃ i z ks, P.info? t = some i ∧ i.zero = some z ∧ Dy P t = some ks ∧ Es ks z.cells.toList = some l := by
 unfold zeroCells at h
 split at h
 ·rename_i ks hk
  split at h
  ·rename_i i hi
   split at h
   ·rename_i z hz
    exact ⟨i, z, ks, hi, hz, hk, h⟩
   ·cases h
  ·cases h
 ·cases h
theorem X0 {t : TypeId} {n : Nat} {e : TypeId} (h : Jb P t = some (n, e)) : P.underlying t = some (.array n e) ∧ P.cellsOf e ≠ 0 := by
 unfold Jb at h
 split at h
 ·split at h
  ·cases h
  ·rename_i hc
   cases h
   exact ⟨by assumption, Nat.ne_of_beq_eq_false hc⟩
 ·cases h
theorem Qp {t : TypeId} {l : List SV} (h : J3 P t = some l) : ∃ i z ks, P.info? t = some i ∧ i.zero = some z ∧ Es ks z.cells.toList = some l := by
 unfold J3 at h
 split at h
 ·rename_i l' hl
  cases h
  obtain ⟨i, z, ks, h1, h2, _, h4⟩ := Wy hl
  exact ⟨i, z, ks, h1, h2, h4⟩
 ·split at h
  ·split at h
   ·rename_i hi
    split at h
    ·rename_i hz
     exact ⟨_, _, _, hi, hz, h⟩
    ·cases h
   ·cases h
  ·cases h
theorem Aci (R : Rel P W0 M U st E Z a W) (hf : ∀ j, id ≤ j → j < id + 128 → ¬ U j) {t : TypeId} {l : List SV} (ho : o.op = .alloc t) (h : J3 P t = some l) : D2 P W0 M U id E Z st a W o ⟨.one (.ptr id 0), [(id, some (.box t l))], []⟩ := by
 obtain ⟨i, z, ks, h1, h2, h4⟩ := Qp h
 refine S9 (cs := z.cells) R hf (Qq h4) ?_
 simp [execOp, ho, Instr.alloc, zeroValue, typeInfo, h1, h2, newVar, newRow]
theorem Ke (R : Rel P W0 M U st E Z a W) {t : TypeId} {x : Operand} {l : List SV} (h : st.opdF P t x = some l) : Aq (Cs P W Z U E st.ob) l (a.eval x).cells.toList := by
 unfold St.opdF at h
 split at h
 ·rename_i v hv
  cases h
  have hr := G6 R hv
  generalize a.eval x = w at hr
  cases hr with
  | one hr =>
   have h1 := hr.one
   cases w <;> simp [Value.oneCell'] at h1 <;> exact .cons hr .nil
 ·rename_i l' hv
  cases h
  have hr := G6 R hv
  generalize a.eval x = w at hr
  cases hr with
  | agg hr => exact hr
 ·rename_i g hv
  cases h
  have hr := G6 R hv
  generalize a.eval x = w at hr
  cases hr with
  | fn g => exact .cons (show Ae P W Z (.fn (some g)) _ from Ae.fn g) .nil
 ·cases h
theorem Acn (R : Rel P W0 M U st E Z a W) (hf : ∀ j, id ≤ j → j < id + 128 → ¬ U j) {t : TypeId} {x : Operand} {l : List SV} (ho : o.op = .box t x) (h : st.opdF P t x = some l) : D2 P W0 M U id E Z st a W o ⟨.one (.ptr id 0), [(id, some (.box t l))], []⟩ := by
 refine S9 (cs := (a.eval x).cells) R hf (Ke R h) ?_
 simp [execOp, ho, Instr.box, newVar, newRow]
theorem Qc {R : SV → Value → Prop} : ∀ {vc : List SV} {us : List Value}, Aq R vc us → ∀ (l : List SV) (cur : List Value) (off : Nat), Aq R l cur → off + vc.length ≤ l.length → Aq R (Jy l off vc) (cur.take off ++ us ++ cur.drop (off + us.length)) := by
 intro vc us h
 induction h with
 | nil => intro l cur off h _; simpa [Jy] using h
 | @cons x y vc us h1 h2 ih =>
  intro l cur off h hlen
  simp only [List.length_cons] at hlen
  have := ih (l.set off x) (cur.set off y) (off + 1) (h.set h1 off) (by simp; omega)
  have hl := h.length
  have e : (cur.set off y).take (off + 1) ++ us ++ (cur.set off y).drop (off + 1 + us.length) = cur.take off ++ (y :: us) ++ cur.drop (off + (y :: us).length) := by
   have hlt : off < cur.length := by omega
   have h3 : (cur.set off y).take (off + 1) = cur.take off ++ [y] := by
    rw [List.take_succ_eq_append_getElem (by simpa using hlt)]
    simp [List.take_set_of_le]
   have h4 : (cur.set off y).drop (off + 1 + us.length) = cur.drop (off + (y :: us).length) := by
    rw [List.drop_set_of_lt (by omega)]
    simp [Nat.add_assoc, Nat.add_comm 1]
   rw [h3, h4]
   simp
  rw [e] at this
  exact this
theorem Aq.mem_right {α β : Type} {R : α → β → Prop} {l : List α} {m : List β} (h : Aq R l m) {y : β} (hy : y ∈ m) : ∃ x, x ∈ l ∧ R x y := by
 induction h with
 | nil => cases hy
 | cons h1 _ ih =>
  rcases List.mem_cons.1 hy with rfl | hy
  ·exact ⟨_, List.mem_cons_self, h1⟩
  ·obtain ⟨x, h2, h3⟩ := ih hy
   exact ⟨x, List.mem_cons_of_mem _ h2, h3⟩
theorem Vt {t te : TypeId} {g off : Nat} {v : Value} {cur : Array Value} (hn : v.cells.size = P.cellsOf t) (h0 : P.cellsOf t ≠ 0) (hg : W.heap[g]? = some (.cells cur te (0, 0))) (hle : off + v.cells.size ≤ cur.size) (h1 : ∀ u, u ∈ v.cells.toList → u.oneCell' = true) :
  (Instr.storeAt t (.pointer (some ⟨g, off, none⟩)) v).run P W = .ok () (W.setRow g (cur.toList.take off ++ v.cells.toList ++ cur.toList.drop (off + v.cells.size)).toArray) := by
 have := run_storeCells_at P g off te v.cells.toList 0 cur W hg (by simpa using hle) h1
 simp only [Nat.add_zero, Array.length_toList] at this
 simp [Instr.storeAt, Instr.sureAddr, storeVar, Hj h0, hn, this]
theorem Adb (R : Rel P W0 M U st E Z a W) {t t' : TypeId} {p x : Operand} {i off : Nat} {l vc : List SV} (ho : o.op = .store t p x) (hp : st.opd p = some (.one (.ptr i off))) (hl : Aa st.ob i = some (.box t' l)) (hx : st.opdF P t x = some vc)
  (hn : vc.length = P.cellsOf t) (h0 : vc.length ≠ 0) (hle : off + vc.length ≤ l.length) : D2 P W0 M U id E Z st a W o ⟨.tup [], [(i, some (.box t' (Jy l off vc)))], [i]⟩ := by
 have hr := C4 R hp
 generalize hv : a.eval p = w at hr
 cases hr with
 | one hr =>
  have he := hr.2.2 t' l hl
  obtain ⟨cur, h1, h2⟩ := R.ob i _ hl
  have h3 := Ke R hx
  have hlen := h2.length
  have hlen3 := h3.length
  simp only [Array.length_toList] at hlen hlen3
  have hrun := Vt (P := P) (W := W) (t := t) (off := off) (v := a.eval x) (by omega) (by omega) h1 (by omega) (fun u hu => by
   obtain ⟨y, _, hy⟩ := h3.mem_right hu
   exact hy.one)
  have h4 := Qc h3 l cur.toList off h2 hle
  simp only [Array.length_toList] at h4
  have R2 := R.boxSet (cur' := (cur.toList.take off ++ (a.eval x).cells.toList ++ cur.toList.drop (off + (a.eval x).cells.size)).toArray) hl (by simpa using h4)
  refine ⟨.skip, undef, W.setRow (E.box i) (cur.toList.take off ++ (a.eval x).cells.toList ++ cur.toList.drop (off + (a.eval x).cells.size)).toArray, E, Z, ?_, .inr ⟨rfl, rfl⟩, ?_, fun _ h => h, fun _ h => .inl h, fun _ _ => rfl⟩
  ·simp [execOp, ho, hv, he, hrun]
  ·rw [I9]
   exact (R2.val o.dst (.tup rfl (fun i t u h => by simp at h))).moreU (fun _ h => .inl h)
theorem Nj (b : Nat) : ∀ (us : List Value) (k : Nat) (c : Array Value), b + k + us.length ≤ c.size → ((us.zipIdx k).foldl (fun cs (q : Value × Nat) => cs.setIfInBounds (b + q.2) q.1) c).toList = c.toList.take (b + k) ++ us ++ c.toList.drop (b + k + us.length) := by
 intro us
 induction us with
 | nil => intro k c _; simp
 | cons u us ih2 =>
  intro k c hc
  simp only [List.zipIdx_cons, List.foldl_cons, List.length_cons] at hc ⊢
  rw [ih2 (k + 1) _ (by simp; omega)]
  simp only [Array.toList_setIfInBounds]
  have hlt : b + k < c.toList.length := by simp; omega
  have e1 : (c.toList.set (b + k) u).take (b + (k + 1)) = c.toList.take (b + k) ++ [u] := by
   rw [show b + (k + 1) = b + k + 1 by omega, List.take_succ_eq_append_getElem (by simpa using hlt)]
   simp [List.take_set_of_le]
  have e2 : (c.toList.set (b + k) u).drop (b + (k + 1) + us.length) = c.toList.drop (b + k + (us.length + 1)) := by
   rw [List.drop_set_of_lt (by omega)]
   congr 1
   omega
  rw [e1, e2]
  simp
theorem Zw (R : Rel P W0 M U st E Z a W) {t : TypeId} {fs : Array Field} (ht : P.underlying t = some (.struct fs)) : ∀ {parts : List (Nat × Operand)} {l l' : List SV} {cur : Array Value}, Gg P t st l parts = some l' → Aq (Cs P W Z U E st.ob) l cur.toList →
  ∃ cur', Instr.fill (fun i => (fs[i]?).map fun (f : Field) => (f.offset, P.cellsOf f.type)) cur (parts.map fun x => (x.1, a.eval x.2)) = some cur' ∧ Aq (Cs P W Z U E st.ob) l' cur'.toList := by
 intro parts
 induction parts with
 | nil => intro l l' cur h hl; simp [Gg] at h; subst h; exact ⟨cur, rfl, hl⟩
 | cons p parts ih =>
  intro l l' cur h hl
  obtain ⟨j, x⟩ := p
  simp only [Gg] at h
  split at h
  ·rename_i f hf
   split at h
   ·rename_i vc hx
    split at h
    ·rename_i h1 h2
     have h1 := Nat.eq_of_beq_eq_true h1
     have h2 := Nat.le_of_ble_eq_true h2
     obtain ⟨fs', h3, h4⟩ := O6 hf
     rw [ht] at h3
     cases h3
     have h5 := Ke R hx
     have h6 := h5.length
     have h7 := hl.length
     simp only [Array.length_toList] at h6 h7
     have h8 := Qc h5 l cur.toList f.offset hl h2
     have hfold := fun (us : List Value) (k : Nat) (c : Array Value) => Nj f.offset us k c
     obtain ⟨cur', h9, h10⟩ := ih (cur := ((a.eval x).cells.zipIdx.foldl (fun cs (q : Value × Nat) => cs.setIfInBounds (f.offset + q.2) q.1) cur)) h (by
      have h11 := hfold (a.eval x).cells.toList 0 cur (by simp; omega)
      simp only [Nat.add_zero] at h11
      have h12 : ((a.eval x).cells.zipIdx.foldl (fun cs (q : Value × Nat) => cs.setIfInBounds (f.offset + q.2) q.1) cur) = ((a.eval x).cells.toList.zipIdx.foldl (fun cs (q : Value × Nat) => cs.setIfInBounds (f.offset + q.2) q.1) cur) := by
       rw [← Array.foldl_toList, Array.toList_zipIdx]
      rw [h12, h11]
      exact h8)
     refine ⟨cur', ?_, h10⟩
     simp only [List.map_cons, Instr.fill, h4, Option.map_some]
     rw [if_neg (by simp; omega)]
     exact h9
    ·cases h
   ·cases h
  ·cases h
theorem Adu : ∀ {fs : List Field} {places : List (Nat × Nat)}, fs.mapM (fun (f : Field) => (P.info? f.type).map fun i => (f.offset, i.size)) = some places → places = fs.map fun (f : Field) => (f.offset, P.cellsOf f.type) := by
 intro fs
 induction fs with
 | nil => intro places h; simp at h; subst h; rfl
 | cons f fs ih =>
  intro places h
  simp only [List.mapM_cons, Option.bind_eq_bind, Option.pure_def] at h
  cases hi : P.info? f.type with
  | none => simp [hi] at h
  | some i =>
   cases hr : fs.mapM (fun (f : Field) => (P.info? f.type).map fun i => (f.offset, i.size)) with
   | none => simp [hi, hr] at h
   | some rest =>
    simp [hi, hr] at h
    subst h
    rw [ih hr]
    simp [Program.cellsOf, hi]
theorem Aco (R : Rel P W0 M U st E Z a W) {t : TypeId} {parts : Array (Nat × Operand)} {l l' : List SV} (ho : o.op = .build t parts) (hz : J3 P t = some l) (hst : Pj P t = true) (h : Gg P t st l parts.toList = some l') : D2 P W0 M U id E Z st a W o (.val (.agg l')) := by
 obtain ⟨i, z, ks, h1, h2, h4⟩ := Qp hz
 have hst2 : ∃ fs, P.underlying t = some (.struct fs) ∧ (P.built t []).isSome = true := by
  unfold Pj at hst
  split at hst
  ·exact ⟨_, by assumption, hst⟩
  ·cases hst
 obtain ⟨fs, h5, hb⟩ := hst2
 obtain ⟨cur', h7, h8⟩ := Zw R h5 (cur := z.cells) h (Qq h4)
 refine Ds (v := .agg cur') R ?_ rfl (.agg h8)
 have hbuilt : P.built t (parts.map fun x => (x.1, a.eval x.2)).toList = some cur' := by
  unfold Program.built at hb ⊢
  rw [h1, h5] at hb ⊢
  simp only [h2] at hb ⊢
  split at hb
  ·rename_i z' places hz' hp
   cases hz'
   have hg : (fun (i : Nat) => places.toArray[i]?) = fun (i : Nat) => (fs[i]?).map fun (f : Field) => (f.offset, P.cellsOf f.type) := by
    funext i
    rw [Adu hp]
    simp
   rw [hg]
   simpa using h7
  ·cases hb
 have := run_build (P := P) W t (parts.map fun x => (x.1, a.eval x.2)) cur' hbuilt
 simp [execOp, ho, this]
theorem Zs (R : Rel P W0 M U st E Z a W) {e : TypeId} : ∀ {parts : List (Nat × Operand)} {l l' : List SV} {cur : Array Value}, Gf P e st l parts = some l' → Aq (Cs P W Z U E st.ob) l cur.toList →
  ∃ cur', Instr.fill (fun i => some (i * P.cellsOf e, P.cellsOf e)) cur (parts.map fun x => (x.1, a.eval x.2)) = some cur' ∧ Aq (Cs P W Z U E st.ob) l' cur'.toList := by
 intro parts
 induction parts with
 | nil => intro l l' cur h hl; simp [Gf] at h; subst h; exact ⟨cur, rfl, hl⟩
 | cons p parts ih =>
  intro l l' cur h hl
  obtain ⟨j, x⟩ := p
  simp only [Gf] at h
  split at h
  ·rename_i vc hx
   split at h
   ·rename_i h1 h2
    have h1 := Nat.eq_of_beq_eq_true h1
    have h2 := Nat.le_of_ble_eq_true h2
    have h5 := Ke R hx
    have h6 := h5.length
    have h7 := hl.length
    simp only [Array.length_toList] at h6 h7
    have h8 := Qc h5 l cur.toList (j * P.cellsOf e) hl h2
    obtain ⟨cur', h9, h10⟩ := ih (cur := ((a.eval x).cells.zipIdx.foldl (fun cs (q : Value × Nat) => cs.setIfInBounds (j * P.cellsOf e + q.2) q.1) cur)) h (by
     have h11 := Nj (j * P.cellsOf e) (a.eval x).cells.toList 0 cur (by simp; omega)
     simp only [Nat.add_zero] at h11
     have h12 : ((a.eval x).cells.zipIdx.foldl (fun cs (q : Value × Nat) => cs.setIfInBounds (j * P.cellsOf e + q.2) q.1) cur) = ((a.eval x).cells.toList.zipIdx.foldl (fun cs (q : Value × Nat) => cs.setIfInBounds (j * P.cellsOf e + q.2) q.1) cur) := by
      rw [← Array.foldl_toList, Array.toList_zipIdx]
     rw [h12, h11]
     exact h8)
    refine ⟨cur', ?_, h10⟩
    simp only [List.map_cons, Instr.fill]
    rw [if_neg (by simp; omega)]
    exact h9
   ·cases h
  ·cases h
theorem Acp (R : Rel P W0 M U st E Z a W) {t e : TypeId} {n : Nat} {parts : Array (Nat × Operand)} {l l' : List SV} (ho : o.op = .build t parts) (hz : J3 P t = some l) (hst : Jb P t = some (n, e)) (h : Gf P e st l parts.toList = some l') : D2 P W0 M U id E Z st a W o (.val (.agg l')) := by
 obtain ⟨i, z, ks, h1, h2, h4⟩ := Qp hz
 obtain ⟨h5, h6⟩ := X0 hst
 obtain ⟨cur', h7, h8⟩ := Zs R (cur := z.cells) h (Qq h4)
 refine Ds (v := .agg cur') R ?_ rfl (.agg h8)
 have h7' : Instr.fill (fun i => some (i * P.cellsOf e, P.cellsOf e)) z.cells (parts.map fun x => (x.1, a.eval x.2)).toList = some cur' := by simpa using h7
 simp at h7'
 simp [execOp, ho, Instr.build, zeroValue, typeInfo, h1, h2, run_underlying h5, Hj h6, h7']
end Go.Vm
