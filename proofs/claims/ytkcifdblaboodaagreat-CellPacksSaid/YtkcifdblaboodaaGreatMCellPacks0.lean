/- The law CellPacks holds at every input that its statement lets in; part 1 of its proof. -/
import Derived.WalkKit
import Derived.StillTail
import Derived.Laws.Cells
import Derived.Lib.Builder
import Derived.Lib.UnsafeStr
import Derived.Laws.StructEq
import Derived.MapKept
import Derived.Below
import Derived.Maps.AppendAt
import Derived.Lib.ConvBytes
import Derived.Lib.AppendStr
set_option linter.unusedVariables false
namespace Go.Proofs.YtkcifdblaboodaaGreat.Fw
open Go

/-! ### Kinds of plain data -/
inductive Ty | int (k : IntKind) | bool | str | list (e : Ty) | pair (a b : Ty)
  deriving DecidableEq
@[reducible] def Ty.den : Ty → Type
  | .int _ => Int | .bool => Bool | .str => List UInt8 | .list e => List e.den | .pair a b => a.den × b.den
def Ty.dflt : (t : Ty) → t.den
  | .int _ => (0 : Int) | .bool => false | .str => ([] : List UInt8) | .list e => ([] : List e.den) | .pair a b => (a.dflt, b.dflt)
def Ty.size : Ty → Nat
  | .pair a b => a.size + b.size | _ => 1

/-! ### Abstract values. Leaves stand behind a 'fun _', so that no evaluation enters them. -/
inductive AV
  | undef | skip
  | int (k : IntKind) (n : Unit → Int) | bool (b : Unit → Bool) | tt | ff | str (s : Unit → List UInt8)
  | lst (t : Ty) (xs : Unit → List t.den)
  | agg (cs : List AV) | tup (cs : List AV)
  | pnil | ptr (i off : Nat) | eptr (i sz : Nat) (idx : Unit → Nat) (off : Nat) | iptr (t : Ty) (x : Unit → t.den) (off : Nat) | cptr (cs : List AV) (off : Nat)
  | snil | vec (i sz : Nat) (off n : Unit → Nat)
  | fn (f : Fn) (first captured : List AV) | fnil
  | ifc (t : Nat) (v : AV) | inil
  | mp (i : Nat) | mnil

inductive Chunk
  | none
  | cells (T : TypeId) (cs : List AV)
  | vect (T : TypeId) (t : Ty) (xs : Unit → List t.den)
  | count (k : Unit → Nat)
  | smp (k : IntKind) (ks : List Int) (vs : List AV)
  | row (T : TypeId) (t : Ty) (xs : Unit → List t.den)

/-- Chunks whose blocks stay. -/
def fixB : Chunk → Bool
  | .cells _ _ => true | .smp _ _ _ => true | .row _ _ _ => true | _ => false
/-- What is asked on the way. -/
structure Ob (p : Unit → Prop) : Prop where h : p ()

/-- The cells of a datum, ahead of others. -/
def enc : (t : Ty) → (Unit → t.den) → List AV → List AV
  | .int k, n, r => .int k n :: r | .bool, b, r => .bool b :: r | .str, s, r => .str s :: r | .list e, xs, r => .lst e xs :: r
  | .pair a b, x, r => enc a (fun u => (x u).1) (enc b (fun u => (x u).2) r)

/-- A datum of a kind as one of the same kind. -/
def castK {t' t : Ty} (h : t' = t) (xs : Unit → List t'.den) (K : (Unit → List t.den) → Prop) : Prop :=
  Eq.rec (motive := fun t _ => ((Unit → List t.den) → Prop) → Prop) (fun K => K xs) h K
theorem castK_eq {t' t : Ty} (h : t' = t) (xs : Unit → List t'.den) (K : (Unit → List t.den) → Prop) : castK h xs K = K (h ▸ xs) := by subst h; rfl
def castX {t' t : Ty} (h : t' = t) (x : Unit → t'.den) (K : (Unit → t.den) → Prop) : Prop :=
  Eq.rec (motive := fun t _ => ((Unit → t.den) → Prop) → Prop) (fun K => K x) h K
theorem castX_eq {t' t : Ty} (h : t' = t) (x : Unit → t'.den) (K : (Unit → t.den) → Prop) : castX h x K = K (h ▸ x) := by subst h; rfl

/-- Cells read as a datum. -/
def dec : (t : Ty) → List AV → ((Unit → t.den) → List AV → Prop) → Prop
  | .int k, .int k' n :: r, K => match decEq k k' with | isTrue _ => K n r | isFalse _ => False
  | .bool, .bool b :: r, K => K b r
  | .bool, .tt :: r, K => K (fun _ => true) r
  | .bool, .ff :: r, K => K (fun _ => false) r
  | .str, .str s :: r, K => K s r
  | .list e, .lst e' xs :: r, K => match decEq e' e with | isTrue h => castK h xs fun xs => K xs r | isFalse _ => False
  | .list e, .snil :: r, K => K (fun _ => []) r
  | .pair a b, r, K => dec a r fun x r => dec b r fun y r => K (fun u => (x u, y u)) r
  | _, _, _ => False

def dec1 (t : Ty) (cs : List AV) (K : (Unit → t.den) → Prop) : Prop := dec t cs fun x r => match r with | [] => K x | _ => False
/-- Are two data the same? -/
def eqD : (t : Ty) → t.den → t.den → Bool
  | .int _, a, b => @BEq.beq Int _ a b
  | .bool, a, b => @BEq.beq Bool _ a b
  | .str, a, b => @BEq.beq (List UInt8) _ a b
  | .list _, _, _ => false
  | .pair a b, x, y => eqD a x.1 y.1 && eqD b x.2 y.2
/-- Something that a look decides. -/
structure Ck (b : Bool) : Prop where h : b = true

/-- A datum with cells from 'off' on replaced: 'none' where they don't fit. -/
def setF : (t : Ty) → (Unit → t.den) → Nat → List AV → ((Unit → t.den) → List AV → Prop) → Prop
  | .pair a b, x, off, cs, K =>
    match Nat.blt off a.size with
    | true => setF a (fun u => (x u).1) off cs fun y cs => (match cs with
      | [] => K (fun u => (y u, (x u).2)) []
      | cs => setF b (fun u => (x u).2) 0 cs fun z cs => K (fun u => (y u, z u)) cs)
    | false => setF b (fun u => (x u).2) (off - a.size) cs fun y cs => K (fun u => ((x u).1, y u)) cs
  | t, x, 0, cs, K => dec t cs K
  | _, _, _, _, _ => False

/-! ### Forcing -/
/-- A number made a numeral. -/
def fN (n : Nat) (K : Nat → Prop) : Prop := match n with
  | 0 => K 0 | 1 => K 1 | 2 => K 2 | 3 => K 3 | 4 => K 4 | 5 => K 5 | 6 => K 6 | 7 => K 7 | 8 => K 8 | 9 => K 9 | 10 => K 10 | 11 => K 11 | 12 => K 12 | 13 => K 13 | 14 => K 14 | 15 => K 15
  | 16 => K 16 | 17 => K 17 | 18 => K 18 | 19 => K 19 | 20 => K 20 | 21 => K 21 | 22 => K 22 | 23 => K 23 | 24 => K 24 | 25 => K 25 | 26 => K 26 | 27 => K 27 | 28 => K 28 | 29 => K 29 | 30 => K 30 | 31 => K 31
  | 32 => K 32 | 33 => K 33 | 34 => K 34 | 35 => K 35 | 36 => K 36 | 37 => K 37 | 38 => K 38 | 39 => K 39 | 40 => K 40 | 41 => K 41 | 42 => K 42 | 43 => K 43 | 44 => K 44 | 45 => K 45 | 46 => K 46 | 47 => K 47
  | n => K n
theorem fN_eq (n : Nat) (K : Nat → Prop) : fN n K = K n := by unfold fN; split <;> rfl
def fV (v : AV) (K : AV → Prop) : Prop := match v with
  | .undef => K .undef | .skip => K .skip
  | .int k n => K (.int k n) | .bool b => K (.bool b) | .tt => K .tt | .ff => K .ff | .str s => K (.str s) | .lst t xs => K (.lst t xs)
  | .agg cs => K (.agg cs) | .tup cs => K (.tup cs) | .pnil => K .pnil | .ptr i o => fN i fun i => K (.ptr i o) | .eptr i s j o => fN i fun i => K (.eptr i s j o) | .iptr t x o => K (.iptr t x o) | .cptr cs o => K (.cptr cs o)
  | .snil => K .snil | .vec i s o n => fN i fun i => K (.vec i s o n) | .fn f a b => K (.fn f a b) | .fnil => K .fnil | .ifc t v => K (.ifc t v) | .inil => K .inil | .mp i => fN i fun i => K (.mp i) | .mnil => K .mnil
theorem fV_eq (v : AV) (K : AV → Prop) : fV v K = K v := by cases v <;> simp only [fV, fN_eq]
def fL (l : List AV) (K : List AV → Prop) : Prop := match l with
  | [] => K [] | c :: r => fV c fun c => fL r fun r => K (c :: r)
theorem fL_eq (l : List AV) (K : List AV → Prop) : fL l K = K l := by
  induction l generalizing K with
  | nil => rfl
  | cons c r ih => simp only [fL, fV_eq, ih]
def fC (c : Chunk) (K : Chunk → Prop) : Prop := match c with
  | .none => K .none | .cells T cs => fL cs fun cs => K (.cells T cs) | .vect T t xs => K (.vect T t xs) | .count k => K (.count k) | .smp k ks vs => fL vs fun vs => K (.smp k ks vs) | .row T t xs => K (.row T t xs)
theorem fC_eq (c : Chunk) (K : Chunk → Prop) : fC c K = K c := by cases c <;> simp [fC, fL_eq]
def fE (l : List Chunk) (K : List Chunk → Prop) : Prop := match l with
  | [] => K []
  | .none :: r => fE r fun r => K (.none :: r) | .cells T cs :: r => fE r fun r => K (.cells T cs :: r) | .vect T t xs :: r => fE r fun r => K (.vect T t xs :: r) | .count k :: r => fE r fun r => K (.count k :: r) | .smp k ks vs :: r => fE r fun r => K (.smp k ks vs :: r) | .row T t xs :: r => fE r fun r => K (.row T t xs :: r)
theorem fE_eq (l : List Chunk) (K : List Chunk → Prop) : fE l K = K l := by
  induction l generalizing K with
  | nil => rfl
  | cons c r ih => cases c <;> simp only [fE, ih]
/-! ### The state: slots (the newest first), chunks -/
abbrev Env := List (Nat × AV)
def look (env : Env) (t : Nat) : AV := match env with
  | [] => .undef
  | (k, v) :: r => match Nat.beq k t with | true => v | false => look r t
def cst0 : Value → AV
  | .int k n => .int k (fun _ => n) | .bool true => .tt | .bool false => .ff | .string s => .str (fun _ => s.data.toList)
  | .pointer none => .pnil | .slice none 0 0 => .snil | .map none => .mnil | .nilFunc => .fnil | .nilIface => .inil | _ => .undef
def cst0L : List Value → List AV
  | [] => [] | c :: r => cst0 c :: cst0L r
def cst : Value → AV
  | .agg ⟨cs⟩ => .agg (cst0L cs) | .tuple ⟨cs⟩ => .tup (cst0L cs) | .iface t v => .ifc t (cst0 v) | v => cst0 v
def ev (env : Env) : Operand → AV
  | .tmp t => look env t
  | .const v => cst v
  | .func f => .fn (.func f) [] []
  | _ => .undef
def evL (env : Env) : List Operand → List AV
  | [] => [] | x :: r => ev env x :: evL env r
def nth {α : Type} : List α → Nat → Option α
  | [], _ => none | x :: _, 0 => some x | _ :: r, n + 1 => nth r n
theorem nth_eq {α : Type} (l : List α) (n : Nat) : nth l n = l[n]? := by
  induction l generalizing n with
  | nil => simp [nth]
  | cons x r ih => cases n <;> simp [nth, ih]
def getE (E : List Chunk) (i : Nat) : Chunk := match E with | [] => .none | c :: r => match i with | 0 => c | i + 1 => getE r i
def setE (E : List Chunk) (i : Nat) (c' : Chunk) : List Chunk := match E with | [] => [] | c :: r => match i with | 0 => c' :: r | i + 1 => c :: setE r i c'
def lenE : List Chunk → Nat
  | [] => 0 | _ :: r => lenE r + 1
def addE : List Chunk → Chunk → List Chunk
  | [], c => [c] | d :: r, c => d :: addE r c
theorem lenE_eq (E : List Chunk) : lenE E = E.length := by induction E <;> simp [lenE, *]
theorem addE_eq (E : List Chunk) (c : Chunk) : addE E c = E ++ [c] := by induction E <;> simp [addE, *]
theorem getE_eq (E : List Chunk) (i : Nat) : getE E i = E[i]?.getD .none := by
  induction E generalizing i with
  | nil => simp [getE]
  | cons c r ih => cases i <;> simp [getE, ih]
theorem setE_eq (E : List Chunk) (i : Nat) (c : Chunk) : setE E i c = E.set i c := by
  induction E generalizing i with
  | nil => simp [setE]
  | cons d r ih => cases i <;> simp [setE, ih]
/-- n cells from 'off' on. -/
def takeX : Nat → List AV → Option (List AV)
  | 0, _ => some [] | n + 1, [] => none | n + 1, c :: r => match takeX n r with | some l => some (c :: l) | none => none
def dropX : Nat → List AV → List AV
  | 0, l => l | n + 1, [] => [] | n + 1, _ :: r => dropX n r
/-- cells from 'off' on replaced by others -/
def putX : Nat → List AV → List AV → Option (List AV)
  | 0, l, [] => some l
  | 0, [], _ :: _ => none
  | 0, _ :: l, v :: vs => match putX 0 l vs with | some r => some (v :: r) | none => none
  | n + 1, [], _ => none
  | n + 1, c :: l, vs => match putX n l vs with | some r => some (c :: r) | none => none

/-! ### Types -/
section
variable (P : Program)
def tinfo (t : Nat) : Option TypeInfo := nth P.types.toList t
def tund (t : Nat) : Option TypeDesc := match tinfo P t with
  | some i => (match i.desc with | .named _ u => (match tinfo P u with | some j => some j.desc | none => none) | d => some d)
  | none => none
def tsize (t : Nat) : Option Nat := match tinfo P t with | some i => some i.size | none => none
def tbytes (t : Nat) : Option Nat := match tinfo P t with | some i => some i.bytes | none => none
def tzero (t : Nat) : Option Value := match tinfo P t with | some i => i.zero | none => none

/-- The kind of data that a Go type is, if it is one. -/
def tyFs (g : Nat → Option Ty) : List Field → Option Ty
  | [] => none
  | [f] => g f.type
  | f :: h :: r => match g f.type, tyFs g (h :: r) with | some a, some b => some (.pair a b) | _, _ => none
/-- So many of a kind, one behind the other. -/
def tyRep : Nat → Ty → Option Ty
  | 0, _ => none | 1, y => some y | n + 2, y => match tyRep (n + 1) y with | some z => some (.pair y z) | none => none
def tyOf : Nat → Nat → Option Ty
  | 0, _ => none
  | d + 1, t => match tund P t with
    | some (.int k) => some (.int k)
    | some .bool => some .bool
    | some .string => some .str
    | some (.slice e) => (match tyOf d e with | some y => some (.list y) | none => none)
    | some (.struct fs) => tyFs (tyOf d) fs.toList
    | some (.array n e) => (match tyOf d e with | some y => tyRep n y | none => none)
    | _ => none
end
end Go.Proofs.YtkcifdblaboodaaGreat.Fw
set_option linter.unusedVariables false
namespace Go.Proofs.YtkcifdblaboodaaGreat.Fw
open Go

def lenA : List AV → Nat
  | [] => 0 | _ :: r => lenA r + 1
theorem lenA_eq (l : List AV) : lenA l = l.length := by induction l <;> simp [lenA, *]
section
variable (P : Program)

/-- A value of type t out of cells from g on. -/
def ldC (t : Nat) (cs : List AV) (g : Nat) (K : AV → Prop) : Prop :=
  match tund P t with
  | some (.struct _) | some (.array _ _) => (match tsize P t with
    | some n => (match takeX n (dropX g cs) with | some l => fL l fun l => K (.agg l) | none => False)
    | none => False)
  | some _ => (match dropX g cs with | v :: _ => fV v K | [] => False)
  | none => False

/-- The chunk's cells that a pointer leads into. -/
def atP (E : List Chunk) (p : AV) (K : List AV → Nat → Prop) : Prop :=
  match p with
  | .ptr i g => (match getE E i with | .cells _ cs => K cs g | _ => False)
  | .eptr i sz j g => (match getE E i with
    | .vect _ t xs => (match Nat.beq t.size sz with | true => K (enc t (fun u => (xs u).getD (j u) t.dflt) []) g | false => False)
    | .row _ t xs => (match Nat.beq t.size sz with | true => K (enc t (fun u => (xs u).getD (j u) t.dflt) []) g | false => False)
    | _ => False)
  | .iptr t x g => K (enc t x []) g
  | .cptr cs g => K cs g
  | _ => False

def nb : AV → AV
  | .tt => .ff | .ff => .tt | .bool b => .bool (fun u => !b u) | v => v

def isCst : Operand → Bool
  | .const _ => true | _ => false

/-- May structs of this type be compared, field by field? -/
def eqFs (h : Nat → Option Ty) (g : Nat → Bool) : List Field → Nat → Bool
  | [], _ => true
  | f :: r, k => (match Nat.beq f.offset k, tsize P f.type, h f.type with
    | true, some n, some ty => Nat.beq n ty.size && !(f.name == "_") && g f.type && eqFs h g r (k + n)
    | _, _, _ => false)
def eqOk : Nat → Nat → Bool
  | 0, _ => false
  | d + 1, t => match tund P t with
    | some (.int _) => true | some .bool => true | some .string => true
    | some (.struct fs) => !P.stoodInHeld t && eqFs P (tyOf P d) (eqOk d) fs.toList 0
    | _ => false
/-- '==' -/
def eqV (xType : Nat) (x y : Operand) (E : List Chunk) (a b : AV) (K : AV → Prop) : Prop :=
  match a, b with
  | .int k a, .int k' b => (match decEq k k' with | isTrue _ => K (.bool fun u => a u == b u) | isFalse _ => False)
  | .str a, .str b => K (.bool fun u => a u == b u)
  | .bool a, .bool b => (match tund P xType with | some .bool => K (.bool fun u => a u == b u) | _ => False)
  | .bool a, .tt => (match tund P xType with | some .bool => K (.bool a) | _ => False)
  | .bool a, .ff => (match tund P xType with | some .bool => K (.bool fun u => !a u) | _ => False)
  | .tt, .tt | .ff, .ff => (match tund P xType with | some .bool => K .tt | _ => False)
  | .tt, .ff | .ff, .tt => (match tund P xType with | some .bool => K .ff | _ => False)
  | .pnil, .pnil => (match tund P xType with | some (.pointer _) => K .tt | _ => False)
  | .ptr _ _, .pnil | .eptr _ _ _ _, .pnil | .iptr _ _ _, .pnil | .cptr _ _, .pnil | .pnil, .ptr _ _ | .pnil, .eptr _ _ _ _ | .pnil, .iptr _ _ _ | .pnil, .cptr _ _ => (match tund P xType with | some (.pointer _) => K .ff | _ => False)
  | .snil, .snil => (match tund P xType with | some (.slice _) => K .tt | _ => False)
  | .lst t xs, .snil => (match tund P xType with | some (.slice _) => (∀ b : Bool, (b = true → xs () = []) → K (.bool fun _ => b)) | _ => False)
  | .vec i s o n, .snil => (match tund P xType with | some (.slice _) => (∀ b : Bool, (b = true → n () = 0) → K (.bool fun _ => b)) | _ => False)
  | .fnil, .fnil => (match tund P xType with | some (.func _ _ _) => K .tt | _ => False)
  | .fn _ _ _, .fnil => (match tund P xType with | some (.func _ _ _) => K .ff | _ => False)
  | .agg cs, .agg ds => (match tund P xType, tyOf P 6 xType with
    | some (.struct _), some ty => Ck (eqOk P 6 xType && !P.eqGuardType P.depth xType) ∧ dec1 ty cs fun x => dec1 ty ds fun y => K (.bool fun u => eqD ty (x u) (y u))
    | _, _ => False)
  | .ptr i g, .ptr j o => (match tund P xType with
    | some (.pointer te) => (match tinfo P te, Nat.beq i j, Nat.beq g o with | some _, true, true => K .tt | _, _, _ => False)
    | _ => False)
  | _, _ => False

def binI (op : BinOp) (k : IntKind) (a b : Unit → Int) (K : AV → Prop) : Prop :=
  match op with
  | .add => K (.int k fun u => k.wrap (a u + b u))
  | .sub => K (.int k fun u => k.wrap (a u - b u))
  | .mul => K (.int k fun u => k.wrap (a u * b u))
  | .quo => Ob (fun u => b u ≠ 0) ∧ K (.int k fun u => k.wrap ((a u).tdiv (b u)))
  | .rem => Ob (fun u => b u ≠ 0) ∧ K (.int k fun u => (a u).tmod (b u))
  | .and => K (.int k fun u => k.wrap (BitVec.ofInt k.bits (a u) &&& BitVec.ofInt k.bits (b u)).toNat)
  | .or => K (.int k fun u => k.wrap (BitVec.ofInt k.bits (a u) ||| BitVec.ofInt k.bits (b u)).toNat)
  | .xor => K (.int k fun u => k.wrap (BitVec.ofInt k.bits (a u) ^^^ BitVec.ofInt k.bits (b u)).toNat)
  | .andNot => K (.int k fun u => k.wrap (BitVec.ofInt k.bits (a u) &&& ~~~ BitVec.ofInt k.bits (b u)).toNat)
  | .eql => K (.bool fun u => a u == b u)
  | .neq => K (.bool fun u => a u != b u)
  | .lss => K (.bool fun u => decide (a u < b u))
  | .leq => K (.bool fun u => decide (a u ≤ b u))
  | .gtr => K (.bool fun u => decide (b u < a u))
  | .geq => K (.bool fun u => decide (b u ≤ a u))
  | _ => False

def binS (op : BinOp) (a b : Unit → List UInt8) (K : AV → Prop) : Prop :=
  match op with
  | .add => Ob (fun u => (a u).length + (b u).length ≤ 9223372036854775807) ∧ K (.str fun u => a u ++ b u)
  | .eql => K (.bool fun u => a u == b u)
  | .neq => K (.bool fun u => !(a u == b u))
  | .lss => K (.bool fun u => Op.bytesLess (a u) (b u))
  | .leq => K (.bool fun u => Op.bytesLess (a u) (b u) || a u == b u)
  | .gtr => K (.bool fun u => !(Op.bytesLess (a u) (b u) || a u == b u))
  | .geq => K (.bool fun u => !Op.bytesLess (a u) (b u))
  | _ => False

def binII (op : BinOp) (k k' : IntKind) (a b : Unit → Int) (K : AV → Prop) : Prop :=
  match op with
  | .shl => Ob (fun u => 0 ≤ b u) ∧ K (.int k fun u => k.wrap (a u * 2 ^ (min (b u).toNat k.bits)))
  | .shr => Ob (fun u => 0 ≤ b u) ∧ K (.int k fun u => (a u).fdiv (2 ^ (min (b u).toNat k.bits)))
  | op => (match decEq k k' with | isTrue _ => binI op k a b K | isFalse _ => False)
def binV (op : BinOp) (xType : Nat) (x y : Operand) (E : List Chunk) (a b : AV) (K : AV → Prop) : Prop :=
  match a, b with
  | .int k a, .int k' b => binII op k k' a b K
  | .str a, .str b => binS op a b K
  | a, b => (match op with
    | .eql => eqV P xType x y E a b K
    | .neq => eqV P xType x y E a b fun r => K (nb r)
    | _ => False)

/-- A bound of a slice expression. -/
def bnd (env : Env) (x : Option Operand) (d : Unit → Int) (K : (Unit → Int) → Prop) : Prop :=
  match x with
  | none => K d
  | some x => (match ev env x with | .int _ n => K n | _ => False)

def min2V (b a : AV) (K : AV → Prop) : Prop := match b, a with
  | .int _ b, .int k a => K (.int k fun u => if b u < a u then b u else a u) | _, _ => False
def max2V (b a : AV) (K : AV → Prop) : Prop := match b, a with
  | .int _ b, .int k a => K (.int k fun u => if b u > a u then b u else a u) | _, _ => False
def minV : List AV → AV → (AV → Prop) → Prop
  | [], a, K => K a
  | b :: r, a, K => min2V b a fun c => minV r c K
def maxV : List AV → AV → (AV → Prop) → Prop
  | [], a, K => K a
  | b :: r, a, K => max2V b a fun c => maxV r c K

/-- parts laid over the zero value's cells -/
def fillV (place : Nat → Option (Nat × Nat)) (cells : List AV) : List (Nat × List AV) → Option (List AV)
  | [] => some cells
  | (i, v) :: rest => match place i with
    | some (off, size) => (match Nat.beq v.length size with
      | true => (match putX off cells v with | some cs => fillV place cs rest | none => none)
      | false => none)
    | none => none
def cellsV : AV → List AV
  | .agg cs => cs | v => [v]
/-- a value's cells, if it is known -/
def cellsO : AV → Option (List AV)
  | .undef | .skip | .tup _ => none | .agg cs => some cs | v => some [v]
def partsV (env : Env) : List (Nat × Operand) → Option (List (Nat × List AV))
  | [] => some [] | (i, x) :: r => match cellsO (ev env x), partsV env r with | some c, some l => some ((i, c) :: l) | _, _ => none
def placesF : List Field → Option (List (Nat × Nat))
  | [] => some []
  | f :: r => match tsize P f.type, placesF r with | some s, some l => some ((f.offset, s) :: l) | _, _ => none
/-- a struct's, an array's cells out of parts -/
def buildV (t : Nat) (ps : List (Nat × List AV)) (K : AV → Prop) : Prop :=
  match tzero P t with
  | some z => (match cellsO (cst z) with
    | some cs => (match tund P t with
      | some (.struct fs) => (match placesF P fs.toList with
        | some pl => (match fillV (nth pl) cs ps with | some cs => fL cs fun cs => K (.agg cs) | none => False)
        | none => False)
      | some (.array _ e) => (match tsize P e with
        | some s => (match fillV (fun i => some (i * s, s)) cs ps with | some cs => fL cs fun cs => K (.agg cs) | none => False)
        | none => False)
      | _ => False)
    | none => False)
  | none => False

def lenV (t : Nat) (a : AV) (K : AV → Prop) : Prop :=
  match a with
  | .str s => (match tund P t with | some .string => K (.int .i64 fun u => ((s u).length : Int)) | _ => False)
  | .lst _ xs => (match tund P t with | some (.slice _) => K (.int .i64 fun u => ((xs u).length : Int)) | _ => False)
  | .vec _ _ _ n => (match tund P t with | some (.slice _) => K (.int .i64 fun u => (n u : Int)) | _ => False)
  | .snil => (match tund P t with | some (.slice _) => K (.int .i64 fun _ => 0) | _ => False)
  | .agg _ => (match tund P t with | some (.array n _) => K (.int .i64 fun _ => (n : Int)) | _ => False)
  | _ => False
def capV (t : Nat) (a : AV) (K : AV → Prop) : Prop :=
  match a with
  | .vec _ _ _ n => (match tund P t with | some (.slice _) => (∀ c : Nat, n () ≤ c → K (.int .i64 fun _ => (c : Int))) | _ => False)
  | .snil => (match tund P t with | some (.slice _) => K (.int .i64 fun _ => 0) | _ => False)
  | _ => False
def builtinV (b : Builtin) (t : Nat) (az : List AV) (E : List Chunk) (K : AV → Prop) : Prop :=
  match az with
  | [] => False
  | a :: r => (match b with
    | .len => (match r with | [] => lenV P t a K | _ => False)
    | .cap => (match r with | [] => capV P t a K | _ => False)
    | .min => minV r a K
    | .max => maxV r a K
    | .unsafeSliceData => (match r, a with
      | [], .vec i 1 o n => Ob (fun u => o u = 0 ∧ n u ≠ 0) ∧ K (.eptr i 1 (fun _ => 0) 0)
      | _, _ => False)
    | _ => False)

/-- A known map's value at a number. -/
def lkV : List Int → List AV → (Unit → Int) → (AV → Prop) → Prop → Prop
  | [], [], _, _, D => D
  | k :: ks, v :: vs, n, K, D => (n () = k → fV v K) ∧ (n () ≠ k → lkV ks vs n K D)
  | _, _, _, _, _ => False
def lookV (t : Nat) (ok : Bool) (x k : AV) (E : List Chunk) (K : AV → Prop) : Prop :=
  match x, k with
  | .mp i, .int kk n => (match tund P t, getE E i with
    | some (.map kt et), .smp k' ks vs => (match tund P kt, decEq kk k', tzero P et with
      | some (.int _), isTrue _, some z => (match ok with
        | true => lkV ks vs n (fun v => K (.tup [v, .tt])) (K (.tup [cst z, .ff]))
        | false => lkV ks vs n K (K (cst z)))
      | _, _, _ => False)
    | _, _ => False)
  | _, _ => False
/-- The operations that leave the world alone. -/
def qV (op : Op) (env : Env) (E : List Chunk) (K : AV → Prop) : Prop :=
  match op with
  | .move x | .assign x => K (ev env x)
  | .pick c a b => (match ev env c with
    | .bool c => (c () = true → K (ev env a)) ∧ (c () = false → K (ev env b))
    | .tt => K (ev env a) | .ff => K (ev env b) | _ => False)
  | .load t x => atP E (ev env x) fun cs g => ldC P t cs g K
  | .nilCheck x => (match ev env x with
    | .ptr i g => K (.ptr i g) | .eptr i s j g => K (.eptr i s j g) | .iptr t x g => K (.iptr t x g) | .cptr cs g => K (.cptr cs g) | .fn (.func f) a b => K (.fn (.func f) a b) | _ => False)
  | .fieldAddr s x f => (match tund P s with
    | some (.struct fs) => (match nth fs.toList f with
      | some fd => (match tsize P fd.type with
        | some (_ + 1) => (match ev env x with
          | .ptr i g => fN (g + fd.offset) fun g => K (.ptr i g)
          | .eptr i sz j g => fN (g + fd.offset) fun g => K (.eptr i sz j g)
          | .iptr t x g => fN (g + fd.offset) fun g => K (.iptr t x g)
          | .cptr cs g => fN (g + fd.offset) fun g => K (.cptr cs g)
          | _ => False)
        | _ => False)
      | none => False)
    | _ => False)
  | .field s x f => (match tund P s with
    | some (.struct fs) => (match nth fs.toList f with
      | some fd => (match ev env x with | .agg cs => ldC P fd.type cs fd.offset K | _ => False)
      | none => False)
    | _ => False)
  | .indexAddr t x ix => (match ev env ix with
    | .int _ j => (match tund P t with
      | some (.slice e) => (match tsize P e with
        | some sz => (match ev env x with
          | .lst ty xs => (match Nat.beq ty.size sz with | true => Ob (fun u => 0 ≤ j u ∧ j u < (xs u).length) ∧ K (.iptr ty (fun u => (xs u).getD (j u).toNat ty.dflt) 0) | false => False)
          | .vec i s o n => (match Nat.beq s sz with
            | true => Ob (fun u => 0 ≤ j u ∧ j u < n u) ∧ (match getE E i with
              | .vect _ _ _ => K (.eptr i s (fun u => o u + (j u).toNat) 0)
              | .row _ _ _ => K (.eptr i s (fun u => o u + (j u).toNat) 0)
              | .cells _ _ => fN ((o () + (j ()).toNat) * s) fun g => K (.ptr i g)
              | _ => False)
            | false => False)
          | _ => False)
        | none => False)
      | some (.array len e) => (match tsize P e with
        | some sz => (match ev env x with
          | .ptr i g => Ob (fun u => 0 ≤ j u ∧ j u < len) ∧ fN (g + (j ()).toNat * sz) fun g => K (.ptr i g)
          | .eptr i s q g => Ob (fun u => 0 ≤ j u ∧ j u < len) ∧ fN (g + (j ()).toNat * sz) fun g => K (.eptr i s q g)
          | .iptr ty y g => Ob (fun u => 0 ≤ j u ∧ j u < len) ∧ fN (g + (j ()).toNat * sz) fun g => K (.iptr ty y g)
          | _ => False)
        | none => False)
      | _ => False)
    | _ => False)
  | .index t x ix => (match ev env ix with
    | .int _ j => (match tund P t with
      | some .string => (match ev env x with
        | .str s => Ob (fun u => 0 ≤ j u ∧ j u < (s u).length) ∧ K (.int .u8 fun u => (((s u).getD (j u).toNat 0).toNat : Int))
        | _ => False)
      | some (.array len e) => (match tsize P e with
        | some sz => (match ev env x with
          | .agg cs => Ob (fun u => 0 ≤ j u ∧ j u < len) ∧ ldC P e cs ((j ()).toNat * sz) K
          | _ => False)
        | none => False)
      | _ => False)
    | _ => False)
  | .slice t x lo hi none => (match tund P t with
    | some .string => (match ev env x with
      | .str s => bnd env lo (fun _ => 0) fun l => bnd env hi (fun u => (s u).length) fun h =>
        Ob (fun u => 0 ≤ l u ∧ l u ≤ h u ∧ h u ≤ (s u).length) ∧ K (.str fun u => ((s u).take (h u).toNat).drop (l u).toNat)
      | _ => False)
    | some (.slice e) => (match ev env x with
      | .lst ty xs => (match tsize P e with
        | some sz => (match Nat.beq ty.size sz with
          | true => bnd env lo (fun _ => 0) fun l => bnd env hi (fun u => (xs u).length) fun h =>
            Ob (fun u => 0 ≤ l u ∧ l u ≤ h u ∧ h u ≤ (xs u).length) ∧ K (.lst ty fun u => ((xs u).take (h u).toNat).drop (l u).toNat)
          | false => False)
        | none => False)
      | .vec i s o n => (match tsize P e with
        | some sz => (match Nat.beq s sz with
          | true => bnd env lo (fun _ => 0) fun l => bnd env hi (fun u => n u) fun h =>
            Ob (fun u => 0 ≤ l u ∧ l u ≤ h u ∧ h u ≤ n u) ∧ K (.vec i s (fun u => o u + (l u).toNat) (fun u => (h u).toNat - (l u).toNat))
          | false => False)
        | none => False)
      | .snil => (match tsize P e with
        | some _ => bnd env lo (fun _ => 0) fun l => bnd env hi (fun _ => 0) fun h => Ob (fun u => l u = 0 ∧ h u = 0) ∧ K .snil
        | none => False)
      | _ => False)
    | _ => False)
  | .slice t x none (some hi) (some mx) => (match ev env hi, ev env mx with
    | .int _ h, .int _ m => (match tund P t with
      | some (.slice e) => (match tsize P e with
        | some sz => (match ev env x with
          | .lst ty xs => (match Nat.beq ty.size sz with
            | true => Ob (fun u => h u = (xs u).length ∧ m u = (xs u).length) ∧ K (.lst ty xs)
            | false => False)
          | .snil => Ob (fun u => h u = 0 ∧ m u = 0) ∧ K .snil
          | _ => False)
        | none => False)
      | _ => False)
    | _, _ => False)
  | .binOp op xType x y _ => binV P op xType x y E (ev env x) (ev env y) K
  | .unOp op _ x => (match op, ev env x with
    | .not, .bool b => K (.bool fun u => !b u) | .not, .tt => K .ff | .not, .ff => K .tt
    | .neg, .int k n => K (.int k fun u => k.wrap (0 - n u))
    | .xor, .int k n => K (.int k fun u => k.wrap (BitVec.ofInt k.bits (if k.signed then -1 else k.max) ^^^ BitVec.ofInt k.bits (n u)).toNat)
    | _, _ => False)
  | .convert src dst x => (match tund P src, tund P dst, ev env x with
    | some _, some (.int k), .int _ n => K (.int k fun u => k.wrap (n u))
    | some _, some .string, .str s => K (.str s)
    | some (.slice e), some .string, .lst (.int .u8) xs => (match tund P e with | some (.int .u8) => K (.str fun u => (xs u).map fun z => UInt8.ofNat z.toNat) | _ => False)
    | some (.slice e), some .string, .snil => (match tund P e with | some (.int .u8) => K (.str fun _ => []) | _ => False)
    | some (.slice e), some .string, .vec i 1 o n => (match tund P e, getE E i with
      | some (.int .u8), .vect _ (.int .u8) xs => K (.str fun u => ((xs u).drop (o u) |>.take (n u)).map fun z => UInt8.ofNat z.toNat)
      | _, _ => False)
    | some (.pointer t), some .unsafePointer, .ptr i g => (match tsize P t, getE E i with
      | some (_ + 1), .cells _ cs => (match Nat.blt g (lenA cs) with | true => K (.ptr i g) | false => False)
      | _, _ => False)
    | some .unsafePointer, some (.pointer t), .ptr i g => (match tinfo P t, getE E i with
      | some _, .cells T cs => fN (lenA cs) fun n => Ck (liesAt P P.depth T (n / P.cellsOf T) g t 1) ∧ K (.ptr i g)
      | _, _ => False)
    | _, _, _ => False)
  | .makeInterface t x => (match tund P t with | some (.interface _) => False | some _ => K (.ifc t (ev env x)) | none => False)
  | .makeFunc f a b => fL (evL env a.toList) fun a => fL (evL env b.toList) fun b => K (.fn f a b)
  | .extract x i => (match ev env x with | .tup cs => (match nth cs i with | some v => fV v K | none => False) | _ => False)
  | .lookup t x k ok => lookV P t ok (ev env x) (ev env k) E K
  | .build t parts => (match partsV env parts.toList with | some ps => buildV P t ps K | none => False)
  | .call { callee := .builtin b, args, argTypes } => (match argTypes.toList with
    | t :: _ => builtinV P b t (evL env args.toList) E K
    | [] => False)
  | _ => False

end
end Go.Proofs.YtkcifdblaboodaaGreat.Fw
set_option linter.unusedVariables false
set_option linter.unusedSimpArgs false
namespace Go.Proofs.YtkcifdblaboodaaGreat.Fw
open Go

/-- 'Φ': blocks that never turn again; 'B': the block of a chunk; 'V': the room of a chunk that is a slice's, if it is not nil; 'L': how many elements it has; 'k': a count. -/
structure Gh where
  n : Nat
  Φ : Nat → Option Obj
  B : Nat → Nat
  V : Nat → Option Nat
  L : Nat → Nat
  k : Nat

def At (g : Gh) (A : Option Addr) (k : Nat) (u : Value) : Prop :=
  ∃ b off cells T fr, A = some ⟨b, off, none⟩ ∧ g.Φ b = some (.cells cells T fr) ∧ cells[off + k]? = some u

inductive R (g : Gh) : AV → Value → Prop
  | undef (v) : R g .undef v
  | skip : R g .skip Go.undef
  | int (k n) : R g (.int k n) (.int k (n ()))
  | bool (b) : R g (.bool b) (.bool (b ()))
  | tt : R g .tt (.bool true)
  | ff : R g .ff (.bool false)
  | str (s) : R g (.str s) (.string ⟨(s ()).toArray⟩)
  | lst (t) (xs : Unit → List (Ty.den t)) (A) (c) (u : Nat → Nat → Value) (hc : (xs ()).length ≤ c) (hm : (xs ()).length ≤ 9223372036854775807)
      (ha : ∀ (i : Nat) (x : Ty.den t) (j : Nat) (y : AV), (xs ())[i]? = some x → (enc t (fun _ => x) [])[j]? = some y → At g A (i * t.size + j) (u i j))
      (hr : ∀ (i : Nat) (x : Ty.den t) (j : Nat) (y : AV), (xs ())[i]? = some x → (enc t (fun _ => x) [])[j]? = some y → R g y (u i j)) : R g (.lst t xs) (.slice A (xs ()).length c)
  | agg (cs) (vs : Array Value) (hl : cs.length = vs.size) (hr : ∀ (i : Nat) (y : AV) (u : Value), cs[i]? = some y → vs[i]? = some u → R g y u) : R g (.agg cs) (.agg vs)
  | tup (cs) (vs : Array Value) (hl : cs.length = vs.size) (hr : ∀ (i : Nat) (y : AV) (u : Value), cs[i]? = some y → vs[i]? = some u → R g y u) : R g (.tup cs) (.tuple vs)
  | pnil : R g .pnil (.pointer none)
  | ptr (i off) (hi : i < g.n) : R g (.ptr i off) (.pointer (some ⟨g.B i, off, none⟩))
  | eptr (i sz idx off) (hi : i < g.n) (h : idx () < g.L i) : R g (.eptr i sz idx off) (.pointer (some ⟨g.B i, idx () * sz + off, none⟩))
  | iptr (t) (x : Unit → Ty.den t) (off b o : Nat) (u : Nat → Value)
      (ha : ∀ (j : Nat) (y : AV), (enc t x [])[j]? = some y → At g (some ⟨b, o, none⟩) j (u j))
      (hr : ∀ (j : Nat) (y : AV), (enc t x [])[j]? = some y → R g y (u j)) : R g (.iptr t x off) (.pointer (some ⟨b, o + off, none⟩))
  | cptr (cs : List AV) (off b o : Nat) (u : Nat → Value) (ha : ∀ (j : Nat) (y : AV), cs[j]? = some y → At g (some ⟨b, o, none⟩) j (u j)) (hr : ∀ (j : Nat) (y : AV), cs[j]? = some y → R g y (u j)) : R g (.cptr cs off) (.pointer (some ⟨b, o + off, none⟩))
  | snil : R g .snil (.slice none 0 0)
  | vec (i sz off n) (A c) (hi : i < g.n) (hL : off () + n () ≤ g.L i) (hn : g.V i = none → A = none ∧ n () = 0 ∧ c = 0 ∧ off () = 0)
      (hs : ∀ cap, g.V i = some cap → cap ≤ 9223372036854775807 ∧ off () + n () ≤ cap ∧ off () + c = cap ∧ (off () < cap ∨ off () = 0 → A = some ⟨g.B i, off () * sz, none⟩) ∧ A ≠ none) : R g (.vec i sz off n) (.slice A (n ()) c)
  | fn (f az bs) (vs ws : Array Value) (hl : az.length = vs.size) (hl' : bs.length = ws.size) (hr : ∀ (i : Nat) (y : AV) (u : Value), az[i]? = some y → vs[i]? = some u → R g y u)
      (hr' : ∀ (i : Nat) (y : AV) (u : Value), bs[i]? = some y → ws[i]? = some u → R g y u) : R g (.fn f az bs) (.func f vs ws)
  | fnil : R g .fnil .nilFunc
  | ifc (t v u) (h : R g v u) : R g (.ifc t v) (.iface t u)
  | inil : R g .inil .nilIface
  | mp (i) (hi : i < g.n) : R g (.mp i) (.map (some (g.B i)))
  | mnil : R g .mnil (.map none)

/-- Lists, value by value. -/
def RL (g : Gh) : List AV → List Value → Prop
  | [], [] => True
  | c :: r, u :: us => R g c u ∧ RL g r us
  | _, _ => False

theorem RL.length {g : Gh} : ∀ {cs : List AV} {us : List Value}, RL g cs us → cs.length = us.length
  | [], [], _ => rfl
  | c :: r, u :: us, h => by simp [RL.length h.2]
theorem RL.at_ {g : Gh} : ∀ {cs : List AV} {us : List Value}, RL g cs us → ∀ (i : Nat) (y : AV) (u : Value), cs[i]? = some y → us[i]? = some u → R g y u
  | [], [], _, i, y, u, h, _ => by simp at h
  | c :: r, v :: us, h, 0, y, u, h1, h2 => by simp at h1 h2; subst h1 h2; exact h.1
  | c :: r, v :: us, h, i + 1, y, u, h1, h2 => RL.at_ h.2 i y u (by simpa using h1) (by simpa using h2)
theorem RL.mk {g : Gh} : ∀ {cs : List AV} {us : List Value}, cs.length = us.length → (∀ (i : Nat) (y : AV) (u : Value), cs[i]? = some y → us[i]? = some u → R g y u) → RL g cs us
  | [], [], _, _ => trivial
  | [], _ :: _, h, _ => by simp at h
  | _ :: _, [], h, _ => by simp at h
  | c :: r, u :: us, h, hr => ⟨hr 0 c u rfl rfl, RL.mk (by simpa using h) fun i y v h1 h2 => hr (i + 1) y v (by simpa using h1) (by simpa using h2)⟩
theorem RL.append {g : Gh} : ∀ {cs : List AV} {us : List Value} {ds vs}, RL g cs us → RL g ds vs → RL g (cs ++ ds) (us ++ vs)
  | [], [], _, _, _, h => h
  | c :: r, u :: us, _, _, h, h' => ⟨h.1, RL.append h.2 h'⟩
theorem RL.get {g : Gh} {cs : List AV} {us : List Value} (h : RL g cs us) {i : Nat} {y : AV} (hy : cs[i]? = some y) : ∃ u, us[i]? = some u ∧ R g y u := by
  have hl := h.length
  have hi : i < cs.length := (List.getElem?_eq_some_iff.1 hy).1
  exact ⟨us[i]'(by omega), List.getElem?_eq_getElem (by omega), h.at_ i y _ hy (List.getElem?_eq_getElem (by omega))⟩

theorem R.agg_iff {g : Gh} {cs : List AV} {v : Value} (h : R g (.agg cs) v) : ∃ vs, v = .agg vs ∧ RL g cs vs.toList := by
  cases h with | agg _ vs hl hr => exact ⟨vs, rfl, RL.mk (by simpa using hl) fun i y u h1 h2 => hr i y u h1 (by simpa using h2)⟩
theorem R.tup_iff {g : Gh} {cs : List AV} {v : Value} (h : R g (.tup cs) v) : ∃ vs, v = .tuple vs ∧ RL g cs vs.toList := by
  cases h with | tup _ vs hl hr => exact ⟨vs, rfl, RL.mk (by simpa using hl) fun i y u h1 h2 => hr i y u h1 (by simpa using h2)⟩
theorem R.mkAgg {g : Gh} {cs : List AV} {vs : List Value} (h : RL g cs vs) : R g (.agg cs) (.agg vs.toArray) :=
  .agg _ _ (by simpa using h.length) fun i y u h1 h2 => h.at_ i y u h1 (by simpa using h2)
theorem R.mkTup {g : Gh} {cs : List AV} {vs : List Value} (h : RL g cs vs) : R g (.tup cs) (.tuple vs.toArray) :=
  .tup _ _ (by simpa using h.length) fun i y u h1 h2 => h.at_ i y u h1 (by simpa using h2)
theorem R.mkFn {g : Gh} {az bs : List AV} {vs ws : List Value} {f : Fn} (h : RL g az vs) (h' : RL g bs ws) : R g (.fn f az bs) (.func f vs.toArray ws.toArray) :=
  .fn _ _ _ _ _ (by simpa using h.length) (by simpa using h'.length) (fun i y u h1 h2 => h.at_ i y u h1 (by simpa using h2)) (fun i y u h1 h2 => h'.at_ i y u h1 (by simpa using h2))

/-! ### cells of data -/
theorem enc_append : ∀ (t : Ty) (x : Unit → t.den) (r : List AV), enc t x r = enc t x [] ++ r
  | .int _, _, _ | .bool, _, _ | .str, _, _ | .list _, _, _ => rfl
  | .pair a b, x, r => by
    simp only [enc]
    rw [enc_append a _ (enc b _ r), enc_append b _ r, enc_append a _ (enc b _ [])]
    simp
theorem enc_length : ∀ (t : Ty) (x : Unit → t.den), (enc t x []).length = t.size
  | .int _, _ | .bool, _ | .str, _ | .list _, _ => rfl
  | .pair a b, x => by
    simp only [enc]
    rw [enc_append a, List.length_append, enc_length a, enc_length b]
    rfl
theorem Ty.size_pos : ∀ t : Ty, 0 < t.size
  | .int _ | .bool | .str | .list _ => Nat.one_pos
  | .pair a b => Nat.add_pos_left (Ty.size_pos a) _

theorem takeX_eq : ∀ (n : Nat) (l r : List AV), takeX n l = some r → r = l.take n ∧ n ≤ l.length
  | 0, _, r, h => by simp [takeX] at h; subst h; simp
  | n + 1, [], r, h => by simp [takeX] at h
  | n + 1, c :: l, r, h => by
    simp only [takeX] at h
    split at h
    · rename_i l' hl
      obtain ⟨h1, h2⟩ := takeX_eq n l l' hl
      simp only [Option.some.injEq] at h
      subst h h1
      simp; omega
    · cases h
theorem dropX_eq : ∀ (n : Nat) (l : List AV), dropX n l = l.drop n
  | 0, _ => rfl
  | n + 1, [] => by simp [dropX]
  | n + 1, _ :: l => by simp [dropX, dropX_eq n l]

/-! ### Types -/
section
variable {P : Program}
theorem tinfo_info {t : Nat} {i : TypeInfo} (h : tinfo P t = some i) : P.info? t = some i := by
  unfold tinfo at h
  rw [nth_eq] at h
  have hl : t < P.types.size := by
    have := (List.getElem?_eq_some_iff.1 h).1
    simpa using this
  show Tables.info? _ _ = _
  unfold Tables.info?
  rw [if_pos hl]
  simpa using h
theorem tund_und {t : Nat} {d : TypeDesc} (h : tund P t = some d) : P.underlying t = some d := by
  unfold tund at h
  split at h
  · rename_i i hi
    have hi' := tinfo_info hi
    unfold Program.underlying
    rw [hi']
    cases i with
    | mk desc str size bytes hp al fa zero comp ms =>
      cases desc <;> simp only at h ⊢ <;> try exact h
      rename_i nm u
      split at h
      · rename_i j hj
        rw [tinfo_info hj]; exact h
      · cases h
  · cases h
theorem tsize_size {t n : Nat} (h : tsize P t = some n) (w : World) : (sizeOf t).run P w = .ok n w := by
  unfold tsize at h
  split at h
  · rename_i i hi
    simp only [Option.some.injEq] at h
    simp [sizeOf, typeInfo, tinfo_info hi, h]
  · cases h
theorem tzero_zero {t : Nat} {z : Value} (h : tzero P t = some z) (w : World) : (zeroValue t).run P w = .ok z w := by
  unfold tzero at h
  split at h
  · rename_i i hi
    simp [zeroValue, typeInfo, tinfo_info hi, h]
  · cases h
theorem tund_run {t : Nat} {d : TypeDesc} (h : tund P t = some d) (w : World) : (underlying t).run P w = .ok d w := run_underlying (tund_und h) w
end
end Go.Proofs.YtkcifdblaboodaaGreat.Fw
set_option linter.unusedVariables false
set_option linter.unusedSimpArgs false
namespace Go.Proofs.YtkcifdblaboodaaGreat.Fw
open Go

def Chunk.sat (g : Gh) (i : Nat) (w : World) : Chunk → Prop
  | .none => True
  | .cells T cs => ∃ vs : Array Value, w.heap[g.B i]? = some (.cells vs T (0, 0)) ∧ RL g cs vs.toList
  | .vect T t xs => (xs ()).length = g.L i ∧ (g.V i = Option.none → xs () = []) ∧ ∀ cap, g.V i = some cap →
      ∃ vs : Array Value, w.heap[g.B i]? = some (.cells vs T (0, 0)) ∧ vs.size = cap * t.size ∧ (xs ()).length ≤ cap ∧
        ∀ (k : Nat) (x : t.den), (xs ())[k]? = some x → RL g (enc t (fun _ => x) []) ((vs.toList.drop (k * t.size)).take t.size)
  | .row T t xs => (xs ()).length = g.L i ∧ (g.V i = Option.none → xs () = []) ∧ ∀ cap, g.V i = some cap →
      ∃ vs : Array Value, w.heap[g.B i]? = some (.cells vs T (0, 0)) ∧ vs.size = cap * t.size ∧ (xs ()).length ≤ cap ∧
        ∀ (k : Nat) (x : t.den), (xs ())[k]? = some x → RL g (enc t (fun _ => x) []) ((vs.toList.drop (k * t.size)).take t.size)
  | .count k => k () = g.k
  | .smp k ks vs => ∃ (es : Array MapEntry) (clock : Nat), w.heap[g.B i]? = some (.map es clock) ∧ es.toList.map (·.key) = ks.map (Value.int k) ∧ RL g vs (es.toList.map (·.val))
def Chunk.blk (g : Gh) (i : Nat) : Chunk → Option Nat
  | .none => Option.none
  | .cells _ _ => some (g.B i)
  | .vect _ _ _ => match g.V i with | Option.none => Option.none | some _ => some (g.B i)
  | .row _ _ _ => match g.V i with | Option.none => Option.none | some _ => some (g.B i)
  | .count _ => Option.none
  | .smp _ _ _ => some (g.B i)

structure Sim (g : Gh) (E : List Chunk) (w : World) : Prop where
  len : lenE E = g.n
  phi : ∀ b o, g.Φ b = some o → w.heap[b]? = some o
  sat : ∀ i, (getE E i).sat g i w
  dis : ∀ i j b, (getE E i).blk g i = some b → (getE E j).blk g j = some b → i = j
  dphi : ∀ i b, (getE E i).blk g i = some b → g.Φ b = none

def ER (g : Gh) (env : Env) (tmps : Array Value) : Prop := ∀ t, R g (look env t) (tmps.getD t Go.undef)

theorem R_cst0 (g : Gh) (v : Value) : R g (cst0 v) v := by
  unfold cst0
  split <;> constructor
theorem RL_cst0 (g : Gh) : ∀ l : List Value, RL g (cst0L l) l
  | [] => trivial
  | c :: r => ⟨R_cst0 g c, RL_cst0 g r⟩
theorem R_cst (g : Gh) (v : Value) : R g (cst v) v := by
  unfold cst
  split
  · exact R.mkAgg (RL_cst0 g _)
  · exact R.mkTup (RL_cst0 g _)
  · exact R.ifc _ _ _ (R_cst0 g _)
  · exact R_cst0 g _
theorem ER.ev {g : Gh} {env : Env} {a : Act} (h : ER g env a.tmps) (x : Operand) : R g (ev env x) (a.eval x) := by
  cases x with
  | tmp t => exact h t
  | const v => exact R_cst g v
  | global n => exact R.undef _
  | func f => exact R.mkFn (az := []) (bs := []) (vs := []) (ws := []) trivial trivial
theorem ER.evL {g : Gh} {env : Env} {a : Act} (h : ER g env a.tmps) : ∀ l : List Operand, RL g (evL env l) (l.map a.eval)
  | [] => trivial
  | x :: r => ⟨h.ev x, ER.evL h r⟩

theorem RL.dropX {g : Gh} : ∀ {n : Nat} {cs : List AV} {us : List Value}, RL g cs us → RL g (dropX n cs) (us.drop n)
  | 0, _, _, h => by simpa [Fw.dropX] using h
  | n + 1, [], [], _ => by simp [Fw.dropX, RL]
  | n + 1, _ :: _, _ :: _, h => by simpa [Fw.dropX] using RL.dropX (n := n) h.2
theorem RL.takeX {g : Gh} : ∀ {n : Nat} {cs r : List AV} {us : List Value}, RL g cs us → takeX n cs = some r → RL g r (us.take n) ∧ n ≤ us.length
  | 0, _, r, us, _, hr => by simp [Fw.takeX] at hr; subst hr; simp [RL]
  | n + 1, [], _, _, _, hr => by simp [Fw.takeX] at hr
  | n + 1, c :: cs, r, u :: us, h, hr => by
    simp only [Fw.takeX] at hr
    split at hr
    · rename_i l hl
      simp only [Option.some.injEq] at hr
      subst hr
      obtain ⟨h1, h2⟩ := RL.takeX h.2 hl
      exact ⟨⟨h.1, h1⟩, by simp; omega⟩
    · cases hr

/-- The cells from an address on. -/
def CellsAt (w : World) (a : Addr) (us : List Value) : Prop := a.spot = none ∧ ∀ j u, us[j]? = some u → w.cell? ⟨a.block, a.off + j, none⟩ = some u
theorem add_none {a : Addr} (h : a.spot = none) (n : Nat) : a.add n = ⟨a.block, a.off + n, none⟩ := by
  cases a with
  | mk b o s =>
    simp only at h
    subst h
    unfold Addr.add
    split <;> simp_all
theorem CellsAt.drop {w : World} {a : Addr} {us : List Value} (h : CellsAt w a us) (n : Nat) : CellsAt w ⟨a.block, a.off + n, none⟩ (us.drop n) :=
  ⟨rfl, fun j u hu => by simpa [Nat.add_assoc] using h.2 (n + j) u (by simpa using hu)⟩

section
variable {P : Program}

/-- A value out of cells, as a load and as a part of an aggregate. -/
theorem ldC_load {g : Gh} {t : Nat} {cs : List AV} {n : Nat} {K : AV → Prop} {w : World} {a : Addr} {us : List Value} (h : ldC P t cs n K) (hr : RL g cs us) (ha : CellsAt w a (us.drop n)) :
    ∃ v u, (loadVar t a).run P w = .ok u w ∧ R g v u ∧ K v := by
  have hd := hr.dropX (n := n)
  unfold ldC at h
  split at h
  · rename_i fs ht
    split at h
    · rename_i m hm
      split at h
      · rename_i l hl
        rw [fL_eq] at h
        obtain ⟨h1, h2⟩ := hd.takeX hl
        refine ⟨_, _, ?_, R.mkAgg h1, h⟩
        have hlen : ((us.drop n).take m).length = m := by rw [List.length_take]; omega
        have := run_loadCells_list (P := P) w a ((us.drop n).take m) (fun j v hv => by
          rw [add_none ha.1]
          refine ha.2 j v ?_
          rw [List.getElem?_take] at hv
          split at hv <;> simp_all)
        rw [hlen] at this
        simp [loadVar, isAgg, tund_run ht, tsize_size hm, this]
      · exact h.elim
    · exact h.elim
  · rename_i k e ht
    split at h
    · rename_i m hm
      split at h
      · rename_i l hl
        rw [fL_eq] at h
        obtain ⟨h1, h2⟩ := hd.takeX hl
        refine ⟨_, _, ?_, R.mkAgg h1, h⟩
        have hlen : ((us.drop n).take m).length = m := by rw [List.length_take]; omega
        have := run_loadCells_list (P := P) w a ((us.drop n).take m) (fun j v hv => by
          rw [add_none ha.1]
          refine ha.2 j v ?_
          rw [List.getElem?_take] at hv
          split at hv <;> simp_all)
        rw [hlen] at this
        simp [loadVar, isAgg, tund_run ht, tsize_size hm, this]
      · exact h.elim
    · exact h.elim
  · rename_i d hns hna ht
    split at h
    · rename_i v r hv
      rw [fV_eq] at h
      rw [hv] at hd
      cases hu : us.drop n with
      | nil => rw [hu] at hd; exact hd.elim
      | cons u r' =>
        rw [hu] at hd
        refine ⟨v, u, ?_, hd.1, h⟩
        have hc := ha.2 0 u (by simp [hu])
        have hc' : w.cell? a = some u := by
          have e : (⟨a.block, a.off + 0, none⟩ : Addr) = a := by cases a; simp at *; exact ha.1.symm
          rwa [e] at hc
        have hna' : (isAgg t).run P w = .ok false w := by
          simp only [isAgg, Sem.run_bind, tund_run ht, Result.andThen_ok]
          cases d <;> simp_all
        simp [loadVar, hna', hc']
    · exact h.elim
  · exact h.elim
theorem ldC_part {g : Gh} {t : Nat} {cs : List AV} {n : Nat} {K : AV → Prop} {w : World} {us : Array Value} (h : ldC P t cs n K) (hr : RL g cs us.toList) :
    ∃ v u, (part t us n).run P w = .ok u w ∧ R g v u ∧ K v := by
  have hd := hr.dropX (n := n)
  unfold ldC at h
  split at h
  · rename_i fs ht
    split at h
    · rename_i m hm
      split at h
      · rename_i l hl
        rw [fL_eq] at h
        obtain ⟨h1, h2⟩ := hd.takeX hl
        refine ⟨_, _, ?_, R.mkAgg h1, h⟩
        simp only [part, isAgg, Sem.run_bind, tund_run ht, tsize_size hm, Result.andThen_ok, Sem.run_pure, if_true, Sem.run_ite, Sem.run_map]
        congr 2
        apply Array.ext'
        simp [List.extract_eq_drop_take']
      · exact h.elim
    · exact h.elim
  · rename_i k e ht
    split at h
    · rename_i m hm
      split at h
      · rename_i l hl
        rw [fL_eq] at h
        obtain ⟨h1, h2⟩ := hd.takeX hl
        refine ⟨_, _, ?_, R.mkAgg h1, h⟩
        simp only [part, isAgg, Sem.run_bind, tund_run ht, tsize_size hm, Result.andThen_ok, Sem.run_pure, if_true, Sem.run_ite, Sem.run_map]
        congr 2
        apply Array.ext'
        simp [List.extract_eq_drop_take']
      · exact h.elim
    · exact h.elim
  · rename_i d hns hna ht
    split at h
    · rename_i v r hv
      rw [fV_eq] at h
      rw [hv] at hd
      cases hu : us.toList.drop n with
      | nil => rw [hu] at hd; exact hd.elim
      | cons u r' =>
        rw [hu] at hd
        refine ⟨v, u, ?_, hd.1, h⟩
        have hn : us[n]? = some u := by
          have : (us.toList.drop n)[0]? = some u := by rw [hu]; rfl
          simpa using this
        have hna' : (isAgg t).run P w = .ok false w := by
          simp only [isAgg, Sem.run_bind, tund_run ht, Result.andThen_ok]
          cases d <;> simp_all
        simp [part, hna', hn]
    · exact h.elim
  · exact h.elim
end
end Go.Proofs.YtkcifdblaboodaaGreat.Fw
set_option linter.unusedVariables false
set_option linter.unusedSimpArgs false
namespace Go.Proofs.YtkcifdblaboodaaGreat.Fw
open Go

section
variable {P : Program}

theorem unit_fun {α : Type} (f : Unit → α) : (fun _ => f ()) = f := by funext u; cases u; rfl
theorem enc_const (t : Ty) (x : Unit → t.den) : enc t (fun _ => x ()) [] = enc t x [] := by rw [unit_fun]

theorem RL_of_fun {g : Gh} (cs : List AV) (u : Nat → Value) (h : ∀ (j : Nat) (y : AV), cs[j]? = some y → R g y (u j)) : RL g cs ((List.range cs.length).map u) :=
  RL.mk (by simp) fun i y v h1 h2 => by
    have hi : i < cs.length := (List.getElem?_eq_some_iff.1 h1).1
    simp [hi] at h2
    subst h2
    exact h i y h1

theorem At.cell {g : Gh} {E : List Chunk} {w : World} (hS : Sim g E w) {b o k : Nat} {u : Value} (h : At g (some ⟨b, o, none⟩) k u) : w.cell? ⟨b, o + k, none⟩ = some u := by
  obtain ⟨b', off, cells, T, fr, h1, h2, h3⟩ := h
  simp only [Option.some.injEq, Addr.mk.injEq] at h1
  obtain ⟨rfl, rfl, _⟩ := h1
  have := hS.phi _ _ h2
  simp [World.cell?, this, h3]

theorem cell_of_heap {w : World} {b : Nat} {vs : Array Value} {T : TypeId} {fr : Nat × Nat} (h : w.heap[b]? = some (.cells vs T fr)) (k : Nat) : w.cell? ⟨b, k, none⟩ = vs[k]? := by
  simp [World.cell?, h]

theorem atP_cells {g : Gh} {E : List Chunk} {w : World} {p : AV} {v : Value} {K : List AV → Nat → Prop} (hS : Sim g E w) (hr : R g p v) (h : atP E p K) :
    ∃ cs n us a, v = .pointer (some a) ∧ RL g cs us ∧ CellsAt w a (us.drop n) ∧ K cs n := by
  unfold atP at h
  split at h
  · rename_i i off
    split at h
    · rename_i T cs hE
      have hs := hS.sat i
      rw [hE] at hs
      obtain ⟨vs, hv, hl⟩ := hs
      cases hr
      exact ⟨cs, off, vs.toList, _, rfl, hl, ⟨rfl, fun j u hu => by rw [cell_of_heap hv]; simpa using hu⟩, h⟩
    · exact h.elim
  · rename_i i sz j off
    split at h
    · rename_i T t xs hE
      split at h
      · rename_i hsz
        have hsz' : t.size = sz := Nat.eq_of_beq_eq_true hsz
        have hs := hS.sat i
        rw [hE] at hs
        obtain ⟨hL, hn, hc⟩ := hs
        cases hr with
        | eptr _ _ _ _ _ hj =>
        have hj' : j () < (xs ()).length := by omega
        cases hV : g.V i with
        | none => rw [hn hV] at hj'; simp at hj'
        | some cap =>
          obtain ⟨vs, hv, hvs, hcap, hx⟩ := hc cap hV
          have hk := hx (j ()) _ (List.getElem?_eq_getElem hj')
          have e : (fun u => (xs u).getD (j u) t.dflt) = (fun _ => (xs ())[j ()]'hj') := by
            funext u; cases u; simp [List.getD, List.getElem?_eq_getElem hj']
          rw [e] at h
          refine ⟨_, _, _, _, rfl, hk, ⟨rfl, fun k u hu => ?_⟩, h⟩
          rw [cell_of_heap hv]
          subst hsz'
          rw [List.getElem?_drop, List.getElem?_take] at hu
          split at hu
          · simpa [List.getElem?_drop, Nat.add_assoc] using hu
          · cases hu
      · exact h.elim
    · rename_i T t xs hE
      split at h
      · rename_i hsz
        have hsz' : t.size = sz := Nat.eq_of_beq_eq_true hsz
        have hs := hS.sat i
        rw [hE] at hs
        obtain ⟨hL, hn, hc⟩ := hs
        cases hr with
        | eptr _ _ _ _ _ hj =>
        have hj' : j () < (xs ()).length := by omega
        cases hV : g.V i with
        | none => rw [hn hV] at hj'; simp at hj'
        | some cap =>
          obtain ⟨vs, hv, hvs, hcap, hx⟩ := hc cap hV
          have hk := hx (j ()) _ (List.getElem?_eq_getElem hj')
          have e : (fun u => (xs u).getD (j u) t.dflt) = (fun _ => (xs ())[j ()]'hj') := by
            funext u; cases u; simp [List.getD, List.getElem?_eq_getElem hj']
          rw [e] at h
          refine ⟨_, _, _, _, rfl, hk, ⟨rfl, fun k u hu => ?_⟩, h⟩
          rw [cell_of_heap hv]
          subst hsz'
          rw [List.getElem?_drop, List.getElem?_take] at hu
          split at hu
          · simpa [List.getElem?_drop, Nat.add_assoc] using hu
          · cases hu
      · exact h.elim
    · exact h.elim
  · rename_i t x off
    cases hr with
    | iptr _ _ _ b o u ha hr =>
    refine ⟨_, off, _, _, rfl, RL_of_fun _ u hr, ⟨rfl, fun j v hv => ?_⟩, h⟩
    have : off + j < (enc t x []).length := by
      have := (List.getElem?_eq_some_iff.1 hv).1
      simp at this
      omega
    have h1 := (ha (off + j) _ (List.getElem?_eq_getElem this)).cell hS
    simp [List.getElem?_drop, this] at hv
    subst hv
    show w.cell? ⟨b, o + off + j, none⟩ = _
    rw [Nat.add_assoc]; exact h1
  · rename_i cs off
    cases hr with
    | cptr _ _ b o u ha hr =>
    refine ⟨_, off, _, _, rfl, RL_of_fun _ u hr, ⟨rfl, fun j v hv => ?_⟩, h⟩
    have : off + j < cs.length := by
      have := (List.getElem?_eq_some_iff.1 hv).1
      simp at this
      omega
    have h1 := (ha (off + j) _ (List.getElem?_eq_getElem this)).cell hS
    simp [List.getElem?_drop, this] at hv
    subst hv
    show w.cell? ⟨b, o + off + j, none⟩ = _
    rw [Nat.add_assoc]; exact h1
  · exact h.elim

theorem of_sem {g : Gh} {w : World} {s : Sem Value} {K : AV → Prop} (h : ∃ v u, s.run P w = .ok u w ∧ R g v u ∧ K v) :
    ∃ v u, (do pure (Next.value (← s)) : Sem Next).run P w = .ok (.value u) w ∧ R g v u ∧ K v := by
  obtain ⟨v, u, h1, h2, h3⟩ := h
  exact ⟨v, u, by simp [h1], h2, h3⟩

theorem R.int_iff {g : Gh} {k : IntKind} {n : Unit → Int} {v : Value} (h : R g (.int k n) v) : v = .int k (n ()) := by cases h; rfl
theorem R.bool_iff {g : Gh} {n : Unit → Bool} {v : Value} (h : R g (.bool n) v) : v = .bool (n ()) := by cases h; rfl
theorem R.tt_iff {g : Gh} {v : Value} (h : R g .tt v) : v = .bool true := by cases h; rfl
theorem R.ff_iff {g : Gh} {v : Value} (h : R g .ff v) : v = .bool false := by cases h; rfl
theorem R.str_iff {g : Gh} {n : Unit → List UInt8} {v : Value} (h : R g (.str n) v) : v = .string ⟨(n ()).toArray⟩ := by cases h; rfl
theorem R.bool' {g : Gh} {b : Unit → Bool} {c : Bool} (h : b () = c) : R g (.bool b) (.bool c) := by subst h; exact .bool b
theorem R.int' {g : Gh} {k : IntKind} {b : Unit → Int} {c : Int} (h : b () = c) : R g (.int k b) (.int k c) := by subst h; exact .int k b
theorem R.str' {g : Gh} {b : Unit → List UInt8} {c : ByteArray} (h : c = ⟨(b ()).toArray⟩) : R g (.str b) (.string c) := by subst h; exact .str b

/-! ### arithmetic -/
theorem binI_ok {g : Gh} {w : World} {op : BinOp} {k : IntKind} {a b : Unit → Int} {K : AV → Prop} (hs : op ≠ .shl) (hs' : op ≠ .shr) (h : binI op k a b K) :
    ∃ v u, (match op with
      | .add | .sub | .mul => Op.intArith op k (a ()) (b ())
      | .quo | .rem => Op.intDiv op k (a ()) (b ())
      | .and | .or | .xor | .andNot => Op.intBits op k (a ()) (b ())
      | _ => Op.intCmp op (a ()) (b ())).run P w = .ok u w ∧ R g v u ∧ K v := by
  cases op <;> simp only [binI] at h
  case add => exact ⟨_, _, rfl, .int k _, h⟩
  case sub => exact ⟨_, _, rfl, .int k _, h⟩
  case mul => exact ⟨_, _, rfl, .int k _, h⟩
  case quo => exact ⟨_, _, by simp [Op.intDiv, h.1.h], .int k _, h.2⟩
  case rem => exact ⟨_, _, by simp [Op.intDiv, h.1.h], .int k _, h.2⟩
  case and => exact ⟨_, _, rfl, .int k _, h⟩
  case or => exact ⟨_, _, rfl, .int k _, h⟩
  case xor => exact ⟨_, _, rfl, .int k _, h⟩
  case andNot => exact ⟨_, _, rfl, .int k _, h⟩
  case eql => exact ⟨_, _, rfl, .bool _, h⟩
  case neq => exact ⟨_, _, rfl, .bool _, h⟩
  case lss => exact ⟨_, _, rfl, .bool _, h⟩
  case leq => exact ⟨_, _, rfl, .bool _, h⟩
  case gtr => exact ⟨_, _, rfl, .bool _, h⟩
  case geq => exact ⟨_, _, rfl, .bool _, h⟩

theorem toList_mk (l : List UInt8) : (ByteArray.mk l.toArray).toList = l := by
  rw [ByteArray.toList_eq]
theorem binS_ok {g : Gh} {w : World} {op : BinOp} {a b : Unit → List UInt8} {K : AV → Prop} (h : binS op a b K) :
    ∃ v u, (Op.stringOp op ⟨(a ()).toArray⟩ ⟨(b ()).toArray⟩).run P w = .ok u w ∧ R g v u ∧ K v := by
  cases op <;> simp only [binS] at h <;> try exact h.elim
  case add =>
    refine ⟨_, _, ?_, .str _, h.2⟩
    have := h.1.h
    have h1 : (ByteArray.mk (a ()).toArray).size = (a ()).length := by simp [ByteArray.size]
    have h2 : (ByteArray.mk (b ()).toArray).size = (b ()).length := by simp [ByteArray.size]
    simp only [Op.stringOp, h1, h2]
    rw [if_neg (by simp [IntKind.max, IntKind.signed, IntKind.bits]; omega)]
    simp only [Sem.run_pure]
    congr 2
  all_goals
    simp only [Op.stringOp, toList_mk, Sem.run_pure]
    exact ⟨_, _, rfl, .bool _, h⟩

theorem R.nb {g : Gh} {r : AV} {b : Bool} (h : R g r (.bool b)) : R g (nb r) (.bool !b) := by
  cases h with
  | tt => exact .ff
  | ff => exact .tt
  | bool c => exact .bool (fun u => !c u)
  | undef => exact .undef _

section
variable {t : Nat} (n : Nat) (w : World)
theorem eqIn_bool (h : tund P t = some .bool) (a b : Bool) : (Op.equalIn (n + 1) t (.bool a) (.bool b)).run P w = .ok (a == b) w := by simp [Op.equalIn, tund_run h]
theorem eqIn_nil_ptr {e : Nat} (h : tund P t = some (.pointer e)) (b : Option Addr) : (Op.equalIn (n + 1) t (.pointer none) (.pointer b)).run P w = .ok b.isNone w := by simp [Op.equalIn, tund_run h]
theorem eqIn_ptr_nil {e : Nat} (h : tund P t = some (.pointer e)) (b : Addr) : (Op.equalIn (n + 1) t (.pointer (some b)) (.pointer none)).run P w = .ok false w := by simp [Op.equalIn, tund_run h]
theorem eqIn_ptr_same {e : Nat} {i : TypeInfo} (h : tund P t = some (.pointer e)) (hi : tinfo P e = some i) (a : Addr) : (Op.equalIn (n + 1) t (.pointer (some a)) (.pointer (some a))).run P w = .ok true w := by
  simp [Op.equalIn, tund_run h, sizeOf, typeInfo, tinfo_info hi, run_sameAddr_same]
theorem eqIn_sl_nil {e : Nat} (h : tund P t = some (.slice e)) (A : Option Addr) (l c : Nat) : (Op.equalIn (n + 1) t (.slice A l c) (.slice none 0 0)).run P w = .ok A.isNone w := by
  cases A <;> simp [Op.equalIn, tund_run h]
theorem eqIn_fn_nil {a b c} (h : tund P t = some (.func a b c)) (f x y) : (Op.equalIn (n + 1) t (.func f x y) .nilFunc).run P w = .ok false w := by simp [Op.equalIn, tund_run h]
theorem eqIn_nil_nil {a b c} (h : tund P t = some (.func a b c)) : (Op.equalIn (n + 1) t .nilFunc .nilFunc).run P w = .ok true w := by simp [Op.equalIn, tund_run h]
end

theorem R_lst_nil (g : Gh) (t : Ty) : R g (.lst t fun _ => []) (.slice none 0 0) :=
  .lst t (fun _ => []) none 0 (fun _ _ => .nilIface) (Nat.le_refl _) (by show 0 ≤ _; omega) (fun i x j y h _ => by simp at h) (fun i x j y h _ => by simp at h)

theorem dec_ok {g : Gh} : ∀ (t : Ty) (cs : List AV) (us : List Value) (K : (Unit → t.den) → List AV → Prop), dec t cs K → RL g cs us →
    ∃ (y : Unit → t.den) (rest : List AV) (us1 us2 : List Value), us = us1 ++ us2 ∧ RL g (enc t y []) us1 ∧ RL g rest us2 ∧ K y rest
  | .int k, cs, us, K, h, hr => by
    obtain _ | ⟨c, cs⟩ := cs
    · simp [dec] at h
    obtain _ | ⟨u, us⟩ := us
    · exact hr.elim
    cases c <;> simp only [dec] at h <;> try exact h.elim
    split at h
    · rename_i hk _
      subst hk
      exact ⟨_, _, [u], us, rfl, ⟨hr.1, trivial⟩, hr.2, h⟩
    · exact h.elim
  | .bool, cs, us, K, h, hr => by
    obtain _ | ⟨c, cs⟩ := cs
    · simp [dec] at h
    obtain _ | ⟨u, us⟩ := us
    · exact hr.elim
    cases c <;> simp only [dec] at h <;> try exact h.elim
    · exact ⟨_, _, [u], us, rfl, ⟨hr.1, trivial⟩, hr.2, h⟩
    · have := hr.1.tt_iff
      subst this
      exact ⟨fun _ => true, _, [_], us, rfl, ⟨.bool (fun _ => true), trivial⟩, hr.2, h⟩
    · have := hr.1.ff_iff
      subst this
      exact ⟨fun _ => false, _, [_], us, rfl, ⟨.bool (fun _ => false), trivial⟩, hr.2, h⟩
  | .str, cs, us, K, h, hr => by
    obtain _ | ⟨c, cs⟩ := cs
    · simp [dec] at h
    obtain _ | ⟨u, us⟩ := us
    · exact hr.elim
    cases c <;> simp only [dec] at h <;> try exact h.elim
    exact ⟨_, _, [u], us, rfl, ⟨hr.1, trivial⟩, hr.2, h⟩
  | .list e, cs, us, K, h, hr => by
    obtain _ | ⟨c, cs⟩ := cs
    · simp [dec] at h
    obtain _ | ⟨u, us⟩ := us
    · exact hr.elim
    cases c <;> simp only [dec] at h <;> try exact h.elim
    · split at h
      · rename_i hk _
        subst hk
        exact ⟨_, _, [u], us, rfl, ⟨hr.1, trivial⟩, hr.2, h⟩
      · exact h.elim
    · have hu : u = .slice none 0 0 := by have := hr.1; cases this; rfl
      subst hu
      exact ⟨fun _ => [], _, [_], us, rfl, ⟨R_lst_nil g e, trivial⟩, hr.2, h⟩
  | .pair a b, cs, us, K, h, hr => by
    simp only [dec] at h
    obtain ⟨x, r1, u1, u2, rfl, h1, h2, h3⟩ := dec_ok a cs us _ h hr
    obtain ⟨y, r2, u3, u4, rfl, h4, h5, h6⟩ := dec_ok b r1 u2 _ h3 h2
    refine ⟨fun u => (x u, y u), r2, u1 ++ u3, u4, by simp, ?_, h5, h6⟩
    simp only [enc]
    rw [enc_append]
    exact h1.append h4
theorem dec1_ok {g : Gh} {t : Ty} {cs : List AV} {us : List Value} {K : (Unit → t.den) → Prop} (h : dec1 t cs K) (hr : RL g cs us) : ∃ y, RL g (enc t y []) us ∧ K y := by
  unfold dec1 at h
  obtain ⟨y, rest, u1, u2, rfl, h1, h2, h3⟩ := dec_ok t cs us _ h hr
  cases rest with
  | nil =>
    cases u2 with
    | nil => exact ⟨y, by simpa using h1, h3⟩
    | cons _ _ => exact h2.elim
  | cons _ _ => exact h3.elim

section
variable {w : World}
theorem part_leaf {t : Nat} {d : TypeDesc} (ht : tund P t = some d) (hs : ∀ fs, d ≠ .struct fs) (ha : ∀ n e, d ≠ .array n e) {us : Array Value} {n : Nat} {u : Value} (hu : us[n]? = some u) : (part t us n).run P w = .ok u w := by
  have hna : (isAgg t).run P w = .ok false w := by
    simp only [isAgg, Sem.run_bind, tund_run ht, Result.andThen_ok]
    cases d <;> simp_all
  simp [part, hna, hu]
theorem part_struct {t : Nat} {fs : Array Field} (ht : tund P t = some (.struct fs)) {m : Nat} (hm : tsize P t = some m) (us : Array Value) (n : Nat) : (part t us n).run P w = .ok (.agg (us.extract n (n + m))) w := by
  simp only [part, isAgg, Sem.run_bind, tund_run ht, tsize_size hm, Result.andThen_ok, Sem.run_pure, if_true, Sem.run_ite, Sem.run_map]
/-- A value of type t out of cells. -/
def mkV (P : Program) (t : Nat) (us : List Value) : Value := match tund P t with | some (.struct _) => .agg us.toArray | _ => us.headD .nilIface
theorem str_beq (a b : List UInt8) : ((⟨a.toArray⟩ : ByteArray) == ⟨b.toArray⟩) = (a == b) := by
  show ((⟨a.toArray⟩ : ByteArray) == ⟨b.toArray⟩) = _
  rw [beq_toListBytes, ByteArray.toList_eq, ByteArray.toList_eq]
theorem eqD_run {g : Gh} : ∀ (d : Nat) (t : Nat) (ty : Ty), tyOf P d t = some ty → eqOk P d t = true → ∀ (n : Nat) (us vs : List Value) (x y : Unit → ty.den), RL g (enc ty x []) us → RL g (enc ty y []) vs → d ≤ n →
    (Op.equalIn n t (mkV P t us) (mkV P t vs)).run P w = .ok (eqD ty (x ()) (y ())) w
  | 0, _, _, h, _ => by simp [tyOf] at h
  | d + 1, t, ty, h, ho => by
    intro n us vs x y hu hv hn
    obtain ⟨m, rfl⟩ : ∃ m, n = m + 1 := ⟨n - 1, by omega⟩
    simp only [tyOf] at h
    simp only [eqOk] at ho
    split at h
    · rename_i k ht
      cases h
      obtain _ | ⟨u, us⟩ := us <;> obtain _ | ⟨v, vs⟩ := vs <;> try exact hu.elim
      · exact hv.elim
      rw [hu.1.int_iff, hv.1.int_iff] 
      simp only [mkV, ht, List.headD_cons]
      rw [run_equalIn_int w m t k k _ _ (tund_und ht)]; rfl
    · rename_i ht
      cases h
      obtain _ | ⟨u, us⟩ := us <;> obtain _ | ⟨v, vs⟩ := vs <;> try exact hu.elim
      · exact hv.elim
      rw [hu.1.bool_iff, hv.1.bool_iff]
      simp only [mkV, ht, List.headD_cons]
      rw [eqIn_bool m w ht]; rfl
    · rename_i ht
      cases h
      obtain _ | ⟨u, us⟩ := us <;> obtain _ | ⟨v, vs⟩ := vs <;> try exact hu.elim
      · exact hv.elim
      rw [hu.1.str_iff, hv.1.str_iff]
      simp only [mkV, ht, List.headD_cons]
      rw [run_equalIn_string w m t _ _ (tund_und ht), ByteArray.toList_eq, ByteArray.toList_eq]; rfl
    · rename_i e ht
      rw [ht] at ho; cases ho
    · rename_i fs ht
      rw [ht] at ho
      simp only [Bool.and_eq_true, Bool.not_eq_true'] at ho
      have hfo : P.fieldsOf t = fs := by unfold Program.fieldsOf; rw [tund_und ht]
      simp only [mkV, ht]
      rw [run_equalIn_struct w m t _ _ (by rw [hfo]; exact tund_und ht) ho.1, hfo]
      have go : ∀ (l : List Field) (k : Nat) (ty : Ty) (x y : Unit → ty.den), tyFs (tyOf P d) l = some ty → eqFs P (tyOf P d) (eqOk P d) l k = true → RL g (enc ty x []) (us.drop k) → RL g (enc ty y []) (vs.drop k) →
          (Op.eqFields m us.toArray vs.toArray l).run P w = .ok (eqD ty (x ()) (y ())) w := by
        intro l
        induction l with
        | nil => intro k ty x y h; simp [tyFs] at h
        | cons f r ih =>
          intro k ty x y h he hu hv
          simp only [eqFs] at he
          obtain ⟨fn, tyf, hk, hsz, hty, h1, h2, h3, h4⟩ : ∃ fn tyf, Nat.beq f.offset k = true ∧ tsize P f.type = some fn ∧ tyOf P d f.type = some tyf ∧ Nat.beq fn tyf.size = true ∧ f.name ≠ "_" ∧ eqOk P d f.type = true ∧ eqFs P (tyOf P d) (eqOk P d) r (k + fn) = true := by
            cases hk : Nat.beq f.offset k with
            | false => rw [hk] at he; cases he
            | true =>
              cases hsz : tsize P f.type with
              | none => rw [hk, hsz] at he; cases he
              | some fn =>
                cases hty : tyOf P d f.type with
                | none => rw [hk, hsz, hty] at he; cases he
                | some tyf =>
                  rw [hk, hsz, hty] at he
                  simp only [Bool.and_eq_true, Bool.not_eq_true', beq_eq_false_iff_ne] at he
                  exact ⟨fn, tyf, rfl, rfl, rfl, he.1.1.1, he.1.1.2, he.1.2, he.2⟩
          have hk := Nat.eq_of_beq_eq_true hk
          have h1 := Nat.eq_of_beq_eq_true h1
          subst hk
          -- a field's value
          have field : ∀ (us : List Value) (z : Unit → tyf.den), RL g (enc tyf z []) ((us.drop f.offset).take fn) → (part f.type us.toArray f.offset).run P w = .ok (mkV P f.type ((us.drop f.offset).take fn)) w := by
            intro us z hz
            unfold mkV
            cases hd : tund P f.type with
            | none => cases d <;> simp [tyOf, hd] at hty
            | some dd =>
              by_cases hst : ∃ fs', dd = .struct fs'
              · obtain ⟨fs', rfl⟩ := hst
                simp only []
                rw [part_struct hd hsz]
                congr 2
                apply Array.ext'
                simp [List.extract_eq_drop_take']
              · have hna : ∀ n e, dd ≠ .array n e := by
                  rintro n e rfl
                  cases d <;> simp [eqOk, hd] at h3
                have hlen := hz.length
                rw [enc_length] at hlen
                have hpos := Ty.size_pos tyf
                obtain ⟨u, hu0⟩ : ∃ u, ((us.drop f.offset).take fn)[0]? = some u := ⟨_, List.getElem?_eq_getElem (by omega)⟩
                rw [part_leaf hd (fun fs' e => hst ⟨fs', e⟩) hna (u := u) (by
                  rw [List.getElem?_take] at hu0
                  split at hu0
                  · simpa using hu0
                  · cases hu0)]
                have : ((us.drop f.offset).take fn).headD .nilIface = u := by
                  cases hl : (us.drop f.offset).take fn with
                  | nil => rw [hl] at hu0; cases hu0
                  | cons a b => rw [hl] at hu0; simpa using hu0
                cases dd <;> first | (exfalso; exact hst ⟨_, rfl⟩) | (simp only [this])
          have step : ∀ (zx zy : Unit → tyf.den), RL g (enc tyf zx []) ((us.drop f.offset).take fn) → RL g (enc tyf zy []) ((vs.drop f.offset).take fn) →
              (Op.eqFields m us.toArray vs.toArray (f :: r)).run P w = if eqD tyf (zx ()) (zy ()) = true then (Op.eqFields m us.toArray vs.toArray r).run P w else .ok false w := by
            intro zx zy hzx hzy
            simp only [Op.eqFields]
            rw [if_pos h2]
            simp only [Sem.run_bind, field us zx hzx, field vs zy hzy, Result.andThen_ok, eqD_run d f.type tyf hty h3 m _ _ zx zy hzx hzy (by omega)]
            cases eqD tyf (zx ()) (zy ()) <;> simp
          cases r with
          | nil =>
            simp only [tyFs] at h
            rw [hty] at h
            cases h
            have hl1 := hu.length
            have hl2 := hv.length
            rw [enc_length] at hl1 hl2
            rw [step x y (by rw [List.take_of_length_le (by omega)]; exact hu) (by rw [List.take_of_length_le (by omega)]; exact hv)]
            simp only [Op.eqFields, Sem.run_pure]
            generalize eqD _ (x ()) (y ()) = b
            cases b <;> simp
          | cons f2 r2 =>
            simp only [tyFs] at h
            rw [hty] at h
            split at h <;> try cases h
            rename_i ta tb hta htb
            cases hta
            simp only [enc] at hu hv
            rw [enc_append tyf] at hu hv
            have sp : ∀ {us : List Value} {a b : List AV}, RL g (a ++ b) us → a.length = fn → RL g a (us.take fn) ∧ RL g b (us.drop fn) := by
              intro us a b hab hl
              refine ⟨RL.mk ?_ (fun i z u h1 h2 => ?_), RL.mk ?_ (fun i z u h1 h2 => ?_)⟩
              · have := hab.length; simp at this ⊢; omega
              · rw [List.getElem?_take] at h2
                split at h2
                · exact hab.at_ i z u (by rw [List.getElem?_append_left (by omega)]; exact h1) h2
                · cases h2
              · have := hab.length; simp at this ⊢; omega
              · exact hab.at_ (fn + i) z u (by rw [List.getElem?_append_right (by omega), hl, Nat.add_sub_cancel_left]; exact h1) (by simpa using h2)
            have hl : ∀ z : Unit → tyf.den, (enc tyf z []).length = fn := fun z => by rw [enc_length, h1]
            obtain ⟨hu1, hu2⟩ := sp hu (hl _)
            obtain ⟨hv1, hv2⟩ := sp hv (hl _)
            rw [List.drop_drop] at hu2 hv2
            rw [step _ _ hu1 hv1, ih (f.offset + fn) tb _ _ htb h4 hu2 hv2]
            simp only [eqD]
            cases eqD tyf (x ()).1 (y ()).1 <;> simp
      have := go fs.toList 0 ty x y h ho.2 (by simpa using hu) (by simpa using hv)
      exact this
    · rename_i n' e ht
      rw [ht] at ho; cases ho
    · cases h
end
/-- What '==' yields. -/
theorem eqV_ok {g : Gh} {E : List Chunk} {w : World} {t : Nat} {x y : Operand} {a b : AV} {va vb : Value} {K : AV → Prop} (ha : R g a va) (hb : R g b vb) (h : eqV P t x y E a b K) :
    ∃ r c, K r ∧ R g r (.bool c) ∧ (eqGuard .eql t x y va vb).run P w = .ok () w ∧ (eqGuard .neq t x y va vb).run P w = .ok () w ∧
      (binOp .eql t va vb).run P w = .ok (.bool c) w ∧ (binOp .neq t va vb).run P w = .ok (.bool !c) w := by
  unfold eqV at h
  have H : ∀ (c : Bool) (r : AV), K r → R g r (.bool c) → (∀ k n k' m, va = .int k n → vb = .int k' m → False) → (∀ s s', va = .string s → vb = .string s' → False) → (va = .nilIface → vb = .nilIface → False) → (∀ p q, va = .agg p → vb = .agg q → False) →
      (∀ f k p q, va = .float f k → vb = .float p q → False) → (∀ f k l p q m, va = .complex f k l → vb = .complex p q m → False) →
      (Op.equalIn 10000 t va vb).run P w = .ok c w → ∃ r c, K r ∧ R g r (.bool c) ∧ (eqGuard .eql t x y va vb).run P w = .ok () w ∧ (eqGuard .neq t x y va vb).run P w = .ok () w ∧
      (binOp .eql t va vb).run P w = .ok (.bool c) w ∧ (binOp .neq t va vb).run P w = .ok (.bool !c) w := by
    intro c r hK hR h1 h2 h3 h4 h5 h6 he
    refine ⟨r, c, hK, hR, ?_, ?_, ?_, ?_⟩
    · unfold eqGuard; cases va <;> cases vb <;> first | rfl | exact (h3 rfl rfl).elim | exact (h4 _ _ rfl rfl).elim
    · unfold eqGuard; cases va <;> cases vb <;> first | rfl | exact (h3 rfl rfl).elim | exact (h4 _ _ rfl rfl).elim
    · have hb : binOp .eql t va vb = (do pure (.bool (← Op.equal t va vb))) := by
        unfold binOp; cases va <;> cases vb <;> first | rfl | exact (h1 _ _ _ _ rfl rfl).elim | exact (h2 _ _ rfl rfl).elim | exact (h5 _ _ _ _ rfl rfl).elim | exact (h6 _ _ _ _ _ _ rfl rfl).elim
      rw [hb]; simp [Op.equal, Op.maxDepth, he]
    · have hb : binOp .neq t va vb = (do pure (.bool (!(← Op.equal t va vb)))) := by
        unfold binOp; cases va <;> cases vb <;> first | rfl | exact (h1 _ _ _ _ rfl rfl).elim | exact (h2 _ _ rfl rfl).elim | exact (h5 _ _ _ _ rfl rfl).elim | exact (h6 _ _ _ _ _ _ rfl rfl).elim
      rw [hb]; simp [Op.equal, Op.maxDepth, he]
  split at h
  · -- ints
    split at h
    · rename_i hk _
      subst hk
      cases ha; cases hb
      refine ⟨_, _, h, .bool _, rfl, rfl, ?_, ?_⟩ <;> simp [binOp, Op.intCmp, bne]
    · exact h.elim
  · cases ha; cases hb
    refine ⟨_, _, h, .bool _, rfl, rfl, ?_, ?_⟩ <;> simp [binOp, Op.stringOp, toList_mk]
  all_goals
    first
    | exact h.elim
    | (split at h <;> try exact h.elim)
  all_goals rename_i ht
  · cases ha; cases hb; exact H _ _ h (.bool _) (by simp) (by simp) (by simp) (by simp) (by simp) (by simp) (eqIn_bool 9999 w ht _ _)
  · cases ha; cases hb; exact H _ _ h (R.bool' (by simp)) (by simp) (by simp) (by simp) (by simp) (by simp) (by simp) (eqIn_bool 9999 w ht _ _)
  · cases ha; cases hb; exact H _ _ h (R.bool' (by simp)) (by simp) (by simp) (by simp) (by simp) (by simp) (by simp) (eqIn_bool 9999 w ht _ _)
  · cases ha; cases hb; exact H _ _ h .tt (by simp) (by simp) (by simp) (by simp) (by simp) (by simp) (eqIn_bool 9999 w ht _ _)
  · cases ha; cases hb; exact H _ _ h .tt (by simp) (by simp) (by simp) (by simp) (by simp) (by simp) (eqIn_bool 9999 w ht _ _)
  · cases ha; cases hb; exact H _ _ h .ff (by simp) (by simp) (by simp) (by simp) (by simp) (by simp) (eqIn_bool 9999 w ht _ _)
  · cases ha; cases hb; exact H _ _ h .ff (by simp) (by simp) (by simp) (by simp) (by simp) (by simp) (eqIn_bool 9999 w ht _ _)
  · cases ha; cases hb; exact H _ _ h .tt (by simp) (by simp) (by simp) (by simp) (by simp) (by simp) (eqIn_nil_ptr 9999 w ht _)
  · cases ha; cases hb; exact H _ _ h .ff (by simp) (by simp) (by simp) (by simp) (by simp) (by simp) (eqIn_ptr_nil 9999 w ht _)
  · cases ha; cases hb; exact H _ _ h .ff (by simp) (by simp) (by simp) (by simp) (by simp) (by simp) (eqIn_ptr_nil 9999 w ht _)
  · cases ha; cases hb; exact H _ _ h .ff (by simp) (by simp) (by simp) (by simp) (by simp) (by simp) (eqIn_ptr_nil 9999 w ht _)
  · cases ha; cases hb; exact H _ _ h .ff (by simp) (by simp) (by simp) (by simp) (by simp) (by simp) (eqIn_ptr_nil 9999 w ht _)
  · cases ha; cases hb; exact H _ _ h .ff (by simp) (by simp) (by simp) (by simp) (by simp) (by simp) (eqIn_nil_ptr 9999 w ht _)
  · cases ha; cases hb; exact H _ _ h .ff (by simp) (by simp) (by simp) (by simp) (by simp) (by simp) (eqIn_nil_ptr 9999 w ht _)
  · cases ha; cases hb; exact H _ _ h .ff (by simp) (by simp) (by simp) (by simp) (by simp) (by simp) (eqIn_nil_ptr 9999 w ht _)
  · cases ha; cases hb; exact H _ _ h .ff (by simp) (by simp) (by simp) (by simp) (by simp) (by simp) (eqIn_nil_ptr 9999 w ht _)
  · cases ha; cases hb; exact H _ _ h .tt (by simp) (by simp) (by simp) (by simp) (by simp) (by simp) (eqIn_sl_nil 9999 w ht _ _ _)
  · rename_i ty xs _ _
    cases ha with
    | lst _ _ A c u hc hm ha hr =>
      cases hb
      refine H _ _ (h A.isNone fun hn => ?_) (.bool _) (by simp) (by simp) (by simp) (by simp) (by simp) (by simp) (eqIn_sl_nil 9999 w ht _ _ _)
      cases hx : xs () with
      | nil => rfl
      | cons x r =>
        have hp := Ty.size_pos ty
        have he : 0 < (enc ty (fun _ => x) []).length := by rw [enc_length]; exact hp
        obtain ⟨b, off, cells, T, fr, h1, _⟩ := ha 0 x 0 _ (by rw [hx]; rfl) (List.getElem?_eq_getElem he)
        rw [h1] at hn
        simp at hn
  · rename_i i sz off n _ _
    cases ha with
    | vec _ _ _ _ A c _ hL hn hs =>
      cases hb
      refine H _ _ (h A.isNone fun hn' => ?_) (.bool _) (by simp) (by simp) (by simp) (by simp) (by simp) (by simp) (eqIn_sl_nil 9999 w ht _ _ _)
      cases hV : g.V i with
      | none => exact (hn hV).2.1
      | some cap =>
        have := (hs cap hV).2.2.2.2
        simp at hn'
        exact (this hn').elim
  · cases ha; cases hb; exact H _ _ h .tt (by simp) (by simp) (by simp) (by simp) (by simp) (by simp) (eqIn_nil_nil 9999 w ht)
  · cases ha; cases hb; exact H _ _ h .ff (by simp) (by simp) (by simp) (by simp) (by simp) (by simp) (eqIn_fn_nil 9999 w ht _ _ _)
  · rename_i ty _
    obtain ⟨hck, h⟩ := h
    obtain ⟨us, rfl, hu⟩ := ha.agg_iff
    obtain ⟨vs, rfl, hv⟩ := hb.agg_iff
    have hc := hck.h
    rw [Bool.and_eq_true, Bool.not_eq_true'] at hc
    obtain ⟨x', hx, h⟩ := dec1_ok h hu
    obtain ⟨y', hy, h⟩ := dec1_ok h hv
    have he := eqD_run (w := w) 6 t ty ‹_› hc.1 10000 _ _ x' y' hx hy (by omega)
    have ht2 : ∃ fs, tund P t = some (.struct fs) := ⟨_, ‹_›⟩
    obtain ⟨fs, ht2⟩ := ht2
    simp only [mkV, ht2] at he
    have e1 : us.toList.toArray = us := by simp
    have e2 : vs.toList.toArray = vs := by simp
    rw [e1, e2] at he
    refine ⟨_, _, h, .bool _, run_eqGuard_agg w _ _ _ _ _ _ hc.2, run_eqGuard_agg w _ _ _ _ _ _ hc.2, ?_, ?_⟩
    · rw [run_eql_struct, he]; rfl
    · rw [run_neq_struct, he]; rfl
  · rename_i i p j q _ te
    split at h <;> try exact h.elim
    rename_i ti hti hi hg
    have hi := Nat.eq_of_beq_eq_true hi
    have hg := Nat.eq_of_beq_eq_true hg
    subst hi hg
    cases ha; cases hb
    exact H _ _ h .tt (by simp) (by simp) (by simp) (by simp) (by simp) (by simp) (eqIn_ptr_same 9999 w ht hti _)
end
end Go.Proofs.YtkcifdblaboodaaGreat.Fw
set_option linter.unusedVariables false
set_option linter.unusedSimpArgs false
namespace Go.Proofs.YtkcifdblaboodaaGreat.Fw
open Go

section
variable {P : Program}

theorem eqGuard_other {op : BinOp} (h : op ≠ .eql) (h' : op ≠ .neq) (t : Nat) (x y : Operand) (a b : Value) (w : World) : (eqGuard op t x y a b).run P w = .ok () w := by
  unfold eqGuard
  cases op <;> first | rfl | exact (h rfl).elim | exact (h' rfl).elim
theorem eqGuard_ii (op : BinOp) (t : Nat) (x y : Operand) (k k' : IntKind) (a b : Int) (w : World) : (eqGuard op t x y (.int k a) (.int k' b)).run P w = .ok () w := by
  unfold eqGuard; cases op <;> rfl
theorem eqGuard_ss (op : BinOp) (t : Nat) (x y : Operand) (a b : ByteArray) (w : World) : (eqGuard op t x y (.string a) (.string b)).run P w = .ok () w := by
  unfold eqGuard; cases op <;> rfl

theorem binII_ok {g : Gh} {w : World} {op : BinOp} {t : Nat} {x y : Operand} {k k' : IntKind} {a b : Unit → Int} {K : AV → Prop} (h : binII op k k' a b K) :
    ∃ r c, (do eqGuard op t x y (.int k (a ())) (.int k' (b ())); binOp op t (.int k (a ())) (.int k' (b ())) : Sem Value).run P w = .ok c w ∧ R g r c ∧ K r := by
  have H : op ≠ .shl → op ≠ .shr → (match decEq k k' with | isTrue _ => binI op k a b K | isFalse _ => False) →
      ∃ r c, (do eqGuard op t x y (.int k (a ())) (.int k' (b ())); binOp op t (.int k (a ())) (.int k' (b ())) : Sem Value).run P w = .ok c w ∧ R g r c ∧ K r := by
    clear h
    intro n1 n2 h
    split at h
    · rename_i hk _
      subst hk
      obtain ⟨r, u, h1, h2, h3⟩ := binI_ok (P := P) (g := g) (w := w) n1 n2 h
      refine ⟨r, u, ?_, h2, h3⟩
      simp only [Sem.run_bind, eqGuard_ii, Result.andThen_ok]
      rw [← h1]
      cases op <;> first | exact (n1 rfl).elim | exact (n2 rfl).elim | (simp [binOp])
    · exact h.elim
  cases op
  case shl =>
    have h1 := h.1.h
    refine ⟨_, _, ?_, .int k _, h.2⟩
    simp only [Sem.run_bind, eqGuard_ii, Result.andThen_ok, binOp, Op.shift]
    rw [if_neg (by omega)]; rfl
  case shr =>
    have h1 := h.1.h
    refine ⟨_, _, ?_, .int k _, h.2⟩
    simp only [Sem.run_bind, eqGuard_ii, Result.andThen_ok, binOp, Op.shift]
    rw [if_neg (by omega)]; rfl
  all_goals exact H (by simp) (by simp) h

theorem binV_ok {g : Gh} {E : List Chunk} {w : World} {op : BinOp} {t : Nat} {x y : Operand} {a b : AV} {va vb : Value} {K : AV → Prop} (ha : R g a va) (hb : R g b vb) (h : binV P op t x y E a b K) :
    ∃ r c, (do eqGuard op t x y va vb; binOp op t va vb : Sem Value).run P w = .ok c w ∧ R g r c ∧ K r := by
  unfold binV at h
  split at h
  · cases ha; cases hb
    exact binII_ok h
  · cases ha; cases hb
    obtain ⟨r, u, h1, h2, h3⟩ := binS_ok (P := P) (g := g) (w := w) h
    refine ⟨r, u, ?_, h2, h3⟩
    simp only [Sem.run_bind, eqGuard_ss, Result.andThen_ok]
    rw [← h1]
    cases op <;> rfl
  · split at h
    · obtain ⟨r, c, hK, hR, g1, _, b1, _⟩ := eqV_ok (P := P) (w := w) ha hb h
      exact ⟨r, _, by simp [g1, b1], hR, hK⟩
    · obtain ⟨r, c, hK, hR, _, g1, _, b1⟩ := eqV_ok (P := P) (w := w) ha hb h
      exact ⟨nb r, _, by simp [g1, b1], hR.nb, hK⟩
    · exact h.elim

theorem min2V_ok {g : Gh} {w : World} {b a : AV} {v u : Value} {K : AV → Prop} (hb : R g b v) (ha : R g a u) (h : min2V b a K) : ∃ r c, (Builtin.min2 u v).run P w = .ok c w ∧ R g r c ∧ K r := by
  unfold min2V at h
  split at h
  · cases hb; cases ha; exact ⟨_, _, by simp [Builtin.min2], R.int' rfl, h⟩
  · exact h.elim
theorem max2V_ok {g : Gh} {w : World} {b a : AV} {v u : Value} {K : AV → Prop} (hb : R g b v) (ha : R g a u) (h : max2V b a K) : ∃ r c, (Builtin.max2 u v).run P w = .ok c w ∧ R g r c ∧ K r := by
  unfold max2V at h
  split at h
  · cases hb; cases ha; exact ⟨_, _, by simp [Builtin.max2], R.int' rfl, h⟩
  · exact h.elim
theorem minV_ok {g : Gh} {w : World} : ∀ (l : List AV) (us : List Value) (a : AV) (u : Value) (K : AV → Prop), RL g l us → R g a u → minV l a K → ∃ r c, (us.foldlM Builtin.min2 u).run P w = .ok c w ∧ R g r c ∧ K r
  | [], [], a, u, K, _, ha, h => ⟨a, u, rfl, ha, h⟩
  | b :: l, v :: us, a, u, K, hl, ha, h => by
    obtain ⟨r, c, h1, h2, h3⟩ := min2V_ok (P := P) (w := w) hl.1 ha h
    obtain ⟨r', c', h4, h5, h6⟩ := minV_ok (w := w) l us r c K hl.2 h2 h3
    exact ⟨r', c', by simp [h1, h4], h5, h6⟩
theorem maxV_ok {g : Gh} {w : World} : ∀ (l : List AV) (us : List Value) (a : AV) (u : Value) (K : AV → Prop), RL g l us → R g a u → maxV l a K → ∃ r c, (us.foldlM Builtin.max2 u).run P w = .ok c w ∧ R g r c ∧ K r
  | [], [], a, u, K, _, ha, h => ⟨a, u, rfl, ha, h⟩
  | b :: l, v :: us, a, u, K, hl, ha, h => by
    obtain ⟨r, c, h1, h2, h3⟩ := max2V_ok (P := P) (w := w) hl.1 ha h
    obtain ⟨r', c', h4, h5, h6⟩ := maxV_ok (w := w) l us r c K hl.2 h2 h3
    exact ⟨r', c', by simp [h1, h4], h5, h6⟩

theorem lenV_ok {g : Gh} {w : World} {t : Nat} {ts : List Nat} {ty : Nat} {cs : Array Bool} {a : AV} {u : Value} {K : AV → Prop} (hr : R g a u) (h : lenV P t a K) :
    ∃ r c, (builtin .len (t :: ts).toArray ty cs #[u]).run P w = .ok (.value c) w ∧ R g r c ∧ K r := by
  unfold lenV at h
  split at h <;> try exact h.elim
  all_goals
    split at h <;> try exact h.elim
    rename_i ht
    cases hr
    exact ⟨_, _, by simp [builtin, Builtin.len_, tund_run ht]; rfl, R.int' (by simp [goInt, ByteArray.size]), h⟩

theorem capV_ok {g : Gh} {w : World} {t : Nat} {ts : List Nat} {ty : Nat} {cs : Array Bool} {a : AV} {u : Value} {K : AV → Prop} (hr : R g a u) (h : capV P t a K) :
    ∃ r c, (builtin .cap (t :: ts).toArray ty cs #[u]).run P w = .ok (.value c) w ∧ R g r c ∧ K r := by
  cases a <;> simp only [capV] at h <;> try exact h.elim
  · split at h <;> try exact h.elim
    rename_i ht
    cases hr
    exact ⟨_, _, by simp [builtin, Builtin.cap_, tund_run ht]; rfl, R.int' (by simp [goInt]), h⟩
  · rename_i i sz off n
    split at h <;> try exact h.elim
    rename_i ht
    cases hr with | vec _ _ _ _ A c hi hL hn hs =>
    have hle : n () ≤ c := by
      cases hV : g.V i with
      | none => have := hn hV; omega
      | some cap => have := hs cap hV; omega
    exact ⟨_, _, by simp [builtin, Builtin.cap_, tund_run ht]; rfl, R.int' (by simp [goInt]), h c hle⟩
theorem builtinV_ok {g : Gh} {E : List Chunk} {w : World} {b : Builtin} {t : Nat} {ts : List Nat} {ty : Nat} {cs : Array Bool} {az : List AV} {us : List Value} {K : AV → Prop} (hr : RL g az us) (h : builtinV P b t az E K) :
    ∃ r c, (builtin b (t :: ts).toArray ty cs us.toArray).run P w = .ok (.value c) w ∧ R g r c ∧ K r := by
  unfold builtinV at h
  split at h
  · exact h.elim
  · obtain _ | ⟨u, us⟩ := us <;> simp only [RL] at hr
    split at h
    · split at h
      · obtain _ | ⟨u', us⟩ := us
        · exact lenV_ok hr.1 h
        · exact hr.2.elim
      · exact h.elim
    · split at h
      · obtain _ | ⟨u', us⟩ := us
        · exact capV_ok hr.1 h
        · exact hr.2.elim
      · exact h.elim
    · obtain ⟨r, c, h1, h2, h3⟩ := minV_ok (P := P) (w := w) _ us _ u K hr.2 hr.1 h
      exact ⟨r, c, by simp [builtin, Builtin.min_, h1], h2, h3⟩
    · obtain ⟨r, c, h1, h2, h3⟩ := maxV_ok (P := P) (w := w) _ us _ u K hr.2 hr.1 h
      exact ⟨r, c, by simp [builtin, Builtin.max_, h1], h2, h3⟩
    · split at h <;> try exact h.elim
      rename_i i o n
      obtain _ | ⟨u', us⟩ := us
      · have hr := hr.1
        obtain ⟨hob, hk⟩ := h
        obtain ⟨h0, h1⟩ := hob.h
        cases hr with | vec _ _ _ _ A c hi hL hn hs =>
        cases hV : g.V i with
        | none => exact (h1 (hn hV).2.1).elim
        | some cap =>
          obtain ⟨h2, h3, h4, h5, h6⟩ := hs cap hV
          have hA := h5 (.inr h0)
          rw [h0] at hA
          subst hA
          refine ⟨_, .pointer (some ⟨g.B i, 0, none⟩), ?_, ?_, hk⟩
          · have := Lib.run_unsafeSliceData_row (P := P) w (t :: ts).toArray ty ⟨g.B i, 0 * 1, none⟩ (n ()) c (by omega)
            simp [builtin, this]
          · have := R.eptr (g := g) i 1 (fun _ => 0) 0 hi (by show 0 < g.L i; omega)
            simpa using this
      · exact hr.2.elim
    · exact h.elim
end
end Go.Proofs.YtkcifdblaboodaaGreat.Fw
set_option linter.unusedVariables false
set_option linter.unusedSimpArgs false
namespace Go.Proofs.YtkcifdblaboodaaGreat.Fw
open Go

section
variable {P : Program}

/-! ### parts laid over cells -/
theorem putX_ok {g : Gh} : ∀ (n : Nat) (cs vs r : List AV) (us ws : List Value), putX n cs vs = some r → RL g cs us → RL g vs ws → RL g r (us.take n ++ ws ++ us.drop (n + ws.length)) ∧ n + ws.length ≤ us.length
  | 0, cs, [], r, us, ws, h, h1, h2 => by
    cases ws with
    | cons _ _ => exact h2.elim
    | nil =>
      cases cs <;> simp [putX] at h <;> subst h <;> simpa using h1
  | 0, [], _ :: _, r, us, ws, h, h1, h2 => by simp [putX] at h
  | 0, c :: cs, v :: vs, r, us, ws, h, h1, h2 => by
    simp only [putX] at h
    split at h
    · rename_i r' hr
      simp only [Option.some.injEq] at h
      subst h
      cases us with
      | nil => exact h1.elim
      | cons u us =>
        cases ws with
        | nil => exact h2.elim
        | cons x ws =>
          obtain ⟨h3, h4⟩ := putX_ok 0 cs vs r' us ws hr h1.2 h2.2
          simp only [List.take_zero, List.nil_append, Nat.zero_add] at h3 h4 ⊢
          exact ⟨⟨h2.1, by simpa using h3⟩, by simpa using h4⟩
    · cases h
  | n + 1, [], vs, r, us, ws, h, h1, h2 => by simp [putX] at h
  | n + 1, c :: cs, vs, r, us, ws, h, h1, h2 => by
    simp only [putX] at h
    split at h
    · rename_i r' hr
      simp only [Option.some.injEq] at h
      subst h
      cases us with
      | nil => exact h1.elim
      | cons u us =>
        obtain ⟨h3, h4⟩ := putX_ok n cs vs r' us ws hr h1.2 h2
        refine ⟨?_, by simp; omega⟩
        rw [show n + 1 + ws.length = n + ws.length + 1 by omega]
        exact ⟨h1.1, h3⟩
    · cases h

theorem fold_set (off : Nat) : ∀ (l : List Value) (k : Nat) (arr : Array Value), off + k + l.length ≤ arr.size →
    ((l.zipIdx k).foldl (fun cs (cj : Value × Nat) => cs.setIfInBounds (off + cj.2) cj.1) arr).toList = arr.toList.take (off + k) ++ l ++ arr.toList.drop (off + k + l.length)
  | [], k, arr, h => by simp
  | c :: l, k, arr, h => by
    simp only [List.zipIdx_cons, List.foldl_cons, List.length_cons] at h ⊢
    rw [fold_set off l (k + 1) _ (by simp; omega)]
    simp only [Array.toList_setIfInBounds]
    apply List.ext_getElem?
    intro i
    have hs : arr.toList.length = arr.size := by simp
    rcases Nat.lt_trichotomy i (off + k) with hi | hi | hi
    · simp [List.getElem?_append, List.getElem?_take, List.getElem?_set, hs, show i < off + (k + 1) by omega, show i < arr.size by omega, hi, show ¬ off + k = i by omega, show min (off + (k + 1)) arr.size = off + (k + 1) by omega, show min (off + k) arr.size = off + k by omega]
    · subst hi
      simp [List.getElem?_append, List.getElem?_take, List.getElem?_set, hs, show min (off + (k + 1)) arr.size = off + (k + 1) by omega, show min (off + k) arr.size = off + k by omega]
    · obtain ⟨j, rfl⟩ : ∃ j, i = off + k + 1 + j := ⟨i - (off + k + 1), by omega⟩
      simp [List.getElem?_append, List.getElem?_take, List.getElem?_set, hs, show min (off + (k + 1)) arr.size = off + (k + 1) by omega, show min (off + k) arr.size = off + k by omega, show ¬ (off + k + 1 + j < off + (k + 1)) by omega, show ¬ (off + k + 1 + j < off + k) by omega,
        show off + k + 1 + j - (off + (k + 1)) = j by omega, show off + k + 1 + j - (off + k) = j + 1 by omega]
      by_cases hj : j < l.length
      · simp [hj]
      · simp [hj, List.getElem?_drop, List.getElem?_set] <;> (try (rw [if_neg (by omega)]; congr 1; omega))

theorem R.cells {g : Gh} {v : AV} {u : Value} {cs : List AV} (h : R g v u) (hc : cellsO v = some cs) : RL g cs u.cells.toList := by
  cases h <;> simp only [cellsO, Option.some.injEq] at hc <;> try (cases hc; done)
  case agg cs' vs hl hr => subst hc; exact (R.agg_iff (.agg cs' vs hl hr)).elim fun vs' ⟨e, h⟩ => by cases e; exact h
  all_goals (subst hc; exact ⟨by constructor <;> assumption, trivial⟩)

theorem partsV_ok {g : Gh} {env : Env} {a : Act} (hE : ER g env a.tmps) : ∀ (l : List (Nat × Operand)) (ps : List (Nat × List AV)), partsV env l = some ps →
    ps.length = l.length ∧ ∀ (i : Nat) (c : Nat × List AV), ps[i]? = some c → ∃ (j : Nat) (x : Operand), l[i]? = some (j, x) ∧ c.1 = j ∧ RL g c.2 (a.eval x).cells.toList
  | [], ps, h => by simp [partsV] at h; subst h; simp
  | (j, x) :: l, ps, h => by
    simp only [partsV] at h
    split at h
    · rename_i c l' hc hl
      simp only [Option.some.injEq] at h
      subst h
      obtain ⟨h1, h2⟩ := partsV_ok hE l l' hl
      refine ⟨by simp [h1], fun i c' hi => ?_⟩
      cases i with
      | zero => simp at hi; subst hi; exact ⟨j, x, rfl, rfl, (hE.ev x).cells hc⟩
      | succ i => simpa using h2 i c' (by simpa using hi)
    · cases h

theorem fillV_ok {g : Gh} (place : Nat → Option (Nat × Nat)) : ∀ (ps : List (Nat × List AV)) (vs : List (Nat × Value)) (cs r : List AV) (cells : Array Value), fillV place cs ps = some r → RL g cs cells.toList →
    ps.length = vs.length → (∀ (i : Nat) (c : Nat × List AV), ps[i]? = some c → ∃ u : Value, vs[i]? = some (c.1, u) ∧ RL g c.2 u.cells.toList) → ∃ out, Instr.fill place cells vs = some out ∧ RL g r out.toList
  | [], [], cs, r, cells, h, hr, _, _ => by simp [fillV] at h; subst h; exact ⟨cells, rfl, hr⟩
  | [], _ :: _, _, _, _, _, _, hl, _ => by simp at hl
  | _ :: _, [], _, _, _, _, _, hl, _ => by simp at hl
  | (i, c) :: ps, (j, v) :: vs, cs, r, cells, h, hr, hl, hp => by
    obtain ⟨u, hu, hc⟩ := hp 0 (i, c) rfl
    simp at hu
    obtain ⟨rfl, rfl⟩ := hu
    simp only [fillV] at h
    split at h
    · rename_i off size hpl
      split at h
      · rename_i hsz
        have hsz' : c.length = size := Nat.eq_of_beq_eq_true hsz
        split at h
        · rename_i cs' hput
          obtain ⟨h1, h2⟩ := putX_ok off cs c cs' cells.toList v.cells.toList hput hr hc
          have hvl : v.cells.size = size := by have := hc.length; simp at this; omega
          have hfit : off + v.cells.size ≤ cells.size := by simpa using h2
          have hfold := fold_set off v.cells.toList 0 cells (by simpa using hfit)
          simp only [Nat.add_zero] at hfold
          obtain ⟨out, h3, h4⟩ := fillV_ok place ps vs cs' r ((v.cells.toList.zipIdx 0).foldl (fun cs (cj : Value × Nat) => cs.setIfInBounds (off + cj.2) cj.1) cells) h (by rw [hfold]; exact h1) (by simpa using hl)
            (fun k c' hk => by simpa using hp (k + 1) c' (by simpa using hk))
          refine ⟨out, ?_, h4⟩
          simp only [Instr.fill, hpl]
          rw [if_neg (by simp [hvl]; omega)]
          rw [← h3]
          congr 1
          rw [← Array.foldl_toList, Array.toList_zipIdx]
        · cases h
      · cases h
    · cases h

theorem placesF_ok (w : World) : ∀ (fs : List Field) (pl : List (Nat × Nat)), placesF P fs = some pl → (fs.mapM fun f => (do pure (f.offset, ← sizeOf f.type) : Sem (Nat × Nat))).run P w = .ok pl w
  | [], pl, h => by simp [placesF] at h; subst h; rfl
  | f :: r, pl, h => by
    simp only [placesF] at h
    split at h
    · rename_i s l hs hl
      simp only [Option.some.injEq] at h
      subst h
      have ih := placesF_ok w r l hl
      simp at ih
      simp [List.mapM_cons, tsize_size hs, ih]
    · cases h

theorem cst_cells (g : Gh) (z : Value) (h : cellsO (cst z) ≠ none) : RL g (cellsV (cst z)) z.cells.toList := by
  have hr := R_cst g z
  cases hc : cellsO (cst z) with
  | none => exact (h hc).elim
  | some cs =>
    have : cellsV (cst z) = cs := by
      cases hz : cst z <;> rw [hz] at hc <;> simp [cellsO] at hc <;> simp [cellsV, hc]
    rw [this]
    exact hr.cells hc
end
end Go.Proofs.YtkcifdblaboodaaGreat.Fw
set_option linter.unusedVariables false
set_option linter.unusedSimpArgs false
namespace Go.Proofs.YtkcifdblaboodaaGreat.Fw
open Go

section
variable {P : Program}

theorem buildV_ok {g : Gh} {env : Env} {a : Act} {w : World} {t : Nat} {l : List (Nat × Operand)} {ps : List (Nat × List AV)} {K : AV → Prop} (hE : ER g env a.tmps) (hp : partsV env l = some ps) (h : buildV P t ps K) :
    ∃ r c, (Instr.build t (l.map fun ix => (ix.1, a.eval ix.2)).toArray).run P w = .ok c w ∧ R g r c ∧ K r := by
  obtain ⟨hl, hpp⟩ := partsV_ok hE l ps hp
  unfold buildV at h
  split at h <;> try exact h.elim
  rename_i z hz
  split at h <;> try exact h.elim
  rename_i cs hcs
  have hr := (R_cst g z).cells hcs
  have hp' : ∀ (i : Nat) (c : Nat × List AV), ps[i]? = some c → ∃ u : Value, (l.map fun ix => (ix.1, a.eval ix.2))[i]? = some (c.1, u) ∧ RL g c.2 u.cells.toList := by
    intro i c hi
    obtain ⟨j, x, h1, h2, h3⟩ := hpp i c hi
    exact ⟨a.eval x, by simp [h1, h2], h3⟩
  split at h <;> try exact h.elim
  · rename_i fs ht
    split at h <;> try exact h.elim
    rename_i pl hpl
    split at h <;> try exact h.elim
    rename_i cs' hf
    rw [fL_eq] at h
    obtain ⟨out, h1, h2⟩ := fillV_ok (nth pl) ps _ cs cs' z.cells hf hr (by simp [hl]) hp'
    refine ⟨_, _, ?_, R.mkAgg h2, h⟩
    have hm : (fs.mapM fun f => (do pure (f.offset, ← sizeOf f.type) : Sem (Nat × Nat))).run P w = .ok pl.toArray w := by
      have := placesF_ok (P := P) w fs.toList pl hpl
      rw [← Array.toArray_toList (xs := fs), List.mapM_toArray]
      simp at this
      simp [this]
    simp at hm
    have e : (fun i => pl.toArray[i]?) = nth pl := by funext i; simp [nth_eq]
    simp [Instr.build, tzero_zero hz, tund_run ht, hm, nth_eq]
    have h1' : Instr.fill (fun x => pl[x]?) z.cells (l.map fun ix => (ix.1, a.eval ix.2)) = some out := by
      rw [← h1]; congr 1; funext i; simp [nth_eq]
    simp [h1']
  · rename_i n e ht
    split at h <;> try exact h.elim
    rename_i s hs
    split at h <;> try exact h.elim
    rename_i cs' hf
    rw [fL_eq] at h
    obtain ⟨out, h1, h2⟩ := fillV_ok (fun i => some (i * s, s)) ps _ cs cs' z.cells hf hr (by simp [hl]) hp'
    refine ⟨_, _, ?_, R.mkAgg h2, h⟩
    simp [Instr.build, tzero_zero hz, tund_run ht, tsize_size hs, h1]

theorem R.ptr_addr {g : Gh} {p : AV} {v : Value} (h : R g p v) (n : Nat) : (∀ i o, p = .ptr i o → ∃ a, v = .pointer (some a) ∧ a.spot = none ∧ R g (.ptr i (o + n)) (.pointer (some (a.add n)))) ∧
    (∀ i s j o, p = .eptr i s j o → ∃ a, v = .pointer (some a) ∧ a.spot = none ∧ R g (.eptr i s j (o + n)) (.pointer (some (a.add n)))) ∧
    (∀ t x o, p = .iptr t x o → ∃ a, v = .pointer (some a) ∧ a.spot = none ∧ R g (.iptr t x (o + n)) (.pointer (some (a.add n)))) ∧
    (∀ cs o, p = .cptr cs o → ∃ a, v = .pointer (some a) ∧ a.spot = none ∧ R g (.cptr cs (o + n)) (.pointer (some (a.add n)))) := by
  refine ⟨?_, ?_, ?_, ?_⟩
  · rintro i o rfl
    cases h with | ptr _ _ hi =>
    refine ⟨_, rfl, rfl, ?_⟩
    rw [add_none rfl]
    exact .ptr i (o + n) hi
  · rintro i s j o rfl
    cases h with | eptr _ _ _ _ hi hL =>
    refine ⟨_, rfl, rfl, ?_⟩
    rw [add_none rfl]
    have := R.eptr i s j (o + n) hi hL
    simpa [Nat.add_assoc] using this
  · rintro t x o rfl
    cases h with | iptr _ _ _ b ob u ha hr =>
    refine ⟨_, rfl, rfl, ?_⟩
    rw [add_none rfl]
    have := R.iptr t x (o + n) b ob u ha hr
    simpa [Nat.add_assoc] using this
  · rintro cs o rfl
    cases h with | cptr _ _ b ob u ha hr =>
    refine ⟨_, rfl, rfl, ?_⟩
    rw [add_none rfl]
    have := R.cptr cs (o + n) b ob u ha hr
    simpa [Nat.add_assoc] using this

theorem fieldPlace_run {f : Field} {n : Nat} (h : tsize P f.type = some (n + 1)) (a : Addr) (w : World) : (fieldPlace a f).run P w = .ok (a.add f.offset) w := by
  simp [fieldPlace, tsize_size h]

theorem bnd_ok {g : Gh} {env : Env} {a : Act} {x : Option Operand} {d : Unit → Int} {K : (Unit → Int) → Prop} (hE : ER g env a.tmps) (h : bnd env x d K) :
    (x = none ∧ K d) ∨ ∃ y k n, x = some y ∧ a.eval y = .int k (n ()) ∧ K n := by
  unfold bnd at h
  split at h
  · exact .inl ⟨rfl, h⟩
  · rename_i y
    split at h
    · rename_i k n he
      have := hE.ev y
      rw [he] at this
      exact .inr ⟨y, k, n, rfl, this.int_iff, h⟩
    · exact h.elim

theorem bound_in {k : IntKind} {n : Int} {y : Nat} {c : BoundsCode} (w : World) (h0 : 0 ≤ n) (h1 : n ≤ y) : (Instr.sliceBound (.int k n) y c).run P w = .ok n.toNat w := by
  simp [Instr.sliceBound, asIntOf, h0, h1]

theorem R_lst_cut {g : Gh} {ty : Ty} {xs : Unit → List ty.den} {A : Option Addr} {n c l h : Nat} (hr : R g (.lst ty xs) (.slice A n c)) (hlh : l ≤ h) (hn : h ≤ n) :
    R g (.lst ty fun u => ((xs u).take h).drop l) (.slice (if c = l then A else A.map (·.add (l * ty.size))) (h - l) (c - l)) := by
  cases hr with | lst _ _ A c u hc hm ha hr =>
  have hlen : (((xs ()).take h).drop l).length = h - l := by simp; omega
  have := R.lst (g := g) ty (fun u => ((xs u).take h).drop l) (if c = l then A else A.map (·.add (l * ty.size))) (c - l) (fun i j => u (l + i) j) (by show (((xs ()).take h).drop l).length ≤ _; omega) (by show (((xs ()).take h).drop l).length ≤ _; omega)
    (fun i x j y hi hj => ?_) (fun i x j y hi hj => ?_)
  · show R g _ (.slice _ (h - l) _)
    rw [← hlen]; exact this
  · have hi' : (((xs ()).take h).drop l)[i]? = some x := hi
    have hlt : i < h - l := by rw [← hlen]; exact (List.getElem?_eq_some_iff.1 hi').1
    have hi2 : (xs ())[l + i]? = some x := by
      rw [List.getElem?_drop, List.getElem?_take] at hi'
      split at hi'
      · exact hi'
      · cases hi'
    obtain ⟨b, off, cells, T, fr, h1, h2, h3⟩ := ha (l + i) x j y hi2 hj
    subst h1
    rw [if_neg (by omega)]
    refine ⟨b, off + l * ty.size, cells, T, fr, ?_, h2, ?_⟩
    · simp [add_none (a := ⟨b, off, none⟩) rfl]
    · rw [← h3]; congr 1; rw [Nat.add_mul]; omega
  · have hi' : (((xs ()).take h).drop l)[i]? = some x := hi
    have hi2 : (xs ())[l + i]? = some x := by
      rw [List.getElem?_drop, List.getElem?_take] at hi'
      split at hi'
      · exact hi'
      · cases hi'
    exact hr (l + i) x j y hi2 hj

theorem R_vec_cut {g : Gh} {i s : Nat} {o n : Unit → Nat} {A : Option Addr} {m c l h : Nat} (hr : R g (.vec i s o n) (.slice A m c)) (hlh : l ≤ h) (hn : h ≤ m) :
    R g (.vec i s (fun u => o u + l) (fun u => h - l)) (.slice (if c = l then A else A.map (·.add (l * s))) (h - l) (c - l)) := by
  cases hr with | vec _ _ _ _ A c hi hL hn' hs =>
  refine R.vec i s (fun u => o u + l) (fun u => h - l) _ _ hi (by show o () + l + (h - l) ≤ _; omega) (fun hV => ?_) (fun cap hV => ?_)
  · obtain ⟨h1, h2, h3, h4⟩ := hn' hV
    have : l = 0 := by omega
    subst this
    refine ⟨by simp [h1, h3], by show h - 0 = 0; omega, by omega, by show o () + 0 = 0; omega⟩
  · obtain ⟨h0, h1, h2, h3, h4⟩ := hs cap hV
    refine ⟨h0, by show o () + l + (h - l) ≤ cap; omega, by show o () + l + (c - l) = cap; omega, ?_, ?_⟩
    · intro hlt
      have hlt : o () + l < cap ∨ o () + l = 0 := hlt
      rcases Nat.eq_zero_or_pos l with h0 | h0
      · subst h0
        have hA := h3 (by simpa using hlt)
        subst hA
        split
        · simp
        · simp [add_none]
      · have hA := h3 (Or.inl (by omega))
        subst hA
        rw [if_neg (by omega)]
        simp [add_none, Nat.add_mul]
    · split
      · exact h4
      · cases A with
        | none => exact (h4 rfl).elim
        | some a => simp

/-- A slice expression's run, its bounds known. -/
theorem slice_run {a : Act} {w : World} {t e sz : Nat} {A : Option Addr} {n c : Nat} {lo hi : Option Operand} {L H : Int} (ht : tund P t = some (.slice e)) (hs : tsize P e = some sz)
    (hlo : (lo = none ∧ L = 0) ∨ ∃ y k, lo = some y ∧ a.eval y = .int k L) (hhi : (hi = none ∧ H = n) ∨ ∃ y k, hi = some y ∧ a.eval y = .int k H)
    (h0 : 0 ≤ L) (h1 : L ≤ H) (h2 : H ≤ n) (hc : n ≤ c) :
    (Instr.sliceAt t (.slice A n c) (lo.map a.eval) (hi.map a.eval) none).run P w = .ok (.slice (if c = L.toNat then A else A.map (·.add (L.toNat * sz))) (H.toNat - L.toNat) (c - L.toNat)) w := by
  have hb : (Instr.sliceBounds true n c (lo.map a.eval) (hi.map a.eval) none).run P w = .ok (L.toNat, H.toNat, c) w := by
    have hH : ∀ code, (Instr.sliceBound (.int .i64 H) c code).run P w = .ok H.toNat w := fun code => bound_in w (by omega) (by omega)
    rcases hlo with ⟨rfl, rfl⟩ | ⟨y, k, rfl, hy⟩ <;> rcases hhi with ⟨rfl, rfl⟩ | ⟨z, k', rfl, hz⟩
    · simp [Instr.sliceBounds]
    · simp [Instr.sliceBounds, hz, bound_in (k := k') (c := .sliceAcap) (P := P) w (show 0 ≤ H by omega) (show H ≤ (c : Nat) by omega)]
    · simp [Instr.sliceBounds, hy, bound_in (k := k) (c := .sliceB) (P := P) w h0 (show L ≤ (n : Nat) by omega)]
    · simp [Instr.sliceBounds, hz, hy, bound_in (k := k') (c := .sliceAcap) (P := P) w (show 0 ≤ H by omega) (show H ≤ (c : Nat) by omega), bound_in (k := k) (c := .sliceB) (P := P) w h0 (show L ≤ (H.toNat : Nat) by omega)]
  simp [Instr.sliceAt, Instr.slice, tund_run ht, hb, tsize_size hs]
theorem slice3_run {w : World} {t e sz : Nat} {A : Option Addr} {n c : Nat} {hv mv : Value} {k k' : IntKind} (ht : tund P t = some (.slice e)) (hs : tsize P e = some sz) (hh : hv = .int k n) (hm : mv = .int k' n) (hc : n ≤ c) :
    (Instr.sliceAt t (.slice A n c) none (some hv) (some mv)).run P w = .ok (.slice (if n = 0 then A else A.map (·.add (0 * sz))) n n) w := by
  subst hh hm
  have hb : (Instr.sliceBounds true n c none (some (.int k n)) (some (.int k' n))).run P w = .ok (0, n, n) w := by
    have h1 : ∀ (k : IntKind) (m : Nat) code, n ≤ m → (Instr.sliceBound (.int k n) m code).run P w = .ok n w := fun k m code h => by
      have := bound_in (k := k) (c := code) (P := P) w (n := (n : Int)) (y := m) (by omega) (by omega)
      simpa using this
    simp [Instr.sliceBounds, h1 _ _ _ hc, h1 _ _ _ (Nat.le_refl n)]
  simp [Instr.sliceAt, Instr.slice, tund_run ht, hb, tsize_size hs]
theorem R_lst_cap {g : Gh} {ty : Ty} {xs : Unit → List ty.den} {A : Option Addr} {n c sz : Nat} (hr : R g (.lst ty xs) (.slice A n c)) : R g (.lst ty xs) (.slice (if n = 0 then A else A.map (·.add (0 * sz))) n n) := by
  cases hr with | lst _ _ A c u hc hm ha hr =>
  have e : (if (xs ()).length = 0 then A else A.map (·.add (0 * sz))) = A := by
    split
    · rfl
    · cases A with
      | none => rfl
      | some a => simp [Addr.add]
  rw [e]
  exact .lst ty xs A _ u (Nat.le_refl _) hm ha hr
theorem slice_run_str {a : Act} {w : World} {t : Nat} {s : ByteArray} {lo hi : Option Operand} {L H : Int} (ht : tund P t = some .string)
    (hlo : (lo = none ∧ L = 0) ∨ ∃ y k, lo = some y ∧ a.eval y = .int k L) (hhi : (hi = none ∧ H = s.size) ∨ ∃ y k, hi = some y ∧ a.eval y = .int k H)
    (h0 : 0 ≤ L) (h1 : L ≤ H) (h2 : H ≤ s.size) :
    (Instr.sliceAt t (.string s) (lo.map a.eval) (hi.map a.eval) none).run P w = .ok (.string (s.extract L.toNat H.toNat)) w := by
  have hb : (Instr.sliceBounds false s.size s.size (lo.map a.eval) (hi.map a.eval) none).run P w = .ok (L.toNat, H.toNat, s.size) w := by
    rcases hlo with ⟨rfl, rfl⟩ | ⟨y, k, rfl, hy⟩ <;> rcases hhi with ⟨rfl, rfl⟩ | ⟨z, k', rfl, hz⟩
    · simp [Instr.sliceBounds]
    · simp [Instr.sliceBounds, hz, bound_in (k := k') (c := .sliceAlen) (P := P) w (show 0 ≤ H by omega) (show H ≤ (s.size : Nat) by omega)]
    · simp [Instr.sliceBounds, hy, bound_in (k := k) (c := .sliceB) (P := P) w h0 (show L ≤ (s.size : Nat) by omega)]
    · simp [Instr.sliceBounds, hz, hy, bound_in (k := k') (c := .sliceAlen) (P := P) w (show 0 ≤ H by omega) (show H ≤ (s.size : Nat) by omega), bound_in (k := k) (c := .sliceB) (P := P) w h0 (show L ≤ (H.toNat : Nat) by omega)]
  simp [Instr.sliceAt, Instr.slice, tund_run ht, hb]
end
end Go.Proofs.YtkcifdblaboodaaGreat.Fw
set_option linter.unusedVariables false
set_option linter.unusedSimpArgs false
namespace Go.Proofs.YtkcifdblaboodaaGreat.Fw
open Go

section
variable {P : Program}

theorem map_byte (l : List UInt8) : (l.map fun b => (b.toNat : Int)).map (fun z => UInt8.ofNat z.toNat) = l := by
  induction l with
  | nil => rfl
  | cons b r ih => simp [ih]

theorem forIn_bytes (w : World) : ∀ (l : List Int) (s : ByteArray),
    (forIn (m := Sem) (l.map fun z => Value.int .u8 z) s fun c s => (match c with | .int .u8 n => pure (ForInStep.yield (s.push (UInt8.ofNat n.toNat))) | _ => do let r ← stuck "bytesToString: byte expected"; pure (ForInStep.yield r))).run P w
      = .ok (⟨(s.data.toList ++ l.map fun z => UInt8.ofNat z.toNat).toArray⟩) w
  | [], s => by simp
  | z :: r, s => by
    simp only [List.map_cons, List.forIn_cons, Sem.run_bind, Sem.run_pure, Result.andThen_ok]
    rw [forIn_bytes w r]
    simp [ByteArray.push]

theorem bytes_run {w : World} {A : Option Addr} {n c : Nat} {zs : List Int} (hl : zs.length = n) (h : n = 0 ∨ ∃ b o, A = some ⟨b, o, none⟩ ∧ ∀ i, i < n → w.cell? ⟨b, o + i, none⟩ = some (.int .u8 (zs.getD i 0))) :
    (Conv.bytesToString (.slice A n c)).run P w = .ok (.string ⟨(zs.map fun z => UInt8.ofNat z.toNat).toArray⟩) w := by
  cases A with
  | none =>
    rcases h with rfl | ⟨b, o, h, _⟩
    · obtain rfl : zs = [] := List.eq_nil_of_length_eq_zero hl
      rfl
    · cases h
  | some a =>
    have hload : (loadCells a n).run P w = .ok (zs.map fun z => Value.int .u8 z).toArray w := by
      have := run_loadCells_list (P := P) w a (zs.map fun z => Value.int .u8 z) (fun j v hv => by
        rcases h with rfl | ⟨b, o, e, hc⟩
        · obtain rfl : zs = [] := List.eq_nil_of_length_eq_zero hl
          simp at hv
        · cases e
          have hj : j < zs.length := by simpa using (List.getElem?_eq_some_iff.1 hv).1
          rw [add_none rfl, hc j (by omega)]
          simp [hj] at hv
          simp [hj, ← hv])
      simpa [hl] using this
    have hf := forIn_bytes (P := P) w zs ByteArray.empty
    simp only [Conv.bytesToString, Sem.run_bind, hload, Result.andThen_ok]
    rw [List.forIn_toArray]
    simp at hf
    simp [hf]

theorem lst_bytes {g : Gh} {E : List Chunk} {w : World} (hS : Sim g E w) {xs : Unit → List Int} {A : Option Addr} {n c : Nat} (hr : R g (.lst (.int .u8) xs) (.slice A n c)) :
    (xs ()).length = n ∧ (n = 0 ∨ ∃ b o, A = some ⟨b, o, none⟩ ∧ ∀ i, i < n → w.cell? ⟨b, o + i, none⟩ = some (.int .u8 ((xs ()).getD i 0))) := by
  cases hr with | lst _ _ A c u hc hm ha hr =>
  refine ⟨rfl, ?_⟩
  cases hx : (xs ()) with
  | nil => exact .inl rfl
  | cons x r =>
    right
    obtain ⟨b, off, cells, T, fr, h1, h2, h3⟩ := ha 0 x 0 (.int .u8 fun _ => x) (by rw [hx]; rfl) rfl
    refine ⟨b, off, h1, fun i hi => ?_⟩
    have hi' : i < (xs ()).length := by rw [hx]; exact hi
    have h4 := ha i _ 0 (.int .u8 fun _ => (xs ())[i]'hi') (List.getElem?_eq_getElem hi') rfl
    have h5 := hr i _ 0 (.int .u8 fun _ => (xs ())[i]'hi') (List.getElem?_eq_getElem hi') rfl
    rw [h1] at h4
    have h6 := h4.cell hS
    simp only [Ty.size, Nat.mul_one, Nat.add_zero] at h6
    rw [h6, h5.int_iff]
    rw [← hx]
    simp [List.getD, List.getElem?_eq_getElem hi']

theorem vec_bytes {g : Gh} {E : List Chunk} {w : World} (hS : Sim g E w) {i s T : Nat} {xs : Unit → List Int} {o n : Unit → Nat} {A : Option Addr} {m c : Nat} (hE : getE E i = .vect T (.int .u8) xs) (hr : R g (.vec i s o n) (.slice A m c)) (hs1 : s = 1) :
    (((xs ()).drop (o ())).take (n ())).length = m ∧ (m = 0 ∨ ∃ b o', A = some ⟨b, o', none⟩ ∧ ∀ k, k < m → w.cell? ⟨b, o' + k, none⟩ = some (.int .u8 ((((xs ()).drop (o ())).take (n ())).getD k 0))) := by
  subst hs1
  have hs := hS.sat i
  rw [hE] at hs
  obtain ⟨hL, hn0, hc⟩ := hs
  cases hr with | vec _ _ _ _ A c _ hL' hn hs' =>
  have hlen : (((xs ()).drop (o ())).take (n ())).length = n () := by simp; omega
  refine ⟨hlen, ?_⟩
  cases hV : g.V i with
  | none => exact .inl (hn hV).2.1
  | some cap =>
    obtain ⟨h0, h1, h2, h3, h4⟩ := hs' cap hV
    obtain ⟨vs, hv, hvs, hcap, hx⟩ := hc cap hV
    rcases Nat.eq_zero_or_pos (n ()) with hz | hz
    · exact .inl hz
    right
    refine ⟨_, _, h3 (.inl (by omega)), fun k hk => ?_⟩
    have hk' : o () + k < (xs ()).length := by omega
    have hxk := hx (o () + k) _ (List.getElem?_eq_getElem hk')
    have hsz : (Ty.int IntKind.u8).size = 1 := rfl
    rw [hsz] at hxk hvs
    cases hd : (vs.toList.drop ((o () + k) * 1)).take 1 with
    | nil => rw [hd] at hxk; exact hxk.elim
    | cons u r =>
      rw [hd] at hxk
      have hu := hxk.1
      have hu' := hu.int_iff
      have : ((vs.toList.drop ((o () + k) * 1)).take 1)[0]? = some u := by rw [hd]; rfl
      rw [cell_of_heap hv]
      simp at this
      rw [show o () * 1 + k = o () + k by omega, this, hu']
      simp [List.getD, List.getElem?_take, hk, List.getElem?_drop, List.getElem?_eq_getElem hk']
end
end Go.Proofs.YtkcifdblaboodaaGreat.Fw
set_option linter.unusedVariables false
set_option linter.unusedSimpArgs false
namespace Go.Proofs.YtkcifdblaboodaaGreat.Fw
open Go

section
variable {P : Program}

theorem lkV_ok {g : Gh} {k : IntKind} {d : IntKind} {n : Unit → Int} : ∀ {ks : List Int} {vs : List AV} {es : List MapEntry} {K : AV → Prop} {D : Prop} (i : Nat), lkV ks vs n K D → es.map (·.key) = ks.map (Value.int k) → RL g vs (es.map (·.val)) →
    (∃ j v u, Instr.findNow (.int d) (.int k (n ())) es i = some (some (j, u)) ∧ R g v u ∧ K v) ∨ (Instr.findNow (.int d) (.int k (n ())) es i = some none ∧ D)
  | [], vs, [], K, D, i, h, hk, hr => by
    cases vs with
    | nil => exact .inr ⟨rfl, h⟩
    | cons _ _ => exact h.elim
  | [], _, _ :: _, _, _, _, _, hk, _ => by simp at hk
  | _ :: _, _, [], _, _, _, _, hk, _ => by simp at hk
  | k0 :: ks, [], e :: es, _, _, _, h, _, _ => h.elim
  | k0 :: ks, v :: vs, e :: es, K, D, i, h, hk, hr => by
    simp only [List.map_cons, List.cons.injEq] at hk
    simp only [lkV, fV_eq] at h
    by_cases hn : n () = k0
    · exact .inl ⟨i, v, e.val, by simp [Instr.findNow, hk.1, Instr.sameNow, hn], hr.1, h.1 hn⟩
    · have ih := lkV_ok (d := d) (i + 1) (h.2 hn) hk.2 hr.2
      have e1 : Instr.findNow (.int d) (.int k (n ())) (e :: es) i = Instr.findNow (.int d) (.int k (n ())) es (i + 1) := by
        have hb : (n () == k0) = false := by simpa using hn
        simp [Instr.findNow, hk.1, Instr.sameNow, hb]
      rw [e1]; exact ih
theorem lookV_ok {g : Gh} {E : List Chunk} {w : World} {t : Nat} {ok : Bool} {x k : AV} {u uk : Value} {K : AV → Prop} (hS : Sim g E w) (hx : R g x u) (hk : R g k uk) (h : lookV P t ok x k E K) :
    ∃ r c, (Instr.lookup t u uk ok).run P w = .ok c w ∧ R g r c ∧ K r := by
  unfold lookV at h
  split at h <;> try exact h.elim
  rename_i i kk n
  split at h <;> try exact h.elim
  rename_i kt et k' ks vs ht hE
  split at h <;> try exact h.elim
  rename_i d e2 z hkt hdq hz
  subst e2
  have hs := hS.sat i
  rw [hE] at hs
  obtain ⟨es, cl, h1, h2, h3⟩ := hs
  have hu : u = .map (some (g.B i)) := by cases hx; rfl
  have huk := hk.int_iff
  subst hu
  rw [huk]
  have hck : (Instr.checkKey es.isEmpty 10000 kt (.int kk (n ()))).run P w = .ok () w := by
    unfold Instr.checkKey
    simp only [Sem.run_bind, tund_run hkt, Result.andThen_ok]
    rfl
  have hzr := tzero_zero (P := P) (w := w) hz
  have hzR := R_cst g z
  cases ok with
  | true =>
    simp only [] at h
    rcases lkV_ok (d := d) 0 h h2 h3 with ⟨j, v, u, h4, h5, h6⟩ | ⟨h4, h5⟩
    · refine ⟨_, _, ?_, R.mkTup (cs := [v, .tt]) (vs := [u, .bool true]) ⟨h5, .tt, trivial⟩, h6⟩
      simp [Instr.lookup, tund_run ht, MapKept.run_getObj_map h1, hck, MapKept.run_findKey (tund_und hkt) h4, Result.andThen]
    · refine ⟨_, _, ?_, R.mkTup (cs := [cst z, .ff]) (vs := [z, .bool false]) ⟨hzR, .ff, trivial⟩, h5⟩
      simp [Instr.lookup, tund_run ht, MapKept.run_getObj_map h1, hck, MapKept.run_findKey (tund_und hkt) h4, Result.andThen, hzr]
  | false =>
    simp only [] at h
    rcases lkV_ok (d := d) 0 h h2 h3 with ⟨j, v, u, h4, h5, h6⟩ | ⟨h4, h5⟩
    · refine ⟨v, u, ?_, h5, h6⟩
      simp [Instr.lookup, tund_run ht, MapKept.run_getObj_map h1, hck, MapKept.run_findKey (tund_und hkt) h4, Result.andThen]
    · refine ⟨cst z, z, ?_, hzR, h5⟩
      simp [Instr.lookup, tund_run ht, MapKept.run_getObj_map h1, hck, MapKept.run_findKey (tund_und hkt) h4, Result.andThen, hzr]
set_option maxHeartbeats 1000000 in
theorem qV_ok {g : Gh} {E : List Chunk} {w : World} {env : Env} {a : Act} {op : Op} {K : AV → Prop} (hS : Sim g E w) (hE : ER g env a.tmps) (h : qV P op env E K) (o : Oper) (ho : o.op = op) :
    ∃ r c, (execOp a.eval o).run P w = .ok (.value c) w ∧ R g r c ∧ K r := by
  unfold execOp
  simp only [ho]
  unfold qV at h
  split at h
  · -- move
    exact ⟨_, _, rfl, hE.ev _, h⟩
  · exact ⟨_, _, rfl, hE.ev _, h⟩
  · -- pick
    rename_i c x y
    have hc := hE.ev c
    split at h
    · rename_i b e
      rw [e] at hc
      have hc' := hc.bool_iff
      cases hb : b ()
      · exact ⟨_, _, by simp [hc', hb, asBool], hE.ev y, h.2 hb⟩
      · exact ⟨_, _, by simp [hc', hb, asBool], hE.ev x, h.1 hb⟩
    · rename_i e
      rw [e] at hc
      exact ⟨_, _, by simp [hc.tt_iff, asBool], hE.ev x, h⟩
    · rename_i e
      rw [e] at hc
      exact ⟨_, _, by simp [hc.ff_iff, asBool], hE.ev y, h⟩
    · exact h.elim
  · -- load
    rename_i t x
    apply of_sem
    obtain ⟨cs, n, us, ad, h1, h2, h3, h4⟩ := atP_cells hS (hE.ev x) h
    obtain ⟨r, u, h5, h6, h7⟩ := ldC_load h4 h2 h3
    exact ⟨r, u, by simp [Instr.loadAt, Instr.sureAddr, h1, h5], h6, h7⟩
  · -- nilCheck
    rename_i x
    have hx := hE.ev x
    split at h
    · rename_i i off e
      rw [e] at hx
      obtain ⟨ad, h1, _, _⟩ := (hx.ptr_addr 0).1 _ _ rfl
      exact ⟨_, .pointer (some ad), by simp [h1], by rw [← h1]; exact hx, h⟩
    · rename_i i s j off e
      rw [e] at hx
      obtain ⟨ad, h1, _, _⟩ := (hx.ptr_addr 0).2.1 _ _ _ _ rfl
      exact ⟨_, .pointer (some ad), by simp [h1], by rw [← h1]; exact hx, h⟩
    · rename_i t y off e
      rw [e] at hx
      obtain ⟨ad, h1, _, _⟩ := (hx.ptr_addr 0).2.2.1 _ _ _ rfl
      exact ⟨_, .pointer (some ad), by simp [h1], by rw [← h1]; exact hx, h⟩
    · rename_i cs off e
      rw [e] at hx
      obtain ⟨ad, h1, _, _⟩ := (hx.ptr_addr 0).2.2.2 _ _ rfl
      exact ⟨_, .pointer (some ad), by simp [h1], by rw [← h1]; exact hx, h⟩
    · rename_i f p q e
      rw [e] at hx
      obtain ⟨vs, ws, hv, hr⟩ : ∃ vs ws, a.eval x = .func (.func f) vs ws ∧ R g (.fn (.func f) p q) (.func (.func f) vs ws) := by
        generalize a.eval x = v at hx
        cases hx with | fn _ _ _ vs ws hl hl' hr hr' => exact ⟨vs, ws, rfl, .fn _ _ _ vs ws hl hl' hr hr'⟩
      exact ⟨_, .func (.func f) vs ws, by simp [hv], hr, h⟩
    · exact h.elim
  · -- fieldAddr
    rename_i s x f
    apply of_sem
    split at h <;> try exact h.elim
    rename_i fs ht
    split at h <;> try exact h.elim
    rename_i fd hf
    rw [nth_eq] at hf
    simp only [Array.getElem?_toList] at hf
    split at h <;> try exact h.elim
    rename_i n hs
    have hx := hE.ev x
    split at h
    · rename_i i off e
      rw [e] at hx
      rw [fN_eq] at h
      obtain ⟨ad, h1, _, h2⟩ := (hx.ptr_addr fd.offset).1 _ _ rfl
      exact ⟨_, _, by simp [Instr.fieldAt, tund_run ht, hf, Instr.sureAddr, h1, fieldPlace_run hs], h2, h⟩
    · rename_i i s j off e
      rw [e] at hx
      rw [fN_eq] at h
      obtain ⟨ad, h1, _, h2⟩ := (hx.ptr_addr fd.offset).2.1 _ _ _ _ rfl
      exact ⟨_, _, by simp [Instr.fieldAt, tund_run ht, hf, Instr.sureAddr, h1, fieldPlace_run hs], h2, h⟩
    · rename_i t y off e
      rw [e] at hx
      rw [fN_eq] at h
      obtain ⟨ad, h1, _, h2⟩ := (hx.ptr_addr fd.offset).2.2.1 _ _ _ rfl
      exact ⟨_, _, by simp [Instr.fieldAt, tund_run ht, hf, Instr.sureAddr, h1, fieldPlace_run hs], h2, h⟩
    · rename_i cs off e
      rw [e] at hx
      rw [fN_eq] at h
      obtain ⟨ad, h1, _, h2⟩ := (hx.ptr_addr fd.offset).2.2.2 _ _ rfl
      exact ⟨_, _, by simp [Instr.fieldAt, tund_run ht, hf, Instr.sureAddr, h1, fieldPlace_run hs], h2, h⟩
    · exact h.elim
  · -- field
    rename_i s x f
    apply of_sem
    split at h <;> try exact h.elim
    rename_i fs ht
    split at h <;> try exact h.elim
    rename_i fd hf
    rw [nth_eq] at hf
    simp only [Array.getElem?_toList] at hf
    have hx := hE.ev x
    split at h <;> try exact h.elim
    rename_i cs e
    rw [e] at hx
    obtain ⟨vs, h1, h2⟩ := hx.agg_iff
    obtain ⟨r, u, h5, h6, h7⟩ := ldC_part (w := w) h h2
    exact ⟨r, u, by simp [Instr.field, tund_run ht, hf, h1, asAgg, h5], h6, h7⟩
  · -- indexAddr
    rename_i t x ix
    apply of_sem
    have hi := hE.ev ix
    split at h <;> try exact h.elim
    rename_i k j ej
    rw [ej] at hi
    have hi' := hi.int_iff
    have hx := hE.ev x
    split at h <;> try exact h.elim
    · rename_i e ht
      split at h <;> try exact h.elim
      rename_i sz hsz
      split at h <;> try exact h.elim
      · rename_i ty xs ex
        split at h <;> try exact h.elim
        rename_i hb
        have hb' : ty.size = sz := Nat.eq_of_beq_eq_true hb
        rw [ex] at hx
        generalize a.eval x = v at hx ⊢
        cases hx with | lst _ _ A c u hc hm ha hr =>
        have hob := h.1.h
        have hlt : (j ()).toNat < (xs ()).length := by omega
        have hp := Ty.size_pos ty
        have he0 : 0 < (enc ty (fun _ => (xs ())[(j ()).toNat]'hlt) []).length := by rw [enc_length]; exact hp
        obtain ⟨b, off, cells, T, fr, h1, h2, h3⟩ := ha (j ()).toNat _ 0 _ (List.getElem?_eq_getElem hlt) (List.getElem?_eq_getElem he0)
        subst h1
        refine ⟨_, _, by simp [Instr.indexAt, hi', asIntOf, tund_run ht, hob.1, hob.2, tsize_size hsz]; rfl, ?_, h.2⟩
        have e : (fun u => (xs u).getD (j u).toNat ty.dflt) = (fun _ => (xs ())[(j ()).toNat]'hlt) := by
          funext u; cases u; simp [List.getD, List.getElem?_eq_getElem hlt]
        rw [e, add_none rfl]
        have := R.iptr ty (fun _ => (xs ())[(j ()).toNat]'hlt) 0 b (off + (j ()).toNat * sz) (u (j ()).toNat) (fun k y hy => ?_) (fun k y hy => hr _ _ k y (List.getElem?_eq_getElem hlt) hy)
        · simpa using this
        · obtain ⟨b', off', cells', T', fr', g1, g2, g3⟩ := ha (j ()).toNat _ k y (List.getElem?_eq_getElem hlt) hy
          cases g1
          exact ⟨b, _, cells', T', fr', rfl, g2, by rw [← g3]; congr 1; rw [hb']; omega⟩
      · rename_i i s o n ex
        split at h <;> try exact h.elim
        rename_i hb
        have hb' : s = sz := Nat.eq_of_beq_eq_true hb
        rw [ex] at hx
        generalize a.eval x = v at hx ⊢
        cases hx with | vec _ _ _ _ A c hi hL hn hs =>
        have hob := h.1.h
        have hV : ∃ cap, g.V i = some cap := by
          cases hV : g.V i with
          | none => have := (hn hV).2.1; omega
          | some cap => exact ⟨cap, rfl⟩
        obtain ⟨cap, hV⟩ := hV
        obtain ⟨h0, h1, h2, h3, h4⟩ := hs cap hV
        have hA := h3 (.inl (by omega))
        subst hA
        have hrun : (Instr.indexAt t (.slice (some ⟨g.B i, o () * s, none⟩) (n ()) c) (a.eval ix)).run P w = .ok (.pointer (some ⟨g.B i, o () * s + (j ()).toNat * sz, none⟩)) w := by
          simp [Instr.indexAt, hi', asIntOf, tund_run ht, hob.1, hob.2, tsize_size hsz, add_none]
        have h' := h.2
        split at h' <;> try exact h'.elim
        · refine ⟨_, _, hrun, ?_, h'⟩
          have := R.eptr (g := g) i s (fun u => o u + (j u).toNat) 0 hi (by show o () + (j ()).toNat < _; omega)
          rw [← hb', ← Nat.add_mul]
          simpa using this
        · refine ⟨_, _, hrun, ?_, h'⟩
          have := R.eptr (g := g) i s (fun u => o u + (j u).toNat) 0 hi (by show o () + (j ()).toNat < _; omega)
          rw [← hb', ← Nat.add_mul]
          simpa using this
        · rw [fN_eq] at h'
          refine ⟨_, _, hrun, ?_, h'⟩
          rw [← hb', ← Nat.add_mul]
          exact .ptr _ _ hi
    · rename_i len e ht
      split at h <;> try exact h.elim
      rename_i sz hsz
      split at h <;> try exact h.elim
      · rename_i i off ex
        rw [ex] at hx
        rw [fN_eq] at h
        obtain ⟨ad, h1, _, h2⟩ := (hx.ptr_addr ((j ()).toNat * sz)).1 _ _ rfl
        have hob := h.1.h
        exact ⟨_, _, by simp [Instr.indexAt, hi', asIntOf, tund_run ht, h1, Instr.sureAddr, hob.1, hob.2, tsize_size hsz], h2, h.2⟩
      · rename_i i s q off ex
        rw [ex] at hx
        rw [fN_eq] at h
        obtain ⟨ad, h1, _, h2⟩ := (hx.ptr_addr ((j ()).toNat * sz)).2.1 _ _ _ _ rfl
        have hob := h.1.h
        exact ⟨_, _, by simp [Instr.indexAt, hi', asIntOf, tund_run ht, h1, Instr.sureAddr, hob.1, hob.2, tsize_size hsz], h2, h.2⟩
      · rename_i ty y off ex
        rw [ex] at hx
        rw [fN_eq] at h
        obtain ⟨ad, h1, _, h2⟩ := (hx.ptr_addr ((j ()).toNat * sz)).2.2.1 _ _ _ rfl
        have hob := h.1.h
        exact ⟨_, _, by simp [Instr.indexAt, hi', asIntOf, tund_run ht, h1, Instr.sureAddr, hob.1, hob.2, tsize_size hsz], h2, h.2⟩
  · -- index
    rename_i t x ix
    apply of_sem
    have hi := hE.ev ix
    split at h <;> try exact h.elim
    rename_i k j ej
    rw [ej] at hi
    have hi' := hi.int_iff
    have hx := hE.ev x
    split at h <;> try exact h.elim
    · rename_i ht
      split at h <;> try exact h.elim
      rename_i s ex
      rw [ex] at hx
      have hx' := hx.str_iff
      have hob := h.1.h
      have hlt : (j ()).toNat < (s ()).length := by omega
      refine ⟨_, _, ?_, .int _ _, h.2⟩
      have hg : (ByteArray.mk (s ()).toArray)[(j ()).toNat]? = some ((s ())[(j ()).toNat]'hlt) := by
        rw [getElem?_pos (h := by simpa [ByteArray.size] using hlt)]
        rfl
      simp [Instr.index, hi', hx', asIntOf, tund_run ht, hob.1, hg, List.getD, List.getElem?_eq_getElem hlt]
    · rename_i len e ht
      split at h <;> try exact h.elim
      rename_i sz hsz
      split at h <;> try exact h.elim
      rename_i cs ex
      rw [ex] at hx
      obtain ⟨vs, h1, h2⟩ := hx.agg_iff
      have hob := h.1.h
      obtain ⟨r, u, h5, h6, h7⟩ := ldC_part (w := w) h.2 h2
      exact ⟨r, u, by simp [Instr.index, hi', h1, asIntOf, tund_run ht, hob.1, hob.2, tsize_size hsz, h5], h6, h7⟩
  · -- slice
    rename_i t x lo hi
    apply of_sem
    have hx := hE.ev x
    split at h <;> try exact h.elim
    · rename_i ht
      split at h <;> try exact h.elim
      rename_i s ex
      rw [ex] at hx
      have hx' := hx.str_iff
      have hsz : (ByteArray.mk (s ()).toArray).size = (s ()).length := by simp [ByteArray.size]
      have fin : ∀ L H : Unit → Int, ((lo = none ∧ L () = 0) ∨ ∃ y k, lo = some y ∧ a.eval y = .int k (L ())) → ((hi = none ∧ H () = (s ()).length) ∨ ∃ y k, hi = some y ∧ a.eval y = .int k (H ())) →
          (Ob (fun u => 0 ≤ L u ∧ L u ≤ H u ∧ H u ≤ (s u).length) ∧ K (.str fun u => ((s u).take (H u).toNat).drop (L u).toNat)) →
          ∃ r c, (Instr.sliceAt t (a.eval x) (lo.map a.eval) (hi.map a.eval) none).run P w = .ok c w ∧ R g r c ∧ K r := by
        intro L H hL hH h
        have hob := h.1.h
        refine ⟨_, _, by rw [hx']; exact slice_run_str ht hL (by rw [hsz]; exact hH) hob.1 hob.2.1 (by rw [hsz]; exact hob.2.2), R.str' ?_, h.2⟩
        apply ByteArray.ext
        simp [ByteArray.data_extract, List.extract_eq_drop_take']
      rcases bnd_ok hE h with ⟨rfl, h1⟩ | ⟨y, k, n, rfl, hy, h1⟩ <;> rcases bnd_ok hE h1 with ⟨rfl, h2⟩ | ⟨z, k', m, rfl, hz, h2⟩
      · exact fin _ _ (.inl ⟨rfl, rfl⟩) (.inl ⟨rfl, rfl⟩) h2
      · exact fin _ _ (.inl ⟨rfl, rfl⟩) (.inr ⟨_, _, rfl, hz⟩) h2
      · exact fin _ _ (.inr ⟨_, _, rfl, hy⟩) (.inl ⟨rfl, rfl⟩) h2
      · exact fin _ _ (.inr ⟨_, _, rfl, hy⟩) (.inr ⟨_, _, rfl, hz⟩) h2
    · rename_i e ht
      split at h <;> try exact h.elim
      · rename_i ty xs ex
        split at h <;> try exact h.elim
        rename_i sz hsz
        split at h <;> try exact h.elim
        rename_i hb
        have hb' : ty.size = sz := Nat.eq_of_beq_eq_true hb
        rw [ex] at hx
        obtain ⟨A, c, hv, hc⟩ : ∃ A c, a.eval x = .slice A (xs ()).length c ∧ (xs ()).length ≤ c := by
          generalize a.eval x = v at hx
          cases hx with | lst _ _ A c u hc => exact ⟨A, c, rfl, hc⟩
        rw [hv] at hx
        have fin : ∀ L H : Unit → Int, ((lo = none ∧ L () = 0) ∨ ∃ y k, lo = some y ∧ a.eval y = .int k (L ())) → ((hi = none ∧ H () = (xs ()).length) ∨ ∃ y k, hi = some y ∧ a.eval y = .int k (H ())) →
            (Ob (fun u => 0 ≤ L u ∧ L u ≤ H u ∧ H u ≤ (xs u).length) ∧ K (.lst ty fun u => ((xs u).take (H u).toNat).drop (L u).toNat)) →
            ∃ r c, (Instr.sliceAt t (a.eval x) (lo.map a.eval) (hi.map a.eval) none).run P w = .ok c w ∧ R g r c ∧ K r := by
          intro L H hL hH h
          have hob := h.1.h
          refine ⟨_, _, by rw [hv]; exact slice_run ht hsz hL hH hob.1 hob.2.1 hob.2.2 hc, ?_, h.2⟩
          have := R_lst_cut (l := (L ()).toNat) (h := (H ()).toNat) hx (by omega) (by omega)
          rw [hb'] at this
          have e : (fun u => ((xs u).take (H u).toNat).drop (L u).toNat) = (fun u => ((xs u).take (H ()).toNat).drop (L ()).toNat) := by funext u; cases u; rfl
          rw [e]
          exact this
        rcases bnd_ok hE h with ⟨rfl, h1⟩ | ⟨y, k, n, rfl, hy, h1⟩ <;> rcases bnd_ok hE h1 with ⟨rfl, h2⟩ | ⟨z, k', m, rfl, hz, h2⟩
        · exact fin _ _ (.inl ⟨rfl, rfl⟩) (.inl ⟨rfl, rfl⟩) h2
        · exact fin _ _ (.inl ⟨rfl, rfl⟩) (.inr ⟨_, _, rfl, hz⟩) h2
        · exact fin _ _ (.inr ⟨_, _, rfl, hy⟩) (.inl ⟨rfl, rfl⟩) h2
        · exact fin _ _ (.inr ⟨_, _, rfl, hy⟩) (.inr ⟨_, _, rfl, hz⟩) h2
      · rename_i i s o n ex
        split at h <;> try exact h.elim
        rename_i sz hsz
        split at h <;> try exact h.elim
        rename_i hb
        have hb' : s = sz := Nat.eq_of_beq_eq_true hb
        rw [ex] at hx
        obtain ⟨A, c, hv, hc⟩ : ∃ A c, a.eval x = .slice A (n ()) c ∧ n () ≤ c := by
          generalize a.eval x = v at hx
          cases hx with | vec _ _ _ _ A c hi hL hn hs =>
          refine ⟨A, c, rfl, ?_⟩
          cases hV : g.V i with
          | none => have := hn hV; omega
          | some cap => have := hs cap hV; omega
        rw [hv] at hx
        have fin : ∀ L H : Unit → Int, ((lo = none ∧ L () = 0) ∨ ∃ y k, lo = some y ∧ a.eval y = .int k (L ())) → ((hi = none ∧ H () = n ()) ∨ ∃ y k, hi = some y ∧ a.eval y = .int k (H ())) →
            (Ob (fun u => 0 ≤ L u ∧ L u ≤ H u ∧ H u ≤ n u) ∧ K (.vec i s (fun u => o u + (L u).toNat) (fun u => (H u).toNat - (L u).toNat))) →
            ∃ r c, (Instr.sliceAt t (a.eval x) (lo.map a.eval) (hi.map a.eval) none).run P w = .ok c w ∧ R g r c ∧ K r := by
          intro L H hL hH h
          have hob := h.1.h
          refine ⟨_, _, by rw [hv]; exact slice_run ht hsz hL hH hob.1 hob.2.1 hob.2.2 hc, ?_, h.2⟩
          have := R_vec_cut (l := (L ()).toNat) (h := (H ()).toNat) hx (by omega) (by omega)
          rw [hb'] at this
          have e1 : (fun u => o u + (L u).toNat) = (fun u => o u + (L ()).toNat) := by funext u; cases u; rfl
          have e2 : (fun u => (H u).toNat - (L u).toNat) = (fun _ : Unit => (H ()).toNat - (L ()).toNat) := by funext u; cases u; rfl
          rw [e1, e2, hb']
          exact this
        rcases bnd_ok hE h with ⟨rfl, h1⟩ | ⟨y, k, n, rfl, hy, h1⟩ <;> rcases bnd_ok hE h1 with ⟨rfl, h2⟩ | ⟨z, k', m, rfl, hz, h2⟩
        · exact fin _ _ (.inl ⟨rfl, rfl⟩) (.inl ⟨rfl, rfl⟩) h2
        · exact fin _ _ (.inl ⟨rfl, rfl⟩) (.inr ⟨_, _, rfl, hz⟩) h2
        · exact fin _ _ (.inr ⟨_, _, rfl, hy⟩) (.inl ⟨rfl, rfl⟩) h2
        · exact fin _ _ (.inr ⟨_, _, rfl, hy⟩) (.inr ⟨_, _, rfl, hz⟩) h2
      · rename_i ex
        rw [ex] at hx
        have hv : a.eval x = .slice none 0 0 := by generalize a.eval x = v at hx; cases hx; rfl
        split at h <;> try exact h.elim
        rename_i sz hsz
        have fin : ∀ L H : Unit → Int, ((lo = none ∧ L () = 0) ∨ ∃ y k, lo = some y ∧ a.eval y = .int k (L ())) → ((hi = none ∧ H () = 0) ∨ ∃ y k, hi = some y ∧ a.eval y = .int k (H ())) →
            (Ob (fun u => L u = 0 ∧ H u = 0) ∧ K .snil) → ∃ r c, (Instr.sliceAt t (a.eval x) (lo.map a.eval) (hi.map a.eval) none).run P w = .ok c w ∧ R g r c ∧ K r := by
          intro L H hL hH h
          have hob := h.1.h
          have hrun := slice_run (P := P) (a := a) (w := w) (A := none) (n := 0) (c := 0) (lo := lo) (hi := hi) (L := L ()) (H := H ()) ht hsz hL (by simpa using hH) (by omega) (by omega) (by simp; omega) (Nat.le_refl _)
          refine ⟨_, _, by rw [hv]; exact hrun, ?_, h.2⟩
          simp [hob.1, hob.2]
          exact .snil
        rcases bnd_ok hE h with ⟨rfl, h1⟩ | ⟨y, k, n, rfl, hy, h1⟩ <;> rcases bnd_ok hE h1 with ⟨rfl, h2⟩ | ⟨z, k', m, rfl, hz, h2⟩
        · exact fin _ _ (.inl ⟨rfl, rfl⟩) (.inl ⟨rfl, rfl⟩) h2
        · exact fin _ _ (.inl ⟨rfl, rfl⟩) (.inr ⟨_, _, rfl, hz⟩) h2
        · exact fin _ _ (.inr ⟨_, _, rfl, hy⟩) (.inl ⟨rfl, rfl⟩) h2
        · exact fin _ _ (.inr ⟨_, _, rfl, hy⟩) (.inr ⟨_, _, rfl, hz⟩) h2
  · -- slice, three numbers
    rename_i t x hi mx
    apply of_sem
    have hx := hE.ev x
    have hh := hE.ev hi
    have hm := hE.ev mx
    split at h <;> try exact h.elim
    rename_i k hn k' mn eh em
    rw [eh] at hh
    rw [em] at hm
    have hh := hh.int_iff
    have hm := hm.int_iff
    split at h <;> try exact h.elim
    rename_i e ht
    split at h <;> try exact h.elim
    rename_i sz hsz
    split at h <;> try exact h.elim
    · rename_i ty xs ex
      split at h <;> try exact h.elim
      rename_i hb
      have hb' : ty.size = sz := Nat.eq_of_beq_eq_true hb
      rw [ex] at hx
      obtain ⟨hob, hk⟩ := h
      obtain ⟨h1, h2⟩ := hob.h
      obtain ⟨A, c, hv, hc⟩ : ∃ A c, a.eval x = .slice A (xs ()).length c ∧ (xs ()).length ≤ c := by
        generalize a.eval x = v at hx
        cases hx with | lst _ _ A c u hc => exact ⟨A, c, rfl, hc⟩
      rw [hv] at hx
      refine ⟨_, _, by rw [hv]; exact slice3_run ht hsz (by rw [hh, h1]) (by rw [hm, h2]) hc, ?_, hk⟩
      exact R_lst_cap hx
    · rename_i ex
      rw [ex] at hx
      obtain ⟨hob, hk⟩ := h
      obtain ⟨h1, h2⟩ := hob.h
      have hv : a.eval x = .slice none 0 0 := by generalize a.eval x = v at hx; cases hx; rfl
      exact ⟨_, _, by rw [hv]; exact slice3_run ht hsz (n := 0) (by rw [hh, h1]; rfl) (by rw [hm, h2]; rfl) (Nat.le_refl _), .snil, hk⟩
  · -- binOp
    rename_i op t x y t'
    apply of_sem
    exact binV_ok (hE.ev x) (hE.ev y) h
  · -- unOp
    rename_i op t x
    apply of_sem
    have hx := hE.ev x
    generalize a.eval x = v at hx ⊢
    split at h <;> try exact h.elim
    all_goals (rename_i e; rw [e] at hx; cases hx)
    · exact ⟨_, _, by simp [Op.unary], R.bool' rfl, h⟩
    · exact ⟨_, _, by simp [Op.unary], .ff, h⟩
    · exact ⟨_, _, by simp [Op.unary], .tt, h⟩
    · exact ⟨_, _, rfl, .int _ _, h⟩
    · exact ⟨_, _, rfl, .int _ _, h⟩
  · -- convert
    rename_i src dst x
    apply of_sem
    have hx := hE.ev x
    split at h <;> try exact h.elim
    · rename_i d k k' n hs hd e
      rw [e] at hx
      exact ⟨_, _, by simp [convert, tund_run hs, tund_run hd, hx.int_iff, Conv.intToInt], .int _ _, h⟩
    · rename_i d s hs hd e
      rw [e] at hx
      exact ⟨_, _, by simp [convert, tund_run hs, tund_run hd, hx.str_iff], .str _, h⟩
    · rename_i e xs hs hd ex
      split at h <;> try exact h.elim
      rename_i he
      rw [ex] at hx
      obtain ⟨A, c, hv⟩ : ∃ A c, a.eval x = .slice A (xs ()).length c := by
        generalize a.eval x = v at hx
        cases hx with | lst _ _ A c u hc => exact ⟨A, c, rfl⟩
      rw [hv] at hx
      obtain ⟨h1, h2⟩ := lst_bytes hS hx
      exact ⟨_, _, by simp [convert, tund_run hs, tund_run hd, hv, tund_run he, bytes_run h1 h2], R.str' rfl, h⟩
    · rename_i e hs hd ex
      split at h <;> try exact h.elim
      rename_i he
      rw [ex] at hx
      have hv : a.eval x = .slice none 0 0 := by generalize a.eval x = v at hx; cases hx; rfl
      exact ⟨_, _, by simp [convert, tund_run hs, tund_run hd, hv, tund_run he, Conv.bytesToString]; rfl, R.str' rfl, h⟩
    · rename_i e i o n hs hd ex
      split at h <;> try exact h.elim
      rename_i T xs he hc
      rw [ex] at hx
      obtain ⟨A, c, hv⟩ : ∃ A c, a.eval x = .slice A (n ()) c := by
        generalize a.eval x = v at hx
        cases hx with | vec _ _ _ _ A c => exact ⟨A, c, rfl⟩
      rw [hv] at hx
      obtain ⟨h1, h2⟩ := vec_bytes hS hc hx rfl
      exact ⟨_, _, by simp [convert, tund_run hs, tund_run hd, hv, tund_run he, bytes_run h1 h2], R.str' rfl, h⟩
    · rename_i t i gg hs hd ex
      split at h <;> try exact h.elim
      rename_i k T cs hsz hc
      split at h <;> try exact h.elim
      rename_i hlt
      have hlt : gg < lenA cs := Nat.le_of_ble_eq_true hlt
      rw [ex] at hx
      have hsat := hS.sat i
      rw [hc] at hsat
      obtain ⟨vs, hb, hrl⟩ := hsat
      have hlen := hrl.length
      rw [lenA_eq] at hlt
      obtain ⟨ti, hti, htz⟩ : ∃ ti, P.info? t = some ti ∧ ti.size = k + 1 := by
        unfold tsize at hsz
        split at hsz
        · rename_i ti hti
          exact ⟨ti, tinfo_info hti, by simpa using hsz⟩
        · cases hsz
      have hv : a.eval x = .pointer (some ⟨g.B i, gg, none⟩) := by generalize a.eval x = v at hx; cases hx; rfl
      rw [hv] at hx
      exact ⟨_, _, by rw [hv]; exact Lib.run_to_unsafe w _ (tund_und hs) (tund_und hd) hti (by omega) (e := T) (cells := vs.size) (by simp [World.shape?, hb]) (by simp at hlen; show gg < vs.size; omega), hx, h⟩
    · rename_i t i gg hs hd ex
      split at h <;> try exact h.elim
      rename_i ti T cs hti hc
      rw [fN_eq] at h
      obtain ⟨hck, hk⟩ := h
      rw [ex] at hx
      have hsat := hS.sat i
      rw [hc] at hsat
      obtain ⟨vs, hb, hrl⟩ := hsat
      have hlen := hrl.length
      have hck := hck.h
      rw [lenA_eq] at hck
      have hv : a.eval x = .pointer (some ⟨g.B i, gg, none⟩) := by generalize a.eval x = v at hx; cases hx; rfl
      rw [hv] at hx
      exact ⟨_, _, by rw [hv]; exact Lib.run_from_unsafe w _ (tund_und hs) (tund_und hd) (tinfo_info hti) (e := T) (cells := vs.size) (by simp [World.shape?, hb]) (by simp at hlen; rw [← hlen]; exact hck), hx, hk⟩
  · -- makeInterface
    rename_i t x
    apply of_sem
    split at h <;> try exact h.elim
    rename_i d hni ht
    refine ⟨_, _, ?_, .ifc _ _ _ (hE.ev x), h⟩
    simp only [Instr.makeInterface, Sem.run_bind, tund_run ht, Result.andThen_ok]
    cases d <;> first | rfl | exact (hni _ rfl).elim
  · -- makeFunc
    rename_i f p q
    apply of_sem
    rw [fL_eq, fL_eq] at h
    refine ⟨_, _, rfl, ?_, h⟩
    have := R.mkFn (f := f) (hE.evL p.toList) (hE.evL q.toList)
    have e1 : (List.map a.eval p.toList).toArray = p.map a.eval := by apply Array.ext'; simp
    have e2 : (List.map a.eval q.toList).toArray = q.map a.eval := by apply Array.ext'; simp
    rw [e1, e2] at this
    exact this
  · -- extract
    rename_i x i
    apply of_sem
    have hx := hE.ev x
    split at h <;> try exact h.elim
    rename_i cs e
    rw [e] at hx
    split at h <;> try exact h.elim
    rename_i v hv
    rw [fV_eq] at h
    obtain ⟨vs, h1, h2⟩ := hx.tup_iff
    rw [nth_eq] at hv
    obtain ⟨u, hu, hr⟩ := h2.get hv
    simp at hu
    exact ⟨v, u, by simp [Instr.extract, h1, hu], hr, h⟩
  · -- lookup
    apply of_sem
    exact lookV_ok hS (hE.ev _) (hE.ev _) h
  · -- build
    rename_i t parts
    apply of_sem
    split at h <;> try exact h.elim
    rename_i ps hps
    obtain ⟨r, c, h1, h2, h3⟩ := buildV_ok (P := P) (w := w) hE hps h
    refine ⟨r, c, ?_, h2, h3⟩
    rw [← h1]
    congr 2
    apply Array.ext'
    simp
  · -- a builtin
    rename_i b args ts
    split at h <;> try exact h.elim
    rename_i t r hts
    obtain ⟨r', c, h1, h2, h3⟩ := builtinV_ok (P := P) (w := w) (ts := r) (ty := o.type) (cs := args.map fun | .const _ => true | _ => false) (hE.evL args.toList) h
    refine ⟨r', c, ?_, h2, h3⟩
    simp only [resolve, invoke, Sem.run_bind, Sem.run_pure, Result.andThen_ok]
    rw [← h1]
    congr 2
    · apply Array.ext'; simp [hts]
    · apply Array.ext'; simp
  · exact h.elim
end
end Go.Proofs.YtkcifdblaboodaaGreat.Fw
set_option linter.unusedVariables false
set_option linter.unusedSimpArgs false
namespace Go.Proofs.YtkcifdblaboodaaGreat.Fw
open Go Go.RowKit

/-! ### References turned -/
mutual
def mapV (f : AV → AV) : AV → AV
  | .ptr i o => f (.ptr i o) | .eptr i s j o => f (.eptr i s j o) | .vec i s o n => f (.vec i s o n) | .mp i => f (.mp i)
  | .agg cs => .agg (mapL f cs) | .tup cs => .tup (mapL f cs) | .fn g az bs => .fn g (mapL f az) (mapL f bs) | .ifc t v => .ifc t (mapV f v)
  | .undef => .undef | .skip => .skip | .int k n => .int k n | .bool b => .bool b | .tt => .tt | .ff => .ff | .str s => .str s | .lst t xs => .lst t xs
  | .pnil => .pnil | .iptr t x o => .iptr t x o | .cptr cs o => .cptr (mapL f cs) o | .snil => .snil | .fnil => .fnil | .inil => .inil | .mnil => .mnil
def mapL (f : AV → AV) : List AV → List AV
  | [] => [] | c :: r => mapV f c :: mapL f r
end
theorem mapL_length (f : AV → AV) : ∀ l : List AV, (mapL f l).length = l.length
  | [] => by simp [mapL]
  | c :: r => by simp [mapL, mapL_length f r]
theorem mapL_get (f : AV → AV) : ∀ (l : List AV) (i : Nat), (mapL f l)[i]? = l[i]?.map (mapV f)
  | [], i => by simp [mapL]
  | c :: r, 0 => by simp [mapL]
  | c :: r, i + 1 => by simp [mapL, mapL_get f r i]
def isRef : AV → Bool
  | .ptr _ _ | .eptr _ _ _ _ | .vec _ _ _ _ | .mp _ => true | _ => false

theorem At.mono {g g' : Gh} (hΦ : ∀ b o, g.Φ b = some o → g'.Φ b = some o) {A : Option Addr} {k : Nat} {u : Value} (h : At g A k u) : At g' A k u := by
  obtain ⟨b, off, cells, T, fr, h1, h2, h3⟩ := h
  exact ⟨b, off, cells, T, fr, h1, hΦ _ _ h2, h3⟩

theorem enc_noref (f : AV → AV) : ∀ (t : Ty) (x : Unit → t.den) (j : Nat) (y : AV), (enc t x [])[j]? = some y → mapV f y = y
  | .int _, x, j, y, h => by cases j <;> simp [enc] at h; subst h; rfl
  | .bool, x, j, y, h => by cases j <;> simp [enc] at h; subst h; rfl
  | .str, x, j, y, h => by cases j <;> simp [enc] at h; subst h; rfl
  | .list _, x, j, y, h => by cases j <;> simp [enc] at h; subst h; rfl
  | .pair a b, x, j, y, h => by
    simp only [enc] at h
    rw [enc_append, List.getElem?_append] at h
    split at h
    · exact enc_noref f a _ j y h
    · exact enc_noref f b _ _ y h

theorem R.mapA {g g' : Gh} (f : AV → AV) (hA : ∀ A k u, At g A k u → At g' A k u) (hf : ∀ v u, isRef v = true → R g v u → R g' (f v) u) {v : AV} {u : Value} (h : R g v u) : R g' (mapV f v) u := by
  induction h with
  | undef v => exact .undef v
  | skip => exact .skip
  | int k n => exact .int k n
  | bool b => exact .bool b
  | tt => exact .tt
  | ff => exact .ff
  | str s => exact .str s
  | lst t xs A c u hc hm ha hr ih =>
    refine .lst t xs A c u hc hm (fun i x j y h1 h2 => hA _ _ _ (ha i x j y h1 h2)) (fun i x j y h1 h2 => ?_)
    have := ih i x j y h1 h2
    rwa [enc_noref f t _ j y h2] at this
  | agg cs vs hl hr ih =>
    refine .agg _ vs (by rw [mapL_length]; exact hl) (fun i y u h1 h2 => ?_)
    rw [mapL_get] at h1
    cases hc : cs[i]? with
    | none => rw [hc] at h1; cases h1
    | some c => rw [hc] at h1; cases h1; exact ih i c u hc h2
  | tup cs vs hl hr ih =>
    refine .tup _ vs (by rw [mapL_length]; exact hl) (fun i y u h1 h2 => ?_)
    rw [mapL_get] at h1
    cases hc : cs[i]? with
    | none => rw [hc] at h1; cases h1
    | some c => rw [hc] at h1; cases h1; exact ih i c u hc h2
  | pnil => exact .pnil
  | ptr i off hi => exact hf _ _ rfl (.ptr i off hi)
  | eptr i sz idx off hi h => exact hf _ _ rfl (.eptr i sz idx off hi h)
  | iptr t x off b o u ha hr ih =>
    refine .iptr t x off b o u (fun j y h => hA _ _ _ (ha j y h)) (fun j y h => ?_)
    have := ih j y h
    rwa [enc_noref f t _ j y h] at this
  | cptr cs off b o u ha hr ih =>
    refine .cptr _ off b o u (fun j y h => ?_) (fun j y h => ?_)
    · rw [mapL_get] at h
      cases hc : cs[j]? with
      | none => rw [hc] at h; cases h
      | some c => exact hA _ _ _ (ha j c hc)
    · rw [mapL_get] at h
      cases hc : cs[j]? with
      | none => rw [hc] at h; cases h
      | some c => rw [hc] at h; cases h; exact ih j c hc
  | snil => exact .snil
  | vec i sz off n A c hi hL hn hs => exact hf _ _ rfl (.vec i sz off n A c hi hL hn hs)
  | fn h az bs vs ws hl hl' hr hr' ih ih' =>
    refine .fn h _ _ vs ws (by rw [mapL_length]; exact hl) (by rw [mapL_length]; exact hl') (fun i y u h1 h2 => ?_) (fun i y u h1 h2 => ?_)
    · rw [mapL_get] at h1
      cases hc : az[i]? with
      | none => rw [hc] at h1; cases h1
      | some c => rw [hc] at h1; cases h1; exact ih i c u hc h2
    · rw [mapL_get] at h1
      cases hc : bs[i]? with
      | none => rw [hc] at h1; cases h1
      | some c => rw [hc] at h1; cases h1; exact ih' i c u hc h2
  | fnil => exact .fnil
  | ifc t v u h ih => exact .ifc t _ u ih
  | inil => exact .inil
  | mp i hi => exact hf _ _ rfl (.mp i hi)
  | mnil => exact .mnil

theorem R.map {g g' : Gh} (f : AV → AV) (hΦ : ∀ b o, g.Φ b = some o → g'.Φ b = some o) (hf : ∀ v u, isRef v = true → R g v u → R g' (f v) u) {v : AV} {u : Value} (h : R g v u) : R g' (mapV f v) u := h.mapA f (fun _ _ _ h => h.mono hΦ) hf

mutual
theorem mapV_id : ∀ v : AV, mapV id v = v
  | .agg cs => by simp only [mapV]; rw [mapL_id cs]
  | .tup cs => by simp only [mapV]; rw [mapL_id cs]
  | .cptr cs o => by simp only [mapV]; rw [mapL_id cs]
  | .fn g az bs => by simp only [mapV]; rw [mapL_id az, mapL_id bs]
  | .ifc t v => by simp only [mapV]; rw [mapV_id v]
  | .ptr _ _ | .eptr _ _ _ _ | .vec _ _ _ _ | .mp _ | .undef | .skip | .int _ _ | .bool _ | .tt | .ff | .str _ | .lst _ _ | .pnil | .iptr _ _ _ | .snil | .fnil | .inil | .mnil => rfl
theorem mapL_id : ∀ l : List AV, mapL id l = l
  | [] => rfl
  | c :: r => by simp only [mapL]; rw [mapV_id c, mapL_id r]
end
/-- A ghost that knows more. -/
structure Gh.le (g g' : Gh) : Prop where
  n : g.n ≤ g'.n
  phi : ∀ b o, g.Φ b = some o → g'.Φ b = some o
  B : ∀ i, i < g.n → g'.B i = g.B i
  V : ∀ i, i < g.n → g'.V i = g.V i
  L : ∀ i, i < g.n → g'.L i = g.L i
  k : g'.k = g.k
theorem Gh.le.refl (g : Gh) : g.le g := ⟨Nat.le_refl _, fun _ _ h => h, fun _ _ => rfl, fun _ _ => rfl, fun _ _ => rfl, rfl⟩
theorem R.mono {g g' : Gh} (hg : g.le g') {v : AV} {u : Value} (h : R g v u) : R g' v u := by
  have := R.map (g' := g') id hg.phi (fun v u hv h => ?_) h
  · rwa [mapV_id] at this
  · cases h <;> first | (cases hv; done) | skip
    · rename_i i off hi
      show R g' (.ptr i off) _
      rw [← hg.B i hi]; exact .ptr i off (Nat.lt_of_lt_of_le hi hg.n)
    · rename_i i sz idx off hi h
      show R g' (.eptr i sz idx off) _
      rw [← hg.B i hi]; exact .eptr i sz idx off (Nat.lt_of_lt_of_le hi hg.n) (by rw [hg.L i hi]; exact h)
    · rename_i i sz off n A c hi hL hn hs
      exact .vec i sz off n A c (Nat.lt_of_lt_of_le hi hg.n) (by rw [hg.L i hi]; exact hL) (by rw [hg.V i hi]; exact hn) (by rw [hg.V i hi, hg.B i hi]; exact hs)
    · rename_i i hi
      show R g' (.mp i) _
      rw [← hg.B i hi]; exact .mp i (Nat.lt_of_lt_of_le hi hg.n)
theorem RL.mono {g g' : Gh} (hg : g.le g') : ∀ {cs : List AV} {us : List Value}, RL g cs us → RL g' cs us
  | [], [], h => h
  | c :: r, u :: us, h => ⟨h.1.mono hg, RL.mono hg h.2⟩
theorem RL.mapA {g g' : Gh} (f : AV → AV) (hA : ∀ A k u, At g A k u → At g' A k u) (hf : ∀ v u, isRef v = true → R g v u → R g' (f v) u) : ∀ {cs : List AV} {us : List Value}, RL g cs us → RL g' (mapL f cs) us
  | [], [], h => h
  | c :: r, u :: us, h => ⟨h.1.mapA f hA hf, RL.mapA f hA hf h.2⟩
theorem RL.map {g g' : Gh} (f : AV → AV) (hΦ : ∀ b o, g.Φ b = some o → g'.Φ b = some o) (hf : ∀ v u, isRef v = true → R g v u → R g' (f v) u) {cs : List AV} {us : List Value} (h : RL g cs us) : RL g' (mapL f cs) us := h.mapA f (fun _ _ _ h => h.mono hΦ) hf
theorem RL.mono_dataA {g g' : Gh} (hA : ∀ A k u, At g A k u → At g' A k u) {t : Ty} {x : Unit → t.den} {us : List Value} (h : RL g (enc t x []) us) : RL g' (enc t x []) us :=
  RL.mk h.length fun i y u h1 h2 => by
    have := R.mapA (g' := g') (fun _ => .undef) hA (fun v u _ _ => .undef u) (h.at_ i y u h1 h2)
    rwa [enc_noref _ t _ i y h1] at this
theorem RL.mono_data {g g' : Gh} (hΦ : ∀ b o, g.Φ b = some o → g'.Φ b = some o) {t : Ty} {x : Unit → t.den} {us : List Value} (h : RL g (enc t x []) us) : RL g' (enc t x []) us := h.mono_dataA (fun _ _ _ h => h.mono hΦ)

def mapC (f : AV → AV) : Chunk → Chunk
  | .none => .none | .cells T cs => .cells T (mapL f cs) | .vect T t xs => .vect T t xs | .count k => .count k | .smp k ks vs => .smp k ks (mapL f vs) | .row T t xs => .row T t xs
def mapE (f : AV → AV) : List Chunk → List Chunk
  | [] => [] | c :: r => mapC f c :: mapE f r
def mapEnv (f : AV → AV) : Env → Env
  | [] => [] | (k, v) :: r => (k, mapV f v) :: mapEnv f r
theorem lenE_mapE (f : AV → AV) : ∀ E, lenE (mapE f E) = lenE E
  | [] => rfl
  | c :: r => by simp [mapE, lenE, lenE_mapE f r]
theorem getE_mapE (f : AV → AV) : ∀ E i, getE (mapE f E) i = mapC f (getE E i)
  | [], i => by simp [mapE, getE, mapC]
  | c :: r, 0 => by simp [mapE, getE]
  | c :: r, i + 1 => by simp [mapE, getE, getE_mapE f r i]
theorem look_mapEnv (f : AV → AV) : ∀ env t, look (mapEnv f env) t = mapV f (look env t)
  | [], t => by simp [mapEnv, look, mapV]
  | (k, v) :: r, t => by
    simp only [mapEnv, look]
    split <;> rename_i h <;> simp [h, look_mapEnv f r t]
theorem getE_set (E : List Chunk) (i j : Nat) (c : Chunk) : getE (setE E i c) j = if i = j ∧ i < lenE E then c else getE E j := by
  induction E generalizing i j with
  | nil => simp [setE, getE, lenE]
  | cons d r ih =>
    cases i <;> cases j <;> simp [setE, getE, lenE, ih]
theorem lenE_set : ∀ (E : List Chunk) (i : Nat) (c : Chunk), lenE (setE E i c) = lenE E
  | [], _, _ => rfl
  | d :: r, 0, c => rfl
  | d :: r, i + 1, c => by simp [setE, lenE, lenE_set r i c]
theorem getE_add (E : List Chunk) (j : Nat) (c : Chunk) : getE (addE E c) j = if j = lenE E then c else getE E j := by
  induction E generalizing j with
  | nil => cases j <;> simp [addE, getE, lenE]
  | cons d r ih => cases j <;> simp [addE, getE, lenE, ih]
theorem lenE_add : ∀ (E : List Chunk) (c : Chunk), lenE (addE E c) = lenE E + 1
  | [], _ => rfl
  | d :: r, c => by simp [addE, lenE, lenE_add r c]
theorem getE_ge : ∀ (E : List Chunk) (i : Nat), lenE E ≤ i → getE E i = .none
  | [], _, _ => rfl
  | d :: r, 0, h => by simp [lenE] at h
  | d :: r, i + 1, h => by simp only [getE]; exact getE_ge r i (by simpa [lenE] using h)
theorem getE_lt {E : List Chunk} {i : Nat} (h : getE E i ≠ .none) : i < lenE E := by
  rcases Nat.lt_or_ge i (lenE E) with h' | h'
  · exact h'
  · exact (h (getE_ge E i h')).elim
theorem blk_lt {g : Gh} {E : List Chunk} {i b : Nat} (h : (getE E i).blk g i = some b) : i < lenE E := getE_lt (fun e => by rw [e] at h; cases h)

/-- A chunk is satisfied by its own block alone. -/
theorem Chunk.sat_frame {g g' : Gh} {i : Nat} {w w' : World} {c : Chunk} (hR : ∀ cs us, RL g cs us → RL g' cs us) (hB : g'.B i = g.B i) (hV : g'.V i = g.V i) (hL : g'.L i = g.L i) (hk : g'.k = g.k)
    (hw : ∀ b, c.blk g i = some b → w'.heap[b]? = w.heap[b]?) (h : c.sat g i w) : c.sat g' i w' := by
  cases c with
  | none => trivial
  | cells T cs =>
    obtain ⟨vs, h1, h2⟩ := h
    exact ⟨vs, by rw [hB, hw _ rfl]; exact h1, hR _ _ h2⟩
  | vect T t xs =>
    obtain ⟨h1, h2, h3⟩ := h
    refine ⟨by rw [hL]; exact h1, by rw [hV]; exact h2, fun cap hc => ?_⟩
    rw [hV] at hc
    obtain ⟨vs, h4, h5, h6, h7⟩ := h3 cap hc
    exact ⟨vs, by rw [hB, hw _ (by simp [Chunk.blk, hc])]; exact h4, h5, h6, fun k x hx => hR _ _ (h7 k x hx)⟩
  | row T t xs =>
    obtain ⟨h1, h2, h3⟩ := h
    refine ⟨by rw [hL]; exact h1, by rw [hV]; exact h2, fun cap hc => ?_⟩
    rw [hV] at hc
    obtain ⟨vs, h4, h5, h6, h7⟩ := h3 cap hc
    exact ⟨vs, by rw [hB, hw _ (by simp [Chunk.blk, hc])]; exact h4, h5, h6, fun k x hx => hR _ _ (h7 k x hx)⟩
  | count k => exact h.trans hk.symm
  | smp k ks us =>
    obtain ⟨es, cl, h1, h2, h3⟩ := h
    exact ⟨es, cl, by rw [hB, hw _ rfl]; exact h1, h2, hR _ _ h3⟩
theorem Chunk.blk_eq {g g' : Gh} {i : Nat} {c : Chunk} (hB : g'.B i = g.B i) (hV : g'.V i = g.V i) : c.blk g' i = c.blk g i := by
  cases c <;> simp [Chunk.blk, hB, hV]
end Go.Proofs.YtkcifdblaboodaaGreat.Fw
set_option linter.unusedVariables false
set_option linter.unusedSimpArgs false
namespace Go.Proofs.YtkcifdblaboodaaGreat.Fw
open Go

def fEnv (l : Env) (K : Env → Prop) : Prop := match l with
  | [] => K [] | (k, v) :: r => fV v fun v => fEnv r fun r => K ((k, v) :: r)
theorem fEnv_eq (l : Env) (K : Env → Prop) : fEnv l K = K l := by
  induction l generalizing K with
  | nil => rfl
  | cons c r ih => cases c; simp only [fEnv, fV_eq, ih]
def fEE (l : List Chunk) (K : List Chunk → Prop) : Prop := match l with
  | [] => K [] | c :: r => fC c fun c => fEE r fun r => K (c :: r)
theorem fEE_eq (l : List Chunk) (K : List Chunk → Prop) : fEE l K = K l := by
  induction l generalizing K with
  | nil => rfl
  | cons c r ih => simp only [fEE, fC_eq, ih]

/-- A chunk let go: what leads to it is not known any more. -/
def scrF (i : Nat) : AV → AV
  | .ptr j o => (match Nat.beq j i with | true => .undef | false => .ptr j o)
  | .eptr j s x o => (match Nat.beq j i with | true => .undef | false => .eptr j s x o)
  | .vec j s o n => (match Nat.beq j i with | true => .undef | false => .vec j s o n)
  | .mp j => (match Nat.beq j i with | true => .undef | false => .mp j)
  | v => v
/-- A chunk that never turns again: what leads to it reads as data. -/
def frzF (i : Nat) (t : Ty) (xs : Unit → List t.den) : AV → AV
  | .ptr j o => (match Nat.beq j i with | true => .undef | false => .ptr j o)
  | .eptr j s x o => (match Nat.beq j i with | true => (match Nat.beq s t.size with | true => .iptr t (fun u => (xs u).getD (x u) t.dflt) o | false => .undef) | false => .eptr j s x o)
  | .vec j s o n => (match Nat.beq j i with | true => (match Nat.beq s t.size with | true => .lst t (fun u => ((xs u).drop (o u)).take (n u)) | false => .undef) | false => .vec j s o n)
  | .mp j => (match Nat.beq j i with | true => .undef | false => .mp j)
  | v => v
/-- Freeze chunk i: all that leads to it turned. -/
def frz (i : Nat) (env : Env) (E : List Chunk) (cs : List AV) (K : Env → List Chunk → List AV → Prop) : Prop :=
  match getE E i with
  | .vect T t xs => fEnv (mapEnv (frzF i t xs) env) fun env => fEE (mapE (frzF i t xs) (setE E i .none)) fun E => fL (mapL (frzF i t xs) cs) fun cs => K env E cs
  | _ => False
def findVec : List AV → Option Nat
  | [] => none | .vec i _ _ _ :: _ => some i | _ :: r => findVec r
/-- Whatever slices stand among the cells are frozen. -/
def frzAll : Nat → Env → List Chunk → List AV → (Env → List Chunk → List AV → Prop) → Prop
  | 0, env, E, cs, K => K env E cs
  | n + 1, env, E, cs, K => match findVec cs with
    | none => K env E cs
    | some i => frz i env E cs fun env E cs => frzAll n env E cs K
def okC : AV → Bool
  | .undef | .skip | .agg _ | .tup _ => false | _ => true
def okL : List AV → Bool
  | [] => true | c :: r => match okC c with | true => okL r | false => false

/-- n data out of cells -/
def decN (t : Ty) : Nat → List AV → ((Unit → List t.den) → Prop) → Prop
  | 0, [], K => K (fun _ => [])
  | 0, _ :: _, _ => False
  | n + 1, cs, K => dec t cs fun x r => decN t n r fun xs => K (fun u => x u :: xs u)

section
variable (P : Program)

/-- what is appended, as data of the kind -/
def srcV (t : Ty) (E : List Chunk) (v : AV) (K : (Unit → List t.den) → Prop) : Prop :=
  match v with
  | .snil => K (fun _ => [])
  | .lst t' xs => (match decEq t' t with | isTrue h => castK h xs K | isFalse _ => False)
  | .vec i s o n => (match getE E i with
    | .vect _ t' xs => (match decEq t' t with | isTrue h => (match Nat.beq s t.size with | true => castK h xs fun xs => K (fun u => ((xs u).drop (o u)).take (n u)) | false => False) | isFalse _ => False)
    | _ => False)
  | _ => False
def repF {α : Type} (xs : Unit → List α) (o n : Unit → Nat) (ys : Unit → List α) : Unit → List α := fun u => (xs u).take (o u) ++ ys u ++ (xs u).drop (o u + n u)

/-- Noughts appended to nil. -/
def appZ (e : Nat) (n : Unit → Int) (env : Env) (E : List Chunk) (K : AV → Env → List Chunk → Prop) : Prop :=
  match tyOf P 6 e, tsize P e, tbytes P e, tzero P e with
  | some ty, some sz, some by_, some z => (match Nat.beq ty.size sz, cellsO (cst z) with
    | true, some cs => dec1 ty cs fun d => Ob (fun u => 0 ≤ n u ∧ n u ≤ 140737488355328 ∧ n u * by_ ≤ 140737488355328) ∧ (n () = 0 → K .snil env E) ∧
        (n () ≠ 0 → fN (lenE E) fun i => fEE (addE E (.vect e ty fun u => List.replicate (n u).toNat (d u))) fun E => K (.vec i sz (fun _ => 0) (fun u => (n u).toNat)) env E)
    | _, _ => False)
  | _, _, _, _ => False
def eBuiltin (b : Builtin) (ts : List Nat) (az : List AV) (env : Env) (E : List Chunk) (K : AV → Env → List Chunk → Prop) : Prop :=
  match b with
  | .append => (match ts, az with
    | [t, t2], [s, x] => (match Nat.beq t t2, tund P t with
      | true, some (.slice e) => (match tyOf P 6 e, tbytes P e, tzero P e with
        | some ty, some by_, some z => (match tsize P e with
          | some sz => (match Nat.beq sz ty.size with
            | true => (match Nat.beq z.cells.size sz with
              | true => srcV ty E x fun ys => (match s with
                | .snil => Ob (fun u => (ys u).length * by_ ≤ 140737488355328) ∧ fN (lenE E) fun n => fEE (addE E (.vect e ty ys)) fun E => K (.vec n sz (fun _ => 0) (fun u => (ys u).length)) env E
                | .vec i s o n => (match getE E i with
                  | .vect T t' xs => (match decEq t' ty with
                    | isTrue h => (match Nat.beq s sz, Nat.beq T e with
                      | true, true => Ob (fun u => o u = 0 ∧ n u + (ys u).length ≤ 140737488355328 ∧ (n u + (ys u).length) * by_ ≤ 140737488355328) ∧
                        castK h xs fun xs => fEnv (mapEnv (scrF i) env) fun env => fEE (mapE (scrF i) (setE E i (.vect e ty fun u => (xs u).take (n u) ++ ys u))) fun E => K (.vec i sz (fun _ => 0) (fun u => n u + (ys u).length)) env E
                      | _, _ => False)
                    | isFalse _ => False)
                  | _ => False)
                | _ => False)
              | false => False)
            | false => False)
          | none => False)
        | _, _, _ => False)
      | false, some (.slice e) => (match s, x with
        | .snil, .int .i64 n => (match tund P t2 with | some (.int .i64) => appZ P e n env E K | _ => False)
        | s, .str y => (match tund P t2, tyOf P 6 e, tsize P e, tbytes P e, tzero P e with
          | some .string, some (.int .u8), some 1, some 1, some (.int .u8 0) => (match s with
            | .snil => Ob (fun u => (y u).length ≤ 140737488355328) ∧ fN (lenE E) fun n => fEE (addE E (.vect e (.int .u8) fun u => (y u).map fun b => (b.toNat : Int))) fun E => K (.vec n 1 (fun _ => 0) (fun u => (y u).length)) env E
            | .vec i 1 o n => (match getE E i with
              | .vect T (.int .u8) xs => (match Nat.beq T e with
                | true => Ob (fun u => o u = 0 ∧ n u + (y u).length ≤ 140737488355328) ∧
                  fEnv (mapEnv (scrF i) env) fun env => fEE (mapE (scrF i) (setE E i (.vect e (.int .u8) fun u => (xs u).take (n u) ++ (y u).map fun b => (b.toNat : Int)))) fun E => K (.vec i 1 (fun _ => 0) (fun u => n u + (y u).length)) env E
                | false => False)
              | _ => False)
            | _ => False)
          | _, _, _, _, _ => False)
        | _, _ => False)
      | _, _ => False)
    | _, _ => False)
  | .copy => (match ts, az with
    | t :: _, [.vec i s o n, x] => (match tund P t with
      | some (.slice e) => (match tsize P e with
        | some sz => (match getE E i with
          | .vect T ty xs => (match Nat.beq sz ty.size with
            | true => (match Nat.beq s sz with
              | true => srcV ty E x fun ys => fEE (setE E i (.vect T ty (repF xs o (fun u => min (ys u).length (n u)) fun u => (ys u).take (n u)))) fun E => K (.int .i64 fun u => (min (ys u).length (n u) : Nat)) env E
              | false => False)
            | false => False)
          | _ => False)
        | none => False)
      | _ => False)
    | _, _ => False)
  | .unsafeString => (match ts, az with
    | [pt, it], [.eptr i 1 idx 0, .int .i64 m] => (match tund P pt with
      | some (.pointer e) => (match tsize P e, getE E i with
        | some 1, .vect T (.int .u8) xs => (match Nat.beq T e with
          | true => Ob (fun u => idx u = 0 ∧ 0 < m u ∧ m u ≤ (xs u).length ∧ (xs u).length ≤ 140737488355328 ∧ (∀ z ∈ xs u, 0 ≤ z ∧ z < 256)) ∧
            fEnv (mapEnv (scrF i) env) fun env => fEE (mapE (scrF i) (setE E i .none)) fun E => K (.str fun u => ((xs u).take (m u).toNat).map fun z => UInt8.ofNat z.toNat) env E
          | false => False)
        | _, _ => False)
      | _ => False)
    | _, _ => False)
  | .clear => (match ts, az with
    | t :: _, [.vec i s o n] => (match tund P t with
      | some (.slice e) => (match tsize P e, tzero P e with
        | some sz, some z => (match getE E i with
          | .vect T ty xs => (match Nat.beq sz ty.size with
            | true => (match Nat.beq s sz with
              | true => (match Nat.beq z.cells.size sz with
                | true => (match cellsO (cst z) with
                  | some cs => dec1 ty cs fun d => fEE (setE E i (.vect T ty (repF xs o n fun u => List.replicate (n u) (d u)))) fun E => K (.tup []) env E
                  | none => False)
                | false => False)
              | false => False)
            | false => False)
          | _ => False)
        | _, _ => False)
      | _ => False)
    | _, _ => False)
  | _ => False

/-- A call: what follows of it is told by whoever knows the function. -/
structure CallH (f : FuncId) (args : List AV) (env : Env) (E : List Chunk) (K : AV → Env → List Chunk → Prop) (sem : Prop) : Prop where
  h : sem

def notIn (n : Int) : List Int → Bool
  | [] => true | k :: r => (match decEq k n with | isTrue _ => false | isFalse _ => notIn n r)
/-- Into a known map, by a new key. -/
def putM (t : Nat) (k : IntKind) (n : Int) (m x : AV) (env : Env) (E : List Chunk) (K : AV → Env → List Chunk → Prop) : Prop :=
  match m with
  | .mp i => (match tund P t, getE E i with
    | some (.map kt _), .smp k' ks vs => (match tund P kt, decEq k k', notIn n ks with
      | some (.int _), isTrue _, true => fEE (setE E i (.smp k' (ks ++ [n]) (vs ++ [x]))) fun E => K .skip env E
      | _, _, _ => False)
    | _, _ => False)
  | _ => False
/-- The operations that turn the world. -/
def eV (op : Op) (env : Env) (E : List Chunk) (K : AV → Env → List Chunk → Prop) : Prop :=
  match op with
  | .alloc e => (match tzero P e with
    | some z => (match cellsO (cst z) with
      | some cs => fL cs fun cs => fN (lenE E) fun n => fEE (addE E (.cells e cs)) fun E => K (.ptr n 0) env E
      | none => False)
    | none => False)
  | .box e x => (match cellsO (ev env x) with
    | some cs => fN (lenE E) fun n => fEE (addE E (.cells e cs)) fun E => K (.ptr n 0) env E
    | none => False)
  | .store t x v => (match cellsO (ev env v) with
    | some cs => (match tsize P t with
      | some sz => (match Nat.beq cs.length sz, okL cs with
        | true, true => (match ev env x with
          | .ptr i g => (match getE E i with
            | .cells T ds => (match putX g ds cs with | some ds => fL ds fun ds => fEE (setE E i (.cells T ds)) fun E => K .skip env E | none => False)
            | _ => False)
          | .eptr i s j g => frzAll 3 env E (.eptr i s j g :: cs) fun env E l => (match l with
            | .eptr i s j g :: cs => (match getE E i with
              | .vect T ty xs => (match Nat.beq ty.size s with
                | true => (match putX g (enc ty (fun u => (xs u).getD (j u) ty.dflt) []) cs with
                  | some ds => dec1 ty ds fun y => fEE (setE E i (.vect T ty fun u => (xs u).set (j u) (y u))) fun E => K .skip env E
                  | none => False)
                | false => False)
              | .row T ty xs => (match Nat.beq ty.size s with
                | true => (match putX g (enc ty (fun u => (xs u).getD (j u) ty.dflt) []) cs with
                  | some ds => dec1 ty ds fun y => fEE (setE E i (.row T ty fun u => (xs u).set (j u) (y u))) fun E => K .skip env E
                  | none => False)
                | false => False)
              | _ => False)
            | _ => False)
          | _ => False)
        | _, _ => False)
      | none => False)
    | none => False)
  | .buildSlice t len parts => (match tund P t with
    | some (.slice e) => (match tsize P e, tzero P e, partsV env parts.toList with
      | some sz, some z, some ps => (match Nat.ble len 1000, Nat.ble sz 1000 with
        | true, true => (match cellsO (cst z) with
          | some zc => (match Nat.beq zc.length sz, fillV (fun i => some (i * sz, sz)) ((List.replicate len zc).flatten) ps with
            | true, some cs => fL cs fun cs => (match tyOf P 6 e with
              | some ty => (match Nat.beq ty.size sz with
                | true => frzAll 8 env E cs fun env E cs => decN ty len cs fun xs => fN (lenE E) fun n => fEE (addE E (.vect e ty xs)) fun E => K (.vec n sz (fun _ => 0) (fun _ => len)) env E
                | false => False)
              | none => fN (lenE E) fun n => fEE (addE E (.cells e cs)) fun E => K (.vec n sz (fun _ => 0) (fun _ => len)) env E)
            | _, _ => False)
          | none => False)
        | _, _ => False)
      | _, _, _ => False)
    | _ => False)
  | .makeMap t none => (match tund P t with
    | some (.map kt _) => (match tund P kt with
      | some (.int k) => fN (lenE E) fun n => fEE (addE E (.smp k [] [])) fun E => K (.mp n) env E
      | _ => False)
    | _ => False)
  | .insert t m (.const (.int k n)) x => putM P t k n (ev env m) (ev env x) env E K
  | .makeSlice t l c => (match ev env l, ev env c with
    | .int .i64 l, .int .i64 c => (match tund P t with
      | some (.slice e) => (match tyOf P 6 e, tsize P e, tbytes P e, tzero P e with
        | some ty, some sz, some by_, some z => (match Nat.beq ty.size sz with
          | true => (match cellsO (cst z) with
            | some cs => dec1 ty cs fun d => Ob (fun u => 0 ≤ l u ∧ l u ≤ c u ∧ c u ≤ 281474976710656 ∧ by_ * c u ≤ 281474976710656) ∧ fN (lenE E) fun n => fEE (addE E (.vect e ty fun u => List.replicate (l u).toNat (d u))) fun E => K (.vec n sz (fun _ => 0) (fun u => (l u).toNat)) env E
            | none => False)
          | false => False)
        | _, _, _, _ => False)
      | _ => False)
    | _, _ => False)
  | .convert src dst x => (match tund P dst, ev env x with
    | some (.slice e), .str s => (match tund P e with
      | some (.int .u8) => Ob (fun u => (s u).length ≤ 140737488355328) ∧ K (.lst (.int .u8) fun u => (s u).map fun b => (b.toNat : Int)) env E
      | _ => False)
    | _, _ => False)
  | .call { callee := .builtin b, args, argTypes } => eBuiltin P b argTypes.toList (evL env args.toList) env E K
  | _ => False
end
end Go.Proofs.YtkcifdblaboodaaGreat.Fw
set_option linter.unusedVariables false
set_option linter.unusedSimpArgs false
namespace Go.Proofs.YtkcifdblaboodaaGreat.Fw
open Go Go.RowKit

/-- Where a call begins. -/
structure Base where
  g : Gh
  E : List Chunk
  w : World
def Base.owns (B : Base) (b : Nat) : Prop := ∃ i, (getE B.E i).blk B.g i = some b

theorem fix_lt {E : List Chunk} {i : Nat} (h : fixB (getE E i) = true) : i < lenE E := getE_lt (fun e => by rw [e] at h; cases h)
structure Ext (B : Base) (g : Gh) (E : List Chunk) (w : World) : Prop where
  os : w.os = B.w.os
  tape : w.tape = B.w.tape
  output : w.output = B.w.output
  size : B.w.heap.size ≤ w.heap.size
  keep : ∀ b, b < B.w.heap.size → ¬ B.owns b → w.heap[b]? = B.w.heap[b]?
  phi : ∀ b o, B.g.Φ b = some o → g.Φ b = some o
  phin : ∀ b o, g.Φ b = some o → B.g.Φ b = some o ∨ B.w.heap.size ≤ b ∨ B.owns b
  own : ∀ i b, (getE E i).blk g i = some b → B.w.heap.size ≤ b ∨ B.owns b
  n : lenE B.E ≤ g.n
  ids : ∀ i, fixB (getE B.E i) = true → g.B i = B.g.B i ∧ g.V i = B.g.V i ∧ g.L i = B.g.L i
  kk : g.k = B.g.k
  kin : ∀ i T' t xs, fixB (getE B.E i) = true → getE E i = .vect T' t xs → False

structure Inv (B : Base) (g : Gh) (env : Env) (E : List Chunk) (tmps : Array Value) (w : World) : Prop where
  er : ER g env tmps
  sim : Sim g E w
  ext : Ext B g E w

/-- The world, one block turned. -/
structure WSet (w w' : World) (b : Nat) (o : Obj) : Prop where
  os : w'.os = w.os
  tape : w'.tape = w.tape
  output : w'.output = w.output
  size : w'.heap.size = w.heap.size
  at_ : w'.heap[b]? = some o
  else_ : ∀ k, k ≠ b → w'.heap[k]? = w.heap[k]?
/-- The world, one block new. -/
structure WNew (w w' : World) (o : Obj) : Prop where
  os : w'.os = w.os
  tape : w'.tape = w.tape
  output : w'.output = w.output
  size : w'.heap.size = w.heap.size + 1
  at_ : w'.heap[w.heap.size]? = some o
  else_ : ∀ k, k < w.heap.size → w'.heap[k]? = w.heap[k]?
/-- The world, nothing turned but what is drawn. -/
structure WSame (w w' : World) : Prop where
  os : w'.os = w.os
  tape : w'.tape = w.tape
  output : w'.output = w.output
  heap : w'.heap = w.heap
theorem WSame.refl (w : World) : WSame w w := ⟨rfl, rfl, rfl, rfl⟩
theorem WNew.push (w : World) (o : Obj) : WNew w { w with heap := w.heap.push o } o :=
  ⟨rfl, rfl, rfl, by simp, by simp, fun k hk => by show (w.heap.push o)[k]? = _; rw [Array.getElem?_push, if_neg (by omega)]⟩

theorem lt_heap {w : World} {b : Nat} {o : Obj} (h : w.heap[b]? = some o) : b < w.heap.size := (Array.getElem?_eq_some_iff.1 h).1
theorem sat_lt {g : Gh} {i : Nat} {w : World} {c : Chunk} {b : Nat} (h : c.sat g i w) (hb : c.blk g i = some b) : b < w.heap.size := by
  cases c with
  | none => cases hb
  | cells T cs => obtain ⟨vs, h1, _⟩ := h; cases hb; exact lt_heap h1
  | vect T t xs =>
    obtain ⟨_, _, h3⟩ := h
    cases hV : g.V i with
    | none => simp [Chunk.blk, hV] at hb
    | some cap =>
      obtain ⟨vs, h4, _⟩ := h3 cap hV
      simp [Chunk.blk, hV] at hb
      subst hb
      exact lt_heap h4
  | row T t xs =>
    obtain ⟨_, _, h3⟩ := h
    cases hV : g.V i with
    | none => simp [Chunk.blk, hV] at hb
    | some cap =>
      obtain ⟨vs, h4, _⟩ := h3 cap hV
      simp [Chunk.blk, hV] at hb
      subst hb
      exact lt_heap h4
  | count k => cases hb
  | smp k ks us => obtain ⟨es, cl, h1, _⟩ := h; cases hb; exact lt_heap h1

section
variable {B : Base} {g : Gh} {env : Env} {E : List Chunk} {tmps : Array Value} {w w' : World}

theorem Sim.same (h : Sim g E w) (hw : w'.heap = w.heap) : Sim g E w' :=
  ⟨h.len, fun b o hb => by rw [hw]; exact h.phi b o hb, fun i => Chunk.sat_frame (fun _ _ h => h) rfl rfl rfl rfl (fun b _ => by rw [hw]) (h.sat i), h.dis, h.dphi⟩
theorem Ext.same (h : Ext B g E w) (hw : WSame w w') : Ext B g E w' :=
  ⟨hw.os.trans h.os, hw.tape.trans h.tape, hw.output.trans h.output, by rw [hw.heap]; exact h.size, fun b h1 h2 => by rw [hw.heap]; exact h.keep b h1 h2, h.phi, h.phin, h.own, h.n, h.ids, h.kk, h.kin⟩
theorem Inv.same (h : Inv B g env E tmps w) (hw : WSame w w') : Inv B g env E tmps w' := ⟨h.er, h.sim.same hw.heap, h.ext.same hw⟩

theorem ER.put (h : ER g env tmps) {d : Nat} {v : AV} {u : Value} (hr : R g v u) (hd : d < tmps.size) : ER g ((d, v) :: env) (tmps.setIfInBounds d u) := by
  intro t
  simp only [look]
  split
  · rename_i hb
    have : d = t := Nat.eq_of_beq_eq_true hb
    subst this
    simpa [hd] using hr
  · rename_i hb
    have hne : d ≠ t := fun e => by subst e; simp at hb
    have := h t
    rw [Array.getD_eq_getD_getElem?] at this ⊢
    rwa [Array.getElem?_setIfInBounds_ne hne]
theorem Inv.put (h : Inv B g env E tmps w) {d : Nat} {v : AV} {u : Value} (hr : R g v u) (hd : d < tmps.size) : Inv B g ((d, v) :: env) E (tmps.setIfInBounds d u) w := ⟨h.er.put hr hd, h.sim, h.ext⟩
theorem ER.mono {g' : Gh} (h : ER g env tmps) (hg : g.le g') : ER g' env tmps := fun t => (h t).mono hg

/-- A new chunk. -/
def Gh.add (g : Gh) (b : Nat) (v : Option Nat) (l : Nat) : Gh :=
  { n := g.n + 1, Φ := g.Φ, B := fun i => if i = g.n then b else g.B i, V := fun i => if i = g.n then v else g.V i, L := fun i => if i = g.n then l else g.L i, k := g.k }
theorem Gh.le_add (g : Gh) (b : Nat) (v : Option Nat) (l : Nat) : g.le (g.add b v l) :=
  ⟨Nat.le_succ _, fun _ _ h => h, fun i hi => by simp [Gh.add, Nat.ne_of_lt hi], fun i hi => by simp [Gh.add, Nat.ne_of_lt hi], fun i hi => by simp [Gh.add, Nat.ne_of_lt hi], rfl⟩

theorem Inv.new (h : Inv B g env E tmps w) {c : Chunk} {b : Nat} {v : Option Nat} {l : Nat} (hos : w'.os = w.os) (htape : w'.tape = w.tape) (hout : w'.output = w.output) (hsz : w.heap.size ≤ w'.heap.size)
    (helse : ∀ k, k < w.heap.size → w'.heap[k]? = w.heap[k]?) (hc : c.sat (g.add b v l) g.n w') (hb : ∀ b', c.blk (g.add b v l) g.n = some b' → w.heap.size ≤ b') :
    Inv B (g.add b v l) env (addE E c) tmps w' := by
  have hle := g.le_add b v l
  have hlen := h.sim.len
  have old : ∀ i, i < g.n → (getE (addE E c) i) = getE E i := fun i hi => by rw [getE_add, if_neg (by omega)]
  have new : getE (addE E c) g.n = c := by rw [getE_add, if_pos (by omega)]
  have out : ∀ i, g.n < i → getE (addE E c) i = .none := fun i hi => by rw [getE_add, if_neg (by omega)]; exact getE_ge _ _ (by omega)
  have blkold : ∀ i, i < g.n → ∀ d : Chunk, d.blk (g.add b v l) i = d.blk g i := fun i hi d => Chunk.blk_eq (hle.B i hi) (hle.V i hi)
  have blklt : ∀ i b', i < g.n → (getE E i).blk g i = some b' → b' < w.heap.size := fun i b' _ hb' => sat_lt (h.sim.sat i) hb'
  refine ⟨h.er.mono hle, ⟨by rw [lenE_add]; simp [Gh.add, hlen], fun b' o hb' => ?_, fun i => ?_, fun i j b' hi hj => ?_, fun i b' hi => ?_⟩, ⟨hos.trans h.ext.os, htape.trans h.ext.tape, hout.trans h.ext.output, Nat.le_trans h.ext.size hsz, fun b' h1 h2 => ?_, h.ext.phi, h.ext.phin, fun i b' hi => ?_, Nat.le_trans h.ext.n (Nat.le_succ _), fun i hi => ?_, h.ext.kk, fun i T' t xs hi hv => ?_⟩⟩
  · have := h.sim.phi b' o hb'
    rw [helse b' (lt_heap this)]; exact this
  · rcases Nat.lt_trichotomy i g.n with hi | hi | hi
    · rw [old i hi]
      exact Chunk.sat_frame (fun _ _ h => h.mono hle) (hle.B i hi) (hle.V i hi) (hle.L i hi) hle.k (fun b' hb' => helse b' (blklt i b' hi hb')) (h.sim.sat i)
    · subst hi; rw [new]; exact hc
    · rw [out i hi]; trivial
  · have key : ∀ i b', (getE (addE E c) i).blk (g.add b v l) i = some b' → (i < g.n ∧ (getE E i).blk g i = some b' ∧ b' < w.heap.size) ∨ (i = g.n ∧ w.heap.size ≤ b') := by
      intro i b' hi
      rcases Nat.lt_trichotomy i g.n with h' | h' | h'
      · rw [old i h', blkold i h'] at hi; exact .inl ⟨h', hi, blklt i b' h' hi⟩
      · subst h'; rw [new] at hi; exact .inr ⟨rfl, hb b' hi⟩
      · rw [out i h'] at hi; cases hi
    rcases key i b' hi with ⟨h1, h2, h3⟩ | ⟨h1, h2⟩ <;> rcases key j b' hj with ⟨h4, h5, h6⟩ | ⟨h4, h5⟩
    · exact h.sim.dis i j b' h2 h5
    · omega
    · omega
    · omega
  · show g.Φ b' = Option.none
    rcases Nat.lt_trichotomy i g.n with h' | h' | h'
    · rw [old i h', blkold i h'] at hi; exact h.sim.dphi i b' hi
    · subst h'
      rw [new] at hi
      have := hb b' hi
      cases hp : g.Φ b' with
      | none => rfl
      | some o => have := lt_heap (h.sim.phi b' o hp); omega
    · rw [out i h'] at hi; cases hi
  · rw [helse b' (Nat.lt_of_lt_of_le h1 h.ext.size)]; exact h.ext.keep b' h1 h2
  · rcases Nat.lt_trichotomy i g.n with h' | h' | h'
    · rw [old i h', blkold i h'] at hi; exact h.ext.own i b' hi
    · subst h'; rw [new] at hi; exact .inl (Nat.le_trans h.ext.size (hb b' hi))
    · rw [out i h'] at hi; cases hi
  · have hlt : i < g.n := Nat.lt_of_lt_of_le (fix_lt hi) h.ext.n
    rw [hle.B i hlt, hle.V i hlt, hle.L i hlt]; exact h.ext.ids i hi
  · have hlt : i < g.n := Nat.lt_of_lt_of_le (fix_lt hi) h.ext.n
    rw [old i hlt] at hv; exact h.ext.kin i T' t xs hi hv

/-- A chunk's block written. -/
theorem Inv.set (h : Inv B g env E tmps w) {i : Nat} {b : Nat} {o : Obj} {c : Chunk} (hb : (getE E i).blk g i = some b) (hw : WSet w w' b o) (hc : c.sat g i w') (hcb : c.blk g i = some b) (hk : ∀ T t xs, c = .vect T t xs → ∃ T' t' xs', getE E i = .vect T' t' xs') : Inv B g env (setE E i c) tmps w' := by
  have hi : i < lenE E := blk_lt hb
  have hblk : ∀ j, (getE (setE E i c) j).blk g j = (getE E j).blk g j := by
    intro j
    rw [getE_set]
    split
    · rename_i hij; rw [← hij.1, hcb, hb]
    · rfl
  refine ⟨h.er, ⟨by rw [lenE_set]; exact h.sim.len, fun b' o' hb' => ?_, fun j => ?_, fun j k b' hj hk => ?_, fun j b' hj => ?_⟩, ⟨hw.os.trans h.ext.os, hw.tape.trans h.ext.tape, hw.output.trans h.ext.output, by rw [hw.size]; exact h.ext.size, fun b' h1 h2 => ?_, h.ext.phi, h.ext.phin, fun j b' hj => ?_, h.ext.n, h.ext.ids, h.ext.kk, fun j T' t xs hj hv => ?_⟩⟩
  · have hne : b' ≠ b := fun e => by subst e; rw [h.sim.dphi i b' hb] at hb'; cases hb'
    rw [hw.else_ b' hne]; exact h.sim.phi b' o' hb'
  · rw [getE_set]
    split
    · rename_i hij; rw [← hij.1]; exact hc
    · rename_i hij
      refine Chunk.sat_frame (fun _ _ h => h) rfl rfl rfl rfl (fun b' hb' => ?_) (h.sim.sat j)
      refine hw.else_ b' (fun e => ?_)
      subst e
      exact hij ⟨h.sim.dis i j b' hb hb', hi⟩
  · rw [hblk] at hj hk; exact h.sim.dis j k b' hj hk
  · rw [hblk] at hj; exact h.sim.dphi j b' hj
  · have hne : b' ≠ b := fun e => by
      subst e
      rcases h.ext.own i b' hb with h3 | h3
      · omega
      · exact h2 h3
    rw [hw.else_ b' hne]; exact h.ext.keep b' h1 h2
  · rw [hblk] at hj; exact h.ext.own j b' hj
  · rw [getE_set] at hv
    split at hv
    · rename_i hij
      obtain ⟨T2, t2, xs2, h2⟩ := hk _ _ _ hv
      rw [hij.1] at h2
      exact h.ext.kin j _ _ _ hj h2
    · exact h.ext.kin j _ _ _ hj hv

/-- References turned, the ghost turned at chunk i alone: what was chunk i is c now. -/
theorem Inv.turn {g' : Gh} (h : Inv B g env E tmps w) (f : AV → AV) {i : Nat} {c : Chunk} (hiv : ∃ T t xs, getE E i = .vect T t xs) (hn : g'.n = g.n) (hgk : g'.k = g.k) (hΦ : ∀ b o, g.Φ b = some o → g'.Φ b = some o)
    (hf : ∀ v u, isRef v = true → R g v u → R g' (f v) u) (hi : i < lenE E) (hB : ∀ j, j ≠ i → g'.B j = g.B j ∧ g'.V j = g.V j ∧ g'.L j = g.L j)
    (hos : w'.os = w.os) (htape : w'.tape = w.tape) (hout : w'.output = w.output) (hsz : w.heap.size ≤ w'.heap.size)
    (helse : ∀ k, k < w.heap.size → (∀ b, (getE E i).blk g i = some b → k ≠ b) → w'.heap[k]? = w.heap[k]?)
    (hc : (mapC f c).sat g' i w') (hcb : ∀ b, c.blk g' i = some b → w.heap.size ≤ b ∨ (getE E i).blk g i = some b)
    (hphi : ∀ b o, g'.Φ b = some o → g.Φ b = some o ∨ ((getE E i).blk g i = some b ∧ w'.heap[b]? = some o ∧ c.blk g' i ≠ some b)) :
    Inv B g' (mapEnv f env) (mapE f (setE E i c)) tmps w' := by
  have hmb : ∀ (g : Gh) (j : Nat) (c : Chunk), (mapC f c).blk g j = c.blk g j := fun g j c => by cases c <;> rfl
  have hget : ∀ j, getE (mapE f (setE E i c)) j = if i = j then mapC f c else mapC f (getE E j) := by
    intro j
    rw [getE_mapE, getE_set]
    by_cases hij : i = j
    · subst hij; simp [hi]
    · simp [hij]
  have hblk : ∀ j, (getE (mapE f (setE E i c)) j).blk g' j = if i = j then c.blk g' i else (getE E j).blk g j := by
    intro j
    rw [hget]
    by_cases hij : i = j
    · subst hij; simp [hmb]
    · have := hB j (Ne.symm hij)
      simp [hij, hmb, Chunk.blk_eq this.1 this.2.1]
  have hother : ∀ j b, i ≠ j → (getE E j).blk g j = some b → ∀ b', (getE E i).blk g i = some b' → b ≠ b' := by
    intro j b hij hj b' hb' e
    subst e
    exact hij (h.sim.dis i j b hb' hj)
  refine ⟨fun t => ?_, ⟨by rw [lenE_mapE, lenE_set, hn]; exact h.sim.len, fun b o hb => ?_, fun j => ?_, fun j k b hj hk => ?_, fun j b hj => ?_⟩, ⟨hos.trans h.ext.os, htape.trans h.ext.tape, hout.trans h.ext.output, Nat.le_trans h.ext.size hsz, fun b h1 h2 => ?_, fun b o hb => hΦ b o (h.ext.phi b o hb), fun b o hb => ?_, fun j b hj => ?_, by rw [hn]; exact h.ext.n, fun j hj => ?_, hgk.trans h.ext.kk, fun j T' t xs hj hv => ?_⟩⟩
  · rw [look_mapEnv]; exact (h.er t).map f hΦ hf
  · rcases hphi b o hb with hb | ⟨_, hb, _⟩
    · have hs := h.sim.phi b o hb
      rw [helse b (lt_heap hs) (fun b' hb' e => by subst e; rw [h.sim.dphi i b hb'] at hb; cases hb)]; exact hs
    · exact hb
  · rw [hget]
    by_cases hij : i = j
    · subst hij; simpa using hc
    · simp only [hij, if_false]
      have hBj := hB j (Ne.symm hij)
      have hs := h.sim.sat j
      have hfr : ∀ b, (getE E j).blk g j = some b → w'.heap[b]? = w.heap[b]? := fun b hb => helse b (sat_lt hs hb) (fun b' hb' => hother j b hij hb b' hb')
      cases hcj : getE E j with
      | none => trivial
      | cells T cs =>
        rw [hcj] at hs hfr
        obtain ⟨vs, h1, h2⟩ := hs
        exact ⟨vs, by rw [hBj.1, hfr _ rfl]; exact h1, h2.map f hΦ hf⟩
      | vect T t xs =>
        rw [hcj] at hs hfr
        obtain ⟨h1, h2, h3⟩ := hs
        refine ⟨by rw [hBj.2.2]; exact h1, by rw [hBj.2.1]; exact h2, fun cap hcap => ?_⟩
        rw [hBj.2.1] at hcap
        obtain ⟨vs, h4, h5, h6, h7⟩ := h3 cap hcap
        exact ⟨vs, by rw [hBj.1, hfr _ (by simp [Chunk.blk, hcap])]; exact h4, h5, h6, fun k x hx => (h7 k x hx).mono_data hΦ⟩
      | row T t xs =>
        rw [hcj] at hs hfr
        obtain ⟨h1, h2, h3⟩ := hs
        refine ⟨by rw [hBj.2.2]; exact h1, by rw [hBj.2.1]; exact h2, fun cap hcap => ?_⟩
        rw [hBj.2.1] at hcap
        obtain ⟨vs, h4, h5, h6, h7⟩ := h3 cap hcap
        exact ⟨vs, by rw [hBj.1, hfr _ (by simp [Chunk.blk, hcap])]; exact h4, h5, h6, fun k x hx => (h7 k x hx).mono_data hΦ⟩
      | count k => rw [hcj] at hs; exact hs.trans hgk.symm
      | smp k ks us =>
        rw [hcj] at hs hfr
        obtain ⟨es, cl, h1, h2, h3⟩ := hs
        exact ⟨es, cl, by rw [hBj.1, hfr _ rfl]; exact h1, h2, h3.map f hΦ hf⟩
  · rw [hblk] at hj hk
    by_cases hij : i = j <;> by_cases hik : i = k
    · exact hij.symm.trans hik
    · subst hij
      simp only [if_true, hik, if_false] at hj hk
      rcases hcb b hj with h3 | h3
      · have := sat_lt (h.sim.sat k) hk; omega
      · exact (hik (h.sim.dis i k b h3 hk)).elim
    · subst hik
      simp only [if_true, hij, if_false] at hj hk
      rcases hcb b hk with h3 | h3
      · have := sat_lt (h.sim.sat j) hj; omega
      · exact (hij (h.sim.dis i j b h3 hj)).elim
    · simp only [hij, hik, if_false] at hj hk; exact h.sim.dis j k b hj hk
  · rw [hblk] at hj
    cases hp : g'.Φ b with
    | none => rfl
    | some o =>
      exfalso
      by_cases hij : i = j
      · subst hij
        simp only [if_true] at hj
        rcases hphi b o hp with h3 | ⟨h3, _, h4⟩
        · rcases hcb b hj with h5 | h5
          · have := lt_heap (h.sim.phi b o h3); omega
          · rw [h.sim.dphi i b h5] at h3; cases h3
        · exact h4 hj
      · simp only [hij, if_false] at hj
        rcases hphi b o hp with h3 | ⟨h3, _, _⟩
        · rw [h.sim.dphi j b hj] at h3; cases h3
        · exact hij (h.sim.dis i j b h3 hj)
  · have hne : ∀ b', (getE E i).blk g i = some b' → b ≠ b' := fun b' hb' e => by
      subst e
      rcases h.ext.own i b hb' with h3 | h3
      · omega
      · exact h2 h3
    rw [helse b (Nat.lt_of_lt_of_le h1 h.ext.size) hne]; exact h.ext.keep b h1 h2
  · rcases hphi b o hb with h3 | ⟨h3, _, _⟩
    · exact h.ext.phin b o h3
    · exact .inr (h.ext.own i b h3)
  · rw [hblk] at hj
    by_cases hij : i = j
    · subst hij
      simp only [if_true] at hj
      rcases hcb b hj with h3 | h3
      · exact .inl (Nat.le_trans h.ext.size h3)
      · exact h.ext.own i b h3
    · simp only [hij, if_false] at hj; exact h.ext.own j b hj
  · obtain ⟨T1, t1, xs1, hv1⟩ := hiv
    have hij : j ≠ i := fun e => by subst e; exact h.ext.kin j _ _ _ hj hv1
    rw [(hB j hij).1, (hB j hij).2.1, (hB j hij).2.2]; exact h.ext.ids j hj
  · obtain ⟨T1, t1, xs1, hv1⟩ := hiv
    rw [hget] at hv
    by_cases hij : i = j
    · subst hij; exact h.ext.kin i _ _ _ hj hv1
    · simp only [hij, if_false] at hv
      cases hcj : getE E j with
      | none => rw [hcj] at hv; cases hv
      | count _ => rw [hcj] at hv; cases hv
      | cells _ _ => rw [hcj] at hv; cases hv
      | smp _ _ _ => rw [hcj] at hv; cases hv
      | row _ _ _ => rw [hcj] at hv; cases hv
      | vect _ _ _ => exact h.ext.kin j _ _ _ hj hcj
end
end Go.Proofs.YtkcifdblaboodaaGreat.Fw
set_option linter.unusedVariables false
set_option linter.unusedSimpArgs false
namespace Go.Proofs.YtkcifdblaboodaaGreat.Fw
open Go Go.RowKit


/-- Cells that are data, one behind the other. -/
def Data (g : Gh) (t : Ty) (xs : List t.den) (us : List Value) : Prop :=
  us.length = xs.length * t.size ∧ ∀ (k : Nat) (x : t.den), xs[k]? = some x → RL g (enc t (fun _ => x) []) ((us.drop (k * t.size)).take t.size)
theorem drop_add (u us : List Value) (n : Nat) : (u ++ us).drop (u.length + n) = us.drop n := by
  rw [← List.drop_drop, List.drop_left]
theorem Data.nil (g : Gh) (t : Ty) : Data g t [] [] := ⟨by simp, fun k x h => by simp at h⟩
theorem Data.cons {g : Gh} {t : Ty} {x : t.den} {xs : List t.den} {u us : List Value} (h : RL g (enc t (fun _ => x) []) u) (hs : Data g t xs us) : Data g t (x :: xs) (u ++ us) := by
  have hl : u.length = t.size := by rw [← h.length, enc_length]
  refine ⟨by rw [List.length_append, hs.1, hl, List.length_cons, Nat.add_mul]; omega, fun k y hk => ?_⟩
  cases k with
  | zero =>
    simp at hk; subst hk
    rw [Nat.zero_mul, List.drop_zero, ← hl, List.take_left]; exact h
  | succ k =>
    have := hs.2 k y (by simpa using hk)
    rw [show (k + 1) * t.size = u.length + k * t.size by rw [Nat.add_mul, hl]; omega, drop_add]
    exact this
theorem Data.append {g : Gh} {t : Ty} : ∀ {xs ys : List t.den} {us vs : List Value}, Data g t xs us → Data g t ys vs → Data g t (xs ++ ys) (us ++ vs) := by
  intro xs ys us vs h h'
  refine ⟨by rw [List.length_append, h.1, h'.1, List.length_append, Nat.add_mul], fun k y hk => ?_⟩
  rcases Nat.lt_or_ge k xs.length with hlt | hge
  · rw [List.getElem?_append_left hlt] at hk
    have h1 : k * t.size + t.size ≤ us.length := by rw [h.1, ← Nat.succ_mul]; exact Nat.mul_le_mul_right _ hlt
    rw [List.drop_append_of_le_length (by omega), List.take_append_of_le_length (by rw [List.length_drop]; omega)]
    exact h.2 k y hk
  · rw [List.getElem?_append_right hge] at hk
    have := h'.2 _ y hk
    have e : k * t.size = us.length + (k - xs.length) * t.size := by rw [h.1, ← Nat.add_mul]; congr 1; omega
    rw [e, drop_add]
    exact this
theorem Data.take {g : Gh} {t : Ty} {xs : List t.den} {us : List Value} (h : Data g t xs us) (n : Nat) : Data g t (xs.take n) (us.take (n * t.size)) := by
  refine ⟨?_, fun k y hk => ?_⟩
  · rw [List.length_take, h.1, List.length_take]
    rcases Nat.le_total n xs.length with hn | hn
    · rw [Nat.min_eq_left hn, Nat.min_eq_left (Nat.mul_le_mul_right _ hn)]
    · rw [Nat.min_eq_right hn, Nat.min_eq_right (Nat.mul_le_mul_right _ hn)]
  · rw [List.getElem?_take] at hk
    split at hk
    · rename_i hlt
      have := h.2 k y hk
      have h1 : k * t.size + t.size ≤ n * t.size := by rw [← Nat.succ_mul]; exact Nat.mul_le_mul_right _ hlt
      rw [List.drop_take, List.take_take, Nat.min_eq_left (by omega)]
      exact this
    · cases hk
theorem Data.drop {g : Gh} {t : Ty} {xs : List t.den} {us : List Value} (h : Data g t xs us) (n : Nat) : Data g t (xs.drop n) (us.drop (n * t.size)) := by
  refine ⟨by rw [List.length_drop, h.1, List.length_drop, Nat.sub_mul], fun k y hk => ?_⟩
  rw [List.getElem?_drop] at hk
  have := h.2 (n + k) y hk
  rw [List.drop_drop, ← Nat.add_mul]; exact this
theorem Data.replicate {g : Gh} {t : Ty} {x : t.den} {u : List Value} (h : RL g (enc t (fun _ => x) []) u) : ∀ n, Data g t (List.replicate n x) (List.replicate n u).flatten
  | 0 => Data.nil g t
  | n + 1 => by simp only [List.replicate_succ, List.flatten_cons]; exact Data.cons h (Data.replicate h n)
theorem Data.mono {g g' : Gh} (hg : g.le g') {t : Ty} {xs : List t.den} {us : List Value} (h : Data g t xs us) : Data g' t xs us := ⟨h.1, fun k x hk => (h.2 k x hk).mono hg⟩
theorem Data.one {g : Gh} {t : Ty} : ∀ {us : List Value} {x : t.den}, RL g (enc t (fun _ => x) []) us → ∀ u ∈ us, u.oneCell' = true := by
  intro us x h u hu
  obtain ⟨i, hi, rfl⟩ := List.mem_iff_getElem.1 hu
  have hl : i < (enc t (fun _ => x) []).length := by rw [h.length]; exact hi
  have := h.at_ i _ _ (List.getElem?_eq_getElem hl) (List.getElem?_eq_getElem hi)
  have key : ∀ (t : Ty) (x : Unit → t.den) (j : Nat) (y : AV), (enc t x [])[j]? = some y → ∀ u, R g y u → u.oneCell' = true := by
    intro t
    induction t with
    | int k => intro x j y h u hr; cases j <;> simp [enc] at h; subst h; cases hr; rfl
    | bool => intro x j y h u hr; cases j <;> simp [enc] at h; subst h; cases hr; rfl
    | str => intro x j y h u hr; cases j <;> simp [enc] at h; subst h; cases hr; rfl
    | list e => intro x j y h u hr; cases j <;> simp [enc] at h; subst h; cases hr; rfl
    | pair a b iha ihb =>
      intro x j y h u hr
      simp only [enc] at h
      rw [enc_append, List.getElem?_append] at h
      split at h
      · exact iha _ _ _ h _ hr
      · exact ihb _ _ _ h _ hr
  exact key t _ i _ (List.getElem?_eq_getElem hl) _ this
theorem Data.all_one {g : Gh} {t : Ty} {xs : List t.den} {us : List Value} (h : Data g t xs us) : ∀ u ∈ us, u.oneCell' = true := by
  intro u hu
  obtain ⟨i, hi, rfl⟩ := List.mem_iff_getElem.1 hu
  have hp := Ty.size_pos t
  have hk : i / t.size < xs.length := by rw [Nat.div_lt_iff_lt_mul hp, ← h.1]; exact hi
  have hd := h.2 (i / t.size) _ (List.getElem?_eq_getElem hk)
  have hm : i % t.size < t.size := Nat.mod_lt _ hp
  have he := Nat.div_add_mod i t.size
  refine Data.one hd _ (List.mem_iff_getElem?.2 ⟨i % t.size, ?_⟩)
  rw [List.getElem?_take, if_pos hm, List.getElem?_drop, Nat.mul_comm, he, List.getElem?_eq_getElem hi]

/-- A chunk of data, as cells. -/
theorem sat_data {g : Gh} {i : Nat} {w : World} {T : TypeId} {t : Ty} {xs : Unit → List t.den} {cap : Nat} (h : (Chunk.vect T t xs).sat g i w) (hV : g.V i = some cap) :
    ∃ vs : Array Value, w.heap[g.B i]? = some (.cells vs T (0, 0)) ∧ vs.size = cap * t.size ∧ (xs ()).length ≤ cap ∧ (xs ()).length = g.L i ∧ Data g t (xs ()) (vs.toList.take ((xs ()).length * t.size)) := by
  obtain ⟨h1, h2, h3⟩ := h
  obtain ⟨vs, h4, h5, h6, h7⟩ := h3 cap hV
  refine ⟨vs, h4, h5, h6, h1, ?_, fun k x hk => ?_⟩
  · rw [List.length_take]
    have : (xs ()).length * t.size ≤ cap * t.size := Nat.mul_le_mul_right _ h6
    simp; omega
  · have hlt : k < (xs ()).length := (List.getElem?_eq_some_iff.1 hk).1
    have hl : k * t.size + t.size ≤ (xs ()).length * t.size := by rw [← Nat.succ_mul]; exact Nat.mul_le_mul_right _ hlt
    rw [List.drop_take, List.take_take, Nat.min_eq_left (by omega)]
    exact h7 k x hk
theorem sat_of_data {g : Gh} {i : Nat} {w : World} {T : TypeId} {t : Ty} {xs : Unit → List t.den} {cap : Nat} {vs : Array Value} (hV : g.V i = some cap) (hL : (xs ()).length = g.L i)
    (hb : w.heap[g.B i]? = some (.cells vs T (0, 0))) (hs : vs.size = cap * t.size) (hc : (xs ()).length ≤ cap) (hd : Data g t (xs ()) (vs.toList.take ((xs ()).length * t.size))) : (Chunk.vect T t xs).sat g i w := by
  show _ ∧ _ ∧ _
  refine ⟨hL, ?_, ?_⟩
  · intro h; rw [hV] at h; cases h
  intro cap' hc'
  rw [hV] at hc'; cases hc'
  refine ⟨vs, hb, hs, hc, fun k x hk => ?_⟩
  have hlt : k < (xs ()).length := (List.getElem?_eq_some_iff.1 hk).1
  have hl : k * t.size + t.size ≤ (xs ()).length * t.size := by rw [← Nat.succ_mul]; exact Nat.mul_le_mul_right _ hlt
  have := hd.2 k x hk
  rwa [List.drop_take, List.take_take, Nat.min_eq_left (by omega)] at this
end Go.Proofs.YtkcifdblaboodaaGreat.Fw
set_option linter.unusedVariables false
set_option linter.unusedSimpArgs false
namespace Go.Proofs.YtkcifdblaboodaaGreat.Fw
open Go Go.RowKit

/-- What an operation comes to. -/
def Done (P : Program) (o : Oper) (a : Act) (w : World) (B : Base) (K : AV → Env → List Chunk → Prop) : Prop :=
  ∃ n c r w' g' env' E', (execOp a.eval o).run P w = .ok n w' ∧ (n = .value c ∨ (n = .skip ∧ c = Go.undef)) ∧ Inv B g' env' E' a.tmps w' ∧ R g' r c ∧ K r env' E'

section
variable {P : Program} {B : Base} {g : Gh} {env : Env} {E : List Chunk} {tmps : Array Value} {w : World}

theorem setRow_set {b : Nat} {old : Array Value} {T : TypeId} (h : w.heap[b]? = some (.cells old T (0, 0))) (cs : Array Value) : WSet w (w.setRow b cs) b (.cells cs T (0, 0)) :=
  ⟨rfl, rfl, rfl, by simp, setRow_heap w b old cs T _ h, fun k hk => setRow_other w b k cs hk⟩

/-- New cells. -/
theorem Inv.newCells (h : Inv B g env E tmps w) (T : TypeId) {cs : List AV} {vs : Array Value} (hr : RL g cs vs.toList) (v : Option Nat) (l : Nat) :
    Inv B (g.add w.heap.size v l) env (addE E (.cells T cs)) tmps { w with heap := w.heap.push (.cells vs T) } := by
  have hw := WNew.push w (.cells vs T)
  refine h.new (c := .cells T cs) hw.os hw.tape hw.output (by rw [hw.size]; omega) hw.else_ ⟨vs, ?_, hr.mono (g.le_add _ _ _)⟩ (fun b' hb' => ?_)
  · simp only [Gh.add, if_true]; exact hw.at_
  · simp [Chunk.blk, Gh.add] at hb'; omega
theorem R_new (g : Gh) (E : List Chunk) (hl : lenE E = g.n) (b : Nat) (v : Option Nat) (l : Nat) : R (g.add b v l) (.ptr (lenE E) 0) (.pointer (some ⟨b, 0, none⟩)) := by
  have := R.ptr (g := g.add b v l) g.n 0 (by simp [Gh.add])
  simpa [Gh.add, hl] using this
/-- New data. -/
theorem Inv.newData (h : Inv B g env E tmps w) (T : TypeId) {t : Ty} {xs : Unit → List t.den} {vs : Array Value} {cap : Nat} (hs : vs.size = cap * t.size) (hc : (xs ()).length ≤ cap)
    (hd : Data g t (xs ()) (vs.toList.take ((xs ()).length * t.size))) {w' : World} (hw : WNew w w' (.cells vs T)) :
    Inv B (g.add w.heap.size (some cap) (xs ()).length) env (addE E (.vect T t xs)) tmps w' := by
  refine h.new (c := .vect T t xs) hw.os hw.tape hw.output (by rw [hw.size]; omega) hw.else_ (sat_of_data (cap := cap) (vs := vs) (by simp [Gh.add]) (by simp [Gh.add]) (by simp only [Gh.add, if_true]; exact hw.at_) hs hc (hd.mono (g.le_add _ _ _))) (fun b' hb' => ?_)
  simp [Chunk.blk, Gh.add] at hb'; omega
theorem R_newVec (g : Gh) (E : List Chunk) (hl : lenE E = g.n) (b cap l s : Nat) (n : Unit → Nat) (hn : n () ≤ l) (hc : l ≤ cap) (hcap : cap ≤ 9223372036854775807) :
    R (g.add b (some cap) l) (.vec (lenE E) s (fun _ => 0) n) (.slice (some ⟨b, 0, none⟩) (n ()) cap) := by
  rw [hl]
  refine .vec g.n s (fun _ => 0) n _ _ (by simp [Gh.add]) (by simp [Gh.add]; exact hn) (by simp [Gh.add]) (fun cap' hc' => ?_)
  simp [Gh.add] at hc'
  subst hc'
  simp [Gh.add]
  omega

theorem okL_ok {g : Gh} : ∀ {cs : List AV} {us : List Value}, okL cs = true → RL g cs us → ∀ u ∈ us, u.oneCell' = true
  | [], [], _, _, u, hu => by simp at hu
  | c :: cs, v :: us, h, hr, u, hu => by
    simp only [okL] at h
    split at h
    · rename_i hc
      rcases List.mem_cons.1 hu with rfl | hu
      · have := hr.1
        cases this <;> first | rfl | (simp [okC] at hc; done)
      · exact okL_ok h hr.2 u hu
    · cases h

theorem storeVar_cells {t sz : Nat} (hs : tsize P t = some sz) {b off : Nat} {old : Array Value} {T : TypeId} (hb : w.heap[b]? = some (.cells old T (0, 0))) {v : Value} (hv : v.cells.size = sz) (hl : off + v.cells.size ≤ old.size)
    (h1 : ∀ u ∈ v.cells.toList, u.oneCell' = true) :
    (storeVar t ⟨b, off, none⟩ v).run P w = .ok () (w.setRow b (old.toList.take off ++ v.cells.toList ++ old.toList.drop (off + v.cells.toList.length)).toArray) := by
  have := run_storeCells_at P b off T v.cells.toList 0 old w hb (by simpa using hl) h1
  simp only [Nat.add_zero] at this
  simp [storeVar, tsize_size hs, hv, this]

/-- Chunk i never turns again. -/
theorem frz_ok2 {i : Nat} {cs : List AV} {us : List Value} {K : Env → List Chunk → List AV → Prop} (h : Inv B g env E tmps w) (hr : RL g cs us) (hk : frz i env E cs K) :
    ∃ g' env' E' cs', Inv B g' env' E' tmps w ∧ RL g' cs' us ∧ K env' E' cs' ∧ (g'.n = g.n ∧ g'.B = g.B ∧ g'.V = g.V ∧ g'.L = g.L ∧ g'.k = g.k) ∧ (∀ b o, g.Φ b = some o → g'.Φ b = some o) ∧
      (∀ b o, g'.Φ b = some o → g.Φ b = some o ∨ (getE E i).blk g i = some b) ∧ (∀ b, (getE E i).blk g i = some b → ∃ o, g'.Φ b = some o) := by
  unfold frz at hk
  split at hk <;> try exact hk.elim
  rename_i T t xs hE
  rw [fEnv_eq, fEE_eq, fL_eq] at hk
  have hs := h.sim.sat i
  rw [hE] at hs
  have hi : i < lenE E := getE_lt (by rw [hE]; simp)
  -- the ghost: the block is one of those that never turn
  let g' : Gh := { g with Φ := fun b => match g.V i with | none => g.Φ b | some _ => if b = g.B i then w.heap[g.B i]? else g.Φ b }
  have hblk : ∀ cap, g.V i = some cap → (getE E i).blk g i = some (g.B i) := fun cap hV => by rw [hE]; simp [Chunk.blk, hV]
  have hΦ : ∀ b o, g.Φ b = some o → g'.Φ b = some o := by
    intro b o hb
    show (match g.V i with | none => g.Φ b | some _ => if b = g.B i then w.heap[g.B i]? else g.Φ b) = some o
    split
    · exact hb
    · rename_i cap hV
      rw [if_neg (fun e => by subst e; rw [h.sim.dphi i _ (hblk cap hV)] at hb; cases hb)]
      exact hb
  -- what leads to the chunk
  have hat : ∀ cap, g.V i = some cap → ∀ (k : Nat) (x : t.den), (xs ())[k]? = some x → ∃ u : Nat → Value, ∀ (j : Nat) (y : AV), (enc t (fun _ => x) [])[j]? = some y → At g' (some ⟨g.B i, 0, none⟩) (k * t.size + j) (u j) ∧ R g' y (u j) := by
    intro cap hV k x hk
    obtain ⟨vs, hb, hsz, hc, hl, hd⟩ := sat_data hs hV
    have hdx := (hd.2 k x hk).mono_data hΦ
    refine ⟨fun j => ((((vs.toList.take ((xs ()).length * t.size)).drop (k * t.size)).take t.size).getD j Go.undef), fun j y hy => ?_⟩
    obtain ⟨u, hu, hru⟩ := hdx.get hy
    have e : (((vs.toList.take ((xs ()).length * t.size)).drop (k * t.size)).take t.size).getD j Go.undef = u := by simp [List.getD, hu]
    simp only [e]
    refine ⟨⟨g.B i, 0, vs, T, (0, 0), rfl, ?_, ?_⟩, hru⟩
    · show (match g.V i with | none => g.Φ (g.B i) | some _ => if g.B i = g.B i then w.heap[g.B i]? else g.Φ (g.B i)) = _
      rw [hV]; simp [hb]
    · rw [List.getElem?_take] at hu
      split at hu
      · rw [List.getElem?_drop, List.getElem?_take] at hu
        split at hu
        · simpa using hu
        · cases hu
      · cases hu
  have hleaf : ∀ v u, isRef v = true → R g v u → R g' (frzF i t xs v) u := by
    intro v u hv hr
    cases hr <;> first | (cases hv; done) | skip
    · rename_i j off hj
      simp only [frzF]; split
      · exact .undef _
      · exact .ptr (g := g') j off hj
    · rename_i j sz idx off hj hL
      simp only [frzF]; split
      · rename_i hji
        have hji := Nat.eq_of_beq_eq_true hji
        subst hji
        split
        · rename_i hsz
          have hsz := Nat.eq_of_beq_eq_true hsz
          subst hsz
          have hlt : idx () < (xs ()).length := by have := hs.1; omega
          cases hV : g.V j with
          | none => have := hs.2.1 hV; rw [this] at hlt; simp at hlt
          | some cap =>
            obtain ⟨u, hu⟩ := hat cap hV (idx ()) _ (List.getElem?_eq_getElem hlt)
            have e : (fun u => (xs u).getD (idx u) t.dflt) = (fun _ => (xs ())[idx ()]'hlt) := by funext u; cases u; simp [List.getD, List.getElem?_eq_getElem hlt]
            rw [e]
            exact .iptr t _ off (g.B j) (idx () * t.size) u (fun k y hy => by
              obtain ⟨⟨b, o, cells, T', fr, h1, h2, h3⟩, _⟩ := hu k y hy
              cases h1
              exact ⟨_, _, cells, T', fr, rfl, h2, by rw [← h3]; congr 1; omega⟩) (fun k y hy => (hu k y hy).2)
        · exact .undef _
      · exact .eptr (g := g') j sz idx off hj hL
    · rename_i j s o n A c hj hL hn hs'
      simp only [frzF]; split
      · rename_i hji
        have hji := Nat.eq_of_beq_eq_true hji
        subst hji
        split
        · rename_i hsz
          have hsz := Nat.eq_of_beq_eq_true hsz
          subst hsz
          have hlen : (((xs ()).drop (o ())).take (n ())).length = n () := by have := hs.1; simp; omega
          have hcn : n () ≤ c := by
            cases hV : g.V j with
            | none => have := hn hV; omega
            | some cap => have := hs' cap hV; omega
          have hmn : n () ≤ 9223372036854775807 := by
            cases hV : g.V j with
            | none => have := hn hV; omega
            | some cap => have := hs' cap hV; omega
          have key : ∀ (k : Nat) (x : t.den), (((xs ()).drop (o ())).take (n ()))[k]? = some x → ∃ u : Nat → Value, ∀ (m : Nat) (y : AV), (enc t (fun _ => x) [])[m]? = some y → At g' A (k * t.size + m) (u m) ∧ R g' y (u m) := by
            intro k x hx
            have hk : k < n () := by rw [← hlen]; exact (List.getElem?_eq_some_iff.1 hx).1
            rw [List.getElem?_take, if_pos hk, List.getElem?_drop] at hx
            cases hV : g.V j with
            | none => have := (hn hV).2.1; omega
            | some cap =>
              obtain ⟨u, hu⟩ := hat cap hV _ x hx
              obtain ⟨_, _, _, hA, _⟩ := hs' cap hV
              have hA := hA (.inl (by have := hs' cap hV; omega))
              subst hA
              refine ⟨u, fun m y hy => ?_⟩
              obtain ⟨⟨b, o', cells, T', fr, h1, h2, h3⟩, h4⟩ := hu m y hy
              cases h1
              exact ⟨⟨_, _, cells, T', fr, rfl, h2, by rw [← h3]; congr 1; rw [Nat.add_mul]; omega⟩, h4⟩
          have hfun : ∃ u : Nat → Nat → Value, ∀ (k : Nat) (x : t.den), (((xs ()).drop (o ())).take (n ()))[k]? = some x → ∀ (m : Nat) (y : AV), (enc t (fun _ => x) [])[m]? = some y → At g' A (k * t.size + m) (u k m) ∧ R g' y (u k m) := by
            refine ⟨fun k => if hk : k < (((xs ()).drop (o ())).take (n ())).length then Classical.choose (key k _ (List.getElem?_eq_getElem hk)) else fun _ => Go.undef, fun k x hx => ?_⟩
            obtain ⟨hk, rfl⟩ := List.getElem?_eq_some_iff.1 hx
            simp only [hk, dif_pos]
            exact Classical.choose_spec (key k _ (List.getElem?_eq_getElem hk))
          obtain ⟨u, hu⟩ := hfun
          have := R.lst (g := g') t (fun u => ((xs u).drop (o u)).take (n u)) A c u (by show (((xs ()).drop (o ())).take (n ())).length ≤ c; omega) (by show (((xs ()).drop (o ())).take (n ())).length ≤ _; omega)
            (fun k x m y h1 h2 => (hu k x h1 m y h2).1) (fun k x m y h1 h2 => (hu k x h1 m y h2).2)
          have e : ((fun u => ((xs u).drop (o u)).take (n u)) ()).length = n () := hlen
          rw [e] at this
          exact this
        · exact .undef _
      · exact .vec (g := g') j s o n A c hj hL hn hs'
    · rename_i j hj
      simp only [frzF]; split
      · exact .undef _
      · exact .mp (g := g') j hj
  have hphi : ∀ b o, g'.Φ b = some o → g.Φ b = some o ∨ ((getE E i).blk g i = some b ∧ w.heap[b]? = some o) := by
    intro b o hb
    have hm : (match g.V i with | none => g.Φ b | some _ => if b = g.B i then w.heap[g.B i]? else g.Φ b) = some o := hb
    clear hb
    split at hm
    · exact .inl hm
    · rename_i cap hV
      split at hm
      · rename_i e
        subst e
        exact .inr ⟨hblk cap hV, hm⟩
      · exact .inl hm
  refine ⟨g', _, _, _, h.turn (g' := g') (frzF i t xs) (c := .none) ⟨T, t, xs, hE⟩ rfl rfl hΦ hleaf hi (fun j _ => ⟨rfl, rfl, rfl⟩) rfl rfl rfl (Nat.le_refl _) (fun _ _ _ => rfl) trivial (fun b hb => by cases hb) (fun b o hb => ?_), hr.map _ hΦ hleaf, hk, ⟨rfl, rfl, rfl, rfl, rfl⟩, hΦ, fun b o hb => (hphi b o hb).imp id And.left, fun b hb => ?_⟩
  rotate_left
  · rw [hE] at hb
    cases hV : g.V i with
    | none => simp [Chunk.blk, hV] at hb
    | some cap =>
      simp [Chunk.blk, hV] at hb
      subst hb
      obtain ⟨vs, hbv, _⟩ := sat_data hs hV
      refine ⟨.cells vs T (0, 0), ?_⟩
      · show (match g.V i with | none => g.Φ (g.B i) | some _ => if g.B i = g.B i then w.heap[g.B i]? else g.Φ (g.B i)) = _
        rw [hV]; simp only [if_true]; exact hbv
  rcases hphi b o hb with h1 | ⟨h1, h2⟩
  · exact .inl h1
  · exact .inr ⟨h1, h2, fun h => by cases h⟩
theorem frz_ok {i : Nat} {cs : List AV} {us : List Value} {K : Env → List Chunk → List AV → Prop} (h : Inv B g env E tmps w) (hr : RL g cs us) (hk : frz i env E cs K) :
    ∃ g' env' E' cs', Inv B g' env' E' tmps w ∧ RL g' cs' us ∧ K env' E' cs' := by
  obtain ⟨g', env', E', cs', h1, h2, h3, _⟩ := frz_ok2 h hr hk
  exact ⟨g', env', E', cs', h1, h2, h3⟩

theorem frzAll_ok : ∀ (n : Nat) {g : Gh} {env : Env} {E : List Chunk} {cs : List AV} {us : List Value} {K : Env → List Chunk → List AV → Prop}, Inv B g env E tmps w → RL g cs us → frzAll n env E cs K →
    ∃ g' env' E' cs', Inv B g' env' E' tmps w ∧ RL g' cs' us ∧ K env' E' cs'
  | 0, g, env, E, cs, us, K, h, hr, hk => ⟨g, env, E, cs, h, hr, hk⟩
  | n + 1, g, env, E, cs, us, K, h, hr, hk => by
    simp only [frzAll] at hk
    split at hk
    · exact ⟨g, env, E, cs, h, hr, hk⟩
    · obtain ⟨g', env', E', cs', h1, h2, h3⟩ := frz_ok h hr hk
      exact frzAll_ok n h1 h2 h3
end
end Go.Proofs.YtkcifdblaboodaaGreat.Fw
set_option linter.unusedVariables false
set_option linter.unusedSimpArgs false
namespace Go.Proofs.YtkcifdblaboodaaGreat.Fw
open Go Go.RowKit

theorem row_eq {α : Type} (V c : List α) (N p s off : Nat) (hN : N ≤ V.length) (hp : p + s ≤ N) (hc : off + c.length ≤ s) :
    (V.take (p + off) ++ c ++ V.drop (p + off + c.length)).take N =
      (V.take N).take p ++ ((((V.take N).drop p).take s).take off ++ c ++ (((V.take N).drop p).take s).drop (off + c.length)) ++ (V.take N).drop (p + s) := by
  apply List.ext_getElem?
  intro k
  simp only [List.getElem?_append, List.getElem?_take, List.getElem?_drop, List.length_append, List.length_take, List.length_drop]
  grind
theorem flatten_rep (l : List Value) : ∀ (n i : Nat), i < n * l.length → (List.replicate n l).flatten[i]? = l[i % l.length]?
  | 0, i, h => by simp at h
  | n + 1, i, h => by
    rw [List.replicate_succ, List.flatten_cons, List.getElem?_append]
    split
    · rename_i hi; rw [Nat.mod_eq_of_lt hi]
    · rename_i hi
      have hle : l.length ≤ i := by omega
      rw [flatten_rep l n (i - l.length) (by rw [Nat.add_mul] at h; omega)]
      congr 1
      rw [Nat.mod_eq_sub_mod hle]
theorem made_list (z : Array Value) (n : Nat) : ((Array.range (n * z.size)).map (z[· % z.size]!)).toList = (List.replicate n z.toList).flatten := by
  apply List.ext_getElem?
  intro i
  have hl : ((List.replicate n z.toList).flatten).length = n * z.size := by simp
  by_cases hi : i < n * z.size
  · rw [flatten_rep _ n i (by simpa using hi)]
    have hz : 0 < z.size := by rcases Nat.eq_zero_or_pos z.size with h | h; · rw [h] at hi; simp at hi
                               · exact h
    have hm : i % z.size < z.size := Nat.mod_lt _ hz
    simp [hi, hm]
  · rw [List.getElem?_eq_none (by simp; omega), List.getElem?_eq_none (by omega)]

section
variable {P : Program} {B : Base} {g : Gh} {env : Env} {E : List Chunk} {tmps : Array Value} {w : World}

theorem decN_ok {t : Ty} : ∀ (n : Nat) (cs : List AV) (us : List Value) (K : (Unit → List t.den) → Prop), decN t n cs K → RL g cs us → ∃ xs, (xs ()).length = n ∧ Data g t (xs ()) us ∧ K xs
  | 0, [], [], K, h, hr => ⟨_, rfl, Data.nil g t, h⟩
  | 0, _ :: _, _, K, h, hr => by simp [decN] at h
  | n + 1, cs, us, K, h, hr => by
    simp only [decN] at h
    obtain ⟨x, rest, u1, u2, rfl, h1, h2, h3⟩ := dec_ok t cs us _ h hr
    obtain ⟨xs, h4, h5, h6⟩ := decN_ok n rest u2 _ h3 h2
    refine ⟨fun u => x u :: xs u, by simp [h4], ?_, h6⟩
    exact Data.cons (by rw [enc_const]; exact h1) h5

theorem zeros_ok {z : Value} {cs : List AV} (h : cellsO (cst z) = some cs) (n : Nat) : RL g ((List.replicate n cs).flatten) ((List.replicate n z.cells.toList).flatten) := by
  have hr := (R_cst g z).cells h
  induction n with
  | zero => exact trivial
  | succ n ih => simp only [List.replicate_succ, List.flatten_cons]; exact hr.append ih

variable {a : Act} {o : Oper} {K : AV → Env → List Chunk → Prop}

theorem alloc_ok {e : TypeId} (h : Inv B g env E a.tmps w) (ho : o.op = .alloc e) (hk : eV P (.alloc e) env E K) : Done P o a w B K := by
  simp only [eV] at hk
  split at hk <;> try exact hk.elim
  rename_i z hz
  split at hk <;> try exact hk.elim
  rename_i cs hcs
  rw [fL_eq, fN_eq, fEE_eq] at hk
  have hr := (R_cst g z).cells hcs
  refine ⟨_, _, _, _, _, _, _, ?_, .inl rfl, h.newCells e (vs := z.cells) hr Option.none 0, R_new g E h.sim.len _ _ _, hk⟩
  simp [execOp, ho, Instr.alloc, tzero_zero hz, newVar, newRow]
theorem box_ok {e : TypeId} {x : Operand} (h : Inv B g env E a.tmps w) (ho : o.op = .box e x) (hk : eV P (.box e x) env E K) : Done P o a w B K := by
  simp only [eV] at hk
  split at hk <;> try exact hk.elim
  rename_i cs hcs
  rw [fN_eq, fEE_eq] at hk
  have hr := (h.er.ev x).cells hcs
  refine ⟨_, _, _, _, _, _, _, ?_, .inl rfl, h.newCells e (vs := (a.eval x).cells) hr Option.none 0, R_new g E h.sim.len _ _ _, hk⟩
  simp [execOp, ho, Instr.box, newVar, newRow]

theorem makeMap_ok {t : TypeId} (h : Inv B g env E a.tmps w) (ho : o.op = .makeMap t none) (hk : eV P (.makeMap t none) env E K) : Done P o a w B K := by
  simp only [eV] at hk
  split at hk <;> try exact hk.elim
  rename_i kt et ht
  split at hk <;> try exact hk.elim
  rename_i k hkt
  rw [fN_eq, fEE_eq] at hk
  have hle := g.le_add w.heap.size Option.none 0
  have hn := WNew.push w (.map #[] 0)
  have hinv := h.new (w' := { w with heap := w.heap.push (.map #[] 0) }) (c := .smp k [] []) (b := w.heap.size) (v := Option.none) (l := 0) hn.os hn.tape hn.output (by rw [hn.size]; omega) hn.else_
    ⟨#[], 0, by simp [Gh.add], rfl, trivial⟩ (fun b' hb' => by simp [Chunk.blk, Gh.add] at hb'; omega)
  refine ⟨_, .map (some w.heap.size), _, _, _, _, _, ?_, .inl rfl, hinv, ?_, hk⟩
  · simp [execOp, ho, Instr.makeMap, Result.andThen]
  · have := R.mp (g := g.add w.heap.size Option.none 0) (lenE E) (by rw [h.sim.len]; simp [Gh.add])
    have e : (g.add w.heap.size Option.none 0).B (lenE E) = w.heap.size := by rw [h.sim.len]; simp [Gh.add]
    rwa [e] at this
theorem notIn_ok {n : Int} : ∀ {ks : List Int}, notIn n ks = true → n ∉ ks
  | [], _ => by simp
  | k :: r, h => by
    simp only [notIn] at h
    split at h
    · cases h
    · rename_i hne _
      intro hm
      rcases List.mem_cons.1 hm with rfl | hm
      · exact hne rfl
      · exact notIn_ok h hm
theorem findNow_none {k d : IntKind} {n : Int} : ∀ {ks : List Int} {es : List MapEntry} (i : Nat), n ∉ ks → es.map (·.key) = ks.map (Value.int k) → Instr.findNow (.int d) (.int k n) es i = some none
  | [], [], _, _, _ => rfl
  | [], _ :: _, _, _, hk => by simp at hk
  | _ :: _, [], _, _, hk => by simp at hk
  | k0 :: ks, e :: es, i, hn, hk => by
    simp only [List.map_cons, List.cons.injEq] at hk
    simp only [List.mem_cons, not_or] at hn
    have hb : (n == k0) = false := by simpa using hn.1
    simp only [Instr.findNow, hk.1, Instr.sameNow, if_true, hb]
    exact findNow_none (i + 1) hn.2 hk.2
theorem putM_ok {t : TypeId} {k : IntKind} {n : Int} {m x : Operand} (h : Inv B g env E a.tmps w) (ho : o.op = .insert t m (.const (.int k n)) x) (hk : putM P t k n (ev env m) (ev env x) env E K) : Done P o a w B K := by
  unfold putM at hk
  have hm := h.er.ev m
  have hx := h.er.ev x
  split at hk <;> try exact hk.elim
  rename_i i em
  rw [em] at hm
  split at hk <;> try exact hk.elim
  rename_i kt et k' ks vs ht hE
  split at hk <;> try exact hk.elim
  rename_i d e2 hkt hdq hni
  subst e2
  rw [fEE_eq] at hk
  have hs := h.sim.sat i
  rw [hE] at hs
  obtain ⟨es, cl, h1, h2, h3⟩ := hs
  have hu : a.eval m = .map (some (g.B i)) := by generalize a.eval m = u at hm; cases hm; rfl
  have hck : (Instr.checkKey false 10000 kt (.int k n)).run P w = .ok () w := by
    unfold Instr.checkKey
    simp only [Sem.run_bind, tund_run hkt, Result.andThen_ok]
    rfl
  have hfn := findNow_none (d := d) 0 (notIn_ok hni) h2
  have hset : WSet w { w with heap := w.heap.setIfInBounds (g.B i) (.map (es.push { key := .int k n, val := a.eval x, born := cl }) (cl + 1)) } (g.B i) (.map (es.push { key := .int k n, val := a.eval x, born := cl }) (cl + 1)) :=
    ⟨rfl, rfl, rfl, by simp, (MapKept.heap_set h1).1, (MapKept.heap_set h1).2⟩
  refine ⟨.skip, Go.undef, .skip, _, g, env, _, ?_, .inr ⟨rfl, rfl⟩, h.set (c := .smp k (ks ++ [n]) (vs ++ [ev env x])) (by rw [hE]; rfl) hset ⟨_, _, hset.at_, by simp [h2], by simpa using h3.append (cs := vs) (ds := [ev env x]) (vs := [a.eval x]) ⟨hx, trivial⟩⟩ rfl (fun T' t' xs' hc => by cases hc), .skip, hk⟩
  have he : a.eval (.const (.int k n)) = .int k n := rfl
  simp [execOp, ho, Instr.mapUpdate, tund_run ht, hu, he, MapKept.run_getObj_map h1, hck, MapKept.run_findKey (tund_und hkt) hfn, MapKept.run_setObj_map _ h1, Result.andThen]
theorem store_ok {t : TypeId} {x v : Operand} (h : Inv B g env E a.tmps w) (ho : o.op = .store t x v) (hk : eV P (.store t x v) env E K) : Done P o a w B K := by
  simp only [eV] at hk
  split at hk <;> try exact hk.elim
  rename_i cs hcs
  split at hk <;> try exact hk.elim
  rename_i sz hsz
  split at hk <;> try exact hk.elim
  rename_i hl hok
  have hlen : cs.length = sz := Nat.eq_of_beq_eq_true hl
  have hr := (h.er.ev v).cells hcs
  have hvl : (a.eval v).cells.size = sz := by have := hr.length; simp at this; omega
  have hone := okL_ok hok hr
  have hx := h.er.ev x
  split at hk <;> try exact hk.elim
  · rename_i i off ex
    rw [ex] at hx
    split at hk <;> try exact hk.elim
    rename_i T ds hE
    split at hk <;> try exact hk.elim
    rename_i ds' hput
    rw [fL_eq, fEE_eq] at hk
    have hs := h.sim.sat i
    rw [hE] at hs
    obtain ⟨vs, hb, hrl⟩ := hs
    obtain ⟨h1, h2⟩ := putX_ok off ds cs ds' vs.toList (a.eval v).cells.toList hput hrl hr
    have hv : a.eval x = .pointer (some ⟨g.B i, off, none⟩) := by generalize a.eval x = u at hx; cases hx; rfl
    have hrun := storeVar_cells (P := P) (w := w) (t := t) hsz (off := off) hb hvl (by simpa using h2) hone
    refine ⟨.skip, Go.undef, .skip, _, g, env, _, ?_, .inr ⟨rfl, rfl⟩, h.set (c := .cells T ds') (by rw [hE]; rfl) (setRow_set hb _) ⟨_, (setRow_set hb _).at_, by simpa using h1⟩ rfl (fun T' t' xs' hc => by cases hc), .skip, hk⟩
    simp [execOp, ho, Instr.storeAt, Instr.sureAddr, hv, hrun]
  · rename_i i s j off ex
    rw [ex] at hx
    obtain ⟨g', env', E', l, hinv, hl', hk⟩ := frzAll_ok 3 (cs := AV.eptr i s j off :: cs) (us := a.eval x :: (a.eval v).cells.toList) h ⟨hx, hr⟩ hk
    split at hk <;> try exact hk.elim
    rename_i i s j off cs' 
    have hx := hl'.1
    have hr := hl'.2
    split at hk <;> try exact hk.elim
    · rename_i T ty xs hE
      split at hk <;> try exact hk.elim
      rename_i hb
      have hs' : ty.size = s := Nat.eq_of_beq_eq_true hb
      subst hs'
      split at hk <;> try exact hk.elim
      rename_i ds hput
      have hs := hinv.sim.sat i
      rw [hE] at hs
      have hv : a.eval x = .pointer (some ⟨g'.B i, j () * ty.size + off, none⟩) ∧ j () < g'.L i := by generalize a.eval x = u at hx; cases hx with | eptr _ _ _ _ _ hL => exact ⟨rfl, hL⟩
      obtain ⟨hv, hL⟩ := hv
      have hj : j () < (xs ()).length := by rw [hs.1]; exact hL
      cases hV : g'.V i with
      | none => have := hs.2.1 hV; rw [this] at hj; simp at hj
      | some cap =>
        obtain ⟨vs, hb, hsz2, hcap, hLe, hd⟩ := sat_data hs hV
        have hdj := hd.2 (j ()) _ (List.getElem?_eq_getElem hj)
        have e : (fun u => (xs u).getD (j u) ty.dflt) = (fun _ => (xs ())[j ()]'hj) := by funext u; cases u; simp [List.getD, List.getElem?_eq_getElem hj]
        rw [e] at hput
        obtain ⟨h1, h2⟩ := putX_ok off _ cs' ds _ (a.eval v).cells.toList hput hdj hr
        obtain ⟨y, h3, hk⟩ := dec1_ok hk h1
        rw [fEE_eq] at hk
        have hjl : j () * ty.size + ty.size ≤ (xs ()).length * ty.size := by rw [← Nat.succ_mul]; exact Nat.mul_le_mul_right _ hj
        have hxc : (xs ()).length * ty.size ≤ cap * ty.size := Nat.mul_le_mul_right _ hcap
        have hel : (List.take ty.size (List.drop (j () * ty.size) (List.take ((xs ()).length * ty.size) vs.toList))).length = ty.size := by
          rw [← hdj.length, enc_length]
        have hfit : off + (a.eval v).cells.toList.length ≤ ty.size := by rw [hel] at h2; exact h2
        have hrun := storeVar_cells (P := P) (w := w) (t := t) hsz (off := j () * ty.size + off) hb hvl (by simp at hfit; omega) hone
        -- the new row
        let row : List Value := vs.toList.take (j () * ty.size + off) ++ (a.eval v).cells.toList ++ vs.toList.drop (j () * ty.size + off + (a.eval v).cells.toList.length)
        have hset := setRow_set hb row.toArray
        have hrowlen : row.length = cap * ty.size := by
          simp only [row, List.length_append, List.length_take, List.length_drop, Array.length_toList]
          simp at hfit ⊢
          omega
        refine ⟨.skip, Go.undef, .skip, _, g', env', _, ?_, .inr ⟨rfl, rfl⟩, hinv.set (c := .vect T ty fun u => (xs u).set (j u) (y u)) (by rw [hE]; simp [Chunk.blk, hV]) hset (sat_of_data (cap := cap) (vs := row.toArray) hV (by simp [hLe]) hset.at_ (by simpa using hrowlen) (by simpa using hcap) ?_) (by simp [Chunk.blk, hV]) (fun _ _ _ _ => ⟨_, _, _, hE⟩), .skip, hk⟩
        · simp [execOp, ho, Instr.storeAt, Instr.sureAddr, hv, hrun, row]
        · -- the data of the new row
          have hrow : row.toArray.toList.take (((fun u => (xs u).set (j u) (y u)) ()).length * ty.size) =
              (vs.toList.take ((xs ()).length * ty.size)).take (j () * ty.size) ++ ((((vs.toList.take ((xs ()).length * ty.size)).drop (j () * ty.size)).take ty.size).take off ++ (a.eval v).cells.toList ++ (((vs.toList.take ((xs ()).length * ty.size)).drop (j () * ty.size)).take ty.size).drop (off + (a.eval v).cells.toList.length)) ++ (vs.toList.take ((xs ()).length * ty.size)).drop (j () * ty.size + ty.size) := by
            have := row_eq vs.toList (a.eval v).cells.toList ((xs ()).length * ty.size) (j () * ty.size) ty.size off (by simp; omega) hjl hfit
            simpa [row] using this
          rw [hrow]
          have hlen' : (xs ()).set (j ()) (y ()) = (xs ()).take (j ()) ++ [y ()] ++ (xs ()).drop (j () + 1) := by
            rw [List.set_eq_take_append_cons_drop]
            simp [hj]
          show Data g' ty ((xs ()).set (j ()) (y ())) _
          rw [hlen']
          have d1 := hd.take (j ())
          have d3 := hd.drop (j () + 1)
          have d2 : Data g' ty [y ()] ((((vs.toList.take ((xs ()).length * ty.size)).drop (j () * ty.size)).take ty.size).take off ++ (a.eval v).cells.toList ++ (((vs.toList.take ((xs ()).length * ty.size)).drop (j () * ty.size)).take ty.size).drop (off + (a.eval v).cells.toList.length)) := by
            have := Data.cons (g := g') (t := ty) (x := y ()) (xs := []) (us := []) (by rw [enc_const]; exact h3) (Data.nil g' ty)
            simpa using this
          have := (d1.append d2).append d3
          rw [Nat.add_mul, Nat.one_mul] at this
          exact this
    · rename_i T ty xs hE
      split at hk <;> try exact hk.elim
      rename_i hb
      have hs' : ty.size = s := Nat.eq_of_beq_eq_true hb
      subst hs'
      split at hk <;> try exact hk.elim
      rename_i ds hput
      have hs : (Chunk.row T ty xs).sat g' i w := by have := hinv.sim.sat i; rwa [hE] at this
      have hs : (Chunk.vect T ty xs).sat g' i w := hs
      have hv : a.eval x = .pointer (some ⟨g'.B i, j () * ty.size + off, none⟩) ∧ j () < g'.L i := by generalize a.eval x = u at hx; cases hx with | eptr _ _ _ _ _ hL => exact ⟨rfl, hL⟩
      obtain ⟨hv, hL⟩ := hv
      have hj : j () < (xs ()).length := by rw [hs.1]; exact hL
      cases hV : g'.V i with
      | none => have := hs.2.1 hV; rw [this] at hj; simp at hj
      | some cap =>
        obtain ⟨vs, hb, hsz2, hcap, hLe, hd⟩ := sat_data hs hV
        have hdj := hd.2 (j ()) _ (List.getElem?_eq_getElem hj)
        have e : (fun u => (xs u).getD (j u) ty.dflt) = (fun _ => (xs ())[j ()]'hj) := by funext u; cases u; simp [List.getD, List.getElem?_eq_getElem hj]
        rw [e] at hput
        obtain ⟨h1, h2⟩ := putX_ok off _ cs' ds _ (a.eval v).cells.toList hput hdj hr
        obtain ⟨y, h3, hk⟩ := dec1_ok hk h1
        rw [fEE_eq] at hk
        have hjl : j () * ty.size + ty.size ≤ (xs ()).length * ty.size := by rw [← Nat.succ_mul]; exact Nat.mul_le_mul_right _ hj
        have hxc : (xs ()).length * ty.size ≤ cap * ty.size := Nat.mul_le_mul_right _ hcap
        have hel : (List.take ty.size (List.drop (j () * ty.size) (List.take ((xs ()).length * ty.size) vs.toList))).length = ty.size := by
          rw [← hdj.length, enc_length]
        have hfit : off + (a.eval v).cells.toList.length ≤ ty.size := by rw [hel] at h2; exact h2
        have hrun := storeVar_cells (P := P) (w := w) (t := t) hsz (off := j () * ty.size + off) hb hvl (by simp at hfit; omega) hone
        -- the new row
        let row : List Value := vs.toList.take (j () * ty.size + off) ++ (a.eval v).cells.toList ++ vs.toList.drop (j () * ty.size + off + (a.eval v).cells.toList.length)
        have hset := setRow_set hb row.toArray
        have hrowlen : row.length = cap * ty.size := by
          simp only [row, List.length_append, List.length_take, List.length_drop, Array.length_toList]
          simp at hfit ⊢
          omega
        refine ⟨.skip, Go.undef, .skip, _, g', env', _, ?_, .inr ⟨rfl, rfl⟩, hinv.set (c := .row T ty fun u => (xs u).set (j u) (y u)) (by rw [hE]; simp [Chunk.blk, hV]) hset (sat_of_data (T := T) (t := ty) (xs := fun u => (xs u).set (j u) (y u)) (cap := cap) (vs := row.toArray) hV (by simp [hLe]) hset.at_ (by simpa using hrowlen) (by simpa using hcap) ?_) (by simp [Chunk.blk, hV]) (fun _ _ _ hc => by cases hc), .skip, hk⟩
        · simp [execOp, ho, Instr.storeAt, Instr.sureAddr, hv, hrun, row]
        · -- the data of the new row
          have hrow : row.toArray.toList.take (((fun u => (xs u).set (j u) (y u)) ()).length * ty.size) =
              (vs.toList.take ((xs ()).length * ty.size)).take (j () * ty.size) ++ ((((vs.toList.take ((xs ()).length * ty.size)).drop (j () * ty.size)).take ty.size).take off ++ (a.eval v).cells.toList ++ (((vs.toList.take ((xs ()).length * ty.size)).drop (j () * ty.size)).take ty.size).drop (off + (a.eval v).cells.toList.length)) ++ (vs.toList.take ((xs ()).length * ty.size)).drop (j () * ty.size + ty.size) := by
            have := row_eq vs.toList (a.eval v).cells.toList ((xs ()).length * ty.size) (j () * ty.size) ty.size off (by simp; omega) hjl hfit
            simpa [row] using this
          rw [hrow]
          have hlen' : (xs ()).set (j ()) (y ()) = (xs ()).take (j ()) ++ [y ()] ++ (xs ()).drop (j () + 1) := by
            rw [List.set_eq_take_append_cons_drop]
            simp [hj]
          show Data g' ty ((xs ()).set (j ()) (y ())) _
          rw [hlen']
          have d1 := hd.take (j ())
          have d3 := hd.drop (j () + 1)
          have d2 : Data g' ty [y ()] ((((vs.toList.take ((xs ()).length * ty.size)).drop (j () * ty.size)).take ty.size).take off ++ (a.eval v).cells.toList ++ (((vs.toList.take ((xs ()).length * ty.size)).drop (j () * ty.size)).take ty.size).drop (off + (a.eval v).cells.toList.length)) := by
            have := Data.cons (g := g') (t := ty) (x := y ()) (xs := []) (us := []) (by rw [enc_const]; exact h3) (Data.nil g' ty)
            simpa using this
          have := (d1.append d2).append d3
          rw [Nat.add_mul, Nat.one_mul] at this
          exact this
end
end Go.Proofs.YtkcifdblaboodaaGreat.Fw
set_option linter.unusedVariables false
set_option linter.unusedSimpArgs false
namespace Go.Proofs.YtkcifdblaboodaaGreat.Fw
open Go Go.RowKit

section
variable {P : Program} {B : Base} {g : Gh} {env : Env} {E : List Chunk} {tmps : Array Value} {w : World}
variable {a : Act} {o : Oper} {K : AV → Env → List Chunk → Prop}

theorem buildSlice_ok {t len : Nat} {parts : Array (Nat × Operand)} (h : Inv B g env E a.tmps w) (ho : o.op = .buildSlice t len parts) (hk : eV P (.buildSlice t len parts) env E K) : Done P o a w B K := by
  simp only [eV] at hk
  split at hk <;> try exact hk.elim
  rename_i e ht
  split at hk <;> try exact hk.elim
  rename_i sz z ps hsz hz hps
  split at hk <;> try exact hk.elim
  rename_i hl1 hs1
  have hl1 : len ≤ 1000 := Nat.le_of_ble_eq_true hl1
  have hs1 : sz ≤ 1000 := Nat.le_of_ble_eq_true hs1
  have hsmall : len * sz ≤ 1000000 := Nat.mul_le_mul hl1 hs1
  split at hk <;> try exact hk.elim
  rename_i zc hzc
  split at hk <;> try exact hk.elim
  rename_i cs hzl hf
  rw [fL_eq] at hk
  have hzs : zc.length = sz := Nat.eq_of_beq_eq_true hzl
  have hzr := (R_cst g z).cells hzc
  have hzsz : z.cells.size = sz := by have := hzr.length; simp at this; omega
  obtain ⟨hpl, hpp⟩ := partsV_ok h.er parts.toList ps hps
  have hp' : ∀ (i : Nat) (c : Nat × List AV), ps[i]? = some c → ∃ u : Value, (parts.toList.map fun ix => (ix.1, a.eval ix.2))[i]? = some (c.1, u) ∧ RL g c.2 u.cells.toList := by
    intro i c hi
    obtain ⟨j, x, h1, h2, h3⟩ := hpp i c hi
    exact ⟨a.eval x, by rw [List.getElem?_map, h1]; simp [h2], h3⟩
  have hzero := made_list z.cells len
  obtain ⟨out, h1, h2⟩ := fillV_ok (fun i => some (i * sz, sz)) ps (parts.toList.map fun ix => (ix.1, a.eval ix.2)) _ cs ((Array.range (len * z.cells.size)).map (z.cells[· % z.cells.size]!)) hf (by rw [hzero]; exact zeros_ok hzc len) (by simp [hpl]) hp'
  have houtl : out.size = len * sz := by
    have e1 := h2.length
    have key : ∀ (ps : List (Nat × List AV)) (cs r : List AV), fillV (fun i => some (i * sz, sz)) cs ps = some r → r.length = cs.length := by
      intro ps
      induction ps with
      | nil => intro cs r hh; simp [fillV] at hh; subst hh; rfl
      | cons p ps ih =>
        intro cs r hh
        obtain ⟨i, v⟩ := p
        simp only [fillV] at hh
        split at hh
        · split at hh
          · rename_i cs' hput
            rw [ih _ _ hh]
            have key2 : ∀ (n : Nat) (cs vs r : List AV), putX n cs vs = some r → r.length = cs.length := by
              intro n
              induction n with
              | zero =>
                intro cs
                induction cs with
                | nil => intro vs r h; cases vs <;> simp [putX] at h; subst h; rfl
                | cons c cs ihc =>
                  intro vs r h
                  cases vs with
                  | nil => simp [putX] at h; subst h; rfl
                  | cons v vs =>
                    simp only [putX] at h
                    split at h
                    · rename_i r' hr'
                      simp at h; subst h
                      simp [ihc vs r' hr']
                    · cases h
              | succ n ihn =>
                intro cs vs r h
                cases cs with
                | nil => simp [putX] at h
                | cons c cs =>
                  simp only [putX] at h
                  split at h
                  · rename_i r' hr'
                    simp at h; subst h
                    simp [ihn cs vs r' hr']
                  · cases h
            exact key2 _ _ _ _ hput
          · cases hh
        · cases hh
    have e2 := key ps _ cs hf
    simp [hzs] at e2
    simp at e1
    omega
  have hrun : (Instr.buildSlice t len (parts.map fun (i, x) => (i, a.eval x))).run P w = .ok (.slice (some ⟨w.heap.size, 0, none⟩) len len) { w with heap := w.heap.push (.cells out e) } := by
    have h1' : Instr.fill (fun i => some (i * sz, sz)) ((Array.range (len * sz)).map (z.cells[· % z.cells.size]!)) (parts.map fun (i, x) => (i, a.eval x)).toList = some out := by
      rw [← h1, hzsz]; congr 1; simp
    unfold Instr.buildSlice
    simp only [Sem.run_bind, tund_run ht, Result.andThen_ok, tsize_size hsz]
    rw [if_neg (by omega)]
    by_cases h0 : len * sz = 0
    · have e0 : ((Array.range (len * sz)).map ((#[] : Array Value)[· % (#[] : Array Value).size]!)) = ((Array.range (len * sz)).map (z.cells[· % z.cells.size]!)) := by rw [h0]; simp
      simp only [h0, if_true, Sem.run_bind, Sem.run_pure, Result.andThen_ok]
      rw [h0] at h1' e0
      rw [e0]
      simp only [h1']
      simp [newRow]
    · simp only [h0, if_false, Sem.run_bind, tzero_zero hz, Sem.run_pure, Result.andThen_ok]
      simp only [h1']
      simp [newRow]
  have hex : (execOp a.eval o).run P w = .ok (.value (.slice (some ⟨w.heap.size, 0, none⟩) len len)) { w with heap := w.heap.push (.cells out e) } := by
    simp [execOp, ho, hrun]
  split at hk
  · rename_i ty hty
    split at hk <;> try exact hk.elim
    rename_i htsz
    have htsz : ty.size = sz := Nat.eq_of_beq_eq_true htsz
    have hpos := Ty.size_pos ty
    obtain ⟨g', env', E', cs', hinv, hr', hk⟩ := frzAll_ok 8 h h2 hk
    obtain ⟨xs, hxl, hd, hk⟩ := decN_ok len cs' _ _ hk hr'
    rw [fN_eq, fEE_eq] at hk
    have hnew := hinv.newData e (xs := xs) (cap := len) (vs := out) (by rw [houtl, htsz]) (by omega) (by rw [hxl, List.take_of_length_le (by simp [houtl, htsz])]; exact hd) (WNew.push w _)
    refine ⟨_, _, _, _, _, _, _, hex, .inl rfl, hnew, ?_, hk⟩
    rw [hxl]
    exact R_newVec g' E' hinv.sim.len _ len len sz (fun _ => len) (Nat.le_refl _) (Nat.le_refl _) (by omega)
  · rw [fN_eq, fEE_eq] at hk
    exact ⟨_, _, _, _, _, _, _, hex, .inl rfl, h.newCells e h2 (some len) len, R_newVec g E h.sim.len _ len len sz (fun _ => len) (Nat.le_refl _) (Nat.le_refl _) (by omega), hk⟩

theorem makeSlice_ok {t : Nat} {l c : Operand} (h : Inv B g env E a.tmps w) (ho : o.op = .makeSlice t l c) (hk : eV P (.makeSlice t l c) env E K) : Done P o a w B K := by
  simp only [eV] at hk
  have hl := h.er.ev l
  have hc := h.er.ev c
  split at hk <;> try exact hk.elim
  rename_i l' c' el ec
  rw [el] at hl; rw [ec] at hc
  have hl := hl.int_iff
  have hc := hc.int_iff
  split at hk <;> try exact hk.elim
  rename_i e ht
  split at hk <;> try exact hk.elim
  rename_i ty sz by_ z hty hsz hby hz
  split at hk <;> try exact hk.elim
  rename_i hts
  have hts : ty.size = sz := Nat.eq_of_beq_eq_true hts
  split at hk <;> try exact hk.elim
  rename_i cs hcs
  have hzr := (R_cst g z).cells hcs
  obtain ⟨d, hd, hk⟩ := dec1_ok hk hzr
  rw [fN_eq, fEE_eq] at hk
  obtain ⟨hob, hk⟩ := hk
  obtain ⟨h0, h1, h2, h3⟩ := hob.h
  have hwl : IntKind.i64.wrap (l' ()) = l' () := IntWalk.i64_in _ (by omega)
  have hwc : IntKind.i64.wrap (c' ()) = c' () := IntWalk.i64_in _ (by omega)
  obtain ⟨ti, hti, htb⟩ : ∃ i, (typeInfo e).run P w = .ok i w ∧ i.bytes = by_ := by
    unfold tbytes at hby
    split at hby
    · rename_i i hi
      simp only [Option.some.injEq] at hby
      exact ⟨i, by simp [typeInfo, tinfo_info hi], hby⟩
    · cases hby
  have hzsz : z.cells.size = sz := by have := hd.length; rw [enc_length] at this; simp at this; omega
  let vs : Array Value := (Array.range ((c' ()).toNat * z.cells.size)).map (z.cells[· % z.cells.size]!)
  have hvs : vs.toList = (List.replicate (c' ()).toNat z.cells.toList).flatten := made_list z.cells _
  have hrun : (Instr.makeSlice t (a.eval l) (a.eval c)).run P w = .ok (.slice (some ⟨w.heap.size, 0, none⟩) (l' ()).toNat (c' ()).toNat) { w with heap := w.heap.push (.cells vs e) } := by
    unfold Instr.makeSlice
    simp only [hl, hc, Sem.run_bind, tund_run ht, Result.andThen_ok, asInt, asIntOf, Sem.run_pure, hti, htb, hwl, hwc, tsize_size hsz]
    have e48 : (2 : Int) ^ 48 = 281474976710656 := by decide
    have hcond : (decide (c' () < 0) || decide ((by_ : Int) * c' () > 2 ^ 48) || decide (l' () < 0) || decide (l' () > c' ())) = false := by
      rw [e48]
      simp only [Bool.or_eq_false_iff, decide_eq_false_iff_not]
      exact ⟨⟨⟨by omega, Int.not_lt.2 h3⟩, by omega⟩, by omega⟩
    rw [if_neg (by rw [hcond]; exact Bool.false_ne_true)]
    simp only [run_askRoom, Result.andThen_ok, Sem.run_bind, tsize_size hsz]
    by_cases h00 : (c' ()).toNat * sz = 0
    · have e0 : ((Array.range ((c' ()).toNat * sz)).map ((#[] : Array Value)[· % (#[] : Array Value).size]!)) = vs := by simp only [vs]; rw [hzsz, h00]; simp
      simp only [h00, if_true, Sem.run_bind, Sem.run_pure, Result.andThen_ok]
      rw [h00] at e0
      rw [e0]
      simp [newRow]
    · simp only [h00, if_false, Sem.run_bind, tzero_zero hz, Sem.run_pure, Result.andThen_ok]
      simp [newRow, vs, hzsz]
  have hex : (execOp a.eval o).run P w = .ok (.value (.slice (some ⟨w.heap.size, 0, none⟩) (l' ()).toNat (c' ()).toNat)) { w with heap := w.heap.push (.cells vs e) } := by
    simp [execOp, ho, hrun]
  have hdr : Data g ty (List.replicate (c' ()).toNat (d ())) vs.toList := by rw [hvs]; exact Data.replicate (by rw [enc_const]; exact hd) _
  have hle : (l' ()).toNat ≤ (c' ()).toNat := by omega
  have hdl := hdr.take (l' ()).toNat
  rw [List.take_replicate, Nat.min_eq_left hle] at hdl
  have hnew := h.newData e (t := ty) (xs := fun u => List.replicate (l' u).toNat (d u)) (cap := (c' ()).toNat) (vs := vs) (by simp [vs, hzsz, hts]) (by simp; omega) (by simpa using hdl) (WNew.push w _)
  refine ⟨_, _, _, _, _, _, _, hex, .inl rfl, hnew, ?_, hk⟩
  have := R_newVec g E h.sim.len w.heap.size (c' ()).toNat (l' ()).toNat sz (fun u => (l' u).toNat) (Nat.le_refl _) hle (by omega)
  simpa using this

theorem Inv.newPhi (h : Inv B g env E tmps w) {w' : World} {ob : Obj} (hw : WNew w w' ob) : Inv B { g with Φ := fun b => if b = w.heap.size then some ob else g.Φ b } env E tmps w' ∧ g.le { g with Φ := fun b => if b = w.heap.size then some ob else g.Φ b } := by
  have hle : g.le { g with Φ := fun b => if b = w.heap.size then some ob else g.Φ b } :=
    ⟨Nat.le_refl _, fun b o' hb => by
      have := lt_heap (h.sim.phi b o' hb)
      show (if b = w.heap.size then some ob else g.Φ b) = _
      rw [if_neg (by omega)]; exact hb, fun _ _ => rfl, fun _ _ => rfl, fun _ _ => rfl, rfl⟩
  have hbl : ∀ i, (getE E i).blk { g with Φ := fun b => if b = w.heap.size then some ob else g.Φ b } i = (getE E i).blk g i := fun i => Chunk.blk_eq rfl rfl
  refine ⟨⟨h.er.mono hle, ⟨h.sim.len, fun b o' hb => ?_, fun i => ?_, fun i j b hi hj => ?_, fun i b hi => ?_⟩, ⟨hw.os.trans h.ext.os, hw.tape.trans h.ext.tape, hw.output.trans h.ext.output, by rw [hw.size]; have := h.ext.size; omega, fun b h1 h2 => ?_, fun b o' hb => hle.phi b o' (h.ext.phi b o' hb), fun b o' hb => ?_, fun i b hi => ?_, h.ext.n, h.ext.ids, h.ext.kk, h.ext.kin⟩⟩, hle⟩
  · have hm : (if b = w.heap.size then some ob else g.Φ b) = some o' := hb
    clear hb
    split at hm
    · rename_i e; subst e; cases hm; exact hw.at_
    · have := h.sim.phi b o' hm
      rw [hw.else_ b (lt_heap this)]; exact this
  · exact Chunk.sat_frame (fun _ _ h => h.mono hle) rfl rfl rfl rfl (fun b hb => hw.else_ b (sat_lt (h.sim.sat i) hb)) (h.sim.sat i)
  · rw [hbl] at hi hj
    exact h.sim.dis i j b hi hj
  · rw [hbl] at hi
    have := sat_lt (h.sim.sat i) hi
    show (if b = w.heap.size then some ob else g.Φ b) = _
    rw [if_neg (by omega)]; exact h.sim.dphi i b hi
  · rw [hw.else_ b (Nat.lt_of_lt_of_le h1 h.ext.size)]; exact h.ext.keep b h1 h2
  · have hm : (if b = w.heap.size then some ob else g.Φ b) = some o' := hb
    clear hb
    split at hm
    · rename_i e; subst e; exact .inr (.inl h.ext.size)
    · exact h.ext.phin b o' hm
  · rw [hbl] at hi
    exact h.ext.own i b hi

theorem convert_ok {src dst : Nat} {x : Operand} {u0 : TypeDesc} (hsrc : tund P src = some u0) (h : Inv B g env E a.tmps w) (ho : o.op = .convert src dst x) (hk : eV P (.convert src dst x) env E K) : Done P o a w B K := by
  simp only [eV] at hk
  have hx := h.er.ev x
  split at hk <;> try exact hk.elim
  rename_i e s hd ex
  rw [ex] at hx
  have hx := hx.str_iff
  split at hk <;> try exact hk.elim
  rename_i he
  obtain ⟨hob, hk⟩ := hk
  have hob := hob.h
  have hrun := Lib.run_convert_string_bytes (P := P) w src dst e ⟨(s ()).toArray⟩ (tund_und hsrc) (tund_und hd) (tund_und he)
  have hw : WNew w (Lib.bytesWorld w e ⟨(s ()).toArray⟩) (.cells (Lib.bytesCells w e ⟨(s ()).toArray⟩) e ((Lib.bytesCells w e ⟨(s ()).toArray⟩).size, (Lib.bytesCells w e ⟨(s ()).toArray⟩).size + 1)) :=
    ⟨rfl, rfl, rfl, Lib.bytesWorld_size _ _ _, Lib.bytesWorld_at_new _ _ _, fun k hk => Lib.bytesWorld_at_old _ _ _ k hk⟩
  obtain ⟨hinv, hle⟩ := h.newPhi hw
  have hsz : (ByteArray.mk (s ()).toArray).size = (s ()).length := by simp [ByteArray.size]
  refine ⟨_, _, _, _, _, _, _, by simp [execOp, ho, hx, hrun]; rfl, .inl rfl, hinv, ?_, hk⟩
  rw [hsz]
  have hcap : (s ()).length ≤ grownCap w (s ()).length 0 e := by
    unfold grownCap Question.cut; simp
  have hcell : ∀ j, j < (s ()).length → (Lib.bytesCells w e ⟨(s ()).toArray⟩)[j]? = some (.int .u8 (((s ()).getD j 0).toNat : Int)) := by
    intro j hj
    simp [Lib.bytesCells, Array.getElem?_append, ByteArray.size, hj, List.getD]
  have := R.lst (g := { g with Φ := fun b => if b = w.heap.size then some (.cells (Lib.bytesCells w e ⟨(s ()).toArray⟩) e ((Lib.bytesCells w e ⟨(s ()).toArray⟩).size, (Lib.bytesCells w e ⟨(s ()).toArray⟩).size + 1)) else g.Φ b })
    (.int .u8) (fun u => (s u).map fun b => (b.toNat : Int)) (some ⟨w.heap.size, 0, none⟩) (grownCap w (s ()).length 0 e) (fun i _ => .int .u8 (((s ()).getD i 0).toNat : Int)) (by simpa using hcap) (by simp; omega)
    (fun i x j y h1 h2 => by
      have hi : i < (s ()).length := by simpa using (List.getElem?_eq_some_iff.1 h1).1
      have hj : j = 0 := by
        have := (List.getElem?_eq_some_iff.1 h2).1
        simp [enc] at this; omega
      subst hj
      exact ⟨w.heap.size, 0, Lib.bytesCells w e ⟨(s ()).toArray⟩, e, _, rfl, if_pos rfl, by simpa [Ty.size] using hcell i hi⟩)
    (fun i x j y h1 h2 => by
      have hi : i < (s ()).length := by simpa using (List.getElem?_eq_some_iff.1 h1).1
      have hj : j = 0 := by
        have := (List.getElem?_eq_some_iff.1 h2).1
        simp [enc] at this; omega
      subst hj
      simp [enc] at h2
      subst h2
      refine R.int' ?_
      simp [hi] at h1
      simp [← h1, List.getD, hi])
  simpa using this
end
end Go.Proofs.YtkcifdblaboodaaGreat.Fw
set_option linter.unusedVariables false
set_option linter.unusedSimpArgs false
namespace Go.Proofs.YtkcifdblaboodaaGreat.Fw
open Go Go.RowKit

/-- a row of cells by two numbers -/
theorem data_of_fun {g : Gh} {t : Ty} (xs : List t.den) (u : Nat → Nat → Value) (h : ∀ (i : Nat) (x : t.den) (j : Nat) (y : AV), xs[i]? = some x → (enc t (fun _ => x) [])[j]? = some y → R g y (u i j)) :
    Data g t xs ((List.range (xs.length * t.size)).map fun k => u (k / t.size) (k % t.size)) := by
  have hp := Ty.size_pos t
  refine ⟨by simp, fun k x hk => ?_⟩
  have hlt : k < xs.length := (List.getElem?_eq_some_iff.1 hk).1
  have hl : k * t.size + t.size ≤ xs.length * t.size := by rw [← Nat.succ_mul]; exact Nat.mul_le_mul_right _ hlt
  refine RL.mk (by rw [enc_length]; simp; omega) fun j y v h1 h2 => ?_
  have hj : j < t.size := by rw [← enc_length t (fun _ => x)]; exact (List.getElem?_eq_some_iff.1 h1).1
  rw [List.getElem?_take, if_pos hj, List.getElem?_drop, List.getElem?_map, List.getElem?_range (by omega)] at h2
  simp only [Option.map_some, Option.some.injEq] at h2
  subst h2
  have e1 : (k * t.size + j) / t.size = k := by rw [Nat.mul_comm, Nat.mul_add_div hp, Nat.div_eq_of_lt hj, Nat.add_zero]
  have e2 : (k * t.size + j) % t.size = j := by rw [Nat.mul_comm, Nat.mul_add_mod, Nat.mod_eq_of_lt hj]
  rw [e1, e2]
  exact h k x j y hk h1

section
variable {P : Program} {B : Base} {g : Gh} {env : Env} {E : List Chunk} {tmps : Array Value} {w : World}
variable {a : Act} {o : Oper} {K : AV → Env → List Chunk → Prop}

theorem srcV_ok {t : Ty} {x : AV} {v : Value} {K : (Unit → List t.den) → Prop} (hS : Sim g E w) (hr : R g x v) (h : srcV t E x K) :
    ∃ ys A m c news, v = .slice A m c ∧ (ys ()).length = m ∧ m ≤ 9223372036854775807 ∧ Data g t (ys ()) news ∧ (A = none → m = 0) ∧ (∀ ad, A = some ad → ∀ j u, news[j]? = some u → w.cell? (ad.add j) = some u) ∧ K ys := by
  unfold srcV at h
  split at h <;> try exact h.elim
  · cases hr
    exact ⟨fun _ => [], none, 0, 0, [], rfl, rfl, by omega, Data.nil g t, fun _ => rfl, (fun ad (hA : none = some ad) => by cases hA), h⟩
  · rename_i t' xs
    split at h <;> try exact h.elim
    rename_i ht _
    subst ht
    cases hr with | lst _ _ A c u hc hm ha hr =>
    refine ⟨xs, A, _, c, _, rfl, rfl, hm, data_of_fun (xs ()) u hr, fun hA => ?_, fun ad hA j v hv => ?_, h⟩
    · cases hx : xs () with
      | nil => rfl
      | cons y r =>
        have he : 0 < (enc t' (fun _ => y) []).length := by rw [enc_length]; exact Ty.size_pos t'
        obtain ⟨b, off, cells, T, fr, h1, _⟩ := ha 0 y 0 _ (by rw [hx]; rfl) (List.getElem?_eq_getElem he)
        rw [hA] at h1; cases h1
    · have hj : j < (xs ()).length * t'.size := by simpa using (List.getElem?_eq_some_iff.1 hv).1
      have hp := Ty.size_pos t'
      have hk : j / t'.size < (xs ()).length := by rwa [Nat.div_lt_iff_lt_mul hp]
      have hm' : j % t'.size < (enc t' (fun _ => (xs ())[j / t'.size]'hk) []).length := by rw [enc_length]; exact Nat.mod_lt _ hp
      have hat := ha (j / t'.size) _ (j % t'.size) _ (List.getElem?_eq_getElem hk) (List.getElem?_eq_getElem hm')
      have hat0 := hat
      obtain ⟨b, off, cells, T, fr, h1, _⟩ := hat0
      rw [hA] at h1
      cases h1
      rw [hA] at hat
      have := hat.cell hS
      rw [add_none rfl]
      rw [Nat.mul_comm, Nat.div_add_mod] at this
      rw [this]
      rw [List.getElem?_map, List.getElem?_range hj] at hv
      simpa using hv
  · rename_i i s o n
    split at h <;> try exact h.elim
    rename_i T t' xs hE
    split at h <;> try exact h.elim
    rename_i ht _
    subst ht
    split at h <;> try exact h.elim
    rename_i hsz
    have hsz := Nat.eq_of_beq_eq_true hsz
    subst hsz
    have hs := hS.sat i
    rw [hE] at hs
    cases hr with | vec _ _ _ _ A c hi hL hn hs' =>
    have hlen : (((xs ()).drop (o ())).take (n ())).length = n () := by have := hs.1; simp; omega
    cases hV : g.V i with
    | none =>
      obtain ⟨h1, h2, h3, h4⟩ := hn hV
      refine ⟨fun u => ((xs u).drop (o u)).take (n u), A, _, c, [], rfl, hlen, by omega, ⟨?_, fun k x hk => ?_⟩, fun _ => h2, (fun ad (hA : A = some ad) => by rw [h1] at hA; cases hA), h⟩
      · show [].length = (((xs ()).drop (o ())).take (n ())).length * _
        rw [hlen, h2]; simp
      · have hk : (((xs ()).drop (o ())).take (n ()))[k]? = some x := hk
        rw [h2] at hk; simp at hk
    | some cap =>
      obtain ⟨vs, hb, hvs, hcap, hLe, hd⟩ := sat_data hs hV
      obtain ⟨h0, h1, h2, h3, h4⟩ := hs' cap hV
      have hd' := (hd.drop (o ())).take (n ())
      refine ⟨fun u => ((xs u).drop (o u)).take (n u), A, _, c, _, rfl, hlen, by omega, hd', fun h => (h4 h).elim, fun ad hA j u hu => ?_, h⟩
      have hj : j < n () * t'.size := by
        have := (List.getElem?_eq_some_iff.1 hu).1
        have e := hd'.1
        rw [hlen] at e
        omega
      have hp := Ty.size_pos t'
      have hn0 : 0 < n () := by rcases Nat.eq_zero_or_pos (n ()) with h | h; · rw [h] at hj; simp at hj
                                · exact h
      have := h3 (.inl (by omega))
      rw [this] at hA
      cases hA
      rw [add_none rfl, cell_of_heap hb]
      rw [List.getElem?_take, if_pos hj, List.getElem?_drop, List.getElem?_take] at hu
      split at hu
      · simpa using hu
      · cases hu

theorem append_nilsrc {t e sz ty : Nat} (ht : tund P t = some (.slice e)) (hs : tsize P e = some sz) (A : Option Addr) (n c c' : Nat) (hnc : n ≤ c) :
    (Builtin.append_ #[t, t] ty #[.slice A n c, .slice none 0 c']).run P w = .ok (.slice A n c) w := by
  cases A <;> simp [Builtin.append_, tund_run ht, tsize_size hs, Builtin.lenOf, Builtin.firstCells, hnc, storeCells]

/-- append, its operands by what they hold. -/
theorem append_run {t e sz by_ ty : Nat} {z : Value} {d : Ty} (ht : tund P t = some (.slice e)) (hs : tsize P e = some sz) (hby : tbytes P e = some by_) (hz : tzero P e = some z) (hzs : z.cells.size = sz) (hd : sz = d.size)
    {v : Value} {n : Nat} {xs : List Value} (hown : w.ownsRow 0 e sz v n xs) {A : Option Addr} {m c : Nat} {ys : List d.den} {news : List Value} (hyl : ys.length = m) (hdn : Data g d ys news) (hA : A = none → m = 0)
    (hcell : ∀ ad, A = some ad → ∀ j u, news[j]? = some u → w.cell? (ad.add j) = some u) (hb : (n + m) * by_ ≤ 140737488355328) (hmx : n + m ≤ 9223372036854775807) :
    ∃ v' w', (Builtin.append_ #[t, t] ty #[v, .slice A m c]).run P w = .ok v' w' ∧ w'.ownsRow 0 e sz v' (n + m) (xs ++ news) ∧ w.grownBy w' v.ownBlock ∧ (v'.ownBlock = v.ownBlock ∨ v'.ownBlock = some w.heap.size) := by
  obtain ⟨i, hi, hiz, his, hib⟩ : ∃ i, tinfo P e = some i ∧ i.zero = some z ∧ i.size = sz ∧ i.bytes = by_ := by
    unfold tzero at hz; unfold tsize at hs; unfold tbytes at hby
    cases hi : tinfo P e with
    | none => simp [hi] at hz
    | some i => simp [hi] at hz hs hby; exact ⟨i, rfl, hz, hs, hby⟩
  have hpos := Ty.size_pos d
  cases A with
  | none =>
    have hm := hA rfl
    subst hm
    have hn0 : news = [] := List.eq_nil_of_length_eq_zero (by rw [hdn.1, hyl]; simp)
    subst hn0
    have hkeep : w.ownsRow 0 e sz v (n + 0) (xs ++ []) := by simpa using hown
    rcases hown.2 with ⟨rfl, rfl⟩ | ⟨gb, cap, cur, rfl, _, _, hnc, _⟩
    · exact ⟨_, _, append_nilsrc ht hs _ _ _ _ (Nat.le_refl _), hkeep, World.grownBy.refl w _, .inl rfl⟩
    · exact ⟨_, _, append_nilsrc ht hs _ _ _ _ hnc, hkeep, World.grownBy.refl w _, .inl rfl⟩
  | some ad =>
    obtain ⟨v', w', h1, h2, h3, _, h5⟩ := run_append_own_at (P := P) w 0 t ty e i z sz by_ (tund_und ht) (tinfo_info hi) hiz his hib hzs (by omega) v n xs hown ad m c news (by rw [hdn.1, hyl, hd]) (hcell ad rfl) hdn.all_one (by simp only [maxLen]; omega) hb (Nat.zero_le _)
    exact ⟨v', w', h1, h2, h3, h5⟩

/-- append of a string. -/
theorem append_str_run {t t2 e ty : Nat} (ht : tund P t = some (.slice e)) (ht2 : tund P t2 = some .string) (hs : tsize P e = some 1) (hby : tbytes P e = some 1) (hz : tzero P e = some (.int .u8 0))
    {v : Value} {n : Nat} {xs : List Value} (hown : w.ownsRow 0 e 1 v n xs) (s : ByteArray) (hb : n + s.size ≤ 140737488355328) :
    ∃ v' w', (Builtin.append_ #[t, t2] ty #[v, .string s]).run P w = .ok v' w' ∧ w'.ownsRow 0 e 1 v' (n + s.size) (xs ++ Lib.strCells s) ∧ w.grownBy w' v.ownBlock ∧ (v'.ownBlock = v.ownBlock ∨ v'.ownBlock = some w.heap.size) := by
  obtain ⟨i, hi, hiz, his, hib⟩ : ∃ i, tinfo P e = some i ∧ i.zero = some (.int .u8 0) ∧ i.size = 1 ∧ i.bytes = 1 := by
    unfold tzero at hz; unfold tsize at hs; unfold tbytes at hby
    cases hi : tinfo P e with
    | none => simp [hi] at hz
    | some i => simp [hi] at hz hs hby; exact ⟨i, rfl, hz, hs, hby⟩
  have hm63 : n + s.size ≤ maxLen := by simp only [maxLen]; omega
  obtain ⟨v', w', h1, h2, h3, h4⟩ := Lib.run_append_own_string (P := P) w 0 t t2 ty e i (tund_und ht) (tund_und ht2) (tinfo_info hi) hiz his hib v n xs hown s hm63 hb (Nat.zero_le _)
  refine ⟨v', w', h1, h2, h3, ?_⟩
  rcases hown.2 with ⟨rfl, rfl⟩ | ⟨gb, cap, cur, rfl, _, hg, hnc, hcm, hcs, htake⟩
  · by_cases hm : s.size = 0
    · rw [h4.2 ⟨rfl, hm⟩]; exact .inl rfl
    · have hr := run_append_nil_string (P := P) w t t2 ty e i (.int .u8 0) (tund_und ht) (tund_und ht2) (tinfo_info hi) hiz s (by omega) (by simp only [Nat.zero_add] at hb; omega) (by rw [hib]; omega)
      rw [hr] at h1
      injection h1 with h1 _
      subst h1
      exact .inr rfl
  · by_cases hroom : n + s.size ≤ cap
    · have hcs' : cur.size = cap := by simpa using hcs
      have hr := Lib.run_append_room_string (P := P) w t t2 ty e i (tund_und ht) (tund_und ht2) (tinfo_info hi) his gb n cap cur hg s hroom (by omega)
      rw [hr] at h1
      injection h1 with h1 _
      subst h1
      exact .inl rfl
    · have hr := Lib.run_append_grow_string (P := P) w t t2 ty e i (.int .u8 0) (tund_und ht) (tund_und ht2) (tinfo_info hi) hiz ⟨gb, 0, none⟩ n cap xs (by rw [his]; simpa using hown.1) (hown.cells (g := gb) rfl) s (by omega) (by simp only [maxLen] at hm63; omega) (by rw [hib]; exact growslice_fits (by omega) (by omega))
      rw [hr] at h1
      injection h1 with h1 _
      subst h1
      exact .inr rfl
theorem append_exec {ts : Array Nat} {s x : Operand} {v : Value} {w' : World} (ho : o.op = .call { callee := .builtin .append, args := #[s, x], argTypes := ts }) (h : (Builtin.append_ ts o.type #[a.eval s, a.eval x]).run P w = .ok v w') :
    (execOp a.eval o).run P w = .ok (.value v) w' := by
  simp [execOp, ho, resolve, invoke, builtin, h]
end
end Go.Proofs.YtkcifdblaboodaaGreat.Fw
set_option linter.unusedVariables false
set_option linter.unusedSimpArgs false
namespace Go.Proofs.YtkcifdblaboodaaGreat.Fw
open Go Go.RowKit

theorem scrF_ok {g g' : Gh} {i : Nat} (hn : g'.n = g.n) (h : ∀ j, j ≠ i → g'.B j = g.B j ∧ g'.V j = g.V j ∧ g'.L j = g.L j) (v : AV) (u : Value) (hv : isRef v = true) (hr : R g v u) : R g' (scrF i v) u := by
  have hne : ∀ j, Nat.beq j i = false → j ≠ i := fun j hj e => by subst e; simp at hj
  cases hr <;> first | (cases hv; done) | skip
  · rename_i j off hj
    simp only [scrF]; split
    · exact .undef _
    · rename_i hb
      rw [← (h j (hne j hb)).1]; exact .ptr j off (by rw [hn]; exact hj)
  · rename_i j sz idx off hj hL
    simp only [scrF]; split
    · exact .undef _
    · rename_i hb
      have := h j (hne j hb)
      rw [← this.1]; exact .eptr j sz idx off (by rw [hn]; exact hj) (by rw [this.2.2]; exact hL)
  · rename_i j s o n A c hj hL hn' hs
    simp only [scrF]; split
    · exact .undef _
    · rename_i hb
      have := h j (hne j hb)
      exact .vec j s o n A c (by rw [hn]; exact hj) (by rw [this.2.2]; exact hL) (by rw [this.2.1]; exact hn') (by rw [this.2.1, this.1]; exact hs)
  · rename_i j hj
    simp only [scrF]; split
    · exact .undef _
    · rename_i hb
      rw [← (h j (hne j hb)).1]; exact .mp j (by rw [hn]; exact hj)

theorem R_vec_len {g : Gh} {i s k c : Nat} {o n : Unit → Nat} {A : Option Addr} (h : n () = k) (hr : R g (.vec i s o n) (.slice A (n ()) c)) : R g (.vec i s o n) (.slice A k c) := h ▸ hr
/-- A ghost turned at one chunk. -/
def Gh.at_ (g : Gh) (i nb : Nat) (nv : Option Nat) (l : Nat) : Gh :=
  { g with B := fun j => if j = i then nb else g.B j, V := fun j => if j = i then nv else g.V j, L := fun j => if j = i then l else g.L j }
theorem Gh.at_other (g : Gh) (i nb : Nat) (nv : Option Nat) (l : Nat) (j : Nat) (hj : j ≠ i) : (g.at_ i nb nv l).B j = g.B j ∧ (g.at_ i nb nv l).V j = g.V j ∧ (g.at_ i nb nv l).L j = g.L j := by simp [Gh.at_, hj]
theorem Gh.at_B (g : Gh) (i nb : Nat) (nv : Option Nat) (l : Nat) : (g.at_ i nb nv l).B i = nb := by simp [Gh.at_]
theorem Gh.at_V (g : Gh) (i nb : Nat) (nv : Option Nat) (l : Nat) : (g.at_ i nb nv l).V i = nv := by simp [Gh.at_]
theorem Gh.at_L (g : Gh) (i nb : Nat) (nv : Option Nat) (l : Nat) : (g.at_ i nb nv l).L i = l := by simp [Gh.at_]

section
variable {P : Program} {B : Base} {g : Gh} {env : Env} {E : List Chunk} {tmps : Array Value} {w : World}
variable {a : Act} {o : Oper} {K : AV → Env → List Chunk → Prop}

/-- What a chunk of a slice holds, as an owned row. -/
theorem vec_owns (hS : Sim g E w) {i T : Nat} {ty : Ty} {xs : Unit → List ty.den} {s : Nat} {of n : Unit → Nat} {A : Option Addr} {m c : Nat} (hE : getE E i = .vect T ty xs) (hr : R g (.vec i s of n) (.slice A m c)) (ho : of () = 0) (hs : s = ty.size) :
    ∃ us, w.ownsRow 0 T s (.slice A m c) m us ∧ Data g ty ((xs ()).take m) us ∧ (Value.slice A m c).ownBlock = (getE E i).blk g i ∧ m = n () := by
  subst hs
  have hsat := hS.sat i
  rw [hE] at hsat
  cases hr with | vec _ _ _ _ A c hi hL hn hs' =>
  cases hV : g.V i with
  | none =>
    obtain ⟨h1, h2, h3, h4⟩ := hn hV
    subst h1 h3
    rw [h2]
    exact ⟨[], ⟨by simp, .inl ⟨rfl, rfl⟩⟩, by simpa using Data.nil g ty, by rw [hE]; simp [Value.ownBlock, Chunk.blk, hV], rfl⟩
  | some cap =>
    obtain ⟨vs, hb, hvs, hcap, hLe, hd⟩ := sat_data hsat hV
    obtain ⟨h0, h1, h2, h3, h4⟩ := hs' cap hV
    have hA := h3 (.inr ho)
    rw [ho] at hA
    simp only [Nat.zero_mul] at hA
    subst hA
    have hle : n () ≤ (xs ()).length := by omega
    have hmul : n () * ty.size ≤ (xs ()).length * ty.size := Nat.mul_le_mul_right _ hle
    have hmul2 : (xs ()).length * ty.size ≤ cap * ty.size := Nat.mul_le_mul_right _ hcap
    have hd' := hd.take (n ())
    rw [List.take_take, Nat.min_eq_left hmul] at hd'
    exact ⟨_, ⟨by rw [List.length_take]; simp; omega, .inr ⟨g.B i, c, vs, rfl, Nat.zero_le _, hb, by omega, by simp only [maxLen]; omega, by rw [hvs]; congr 1; omega, rfl⟩⟩, hd', by rw [hE]; simp [Value.ownBlock, Chunk.blk, hV], rfl⟩

/-- An owned row, as the chunk of a slice. -/
theorem owns_sat {g' : Gh} {i T : Nat} {ty : Ty} {xs : Unit → List ty.den} {v : Value} {m : Nat} {us : List Value} {w' : World} (hown : w'.ownsRow 0 T ty.size v m us) (hd : Data g' ty (xs ()) us) (hm : (xs ()).length = m)
    (hL : g'.L i = m) (hV : (v = .slice none 0 0 ∧ g'.V i = none) ∨ ∃ gb cap, v = .slice (some ⟨gb, 0, none⟩) m cap ∧ g'.V i = some cap ∧ g'.B i = gb) :
    (Chunk.vect T ty xs).sat g' i w' := by
  rcases hV with ⟨rfl, hV⟩ | ⟨gb, cap, rfl, hV, hB⟩
  · rcases hown.2 with ⟨_, h2⟩ | ⟨gb, cap, cur, h2, _⟩
    · show _ ∧ _ ∧ _
      refine ⟨by rw [hm, hL], fun _ => List.eq_nil_of_length_eq_zero (by omega), fun cap hc => by rw [hV] at hc; cases hc⟩
    · cases h2
  · rcases hown.2 with ⟨h2, _⟩ | ⟨gb', cap', cur, h2, _, h3, h4, h5, h6, h7⟩
    · cases h2
    · cases h2
      refine sat_of_data (cap := cap) (vs := cur) hV (by rw [hm, hL]) (by rw [hB]; exact h3) h6 (by omega) ?_
      rw [hm, h7]; exact hd
theorem owns_form {T : Nat} {sz : Nat} {v : Value} {m : Nat} {us : List Value} {w' : World} (hown : w'.ownsRow 0 T sz v m us) :
    (v = .slice none 0 0 ∧ m = 0) ∨ ∃ gb cap, v = .slice (some ⟨gb, 0, none⟩) m cap ∧ m ≤ cap ∧ cap ≤ 9223372036854775807 := by
  rcases hown.2 with h | ⟨gb, cap, cur, h2, _, _, h4, h5, _⟩
  · exact .inl h
  · exact .inr ⟨gb, cap, h2, h4, by simpa [maxLen] using h5⟩

theorem zeros_list (z : Array Value) (n m : Nat) : (Builtin.zeroCells z n ++ Builtin.zeroCells z m).toList = (List.replicate (n + m) z.toList).flatten := by
  have h1 : (Builtin.zeroCells z n).toList = (List.replicate n z.toList).flatten := made_list z n
  have h2 : (Builtin.zeroCells z m).toList = (List.replicate m z.toList).flatten := made_list z m
  rw [Array.toList_append, h1, h2, ← List.flatten_append, List.replicate_append_replicate]
theorem appZ_ok {t t2 e : Nat} {s x : Operand} {n : Unit → Int} (h : Inv B g env E a.tmps w) (ho : o.op = .call { callee := .builtin .append, args := #[s, x], argTypes := #[t, t2] }) (ht : tund P t = some (.slice e)) (ht2 : tund P t2 = some (.int .i64))
    (es : ev env s = .snil) (ex : ev env x = .int .i64 n) (hk : appZ P e n env E K) : Done P o a w B K := by
  have hs := h.er.ev s
  have hx := h.er.ev x
  rw [es] at hs
  rw [ex] at hx
  have hsv : a.eval s = .slice none 0 0 := by generalize a.eval s = u at hs; cases hs; rfl
  have hxv := hx.int_iff
  unfold appZ at hk
  split at hk <;> try exact hk.elim
  rename_i ty sz by_ z hty hsz hby hz
  split at hk <;> try exact hk.elim
  rename_i cs hts hcs
  have hts : ty.size = sz := Nat.eq_of_beq_eq_true hts
  have hzr := (R_cst g z).cells hcs
  obtain ⟨d, hd, hk⟩ := dec1_ok hk hzr
  rw [fN_eq, fEE_eq] at hk
  obtain ⟨hob, hk0, hk1⟩ := hk
  obtain ⟨h0, h1, h2⟩ := hob.h
  obtain ⟨m, hm⟩ : ∃ m : Nat, n () = m := ⟨(n ()).toNat, by omega⟩
  have hwl : IntKind.i64.wrap (m : Int) = m := IntWalk.i64_in _ (by omega)
  obtain ⟨ti, hti, htb, htz, htsz⟩ : ∃ i, P.info? e = some i ∧ i.bytes = by_ ∧ i.zero = some z ∧ i.size = sz := by
    unfold tbytes at hby
    split at hby
    · rename_i i hi
      simp only [Option.some.injEq] at hby
      unfold tzero at hz
      rw [hi] at hz
      unfold tsize at hsz
      rw [hi] at hsz
      exact ⟨i, tinfo_info hi, hby, hz, by simpa using hsz⟩
    · cases hby
  have hzsz : z.cells.size = sz := by have := hd.length; rw [enc_length] at this; simp at this; omega
  have hb48 : ¬ ((m : Int) * (ti.bytes : Int) > 2 ^ 48) := by rw [htb, ← hm, show (2 : Int) ^ 48 = 281474976710656 from rfl]; omega
  by_cases hm0 : m = 0
  · subst hm0
    have h0 : (Builtin.append_ #[t, t2] o.type #[.slice none 0 0, .int .i64 ((0 : Nat) : Int)]).run P w = .ok (.slice none 0 0) w := by
      simp [Builtin.append_, tund_run ht, tund_run ht2, sizeOf, typeInfo, zeroValue, hti, htz, asInt, asIntOf, IntWalk.i64_in (0 : Int) (by omega)]
    have hrun := append_exec (P := P) (w := w) (a := a) ho (by rw [hsv, hxv, hm]; exact h0)
    exact ⟨_, _, _, _, _, _, _, hrun, .inl rfl, h, .snil, hk0 hm⟩
  · have hpos : 0 < m := by omega
    let cap := grownCap w m 0 e
    have hcap : m ≤ cap := grownCap_ge w m 0 e
    have hcapm : cap ≤ maxLen := grownCap_le_maxLen w m 0 e (by simp only [maxLen]; omega)
    let vs := Builtin.zeroCells z.cells m ++ Builtin.zeroCells z.cells (cap - m)
    have hrun0 : (Builtin.append_ #[t, t2] o.type #[.slice none 0 0, .int .i64 (m : Int)]).run P w = .ok (.slice (some ⟨w.heap.size, 0, none⟩) m cap) (w.drew.alloc (.cells vs e)) := by
      have hn48 : ¬ (281474976710656 < Builtin.nextslicecap m 0 * ti.bytes) := by
        rw [nextslicecap_zero hpos, htb]
        have : ((m * by_ : Nat) : Int) ≤ 140737488355328 := by rw [Int.natCast_mul, ← hm]; exact h2
        omega
      have h63 : ¬ (9223372036854775807 < (m : Int)) := by omega
      have hlt : ¬ ((m : Int) < 0) := by omega
      have hb48' : ¬ (281474976710656 < (m : Int) * (ti.bytes : Int)) := by simpa using hb48
      by_cases hms : m * ti.size = 0
      · have : ti.size = 0 := by
          rcases Nat.mul_eq_zero.1 hms with h | h
          · omega
          · exact h
        have := Ty.size_pos ty
        omega
      · simp [Builtin.append_, tund_run ht, tund_run ht2, sizeOf, typeInfo, zeroValue, hti, htz, asInt, asIntOf, hwl, hlt, hb48', hm0, hn48, h63, hms, Question.forced, run_firstCells_none, newRow, grownCap, vs, cap]
    have hrun := append_exec (P := P) (w := w) (a := a) ho (by rw [hsv, hxv, hm]; exact hrun0)
    have hvl : vs.toList = (List.replicate cap z.cells.toList).flatten := by
      have := zeros_list z.cells m (cap - m)
      rw [show m + (cap - m) = cap by omega] at this; exact this
    have hdr : Data g ty (List.replicate cap (d ())) vs.toList := by rw [hvl]; exact Data.replicate (by rw [enc_const]; exact hd) _
    have hdl := hdr.take m
    rw [List.take_replicate, Nat.min_eq_left hcap] at hdl
    have hvs : vs.size = cap * ty.size := by
      have := hdr.1
      simpa using this
    have hw' : WNew w (w.drew.alloc (.cells vs e)) (.cells vs e) := ⟨rfl, rfl, rfl, by show (w.heap.push _).size = _; simp, by show (w.heap.push _)[w.heap.size]? = _; simp, fun k hk => by show (w.heap.push _)[k]? = _; rw [Array.getElem?_push, if_neg (by omega)]⟩
    have hnew := h.newData e (t := ty) (xs := fun u => List.replicate (n u).toNat (d u)) (cap := cap) (vs := vs) hvs (by simp [hm]; exact hcap) (by simpa [hm] using hdl) hw'
    refine ⟨_, _, _, _, _, _, _, hrun, .inl rfl, hnew, ?_, hk1 (by omega)⟩
    have := R_newVec g E h.sim.len w.heap.size cap m sz (fun u => (n u).toNat) (by simp [hm]) hcap (by simpa [maxLen] using hcapm)
    simpa [hm] using this
/-- What an append onto nil leaves. -/
theorem app_nil_fin {e sz m : Nat} {ty : Ty} {ys : Unit → List ty.den} {news : List Value} {v' : Value} {w' : World} (h : Inv B g env E a.tmps w) (hsd : sz = ty.size) (hyl : (ys ()).length = m) (hdn : Data g ty (ys ()) news)
    (hrun : (execOp a.eval o).run P w = .ok (.value v') w') (h2 : w'.ownsRow 0 e sz v' m news) (h3 : w.grownBy w' (Value.ownBlock (.slice none 0 0))) (h4 : v'.ownBlock = Value.ownBlock (.slice none 0 0) ∨ v'.ownBlock = some w.heap.size)
    (hk : K (.vec (lenE E) sz (fun _ => 0) fun u => (ys u).length) env (addE E (.vect e ty ys))) : Done P o a w B K := by
  rcases owns_form h2 with ⟨rfl, hm0⟩ | ⟨gb, cap, rfl, hmc, hcm⟩
  · have hinv := h.new (c := .vect e ty ys) (b := 0) (v := Option.none) (l := m) h3.os h3.tape h3.output h3.size (fun k hk => h3.block k hk (by simp [Value.ownBlock]))
      (owns_sat (m := m) (by rw [← hsd]; exact h2) (hdn.mono (g.le_add _ _ _)) hyl (by simp [Gh.add]) (.inl ⟨rfl, by simp [Gh.add]⟩)) (fun b' hb' => by simp [Chunk.blk, Gh.add] at hb')
    refine ⟨_, _, _, _, _, _, _, hrun, .inl rfl, hinv, ?_, hk⟩
    have := R.vec (g := g.add 0 Option.none m) (lenE E) sz (fun _ => 0) (fun u => (ys u).length) none 0 (by simp [Gh.add, h.sim.len]) (by simp [Gh.add, h.sim.len, hyl]) (fun _ => ⟨rfl, by omega, rfl, rfl⟩) (fun cap hc => by simp [Gh.add, h.sim.len] at hc)
    rw [hyl] at this
    rw [hm0] at this ⊢
    exact this
  · have hgb : gb = w.heap.size := by
      rcases h4 with h4 | h4 <;> simp [Value.ownBlock] at h4
      exact h4
    subst hgb
    have hinv := h.new (c := .vect e ty ys) (b := w.heap.size) (v := some cap) (l := m) h3.os h3.tape h3.output h3.size (fun k hk => h3.block k hk (by simp [Value.ownBlock]))
      (owns_sat (m := m) (by rw [← hsd]; exact h2) (hdn.mono (g.le_add _ _ _)) hyl (by simp [Gh.add]) (.inr ⟨_, cap, rfl, by simp [Gh.add], by simp [Gh.add]⟩)) (fun b' hb' => by simp [Chunk.blk, Gh.add] at hb'; omega)
    refine ⟨_, _, _, _, _, _, _, hrun, .inl rfl, hinv, ?_, hk⟩
    have := R_newVec g E h.sim.len w.heap.size cap m sz (fun u => (ys u).length) (by omega) hmc hcm
    rw [hyl] at this
    exact this
/-- What an append onto an owned slice leaves. -/
theorem app_vec_fin {i T sz m s' c0 : Nat} {t' : Ty} {xs ys : Unit → List t'.den} {of n : Unit → Nat} {A0 : Option Addr} {us news : List Value} {v' : Value} {w' : World} (h : Inv B g env E a.tmps w) (hE : getE E i = .vect T t' xs)
    (hs : R g (.vec i s' of n) (.slice A0 (n ()) c0)) (hss : s' = sz) (hsd : sz = t'.size) (hdo : Data g t' ((xs ()).take (n ())) us) (hblk : (Value.slice A0 (n ()) c0).ownBlock = (getE E i).blk g i) (hyl : (ys ()).length = m) (hdn : Data g t' (ys ()) news)
    (hrun : (execOp a.eval o).run P w = .ok (.value v') w') (h2 : w'.ownsRow 0 T sz v' (n () + m) (us ++ news)) (h3 : w.grownBy w' (Value.slice A0 (n ()) c0).ownBlock) (h4 : v'.ownBlock = (Value.slice A0 (n ()) c0).ownBlock ∨ v'.ownBlock = some w.heap.size)
    (hk : K (.vec i sz (fun _ => 0) fun u => n u + (ys u).length) (mapEnv (scrF i) env) (mapE (scrF i) (setE E i (.vect T t' fun u => (xs u).take (n u) ++ ys u)))) : Done P o a w B K := by
  have hi : i < lenE E := getE_lt (by rw [hE]; simp)
  have hdata : Data g t' ((xs ()).take (n ()) ++ ys ()) (us ++ news) := hdo.append hdn
  have hlen : ((xs ()).take (n ()) ++ ys ()).length = n () + m := by
    have hle : n () ≤ (xs ()).length := by
      have hsat := h.sim.sat i
      rw [hE] at hsat
      cases hs with | vec _ _ _ _ _ _ hi hL hn hs' => have := hsat.1; omega
    rw [List.length_append, List.length_take, hyl]; omega
  -- the ghost turned at i
  have go : ∀ (nb : Nat) (nv : Option Nat), (∀ b, (Chunk.vect T t' fun u => (xs u).take (n u) ++ ys u).blk (g.at_ i nb nv (n () + m)) i = some b → w.heap.size ≤ b ∨ (getE E i).blk g i = some b) →
      ((v' = .slice none 0 0 ∧ nv = none) ∨ ∃ gb cap, v' = .slice (some ⟨gb, 0, none⟩) (n () + m) cap ∧ nv = some cap ∧ nb = gb ∧ cap ≤ 9223372036854775807 ∧ n () + m ≤ cap) → Done P o a w B K := by
    intro nb nv hb hform
    have hother := g.at_other i nb nv (n () + m)
    have hinv := h.turn (w' := w') (g' := g.at_ i nb nv (n () + m)) (scrF i) (c := .vect T t' fun u => (xs u).take (n u) ++ ys u) ⟨T, t', xs, hE⟩ rfl rfl (fun b o' hb => hb)
      (fun v u hv hr => scrF_ok (g := g) (g' := g.at_ i nb nv (n () + m)) (i := i) rfl hother v u hv hr) hi hother h3.os h3.tape h3.output h3.size
      (fun k hk hne => h3.block k hk (fun e => hne k (by rw [← hblk]; exact e.symm) rfl))
      (owns_sat (g' := g.at_ i nb nv (n () + m)) (m := n () + m) (by rw [← hsd]; exact h2) ⟨hdata.1, fun k x hx => RL.mono_data (g := g) (g' := g.at_ i nb nv (n () + m)) (fun b o' hb => hb) (hdata.2 k x hx)⟩ hlen (g.at_L _ _ _ _) (by
        rcases hform with ⟨e1, e2⟩ | ⟨gb, cap, e1, e2, e3, _⟩
        · exact .inl ⟨e1, by rw [g.at_V, e2]⟩
        · exact .inr ⟨gb, cap, e1, by rw [g.at_V, e2], by rw [g.at_B, e3]⟩)) hb (fun b o' hb => .inl hb)
    refine ⟨_, _, _, _, _, _, _, hrun, .inl rfl, hinv, ?_, hk⟩
    have hlt : i < (g.at_ i nb nv (n () + m)).n := by show i < g.n; rw [← h.sim.len]; exact hi
    rcases hform with ⟨e1, e2⟩ | ⟨gb, cap, e1, e2, e3, e4, e5⟩
    · subst e1 e2
      have h0 : n () + m = 0 := by
        rcases owns_form h2 with ⟨_, h5⟩ | ⟨_, _, h5, _⟩
        · exact h5
        · cases h5
      have := R.vec (g := g.at_ i nb none (n () + m)) i sz (fun _ => 0) (fun u => n u + (ys u).length) none 0 hlt (by rw [g.at_L]; simp [hyl]) (fun _ => ⟨rfl, by simp [hyl, h0], rfl, rfl⟩) (fun cap hc => by rw [g.at_V] at hc; cases hc)
      have e : n () + (ys ()).length = 0 := by rw [hyl]; exact h0
      exact R_vec_len e this
    · subst e1 e2 e3
      have := R.vec (g := g.at_ i nb (some cap) (n () + m)) i sz (fun _ => 0) (fun u => n u + (ys u).length) (some ⟨nb, 0, none⟩) cap hlt (by rw [g.at_L]; simp [hyl]) (fun hc => by rw [g.at_V] at hc; cases hc)
        (fun cap' hc => by rw [g.at_V] at hc; cases hc; exact ⟨e4, by simp [hyl]; exact e5, by simp, by rw [g.at_B]; simp, by simp⟩)
      have e : n () + (ys ()).length = n () + m := by rw [hyl]
      exact R_vec_len e this
  rcases owns_form h2 with ⟨hv, hm0⟩ | ⟨gb, cap, hv, hmc, hcm⟩
  · exact go 0 none (fun b hb => by simp [Chunk.blk, g.at_V] at hb) (.inl ⟨hv, rfl⟩)
  · refine go gb (some cap) (fun b hb => ?_) (.inr ⟨gb, cap, hv, rfl, rfl, hcm, hmc⟩)
    simp [Chunk.blk, g.at_V, g.at_B] at hb
    subst hb
    rw [hv] at h4
    rcases h4 with h4 | h4
    · right; rw [← hblk, ← h4]; rfl
    · left; simp [Value.ownBlock] at h4; omega
/-- Bytes as data. -/
theorem str_data (g : Gh) (y : List UInt8) : Data g (.int .u8) (y.map fun b => (b.toNat : Int)) (Lib.strCells ⟨y.toArray⟩) := by
  refine ⟨by simp [Lib.strCells, Ty.size], fun k x hk => ?_⟩
  have hlt : k < y.length := by simpa using (List.getElem?_eq_some_iff.1 hk).1
  have e : x = (((y[k]'hlt).toNat : Nat) : Int) := by
    rw [List.getElem?_map, List.getElem?_eq_getElem hlt] at hk
    simpa using hk.symm
  subst e
  have e2 : ((Lib.strCells ⟨y.toArray⟩).drop (k * Ty.size (.int .u8))).take (Ty.size (.int .u8)) = [Value.int .u8 (y[k]'hlt).toNat] := by
    have hl2 : k < (Lib.strCells ⟨y.toArray⟩).length := by simp [Lib.strCells]; exact hlt
    show ((Lib.strCells ⟨y.toArray⟩).drop (k * 1)).take 1 = _
    rw [Nat.mul_one, List.drop_eq_getElem_cons hl2]
    simp [Lib.strCells]
  rw [e2]
  exact ⟨.int .u8 fun _ => _, trivial⟩
theorem append_str_ok {t t2 e : Nat} {s x : Operand} {y : Unit → List UInt8} (h : Inv B g env E a.tmps w) (ho : o.op = .call { callee := .builtin .append, args := #[s, x], argTypes := #[t, t2] }) (ht : tund P t = some (.slice e)) (ex : ev env x = .str y)
    (hk : match tund P t2, tyOf P 6 e, tsize P e, tbytes P e, tzero P e with
          | some .string, some (.int .u8), some 1, some 1, some (.int .u8 0) => (match ev env s with
            | .snil => Ob (fun u => (y u).length ≤ 140737488355328) ∧ fN (lenE E) fun n => fEE (addE E (.vect e (.int .u8) fun u => (y u).map fun b => (b.toNat : Int))) fun E => K (.vec n 1 (fun _ => 0) (fun u => (y u).length)) env E
            | .vec i 1 o n => (match getE E i with
              | .vect T (.int .u8) xs => (match Nat.beq T e with
                | true => Ob (fun u => o u = 0 ∧ n u + (y u).length ≤ 140737488355328) ∧
                  fEnv (mapEnv (scrF i) env) fun env => fEE (mapE (scrF i) (setE E i (.vect e (.int .u8) fun u => (xs u).take (n u) ++ (y u).map fun b => (b.toNat : Int)))) fun E => K (.vec i 1 (fun _ => 0) (fun u => n u + (y u).length)) env E
                | false => False)
              | _ => False)
            | _ => False)
          | _, _, _, _, _ => False) : Done P o a w B K := by
  have hs := h.er.ev s
  have hx := h.er.ev x
  rw [ex] at hx
  have hxv := hx.str_iff
  have hsz : (ByteArray.mk (y ()).toArray).size = (y ()).length := by simp [ByteArray.size]
  split at hk <;> try exact hk.elim
  rename_i ht2 hty hse hby hz
  split at hk <;> try exact hk.elim
  · rename_i es
    rw [es] at hs
    have hsv : a.eval s = .slice none 0 0 := by generalize a.eval s = u at hs; cases hs; rfl
    rw [fN_eq, fEE_eq] at hk
    obtain ⟨hob, hk⟩ := hk
    have hob := hob.h
    obtain ⟨v', w', h1, h2, h3, h4⟩ := append_str_run (P := P) (w := w) (ty := o.type) ht ht2 hse hby hz (v := .slice none 0 0) (n := 0) (xs := []) ⟨by simp, .inl ⟨rfl, rfl⟩⟩ ⟨(y ()).toArray⟩ (by rw [hsz]; omega)
    have hrun := append_exec (P := P) (w := w) (a := a) ho (by rw [hsv, hxv]; exact h1)
    simp only [Nat.zero_add, List.nil_append] at h2
    exact app_nil_fin (sz := 1) (ty := .int .u8) (ys := fun u => (y u).map fun b => (b.toNat : Int)) h rfl (by simp [hsz]) (str_data g (y ())) hrun h2 h3 h4 (by simpa using hk)
  · rename_i i of n es
    rw [es] at hs
    split at hk <;> try exact hk.elim
    rename_i T xs hE
    split at hk <;> try exact hk.elim
    rename_i hTe
    have hTe : T = e := Nat.eq_of_beq_eq_true hTe
    subst hTe
    rw [fEnv_eq, fEE_eq] at hk
    obtain ⟨hob, hk⟩ := hk
    obtain ⟨ho0, hcount⟩ := hob.h
    obtain ⟨A0, c0, hsv⟩ : ∃ A0 c0, a.eval s = .slice A0 (n ()) c0 := by generalize a.eval s = u at hs; cases hs with | vec _ _ _ _ A c => exact ⟨A, c, rfl⟩
    rw [hsv] at hs
    obtain ⟨us, hown, hdo, hblk, _⟩ := vec_owns h.sim hE hs ho0 rfl
    obtain ⟨v', w', h1, h2, h3, h4⟩ := append_str_run (P := P) (w := w) (ty := o.type) ht ht2 hse hby hz hown ⟨(y ()).toArray⟩ (by rw [hsz]; exact hcount)
    have hrun := append_exec (P := P) (w := w) (a := a) ho (by rw [hsv, hxv]; exact h1)
    exact app_vec_fin (sz := 1) (t' := .int .u8) (ys := fun u => (y u).map fun b => (b.toNat : Int)) h hE hs rfl rfl hdo hblk (by simp [hsz]) (str_data g (y ())) hrun h2 h3 h4 (by simpa using hk)
theorem append_ok {t t2 : Nat} {s x : Operand} (h : Inv B g env E a.tmps w) (ho : o.op = .call { callee := .builtin .append, args := #[s, x], argTypes := #[t, t2] })
    (hk : eBuiltin P .append [t, t2] [ev env s, ev env x] env E K) : Done P o a w B K := by
  have hs := h.er.ev s
  have hx := h.er.ev x
  simp only [eBuiltin] at hk
  split at hk
  rotate_left
  · rename_i e htt ht
    split at hk <;> try exact hk.elim
    · rename_i n es ex
      split at hk <;> try exact hk.elim
      rename_i ht2
      exact appZ_ok h ho ht ht2 es ex hk
    · rename_i y ex
      exact append_str_ok h ho ht ex hk
  · exact hk.elim
  rename_i e htt ht
  have htt := Nat.eq_of_beq_eq_true htt
  subst htt
  split at hk <;> try exact hk.elim
  rename_i ty by_ z hty hby hz
  split at hk <;> try exact hk.elim
  rename_i sz hsz
  split at hk <;> try exact hk.elim
  rename_i hsd
  have hsd : sz = ty.size := Nat.eq_of_beq_eq_true hsd
  split at hk <;> try exact hk.elim
  rename_i hzs
  have hzs : z.cells.size = sz := Nat.eq_of_beq_eq_true hzs
  obtain ⟨ys, A, m, c, news, hxv, hyl, hmm, hdn, hA, hcell, hk⟩ := srcV_ok h.sim hx hk
  split at hk <;> try exact hk.elim
  · -- onto nil
    rename_i es
    rw [es] at hs
    have hsv : a.eval s = .slice none 0 0 := by generalize a.eval s = u at hs; cases hs; rfl
    rw [fN_eq, fEE_eq] at hk
    obtain ⟨hob, hk⟩ := hk
    have hob := hob.h
    obtain ⟨v', w', h1, h2, h3, h4⟩ := append_run (P := P) (w := w) (t := t) (ty := o.type) ht hsz hby hz hzs hsd (v := .slice none 0 0) (n := 0) (xs := []) ⟨by simp, .inl ⟨rfl, rfl⟩⟩ hyl hdn hA hcell (by rw [← hyl]; simpa using hob) (by omega)
    have hrun := append_exec (P := P) (w := w) (a := a) ho (by rw [hsv, hxv]; exact h1)
    simp only [Nat.zero_add, List.nil_append] at h2
    exact app_nil_fin h hsd hyl hdn hrun h2 h3 h4 hk
  · -- onto an owned slice
    rename_i i s' of n es
    rw [es] at hs
    split at hk <;> try exact hk.elim
    rename_i T t' xs hE
    split at hk <;> try exact hk.elim
    rename_i ht' _
    subst ht'
    split at hk <;> try exact hk.elim
    rename_i hss hTe
    have hss : s' = sz := Nat.eq_of_beq_eq_true hss
    have hTe : T = e := Nat.eq_of_beq_eq_true hTe
    subst hTe
    rw [castK_eq, fEnv_eq, fEE_eq] at hk
    obtain ⟨hob, hk⟩ := hk
    obtain ⟨ho0, hcount, hbytes⟩ := hob.h
    obtain ⟨A0, c0, hsv⟩ : ∃ A0 c0, a.eval s = .slice A0 (n ()) c0 := by generalize a.eval s = u at hs; cases hs with | vec _ _ _ _ A c => exact ⟨A, c, rfl⟩
    rw [hsv] at hs
    obtain ⟨us, hown, hdo, hblk, _⟩ := vec_owns h.sim hE hs ho0 (by omega)
    rw [hss] at hown
    have hmx : n () + m ≤ 9223372036854775807 := by rw [← hyl]; omega
    obtain ⟨v', w', h1, h2, h3, h4⟩ := append_run (P := P) (w := w) (t := t) (ty := o.type) ht hsz hby hz hzs hsd hown hyl hdn hA hcell (by rw [← hyl]; exact hbytes) hmx
    have hrun := append_exec (P := P) (w := w) (a := a) ho (by rw [hsv, hxv]; exact h1)
    exact app_vec_fin h hE hs hss hsd hdo hblk hyl hdn hrun h2 h3 h4 hk
end
end Go.Proofs.YtkcifdblaboodaaGreat.Fw
