/- The law TimerNext holds at every input that its statement lets in; part 1 of its proof. -/
import Derived.WalkKit
import Derived.StillTail
import Derived.Laws.Cells
import Derived.Lib.Builder
import Derived.Lib.UnsafeStr
import Derived.Laws.StructEq
import Derived.LaidEql
import Derived.MapKept
import Derived.Below
import Derived.Maps.AppendAt
import Derived.Lib.ConvBytes
import Derived.Maps.RangeRun
set_option linter.unusedVariables false
namespace Go.Proofs.Ytafcenlbllmahaa.Fw
open Go

/-! ### Kinds of plain data -/
inductive Ty | int (k : IntKind) | bool | str | list (e : Ty) | pair (a b : Ty)
  deriving DecidableEq
@[reducible] def Ty.den : Ty → Type
  | .int _ => Int | .bool => Bool | .str => List UInt8 | .list e => List e.den | .pair a b => a.den × b.den
def Ty.dflt : (t : Ty) → t.den
  | .int _ => (0 : Int) | .bool => false | .str => ([] : List UInt8) | .list e => ([] : List e.den) | .pair a b => (a.dflt, b.dflt)
def Ty.size : Ty → Nat
  | .pair a b => a.size + b.size | _ => 1

/-! ### Abstract values. Leaves stand behind a 'fun _', so that no evaluation enters them. -/
inductive AV
  | undef | skip
  | int (k : IntKind) (n : Unit → Int) | bool (b : Unit → Bool) | tt | ff | str (s : Unit → List UInt8)
  | lst (t : Ty) (xs : Unit → List t.den)
  | agg (cs : List AV) | tup (cs : List AV)
  | pnil | ptr (i off : Nat) | eptr (i sz : Nat) (idx : Unit → Nat) (off : Nat) | iptr (t : Ty) (x : Unit → t.den) (off : Nat) | cptr (cs : List AV) (off : Nat)
  | snil | vec (i sz : Nat) (off n : Unit → Nat)
  | fn (f : Fn) (first captured : List AV) | fnil
  | ifc (t : Nat) (v : AV) | inil
  | mp (i : Nat) | mnil
  | hp (i : Nat) (f : Unit → Option (Nat × Nat))
  | hm (i : Nat) (f : Unit → Nat)

/-! ### A heap of many blocks: what lies in it, with references into itself by number -/
inductive HV | dat (t : Ty) (x : t.den) | hp (f : Option (Nat × Nat)) | hm (k : Nat)
inductive HO | cells (T : TypeId) (n : Nat) (c : Nat → HV) | map (es : List (Nat × Int × HV)) (clock : Nat)
structure Hp where
  m : Nat
  o : Nat → HO

inductive Chunk
  | none
  | cells (T : TypeId) (cs : List AV)
  | vect (T : TypeId) (t : Ty) (xs : Unit → List t.den)
  | count (k : Unit → Nat)
  | smp (k : IntKind) (ks : List Int) (vs : List AV)
  | row (T : TypeId) (t : Ty) (xs : Unit → List t.den)
  | heap (h : Unit → Hp)
  | mit (x : AV) (since last : Nat) (seen : Unit → List Nat)

/-- Chunks whose blocks stay. -/
def fixB : Chunk → Bool
  | .cells _ _ => true | .smp _ _ _ => true | .row _ _ _ => true | .heap _ => true | .mit _ _ _ _ => true | _ => false
/-- What is asked on the way. -/
structure Ob (p : Unit → Prop) : Prop where h : p ()

/-- The cells of a datum, ahead of others. -/
def enc : (t : Ty) → (Unit → t.den) → List AV → List AV
  | .int k, n, r => .int k n :: r | .bool, b, r => .bool b :: r | .str, s, r => .str s :: r | .list e, xs, r => .lst e xs :: r
  | .pair a b, x, r => enc a (fun u => (x u).1) (enc b (fun u => (x u).2) r)

/-- What lies in a heap, as an abstract value. -/
def HV.av (i : Nat) : HV → AV
  | .dat t x => (match enc t (fun _ => x) [] with | [v] => v | l => .agg l)
  | .hp f => .hp i (fun _ => f)
  | .hm k => .hm i (fun _ => k)
/-- An abstract value as what lies in heap i. -/
inductive IsHV (i : Nat) : AV → HV → Prop
  | eq (v : HV) : IsHV i (v.av i) v
  | pnil : IsHV i .pnil (.hp none)
  | tt : IsHV i .tt (.dat .bool true)
  | ff : IsHV i .ff (.dat .bool false)
  | snil (t : Ty) : IsHV i .snil (.dat (.list t) [])
/-- A map's value at a number; as it is with one more, with one less. -/
def getH {α : Type} (es : List (Nat × Int × α)) (n : Int) : Option α := match es with
  | [] => none | (_, k, v) :: r => if k = n then some v else getH r n
def putH {α : Type} (es : List (Nat × Int × α)) (clock : Nat) (n : Int) (v : α) : List (Nat × Int × α) := match es with
  | [] => [(clock, n, v)] | (b, k, x) :: r => if k = n then (b, n, v) :: r else (b, k, x) :: putH r clock n v
def delH {α : Type} (es : List (Nat × Int × α)) (n : Int) : List (Nat × Int × α) := match es with
  | [] => [] | (b, k, x) :: r => if k = n then r else (b, k, x) :: delH r n
def putO (es : List (Nat × Int × HV)) (clock : Nat) (n : Int) (v : HV) : HO := .map (putH es clock n v) (match getH es n with | some _ => clock | none => clock + 1)
/-- The same, as far as it is there. -/
def HO.like : HO → HO → Prop
  | .cells T n c, .cells T' n' c' => T = T' ∧ n = n' ∧ ∀ j, j < n → c j = c' j
  | .map es c, .map es' c' => es = es' ∧ c = c'
  | _, _ => False
structure Hp.like (h h' : Hp) : Prop where
  m : h.m = h'.m
  o : ∀ k, k < h.m → (h.o k).like (h'.o k)
theorem HO.like_refl : ∀ o : HO, o.like o
  | .cells _ _ _ => ⟨rfl, rfl, fun _ _ => rfl⟩
  | .map _ _ => ⟨rfl, rfl⟩
theorem Hp.like_refl (h : Hp) : h.like h := ⟨rfl, fun _ _ => HO.like_refl _⟩
def Hp.set (h : Hp) (k : Nat) (o : HO) : Hp := ⟨h.m, fun j => if j = k then o else h.o j⟩
/-- A datum of a kind as one of the same kind. -/
def castK {t' t : Ty} (h : t' = t) (xs : Unit → List t'.den) (K : (Unit → List t.den) → Prop) : Prop :=
  Eq.rec (motive := fun t _ => ((Unit → List t.den) → Prop) → Prop) (fun K => K xs) h K
theorem castK_eq {t' t : Ty} (h : t' = t) (xs : Unit → List t'.den) (K : (Unit → List t.den) → Prop) : castK h xs K = K (h ▸ xs) := by subst h; rfl
def castX {t' t : Ty} (h : t' = t) (x : Unit → t'.den) (K : (Unit → t.den) → Prop) : Prop :=
  Eq.rec (motive := fun t _ => ((Unit → t.den) → Prop) → Prop) (fun K => K x) h K
theorem castX_eq {t' t : Ty} (h : t' = t) (x : Unit → t'.den) (K : (Unit → t.den) → Prop) : castX h x K = K (h ▸ x) := by subst h; rfl

/-- Cells read as a datum. -/
def dec : (t : Ty) → List AV → ((Unit → t.den) → List AV → Prop) → Prop
  | .int k, .int k' n :: r, K => match decEq k k' with | isTrue _ => K n r | isFalse _ => False
  | .bool, .bool b :: r, K => K b r
  | .bool, .tt :: r, K => K (fun _ => true) r
  | .bool, .ff :: r, K => K (fun _ => false) r
  | .str, .str s :: r, K => K s r
  | .list e, .lst e' xs :: r, K => match decEq e' e with | isTrue h => castK h xs fun xs => K xs r | isFalse _ => False
  | .list e, .snil :: r, K => K (fun _ => []) r
  | .pair a b, r, K => dec a r fun x r => dec b r fun y r => K (fun u => (x u, y u)) r
  | _, _, _ => False

def dec1 (t : Ty) (cs : List AV) (K : (Unit → t.den) → Prop) : Prop := dec t cs fun x r => match r with | [] => K x | _ => False
/-- Are two data the same? -/
def eqD : (t : Ty) → t.den → t.den → Bool
  | .int _, a, b => @BEq.beq Int _ a b
  | .bool, a, b => @BEq.beq Bool _ a b
  | .str, a, b => @BEq.beq (List UInt8) _ a b
  | .list _, _, _ => false
  | .pair a b, x, y => eqD a x.1 y.1 && eqD b x.2 y.2
/-- Something that a look decides. -/
structure Ck (b : Bool) : Prop where h : b = true

/-- A datum with cells from 'off' on replaced: 'none' where they don't fit. -/
def setF : (t : Ty) → (Unit → t.den) → Nat → List AV → ((Unit → t.den) → List AV → Prop) → Prop
  | .pair a b, x, off, cs, K =>
    match Nat.blt off a.size with
    | true => setF a (fun u => (x u).1) off cs fun y cs => (match cs with
      | [] => K (fun u => (y u, (x u).2)) []
      | cs => setF b (fun u => (x u).2) 0 cs fun z cs => K (fun u => (y u, z u)) cs)
    | false => setF b (fun u => (x u).2) (off - a.size) cs fun y cs => K (fun u => ((x u).1, y u)) cs
  | t, x, 0, cs, K => dec t cs K
  | _, _, _, _, _ => False

/-! ### Forcing -/
/-- A number made a numeral. -/
def fN (n : Nat) (K : Nat → Prop) : Prop := match n with
  | 0 => K 0 | 1 => K 1 | 2 => K 2 | 3 => K 3 | 4 => K 4 | 5 => K 5 | 6 => K 6 | 7 => K 7 | 8 => K 8 | 9 => K 9 | 10 => K 10 | 11 => K 11 | 12 => K 12 | 13 => K 13 | 14 => K 14 | 15 => K 15
  | 16 => K 16 | 17 => K 17 | 18 => K 18 | 19 => K 19 | 20 => K 20 | 21 => K 21 | 22 => K 22 | 23 => K 23 | 24 => K 24 | 25 => K 25 | 26 => K 26 | 27 => K 27 | 28 => K 28 | 29 => K 29 | 30 => K 30 | 31 => K 31
  | 32 => K 32 | 33 => K 33 | 34 => K 34 | 35 => K 35 | 36 => K 36 | 37 => K 37 | 38 => K 38 | 39 => K 39 | 40 => K 40 | 41 => K 41 | 42 => K 42 | 43 => K 43 | 44 => K 44 | 45 => K 45 | 46 => K 46 | 47 => K 47
  | n => K n
theorem fN_eq (n : Nat) (K : Nat → Prop) : fN n K = K n := by unfold fN; split <;> rfl
def fV (v : AV) (K : AV → Prop) : Prop := match v with
  | .undef => K .undef | .skip => K .skip
  | .int k n => K (.int k n) | .bool b => K (.bool b) | .tt => K .tt | .ff => K .ff | .str s => K (.str s) | .lst t xs => K (.lst t xs)
  | .agg cs => K (.agg cs) | .tup cs => K (.tup cs) | .pnil => K .pnil | .ptr i o => fN i fun i => K (.ptr i o) | .eptr i s j o => fN i fun i => K (.eptr i s j o) | .iptr t x o => K (.iptr t x o) | .cptr cs o => K (.cptr cs o)
  | .snil => K .snil | .vec i s o n => fN i fun i => K (.vec i s o n) | .fn f a b => K (.fn f a b) | .fnil => K .fnil | .ifc t v => K (.ifc t v) | .inil => K .inil | .mp i => fN i fun i => K (.mp i) | .mnil => K .mnil | .hp i f => fN i fun i => K (.hp i f) | .hm i f => fN i fun i => K (.hm i f)
theorem fV_eq (v : AV) (K : AV → Prop) : fV v K = K v := by cases v <;> simp only [fV, fN_eq]
def fL (l : List AV) (K : List AV → Prop) : Prop := match l with
  | [] => K [] | c :: r => fV c fun c => fL r fun r => K (c :: r)
theorem fL_eq (l : List AV) (K : List AV → Prop) : fL l K = K l := by
  induction l generalizing K with
  | nil => rfl
  | cons c r ih => simp only [fL, fV_eq, ih]
def fC (c : Chunk) (K : Chunk → Prop) : Prop := match c with
  | .none => K .none | .cells T cs => fL cs fun cs => K (.cells T cs) | .vect T t xs => K (.vect T t xs) | .count k => K (.count k) | .smp k ks vs => fL vs fun vs => K (.smp k ks vs) | .row T t xs => K (.row T t xs) | .heap h => K (.heap h) | .mit x a b l => fV x fun x => K (.mit x a b l)
theorem fC_eq (c : Chunk) (K : Chunk → Prop) : fC c K = K c := by cases c <;> simp [fC, fL_eq, fV_eq]
def fE (l : List Chunk) (K : List Chunk → Prop) : Prop := match l with
  | [] => K []
  | .none :: r => fE r fun r => K (.none :: r) | .cells T cs :: r => fE r fun r => K (.cells T cs :: r) | .vect T t xs :: r => fE r fun r => K (.vect T t xs :: r) | .count k :: r => fE r fun r => K (.count k :: r) | .smp k ks vs :: r => fE r fun r => K (.smp k ks vs :: r) | .row T t xs :: r => fE r fun r => K (.row T t xs :: r) | .heap h :: r => fE r fun r => K (.heap h :: r) | .mit x a b l :: r => fE r fun r => K (.mit x a b l :: r)
theorem fE_eq (l : List Chunk) (K : List Chunk → Prop) : fE l K = K l := by
  induction l generalizing K with
  | nil => rfl
  | cons c r ih => cases c <;> simp only [fE, ih]
/-! ### The state: slots (the newest first), chunks -/
abbrev Env := List (Nat × AV)
def look (env : Env) (t : Nat) : AV := match env with
  | [] => .undef
  | (k, v) :: r => match Nat.beq k t with | true => v | false => look r t
def cst0 : Value → AV
  | .int k n => .int k (fun _ => n) | .bool true => .tt | .bool false => .ff | .string s => .str (fun _ => s.data.toList)
  | .pointer none => .pnil | .slice none 0 0 => .snil | .map none => .mnil | .nilFunc => .fnil | .nilIface => .inil | _ => .undef
def cst0L : List Value → List AV
  | [] => [] | c :: r => cst0 c :: cst0L r
def cst : Value → AV
  | .agg ⟨cs⟩ => .agg (cst0L cs) | .tuple ⟨cs⟩ => .tup (cst0L cs) | .iface t v => .ifc t (cst0 v) | v => cst0 v
def ev (env : Env) : Operand → AV
  | .tmp t => look env t
  | .const v => cst v
  | .func f => .fn (.func f) [] []
  | _ => .undef
def evL (env : Env) : List Operand → List AV
  | [] => [] | x :: r => ev env x :: evL env r
def nth {α : Type} : List α → Nat → Option α
  | [], _ => none | x :: _, 0 => some x | _ :: r, n + 1 => nth r n
theorem nth_eq {α : Type} (l : List α) (n : Nat) : nth l n = l[n]? := by
  induction l generalizing n with
  | nil => simp [nth]
  | cons x r ih => cases n <;> simp [nth, ih]
def getE (E : List Chunk) (i : Nat) : Chunk := match E with | [] => .none | c :: r => match i with | 0 => c | i + 1 => getE r i
def setE (E : List Chunk) (i : Nat) (c' : Chunk) : List Chunk := match E with | [] => [] | c :: r => match i with | 0 => c' :: r | i + 1 => c :: setE r i c'
def lenE : List Chunk → Nat
  | [] => 0 | _ :: r => lenE r + 1
def addE : List Chunk → Chunk → List Chunk
  | [], c => [c] | d :: r, c => d :: addE r c
theorem lenE_eq (E : List Chunk) : lenE E = E.length := by induction E <;> simp [lenE, *]
theorem addE_eq (E : List Chunk) (c : Chunk) : addE E c = E ++ [c] := by induction E <;> simp [addE, *]
theorem getE_eq (E : List Chunk) (i : Nat) : getE E i = E[i]?.getD .none := by
  induction E generalizing i with
  | nil => simp [getE]
  | cons c r ih => cases i <;> simp [getE, ih]
theorem setE_eq (E : List Chunk) (i : Nat) (c : Chunk) : setE E i c = E.set i c := by
  induction E generalizing i with
  | nil => simp [setE]
  | cons d r ih => cases i <;> simp [setE, ih]
/-- n cells from 'off' on. -/
def takeX : Nat → List AV → Option (List AV)
  | 0, _ => some [] | n + 1, [] => none | n + 1, c :: r => match takeX n r with | some l => some (c :: l) | none => none
def dropX : Nat → List AV → List AV
  | 0, l => l | n + 1, [] => [] | n + 1, _ :: r => dropX n r
/-- cells from 'off' on replaced by others -/
def putX : Nat → List AV → List AV → Option (List AV)
  | 0, l, [] => some l
  | 0, [], _ :: _ => none
  | 0, _ :: l, v :: vs => match putX 0 l vs with | some r => some (v :: r) | none => none
  | n + 1, [], _ => none
  | n + 1, c :: l, vs => match putX n l vs with | some r => some (c :: r) | none => none

/-! ### Types -/
section
variable (P : Program)
def tinfo (t : Nat) : Option TypeInfo := nth P.types.toList t
def tund (t : Nat) : Option TypeDesc := match tinfo P t with
  | some i => (match i.desc with | .named _ u => (match tinfo P u with | some j => some j.desc | none => none) | d => some d)
  | none => none
def tsize (t : Nat) : Option Nat := match tinfo P t with | some i => some i.size | none => none
def tbytes (t : Nat) : Option Nat := match tinfo P t with | some i => some i.bytes | none => none
def tzero (t : Nat) : Option Value := match tinfo P t with | some i => i.zero | none => none

/-- The kind of data that a Go type is, if it is one. -/
def tyFs (g : Nat → Option Ty) : List Field → Option Ty
  | [] => none
  | [f] => g f.type
  | f :: h :: r => match g f.type, tyFs g (h :: r) with | some a, some b => some (.pair a b) | _, _ => none
/-- So many of a kind, one behind the other. -/
def tyRep : Nat → Ty → Option Ty
  | 0, _ => none | 1, y => some y | n + 2, y => match tyRep (n + 1) y with | some z => some (.pair y z) | none => none
def tyOf : Nat → Nat → Option Ty
  | 0, _ => none
  | d + 1, t => match tund P t with
    | some (.int k) => some (.int k)
    | some .bool => some .bool
    | some .string => some .str
    | some (.slice e) => (match tyOf d e with | some y => some (.list y) | none => none)
    | some (.struct fs) => tyFs (tyOf d) fs.toList
    | some (.array n e) => (match tyOf d e with | some y => tyRep n y | none => none)
    | _ => none
end
end Go.Proofs.Ytafcenlbllmahaa.Fw
set_option linter.unusedVariables false
namespace Go.Proofs.Ytafcenlbllmahaa.Fw
open Go

def lenA : List AV → Nat
  | [] => 0 | _ :: r => lenA r + 1
theorem lenA_eq (l : List AV) : lenA l = l.length := by induction l <;> simp [lenA, *]
section
variable (P : Program)

/-- A value of type t out of cells from g on. -/
def ldC (t : Nat) (cs : List AV) (g : Nat) (K : AV → Prop) : Prop :=
  match tund P t with
  | some (.struct _) | some (.array _ _) => (match tsize P t with
    | some n => (match takeX n (dropX g cs) with | some l => fL l fun l => K (.agg l) | none => False)
    | none => False)
  | some _ => (match dropX g cs with | v :: _ => fV v K | [] => False)
  | none => False

/-- The chunk's cells that a pointer leads into. -/
def atP (E : List Chunk) (p : AV) (K : List AV → Nat → Prop) : Prop :=
  match p with
  | .ptr i g => (match getE E i with | .cells _ cs => K cs g | _ => False)
  | .eptr i sz j g => (match getE E i with
    | .vect _ t xs => (match Nat.beq t.size sz with | true => K (enc t (fun u => (xs u).getD (j u) t.dflt) []) g | false => False)
    | .row _ t xs => (match Nat.beq t.size sz with | true => K (enc t (fun u => (xs u).getD (j u) t.dflt) []) g | false => False)
    | _ => False)
  | .iptr t x g => K (enc t x []) g
  | .cptr cs g => K cs g
  | _ => False

def nb : AV → AV
  | .tt => .ff | .ff => .tt | .bool b => .bool (fun u => !b u) | .hp _ _ => .undef | .hm _ _ => .undef | v => v

def isCst : Operand → Bool
  | .const _ => true | _ => false

/-- May structs of this type be compared, field by field? -/
def eqFs (h : Nat → Option Ty) (g : Nat → Bool) : List Field → Nat → Bool
  | [], _ => true
  | f :: r, k => (match Nat.beq f.offset k, tsize P f.type, h f.type with
    | true, some n, some ty => Nat.beq n ty.size && !(f.name == "_") && g f.type && eqFs h g r (k + n)
    | _, _, _ => false)
def eqOk : Nat → Nat → Bool
  | 0, _ => false
  | d + 1, t => match tund P t with
    | some (.int _) => true | some .bool => true | some .string => true
    | some (.struct fs) => !P.stoodInHeld t && eqFs P (tyOf P d) (eqOk d) fs.toList 0
    | _ => false
/-! ### What is asked where a heap is read: whoever walks tells what lies there -/
/-- No struct, no array. -/
def isSc (P : Program) (t : Nat) : Bool := match tund P t with
  | some (.struct _) | some (.array _ _) => false | some _ => true | none => false
structure LdH (P : Program) (t i : Nat) (h : Unit → Hp) (f : Unit → Option (Nat × Nat)) (K : AV → Prop) : Prop where
  h : ∃ k off T n c v, f () = some (k, off) ∧ (h ()).o k = .cells T n c ∧ off < n ∧ c off = v ∧ isSc P t = true ∧ K (v.av i)
structure EqH (h : Unit → Hp) (f g : Unit → Option (Nat × Nat)) (K : AV → Prop) : Prop where
  h : (∀ x, f () = some x → ∃ T n c, (h ()).o x.1 = .cells T n c) ∧ (∀ x, g () = some x → ∃ T n c, (h ()).o x.1 = .cells T n c) ∧ K (.bool fun u => f u == g u)
/-- A map from ints: what it answers where nothing is. -/
def mapZ (P : Program) (t : Nat) : Option Value := match tund P t with
  | some (.map kt et) => (match tund P kt with | some (.int .i64) => tzero P et | _ => none)
  | _ => none
structure LkH (P : Program) (t : Nat) (ok : Bool) (i : Nat) (h : Unit → Hp) (f : Unit → Nat) (n : Unit → Int) (K : AV → Prop) : Prop where
  h : ∃ es clock z, (h ()).o (f ()) = .map es clock ∧ mapZ P t = some z ∧
    (∀ v, getH es (n ()) = some v → K (match ok with | true => .tup [v.av i, .tt] | false => v.av i)) ∧ (getH es (n ()) = none → K (match ok with | true => .tup [cst z, .ff] | false => cst z))
structure LenH (h : Unit → Hp) (f : Unit → Nat) (K : AV → Prop) : Prop where
  h : ∃ es clock, (h ()).o (f ()) = .map es clock ∧ K (.int .i64 fun _ => (es.length : Int))
/-- '==' -/
def eqV (xType : Nat) (x y : Operand) (E : List Chunk) (a b : AV) (K : AV → Prop) : Prop :=
  match a, b with
  | .int k a, .int k' b => (match decEq k k' with | isTrue _ => K (.bool fun u => a u == b u) | isFalse _ => False)
  | .str a, .str b => K (.bool fun u => a u == b u)
  | .bool a, .bool b => (match tund P xType with | some .bool => K (.bool fun u => a u == b u) | _ => False)
  | .bool a, .tt => (match tund P xType with | some .bool => K (.bool a) | _ => False)
  | .bool a, .ff => (match tund P xType with | some .bool => K (.bool fun u => !a u) | _ => False)
  | .tt, .tt | .ff, .ff => (match tund P xType with | some .bool => K .tt | _ => False)
  | .tt, .ff | .ff, .tt => (match tund P xType with | some .bool => K .ff | _ => False)
  | .pnil, .pnil => (match tund P xType with | some (.pointer _) => K .tt | _ => False)
  | .ptr _ _, .pnil | .eptr _ _ _ _, .pnil | .iptr _ _ _, .pnil | .cptr _ _, .pnil | .pnil, .ptr _ _ | .pnil, .eptr _ _ _ _ | .pnil, .iptr _ _ _ | .pnil, .cptr _ _ => (match tund P xType with | some (.pointer _) => K .ff | _ => False)
  | .hp i f, .pnil | .pnil, .hp i f => (match tund P xType with | some (.pointer _) => K (.bool fun u => (f u).isNone) | _ => False)
  | .hp i f, .hp j g => (match tund P xType with
    | some (.pointer te) => (match tsize P te, Nat.beq i j, getE E i with | some (_ + 1), true, .heap h => EqH h f g K | _, _, _ => False)
    | _ => False)
  | .snil, .snil => (match tund P xType with | some (.slice _) => K .tt | _ => False)
  | .lst t xs, .snil => (match tund P xType with | some (.slice _) => (∀ b : Bool, (b = true → xs () = []) → K (.bool fun _ => b)) | _ => False)
  | .vec i s o n, .snil => (match tund P xType with | some (.slice _) => (∀ b : Bool, (b = true → n () = 0) → K (.bool fun _ => b)) | _ => False)
  | .fnil, .fnil => (match tund P xType with | some (.func _ _ _) => K .tt | _ => False)
  | .fn _ _ _, .fnil => (match tund P xType with | some (.func _ _ _) => K .ff | _ => False)
  | .agg cs, .agg ds => (match tund P xType, tyOf P 6 xType with
    | some (.struct _), some ty => Ck (eqOk P 6 xType && !P.eqGuardType P.depth xType) ∧ dec1 ty cs fun x => dec1 ty ds fun y => K (.bool fun u => eqD ty (x u) (y u))
    | _, _ => False)
  | .ptr i g, .ptr j o => (match tund P xType with
    | some (.pointer te) => (match tinfo P te, Nat.beq i j, Nat.beq g o with | some _, true, true => K .tt | _, _, _ => False)
    | _ => False)
  | _, _ => False

def binI (op : BinOp) (k : IntKind) (a b : Unit → Int) (K : AV → Prop) : Prop :=
  match op with
  | .add => K (.int k fun u => k.wrap (a u + b u))
  | .sub => K (.int k fun u => k.wrap (a u - b u))
  | .mul => K (.int k fun u => k.wrap (a u * b u))
  | .quo => Ob (fun u => b u ≠ 0) ∧ K (.int k fun u => k.wrap ((a u).tdiv (b u)))
  | .rem => Ob (fun u => b u ≠ 0) ∧ K (.int k fun u => (a u).tmod (b u))
  | .and => K (.int k fun u => k.wrap (BitVec.ofInt k.bits (a u) &&& BitVec.ofInt k.bits (b u)).toNat)
  | .or => K (.int k fun u => k.wrap (BitVec.ofInt k.bits (a u) ||| BitVec.ofInt k.bits (b u)).toNat)
  | .xor => K (.int k fun u => k.wrap (BitVec.ofInt k.bits (a u) ^^^ BitVec.ofInt k.bits (b u)).toNat)
  | .andNot => K (.int k fun u => k.wrap (BitVec.ofInt k.bits (a u) &&& ~~~ BitVec.ofInt k.bits (b u)).toNat)
  | .eql => K (.bool fun u => a u == b u)
  | .neq => K (.bool fun u => a u != b u)
  | .lss => K (.bool fun u => decide (a u < b u))
  | .leq => K (.bool fun u => decide (a u ≤ b u))
  | .gtr => K (.bool fun u => decide (b u < a u))
  | .geq => K (.bool fun u => decide (b u ≤ a u))
  | _ => False

def binS (op : BinOp) (a b : Unit → List UInt8) (K : AV → Prop) : Prop :=
  match op with
  | .add => Ob (fun u => (a u).length + (b u).length ≤ 9223372036854775807) ∧ K (.str fun u => a u ++ b u)
  | .eql => K (.bool fun u => a u == b u)
  | .neq => K (.bool fun u => !(a u == b u))
  | .lss => K (.bool fun u => Op.bytesLess (a u) (b u))
  | .leq => K (.bool fun u => Op.bytesLess (a u) (b u) || a u == b u)
  | .gtr => K (.bool fun u => !(Op.bytesLess (a u) (b u) || a u == b u))
  | .geq => K (.bool fun u => !Op.bytesLess (a u) (b u))
  | _ => False

def binII (op : BinOp) (k k' : IntKind) (a b : Unit → Int) (K : AV → Prop) : Prop :=
  match op with
  | .shl => Ob (fun u => 0 ≤ b u) ∧ K (.int k fun u => k.wrap (a u * 2 ^ (min (b u).toNat k.bits)))
  | .shr => Ob (fun u => 0 ≤ b u) ∧ K (.int k fun u => (a u).fdiv (2 ^ (min (b u).toNat k.bits)))
  | op => (match decEq k k' with | isTrue _ => binI op k a b K | isFalse _ => False)
def binV (op : BinOp) (xType : Nat) (x y : Operand) (E : List Chunk) (a b : AV) (K : AV → Prop) : Prop :=
  match a, b with
  | .int k a, .int k' b => binII op k k' a b K
  | .str a, .str b => binS op a b K
  | a, b => (match op with
    | .eql => eqV P xType x y E a b K
    | .neq => eqV P xType x y E a b fun r => K (nb r)
    | _ => False)

/-- A bound of a slice expression. -/
def bnd (env : Env) (x : Option Operand) (d : Unit → Int) (K : (Unit → Int) → Prop) : Prop :=
  match x with
  | none => K d
  | some x => (match ev env x with | .int _ n => K n | _ => False)

def min2V (b a : AV) (K : AV → Prop) : Prop := match b, a with
  | .int _ b, .int k a => K (.int k fun u => if b u < a u then b u else a u) | _, _ => False
def max2V (b a : AV) (K : AV → Prop) : Prop := match b, a with
  | .int _ b, .int k a => K (.int k fun u => if b u > a u then b u else a u) | _, _ => False
def minV : List AV → AV → (AV → Prop) → Prop
  | [], a, K => K a
  | b :: r, a, K => min2V b a fun c => minV r c K
def maxV : List AV → AV → (AV → Prop) → Prop
  | [], a, K => K a
  | b :: r, a, K => max2V b a fun c => maxV r c K

/-- parts laid over the zero value's cells -/
def fillV (place : Nat → Option (Nat × Nat)) (cells : List AV) : List (Nat × List AV) → Option (List AV)
  | [] => some cells
  | (i, v) :: rest => match place i with
    | some (off, size) => (match Nat.beq v.length size with
      | true => (match putX off cells v with | some cs => fillV place cs rest | none => none)
      | false => none)
    | none => none
def cellsV : AV → List AV
  | .agg cs => cs | v => [v]
/-- a value's cells, if it is known -/
def cellsO : AV → Option (List AV)
  | .undef | .skip | .tup _ => none | .agg cs => some cs | v => some [v]
def partsV (env : Env) : List (Nat × Operand) → Option (List (Nat × List AV))
  | [] => some [] | (i, x) :: r => match cellsO (ev env x), partsV env r with | some c, some l => some ((i, c) :: l) | _, _ => none
def placesF : List Field → Option (List (Nat × Nat))
  | [] => some []
  | f :: r => match tsize P f.type, placesF r with | some s, some l => some ((f.offset, s) :: l) | _, _ => none
/-- a struct's, an array's cells out of parts -/
def buildV (t : Nat) (ps : List (Nat × List AV)) (K : AV → Prop) : Prop :=
  match tzero P t with
  | some z => (match cellsO (cst z) with
    | some cs => (match tund P t with
      | some (.struct fs) => (match placesF P fs.toList with
        | some pl => (match fillV (nth pl) cs ps with | some cs => fL cs fun cs => K (.agg cs) | none => False)
        | none => False)
      | some (.array _ e) => (match tsize P e with
        | some s => (match fillV (fun i => some (i * s, s)) cs ps with | some cs => fL cs fun cs => K (.agg cs) | none => False)
        | none => False)
      | _ => False)
    | none => False)
  | none => False

def lenV (t : Nat) (a : AV) (K : AV → Prop) : Prop :=
  match a with
  | .str s => (match tund P t with | some .string => K (.int .i64 fun u => ((s u).length : Int)) | _ => False)
  | .lst _ xs => (match tund P t with | some (.slice _) => K (.int .i64 fun u => ((xs u).length : Int)) | _ => False)
  | .vec _ _ _ n => (match tund P t with | some (.slice _) => K (.int .i64 fun u => (n u : Int)) | _ => False)
  | .snil => (match tund P t with | some (.slice _) => K (.int .i64 fun _ => 0) | _ => False)
  | .agg _ => (match tund P t with | some (.array n _) => K (.int .i64 fun _ => (n : Int)) | _ => False)
  | _ => False
def capV (t : Nat) (a : AV) (K : AV → Prop) : Prop :=
  match a with
  | .vec _ _ _ n => (match tund P t with | some (.slice _) => (∀ c : Nat, n () ≤ c → K (.int .i64 fun _ => (c : Int))) | _ => False)
  | .snil => (match tund P t with | some (.slice _) => K (.int .i64 fun _ => 0) | _ => False)
  | _ => False
def builtinV (b : Builtin) (t : Nat) (az : List AV) (E : List Chunk) (K : AV → Prop) : Prop :=
  match az with
  | [] => False
  | a :: r => (match b with
    | .len => (match r with | [] => (match a with
        | .hm i f => (match tund P t, getE E i with | some (.map _ _), .heap h => LenH h f K | _, _ => False)
        | a => lenV P t a K) | _ => False)
    | .cap => (match r with | [] => capV P t a K | _ => False)
    | .min => minV r a K
    | .max => maxV r a K
    | .unsafeSliceData => (match r, a with
      | [], .vec i 1 o n => Ob (fun u => o u = 0 ∧ n u ≠ 0) ∧ K (.eptr i 1 (fun _ => 0) 0)
      | _, _ => False)
    | _ => False)

/-- A known map's value at a number. -/
def lkV : List Int → List AV → (Unit → Int) → (AV → Prop) → Prop → Prop
  | [], [], _, _, D => D
  | k :: ks, v :: vs, n, K, D => (n () = k → fV v K) ∧ (n () ≠ k → lkV ks vs n K D)
  | _, _, _, _, _ => False
def lookV (t : Nat) (ok : Bool) (x k : AV) (E : List Chunk) (K : AV → Prop) : Prop :=
  match x, k with
  | .hm i f, .int .i64 n => (match getE E i with | .heap h => LkH P t ok i h f n K | _ => False)
  | .mp i, .int kk n => (match tund P t, getE E i with
    | some (.map kt et), .smp k' ks vs => (match tund P kt, decEq kk k', tzero P et with
      | some (.int _), isTrue _, some z => (match ok with
        | true => lkV ks vs n (fun v => K (.tup [v, .tt])) (K (.tup [cst z, .ff]))
        | false => lkV ks vs n K (K (cst z)))
      | _, _, _ => False)
    | _, _ => False)
  | _, _ => False
/-- The operations that leave the world alone. -/
def qV (op : Op) (env : Env) (E : List Chunk) (K : AV → Prop) : Prop :=
  match op with
  | .move x | .assign x => K (ev env x)
  | .pick c a b => (match ev env c with
    | .bool c => (c () = true → K (ev env a)) ∧ (c () = false → K (ev env b))
    | .tt => K (ev env a) | .ff => K (ev env b) | _ => False)
  | .load t x => (match ev env x with
    | .hp i f => (match getE E i with | .heap h => LdH P t i h f K | _ => False)
    | p => atP E p fun cs g => ldC P t cs g K)
  | .nilCheck x => (match ev env x with
    | .ptr i g => K (.ptr i g) | .eptr i s j g => K (.eptr i s j g) | .iptr t x g => K (.iptr t x g) | .cptr cs g => K (.cptr cs g) | .fn (.func f) a b => K (.fn (.func f) a b)
    | .hp i f => Ob (fun u => f u ≠ none) ∧ K (.hp i f) | _ => False)
  | .fieldAddr s x f => (match tund P s with
    | some (.struct fs) => (match nth fs.toList f with
      | some fd => (match tsize P fd.type with
        | some (_ + 1) => (match ev env x with
          | .ptr i g => fN (g + fd.offset) fun g => K (.ptr i g)
          | .eptr i sz j g => fN (g + fd.offset) fun g => K (.eptr i sz j g)
          | .iptr t x g => fN (g + fd.offset) fun g => K (.iptr t x g)
          | .cptr cs g => fN (g + fd.offset) fun g => K (.cptr cs g)
          | .hp i f => Ob (fun u => f u ≠ none) ∧ K (.hp i fun u => (f u).map fun x => (x.1, x.2 + fd.offset))
          | _ => False)
        | _ => False)
      | none => False)
    | _ => False)
  | .field s x f => (match tund P s with
    | some (.struct fs) => (match nth fs.toList f with
      | some fd => (match ev env x with | .agg cs => ldC P fd.type cs fd.offset K | _ => False)
      | none => False)
    | _ => False)
  | .indexAddr t x ix => (match ev env ix with
    | .int _ j => (match tund P t with
      | some (.slice e) => (match tsize P e with
        | some sz => (match ev env x with
          | .lst ty xs => (match Nat.beq ty.size sz with | true => Ob (fun u => 0 ≤ j u ∧ j u < (xs u).length) ∧ K (.iptr ty (fun u => (xs u).getD (j u).toNat ty.dflt) 0) | false => False)
          | .vec i s o n => (match Nat.beq s sz with
            | true => Ob (fun u => 0 ≤ j u ∧ j u < n u) ∧ (match getE E i with
              | .vect _ _ _ => K (.eptr i s (fun u => o u + (j u).toNat) 0)
              | .row _ _ _ => K (.eptr i s (fun u => o u + (j u).toNat) 0)
              | .cells _ _ => fN ((o () + (j ()).toNat) * s) fun g => K (.ptr i g)
              | _ => False)
            | false => False)
          | _ => False)
        | none => False)
      | some (.array len e) => (match tsize P e with
        | some sz => (match ev env x with
          | .ptr i g => Ob (fun u => 0 ≤ j u ∧ j u < len) ∧ fN (g + (j ()).toNat * sz) fun g => K (.ptr i g)
          | .eptr i s q g => Ob (fun u => 0 ≤ j u ∧ j u < len) ∧ fN (g + (j ()).toNat * sz) fun g => K (.eptr i s q g)
          | .iptr ty y g => Ob (fun u => 0 ≤ j u ∧ j u < len) ∧ fN (g + (j ()).toNat * sz) fun g => K (.iptr ty y g)
          | .hp i f => Ob (fun u => f u ≠ none ∧ 0 ≤ j u ∧ j u < len) ∧ K (.hp i fun u => (f u).map fun x => (x.1, x.2 + (j u).toNat * sz))
          | _ => False)
        | none => False)
      | _ => False)
    | _ => False)
  | .index t x ix => (match ev env ix with
    | .int _ j => (match tund P t with
      | some .string => (match ev env x with
        | .str s => Ob (fun u => 0 ≤ j u ∧ j u < (s u).length) ∧ K (.int .u8 fun u => (((s u).getD (j u).toNat 0).toNat : Int))
        | _ => False)
      | some (.array len e) => (match tsize P e with
        | some sz => (match ev env x with
          | .agg cs => Ob (fun u => 0 ≤ j u ∧ j u < len) ∧ ldC P e cs ((j ()).toNat * sz) K
          | _ => False)
        | none => False)
      | _ => False)
    | _ => False)
  | .slice t x lo hi none => (match tund P t with
    | some .string => (match ev env x with
      | .str s => bnd env lo (fun _ => 0) fun l => bnd env hi (fun u => (s u).length) fun h =>
        Ob (fun u => 0 ≤ l u ∧ l u ≤ h u ∧ h u ≤ (s u).length) ∧ K (.str fun u => ((s u).take (h u).toNat).drop (l u).toNat)
      | _ => False)
    | some (.slice e) => (match ev env x with
      | .lst ty xs => (match tsize P e with
        | some sz => (match Nat.beq ty.size sz with
          | true => bnd env lo (fun _ => 0) fun l => bnd env hi (fun u => (xs u).length) fun h =>
            Ob (fun u => 0 ≤ l u ∧ l u ≤ h u ∧ h u ≤ (xs u).length) ∧ K (.lst ty fun u => ((xs u).take (h u).toNat).drop (l u).toNat)
          | false => False)
        | none => False)
      | .vec i s o n => (match tsize P e with
        | some sz => (match Nat.beq s sz with
          | true => bnd env lo (fun _ => 0) fun l => bnd env hi (fun u => n u) fun h =>
            Ob (fun u => 0 ≤ l u ∧ l u ≤ h u ∧ h u ≤ n u) ∧ K (.vec i s (fun u => o u + (l u).toNat) (fun u => (h u).toNat - (l u).toNat))
          | false => False)
        | none => False)
      | .snil => (match tsize P e with
        | some _ => bnd env lo (fun _ => 0) fun l => bnd env hi (fun _ => 0) fun h => Ob (fun u => l u = 0 ∧ h u = 0) ∧ K .snil
        | none => False)
      | _ => False)
    | _ => False)
  | .slice t x none (some hi) (some mx) => (match ev env hi, ev env mx with
    | .int _ h, .int _ m => (match tund P t with
      | some (.slice e) => (match tsize P e with
        | some sz => (match ev env x with
          | .lst ty xs => (match Nat.beq ty.size sz with
            | true => Ob (fun u => h u = (xs u).length ∧ m u = (xs u).length) ∧ K (.lst ty xs)
            | false => False)
          | .snil => Ob (fun u => h u = 0 ∧ m u = 0) ∧ K .snil
          | _ => False)
        | none => False)
      | _ => False)
    | _, _ => False)
  | .binOp op xType x y _ => binV P op xType x y E (ev env x) (ev env y) K
  | .unOp op _ x => (match op, ev env x with
    | .not, .bool b => K (.bool fun u => !b u) | .not, .tt => K .ff | .not, .ff => K .tt
    | .neg, .int k n => K (.int k fun u => k.wrap (0 - n u))
    | .xor, .int k n => K (.int k fun u => k.wrap (BitVec.ofInt k.bits (if k.signed then -1 else k.max) ^^^ BitVec.ofInt k.bits (n u)).toNat)
    | _, _ => False)
  | .convert src dst x => (match tund P src, tund P dst, ev env x with
    | some _, some (.int k), .int _ n => K (.int k fun u => k.wrap (n u))
    | some _, some .string, .str s => K (.str s)
    | some (.slice e), some .string, .lst (.int .u8) xs => (match tund P e with | some (.int .u8) => K (.str fun u => (xs u).map fun z => UInt8.ofNat z.toNat) | _ => False)
    | some (.slice e), some .string, .snil => (match tund P e with | some (.int .u8) => K (.str fun _ => []) | _ => False)
    | some (.slice e), some .string, .vec i 1 o n => (match tund P e, getE E i with
      | some (.int .u8), .vect _ (.int .u8) xs => K (.str fun u => ((xs u).drop (o u) |>.take (n u)).map fun z => UInt8.ofNat z.toNat)
      | _, _ => False)
    | some (.pointer t), some .unsafePointer, .ptr i g => (match tsize P t, getE E i with
      | some (_ + 1), .cells _ cs => (match Nat.blt g (lenA cs) with | true => K (.ptr i g) | false => False)
      | _, _ => False)
    | some .unsafePointer, some (.pointer t), .ptr i g => (match tinfo P t, getE E i with
      | some _, .cells T cs => fN (lenA cs) fun n => Ck (liesAt P P.depth T (n / P.cellsOf T) g t 1) ∧ K (.ptr i g)
      | _, _ => False)
    | _, _, _ => False)
  | .makeInterface t x => (match tund P t with | some (.interface _) => False | some _ => K (.ifc t (ev env x)) | none => False)
  | .makeFunc f a b => fL (evL env a.toList) fun a => fL (evL env b.toList) fun b => K (.fn f a b)
  | .extract x i => (match ev env x with | .tup cs => (match nth cs i with | some v => fV v K | none => False) | _ => False)
  | .lookup t x k ok => lookV P t ok (ev env x) (ev env k) E K
  | .build t parts => (match partsV env parts.toList with | some ps => buildV P t ps K | none => False)
  | .call { callee := .builtin b, args, argTypes } => (match argTypes.toList with
    | t :: _ => builtinV P b t (evL env args.toList) E K
    | [] => False)
  | _ => False

end
end Go.Proofs.Ytafcenlbllmahaa.Fw
set_option linter.unusedVariables false
set_option linter.unusedSimpArgs false
namespace Go.Proofs.Ytafcenlbllmahaa.Fw
open Go

/-- 'Φ': blocks that never turn again; 'B': the block of a chunk; 'V': the room of a chunk that is a slice's, if it is not nil; 'L': how many elements it has; 'k': a count; 'W': the blocks of a chunk that has many, 'M': how many. -/
structure Gh where
  n : Nat
  Φ : Nat → Option Obj
  B : Nat → Nat
  V : Nat → Option Nat
  L : Nat → Nat
  k : Nat
  W : Nat → Nat → Nat
  M : Nat → Nat

def At (g : Gh) (A : Option Addr) (k : Nat) (u : Value) : Prop :=
  ∃ b off cells T fr, A = some ⟨b, off, none⟩ ∧ g.Φ b = some (.cells cells T fr) ∧ cells[off + k]? = some u

inductive R (g : Gh) : AV → Value → Prop
  | undef (v) : R g .undef v
  | skip : R g .skip Go.undef
  | int (k n) : R g (.int k n) (.int k (n ()))
  | bool (b) : R g (.bool b) (.bool (b ()))
  | tt : R g .tt (.bool true)
  | ff : R g .ff (.bool false)
  | str (s) : R g (.str s) (.string ⟨(s ()).toArray⟩)
  | lst (t) (xs : Unit → List (Ty.den t)) (A) (c) (u : Nat → Nat → Value) (hc : (xs ()).length ≤ c) (hm : (xs ()).length ≤ 9223372036854775807)
      (ha : ∀ (i : Nat) (x : Ty.den t) (j : Nat) (y : AV), (xs ())[i]? = some x → (enc t (fun _ => x) [])[j]? = some y → At g A (i * t.size + j) (u i j))
      (hr : ∀ (i : Nat) (x : Ty.den t) (j : Nat) (y : AV), (xs ())[i]? = some x → (enc t (fun _ => x) [])[j]? = some y → R g y (u i j)) : R g (.lst t xs) (.slice A (xs ()).length c)
  | agg (cs) (vs : Array Value) (hl : cs.length = vs.size) (hr : ∀ (i : Nat) (y : AV) (u : Value), cs[i]? = some y → vs[i]? = some u → R g y u) : R g (.agg cs) (.agg vs)
  | tup (cs) (vs : Array Value) (hl : cs.length = vs.size) (hr : ∀ (i : Nat) (y : AV) (u : Value), cs[i]? = some y → vs[i]? = some u → R g y u) : R g (.tup cs) (.tuple vs)
  | pnil : R g .pnil (.pointer none)
  | ptr (i off) (hi : i < g.n) : R g (.ptr i off) (.pointer (some ⟨g.B i, off, none⟩))
  | eptr (i sz idx off) (hi : i < g.n) (h : idx () < g.L i) : R g (.eptr i sz idx off) (.pointer (some ⟨g.B i, idx () * sz + off, none⟩))
  | iptr (t) (x : Unit → Ty.den t) (off b o : Nat) (u : Nat → Value)
      (ha : ∀ (j : Nat) (y : AV), (enc t x [])[j]? = some y → At g (some ⟨b, o, none⟩) j (u j))
      (hr : ∀ (j : Nat) (y : AV), (enc t x [])[j]? = some y → R g y (u j)) : R g (.iptr t x off) (.pointer (some ⟨b, o + off, none⟩))
  | cptr (cs : List AV) (off b o : Nat) (u : Nat → Value) (ha : ∀ (j : Nat) (y : AV), cs[j]? = some y → At g (some ⟨b, o, none⟩) j (u j)) (hr : ∀ (j : Nat) (y : AV), cs[j]? = some y → R g y (u j)) : R g (.cptr cs off) (.pointer (some ⟨b, o + off, none⟩))
  | snil : R g .snil (.slice none 0 0)
  | vec (i sz off n) (A c) (hi : i < g.n) (hL : off () + n () ≤ g.L i) (hn : g.V i = none → A = none ∧ n () = 0 ∧ c = 0 ∧ off () = 0)
      (hs : ∀ cap, g.V i = some cap → cap ≤ 9223372036854775807 ∧ off () + n () ≤ cap ∧ off () + c = cap ∧ (off () < cap ∨ off () = 0 → A = some ⟨g.B i, off () * sz, none⟩) ∧ A ≠ none) : R g (.vec i sz off n) (.slice A (n ()) c)
  | fn (f az bs) (vs ws : Array Value) (hl : az.length = vs.size) (hl' : bs.length = ws.size) (hr : ∀ (i : Nat) (y : AV) (u : Value), az[i]? = some y → vs[i]? = some u → R g y u)
      (hr' : ∀ (i : Nat) (y : AV) (u : Value), bs[i]? = some y → ws[i]? = some u → R g y u) : R g (.fn f az bs) (.func f vs ws)
  | fnil : R g .fnil .nilFunc
  | ifc (t v u) (h : R g v u) : R g (.ifc t v) (.iface t u)
  | inil : R g .inil .nilIface
  | mp (i) (hi : i < g.n) : R g (.mp i) (.map (some (g.B i)))
  | mnil : R g .mnil (.map none)
  | hp (i f) (hi : i < g.n) (hf : ∀ x, f () = some x → x.1 < g.M i) : R g (.hp i f) (.pointer ((f ()).map fun x => ⟨g.W i x.1, x.2, none⟩))
  | hm (i f) (hi : i < g.n) (hf : f () < g.M i) : R g (.hm i f) (.map (some (g.W i (f ()))))

/-- Lists, value by value. -/
def RL (g : Gh) : List AV → List Value → Prop
  | [], [] => True
  | c :: r, u :: us => R g c u ∧ RL g r us
  | _, _ => False

theorem RL.length {g : Gh} : ∀ {cs : List AV} {us : List Value}, RL g cs us → cs.length = us.length
  | [], [], _ => rfl
  | c :: r, u :: us, h => by simp [RL.length h.2]
theorem RL.at_ {g : Gh} : ∀ {cs : List AV} {us : List Value}, RL g cs us → ∀ (i : Nat) (y : AV) (u : Value), cs[i]? = some y → us[i]? = some u → R g y u
  | [], [], _, i, y, u, h, _ => by simp at h
  | c :: r, v :: us, h, 0, y, u, h1, h2 => by simp at h1 h2; subst h1 h2; exact h.1
  | c :: r, v :: us, h, i + 1, y, u, h1, h2 => RL.at_ h.2 i y u (by simpa using h1) (by simpa using h2)
theorem RL.mk {g : Gh} : ∀ {cs : List AV} {us : List Value}, cs.length = us.length → (∀ (i : Nat) (y : AV) (u : Value), cs[i]? = some y → us[i]? = some u → R g y u) → RL g cs us
  | [], [], _, _ => trivial
  | [], _ :: _, h, _ => by simp at h
  | _ :: _, [], h, _ => by simp at h
  | c :: r, u :: us, h, hr => ⟨hr 0 c u rfl rfl, RL.mk (by simpa using h) fun i y v h1 h2 => hr (i + 1) y v (by simpa using h1) (by simpa using h2)⟩
theorem RL.append {g : Gh} : ∀ {cs : List AV} {us : List Value} {ds vs}, RL g cs us → RL g ds vs → RL g (cs ++ ds) (us ++ vs)
  | [], [], _, _, _, h => h
  | c :: r, u :: us, _, _, h, h' => ⟨h.1, RL.append h.2 h'⟩
theorem RL.get {g : Gh} {cs : List AV} {us : List Value} (h : RL g cs us) {i : Nat} {y : AV} (hy : cs[i]? = some y) : ∃ u, us[i]? = some u ∧ R g y u := by
  have hl := h.length
  have hi : i < cs.length := (List.getElem?_eq_some_iff.1 hy).1
  exact ⟨us[i]'(by omega), List.getElem?_eq_getElem (by omega), h.at_ i y _ hy (List.getElem?_eq_getElem (by omega))⟩

theorem R.agg_iff {g : Gh} {cs : List AV} {v : Value} (h : R g (.agg cs) v) : ∃ vs, v = .agg vs ∧ RL g cs vs.toList := by
  cases h with | agg _ vs hl hr => exact ⟨vs, rfl, RL.mk (by simpa using hl) fun i y u h1 h2 => hr i y u h1 (by simpa using h2)⟩
theorem R.tup_iff {g : Gh} {cs : List AV} {v : Value} (h : R g (.tup cs) v) : ∃ vs, v = .tuple vs ∧ RL g cs vs.toList := by
  cases h with | tup _ vs hl hr => exact ⟨vs, rfl, RL.mk (by simpa using hl) fun i y u h1 h2 => hr i y u h1 (by simpa using h2)⟩
theorem R.mkAgg {g : Gh} {cs : List AV} {vs : List Value} (h : RL g cs vs) : R g (.agg cs) (.agg vs.toArray) :=
  .agg _ _ (by simpa using h.length) fun i y u h1 h2 => h.at_ i y u h1 (by simpa using h2)
theorem R.mkTup {g : Gh} {cs : List AV} {vs : List Value} (h : RL g cs vs) : R g (.tup cs) (.tuple vs.toArray) :=
  .tup _ _ (by simpa using h.length) fun i y u h1 h2 => h.at_ i y u h1 (by simpa using h2)
theorem R.mkFn {g : Gh} {az bs : List AV} {vs ws : List Value} {f : Fn} (h : RL g az vs) (h' : RL g bs ws) : R g (.fn f az bs) (.func f vs.toArray ws.toArray) :=
  .fn _ _ _ _ _ (by simpa using h.length) (by simpa using h'.length) (fun i y u h1 h2 => h.at_ i y u h1 (by simpa using h2)) (fun i y u h1 h2 => h'.at_ i y u h1 (by simpa using h2))

/-! ### cells of data -/
theorem enc_append : ∀ (t : Ty) (x : Unit → t.den) (r : List AV), enc t x r = enc t x [] ++ r
  | .int _, _, _ | .bool, _, _ | .str, _, _ | .list _, _, _ => rfl
  | .pair a b, x, r => by
    simp only [enc]
    rw [enc_append a _ (enc b _ r), enc_append b _ r, enc_append a _ (enc b _ [])]
    simp
theorem enc_length : ∀ (t : Ty) (x : Unit → t.den), (enc t x []).length = t.size
  | .int _, _ | .bool, _ | .str, _ | .list _, _ => rfl
  | .pair a b, x => by
    simp only [enc]
    rw [enc_append a, List.length_append, enc_length a, enc_length b]
    rfl
theorem Ty.size_pos : ∀ t : Ty, 0 < t.size
  | .int _ | .bool | .str | .list _ => Nat.one_pos
  | .pair a b => Nat.add_pos_left (Ty.size_pos a) _

theorem takeX_eq : ∀ (n : Nat) (l r : List AV), takeX n l = some r → r = l.take n ∧ n ≤ l.length
  | 0, _, r, h => by simp [takeX] at h; subst h; simp
  | n + 1, [], r, h => by simp [takeX] at h
  | n + 1, c :: l, r, h => by
    simp only [takeX] at h
    split at h
    · rename_i l' hl
      obtain ⟨h1, h2⟩ := takeX_eq n l l' hl
      simp only [Option.some.injEq] at h
      subst h h1
      simp; omega
    · cases h
theorem dropX_eq : ∀ (n : Nat) (l : List AV), dropX n l = l.drop n
  | 0, _ => rfl
  | n + 1, [] => by simp [dropX]
  | n + 1, _ :: l => by simp [dropX, dropX_eq n l]

/-! ### Types -/
section
variable {P : Program}
theorem tinfo_info {t : Nat} {i : TypeInfo} (h : tinfo P t = some i) : P.info? t = some i := by
  unfold tinfo at h
  rw [nth_eq] at h
  have hl : t < P.types.size := by
    have := (List.getElem?_eq_some_iff.1 h).1
    simpa using this
  show Tables.info? _ _ = _
  unfold Tables.info?
  rw [if_pos hl]
  simpa using h
theorem tund_und {t : Nat} {d : TypeDesc} (h : tund P t = some d) : P.underlying t = some d := by
  unfold tund at h
  split at h
  · rename_i i hi
    have hi' := tinfo_info hi
    unfold Program.underlying
    rw [hi']
    cases i with
    | mk desc str size bytes hp al fa zero comp ms =>
      cases desc <;> simp only at h ⊢ <;> try exact h
      rename_i nm u
      split at h
      · rename_i j hj
        rw [tinfo_info hj]; exact h
      · cases h
  · cases h
theorem tsize_size {t n : Nat} (h : tsize P t = some n) (w : World) : (sizeOf t).run P w = .ok n w := by
  unfold tsize at h
  split at h
  · rename_i i hi
    simp only [Option.some.injEq] at h
    simp [sizeOf, typeInfo, tinfo_info hi, h]
  · cases h
theorem tzero_zero {t : Nat} {z : Value} (h : tzero P t = some z) (w : World) : (zeroValue t).run P w = .ok z w := by
  unfold tzero at h
  split at h
  · rename_i i hi
    simp [zeroValue, typeInfo, tinfo_info hi, h]
  · cases h
theorem tund_run {t : Nat} {d : TypeDesc} (h : tund P t = some d) (w : World) : (underlying t).run P w = .ok d w := run_underlying (tund_und h) w
end
end Go.Proofs.Ytafcenlbllmahaa.Fw
set_option linter.unusedVariables false
set_option linter.unusedSimpArgs false
namespace Go.Proofs.Ytafcenlbllmahaa.Fw
open Go

def EntR (g : Gh) (i : Nat) : List (Nat × Int × HV) → List MapEntry → Prop
  | [], [] => True
  | (b, n, v) :: r, e :: es => e.born = b ∧ e.key = .int .i64 n ∧ R g (v.av i) e.val ∧ EntR g i r es
  | _, _ => False
def HO.sat (g : Gh) (i : Nat) (ob : Obj) : HO → Prop
  | .cells T n c => ∃ vs : Array Value, ob = .cells vs T (0, 0) ∧ vs.size = n ∧ ∀ (j : Nat) (u : Value), vs[j]? = some u → R g ((c j).av i) u
  | .map es clock => ∃ ms : Array MapEntry, ob = .map ms clock ∧ EntR g i es ms.toList

def Chunk.sat (g : Gh) (i : Nat) (w : World) : Chunk → Prop
  | .none => True
  | .cells T cs => ∃ vs : Array Value, w.heap[g.B i]? = some (.cells vs T (0, 0)) ∧ RL g cs vs.toList
  | .vect T t xs => (xs ()).length = g.L i ∧ (g.V i = Option.none → xs () = []) ∧ ∀ cap, g.V i = some cap →
      ∃ vs : Array Value, w.heap[g.B i]? = some (.cells vs T (0, 0)) ∧ vs.size = cap * t.size ∧ (xs ()).length ≤ cap ∧
        ∀ (k : Nat) (x : t.den), (xs ())[k]? = some x → RL g (enc t (fun _ => x) []) ((vs.toList.drop (k * t.size)).take t.size)
  | .row T t xs => (xs ()).length = g.L i ∧ (g.V i = Option.none → xs () = []) ∧ ∀ cap, g.V i = some cap →
      ∃ vs : Array Value, w.heap[g.B i]? = some (.cells vs T (0, 0)) ∧ vs.size = cap * t.size ∧ (xs ()).length ≤ cap ∧
        ∀ (k : Nat) (x : t.den), (xs ())[k]? = some x → RL g (enc t (fun _ => x) []) ((vs.toList.drop (k * t.size)).take t.size)
  | .count k => k () = g.k
  | .heap h => g.M i = (h ()).m ∧ (∀ k k', k < g.M i → k' < g.M i → g.W i k = g.W i k' → k = k') ∧ ∀ k, k < g.M i → ∃ ob, w.heap[g.W i k]? = some ob ∧ ((h ()).o k).sat g i ob
  | .mit x since last seen => ∃ b, R g x (.map (some b)) ∧ w.heap[g.B i]? = some (.mapIter (some b) since (seen ()).toArray last)
  | .smp k ks vs => ∃ (es : Array MapEntry) (clock : Nat), w.heap[g.B i]? = some (.map es clock) ∧ es.toList.map (·.key) = ks.map (Value.int k) ∧ RL g vs (es.toList.map (·.val))
/-- The blocks of a chunk. -/
def Chunk.own (g : Gh) (i : Nat) (c : Chunk) (b : Nat) : Prop := match c with
  | .none => False
  | .cells _ _ => g.B i = b
  | .vect _ _ _ => g.V i ≠ Option.none ∧ g.B i = b
  | .row _ _ _ => g.V i ≠ Option.none ∧ g.B i = b
  | .count _ => False
  | .smp _ _ _ => g.B i = b
  | .heap _ => ∃ k, k < g.M i ∧ g.W i k = b
  | .mit _ _ _ _ => g.B i = b

structure Sim (g : Gh) (E : List Chunk) (w : World) : Prop where
  len : lenE E = g.n
  phi : ∀ b o, g.Φ b = some o → w.heap[b]? = some o
  sat : ∀ i, (getE E i).sat g i w
  dis : ∀ i j b, (getE E i).own g i b → (getE E j).own g j b → i = j
  dphi : ∀ i b, (getE E i).own g i b → g.Φ b = none

def ER (g : Gh) (env : Env) (tmps : Array Value) : Prop := ∀ t, R g (look env t) (tmps.getD t Go.undef)

theorem R_cst0 (g : Gh) (v : Value) : R g (cst0 v) v := by
  unfold cst0
  split <;> constructor
theorem RL_cst0 (g : Gh) : ∀ l : List Value, RL g (cst0L l) l
  | [] => trivial
  | c :: r => ⟨R_cst0 g c, RL_cst0 g r⟩
theorem R_cst (g : Gh) (v : Value) : R g (cst v) v := by
  unfold cst
  split
  · exact R.mkAgg (RL_cst0 g _)
  · exact R.mkTup (RL_cst0 g _)
  · exact R.ifc _ _ _ (R_cst0 g _)
  · exact R_cst0 g _
theorem ER.ev {g : Gh} {env : Env} {a : Act} (h : ER g env a.tmps) (x : Operand) : R g (ev env x) (a.eval x) := by
  cases x with
  | tmp t => exact h t
  | const v => exact R_cst g v
  | global n => exact R.undef _
  | func f => exact R.mkFn (az := []) (bs := []) (vs := []) (ws := []) trivial trivial
theorem ER.evL {g : Gh} {env : Env} {a : Act} (h : ER g env a.tmps) : ∀ l : List Operand, RL g (evL env l) (l.map a.eval)
  | [] => trivial
  | x :: r => ⟨h.ev x, ER.evL h r⟩

theorem RL.dropX {g : Gh} : ∀ {n : Nat} {cs : List AV} {us : List Value}, RL g cs us → RL g (dropX n cs) (us.drop n)
  | 0, _, _, h => by simpa [Fw.dropX] using h
  | n + 1, [], [], _ => by simp [Fw.dropX, RL]
  | n + 1, _ :: _, _ :: _, h => by simpa [Fw.dropX] using RL.dropX (n := n) h.2
theorem RL.takeX {g : Gh} : ∀ {n : Nat} {cs r : List AV} {us : List Value}, RL g cs us → takeX n cs = some r → RL g r (us.take n) ∧ n ≤ us.length
  | 0, _, r, us, _, hr => by simp [Fw.takeX] at hr; subst hr; simp [RL]
  | n + 1, [], _, _, _, hr => by simp [Fw.takeX] at hr
  | n + 1, c :: cs, r, u :: us, h, hr => by
    simp only [Fw.takeX] at hr
    split at hr
    · rename_i l hl
      simp only [Option.some.injEq] at hr
      subst hr
      obtain ⟨h1, h2⟩ := RL.takeX h.2 hl
      exact ⟨⟨h.1, h1⟩, by simp; omega⟩
    · cases hr

/-- The cells from an address on. -/
def CellsAt (w : World) (a : Addr) (us : List Value) : Prop := a.spot = none ∧ ∀ j u, us[j]? = some u → w.cell? ⟨a.block, a.off + j, none⟩ = some u
theorem add_none {a : Addr} (h : a.spot = none) (n : Nat) : a.add n = ⟨a.block, a.off + n, none⟩ := by
  cases a with
  | mk b o s =>
    simp only at h
    subst h
    unfold Addr.add
    split <;> simp_all
theorem CellsAt.drop {w : World} {a : Addr} {us : List Value} (h : CellsAt w a us) (n : Nat) : CellsAt w ⟨a.block, a.off + n, none⟩ (us.drop n) :=
  ⟨rfl, fun j u hu => by simpa [Nat.add_assoc] using h.2 (n + j) u (by simpa using hu)⟩

section
variable {P : Program}

/-- A value out of cells, as a load and as a part of an aggregate. -/
theorem ldC_load {g : Gh} {t : Nat} {cs : List AV} {n : Nat} {K : AV → Prop} {w : World} {a : Addr} {us : List Value} (h : ldC P t cs n K) (hr : RL g cs us) (ha : CellsAt w a (us.drop n)) :
    ∃ v u, (loadVar t a).run P w = .ok u w ∧ R g v u ∧ K v := by
  have hd := hr.dropX (n := n)
  unfold ldC at h
  split at h
  · rename_i fs ht
    split at h
    · rename_i m hm
      split at h
      · rename_i l hl
        rw [fL_eq] at h
        obtain ⟨h1, h2⟩ := hd.takeX hl
        refine ⟨_, _, ?_, R.mkAgg h1, h⟩
        have hlen : ((us.drop n).take m).length = m := by rw [List.length_take]; omega
        have := run_loadCells_list (P := P) w a ((us.drop n).take m) (fun j v hv => by
          rw [add_none ha.1]
          refine ha.2 j v ?_
          rw [List.getElem?_take] at hv
          split at hv <;> simp_all)
        rw [hlen] at this
        simp [loadVar, isAgg, tund_run ht, tsize_size hm, this]
      · exact h.elim
    · exact h.elim
  · rename_i k e ht
    split at h
    · rename_i m hm
      split at h
      · rename_i l hl
        rw [fL_eq] at h
        obtain ⟨h1, h2⟩ := hd.takeX hl
        refine ⟨_, _, ?_, R.mkAgg h1, h⟩
        have hlen : ((us.drop n).take m).length = m := by rw [List.length_take]; omega
        have := run_loadCells_list (P := P) w a ((us.drop n).take m) (fun j v hv => by
          rw [add_none ha.1]
          refine ha.2 j v ?_
          rw [List.getElem?_take] at hv
          split at hv <;> simp_all)
        rw [hlen] at this
        simp [loadVar, isAgg, tund_run ht, tsize_size hm, this]
      · exact h.elim
    · exact h.elim
  · rename_i d hns hna ht
    split at h
    · rename_i v r hv
      rw [fV_eq] at h
      rw [hv] at hd
      cases hu : us.drop n with
      | nil => rw [hu] at hd; exact hd.elim
      | cons u r' =>
        rw [hu] at hd
        refine ⟨v, u, ?_, hd.1, h⟩
        have hc := ha.2 0 u (by simp [hu])
        have hc' : w.cell? a = some u := by
          have e : (⟨a.block, a.off + 0, none⟩ : Addr) = a := by cases a; simp at *; exact ha.1.symm
          rwa [e] at hc
        have hna' : (isAgg t).run P w = .ok false w := by
          simp only [isAgg, Sem.run_bind, tund_run ht, Result.andThen_ok]
          cases d <;> simp_all
        simp [loadVar, hna', hc']
    · exact h.elim
  · exact h.elim
theorem ldC_part {g : Gh} {t : Nat} {cs : List AV} {n : Nat} {K : AV → Prop} {w : World} {us : Array Value} (h : ldC P t cs n K) (hr : RL g cs us.toList) :
    ∃ v u, (part t us n).run P w = .ok u w ∧ R g v u ∧ K v := by
  have hd := hr.dropX (n := n)
  unfold ldC at h
  split at h
  · rename_i fs ht
    split at h
    · rename_i m hm
      split at h
      · rename_i l hl
        rw [fL_eq] at h
        obtain ⟨h1, h2⟩ := hd.takeX hl
        refine ⟨_, _, ?_, R.mkAgg h1, h⟩
        simp only [part, isAgg, Sem.run_bind, tund_run ht, tsize_size hm, Result.andThen_ok, Sem.run_pure, if_true, Sem.run_ite, Sem.run_map]
        congr 2
        apply Array.ext'
        simp [List.extract_eq_drop_take']
      · exact h.elim
    · exact h.elim
  · rename_i k e ht
    split at h
    · rename_i m hm
      split at h
      · rename_i l hl
        rw [fL_eq] at h
        obtain ⟨h1, h2⟩ := hd.takeX hl
        refine ⟨_, _, ?_, R.mkAgg h1, h⟩
        simp only [part, isAgg, Sem.run_bind, tund_run ht, tsize_size hm, Result.andThen_ok, Sem.run_pure, if_true, Sem.run_ite, Sem.run_map]
        congr 2
        apply Array.ext'
        simp [List.extract_eq_drop_take']
      · exact h.elim
    · exact h.elim
  · rename_i d hns hna ht
    split at h
    · rename_i v r hv
      rw [fV_eq] at h
      rw [hv] at hd
      cases hu : us.toList.drop n with
      | nil => rw [hu] at hd; exact hd.elim
      | cons u r' =>
        rw [hu] at hd
        refine ⟨v, u, ?_, hd.1, h⟩
        have hn : us[n]? = some u := by
          have : (us.toList.drop n)[0]? = some u := by rw [hu]; rfl
          simpa using this
        have hna' : (isAgg t).run P w = .ok false w := by
          simp only [isAgg, Sem.run_bind, tund_run ht, Result.andThen_ok]
          cases d <;> simp_all
        simp [part, hna', hn]
    · exact h.elim
  · exact h.elim
end
end Go.Proofs.Ytafcenlbllmahaa.Fw
set_option linter.unusedVariables false
set_option linter.unusedSimpArgs false
namespace Go.Proofs.Ytafcenlbllmahaa.Fw
open Go

section
variable {P : Program}

theorem unit_fun {α : Type} (f : Unit → α) : (fun _ => f ()) = f := by funext u; cases u; rfl
theorem enc_const (t : Ty) (x : Unit → t.den) : enc t (fun _ => x ()) [] = enc t x [] := by rw [unit_fun]

theorem RL_of_fun {g : Gh} (cs : List AV) (u : Nat → Value) (h : ∀ (j : Nat) (y : AV), cs[j]? = some y → R g y (u j)) : RL g cs ((List.range cs.length).map u) :=
  RL.mk (by simp) fun i y v h1 h2 => by
    have hi : i < cs.length := (List.getElem?_eq_some_iff.1 h1).1
    simp [hi] at h2
    subst h2
    exact h i y h1

theorem At.cell {g : Gh} {E : List Chunk} {w : World} (hS : Sim g E w) {b o k : Nat} {u : Value} (h : At g (some ⟨b, o, none⟩) k u) : w.cell? ⟨b, o + k, none⟩ = some u := by
  obtain ⟨b', off, cells, T, fr, h1, h2, h3⟩ := h
  simp only [Option.some.injEq, Addr.mk.injEq] at h1
  obtain ⟨rfl, rfl, _⟩ := h1
  have := hS.phi _ _ h2
  simp [World.cell?, this, h3]

theorem R.hp_iff {g : Gh} {i : Nat} {f : Unit → Option (Nat × Nat)} {v : Value} (h : R g (.hp i f) v) : v = .pointer ((f ()).map fun x => ⟨g.W i x.1, x.2, none⟩) ∧ i < g.n ∧ ∀ x, f () = some x → x.1 < g.M i := by
  cases h with | hp _ _ hi hf => exact ⟨rfl, hi, hf⟩
theorem R.hm_iff {g : Gh} {i : Nat} {f : Unit → Nat} {v : Value} (h : R g (.hm i f) v) : v = .map (some (g.W i (f ()))) ∧ i < g.n ∧ f () < g.M i := by
  cases h with | hm _ _ hi hf => exact ⟨rfl, hi, hf⟩
theorem Sim.hcells {g : Gh} {E : List Chunk} {w : World} (hS : Sim g E w) {i k n : Nat} {h : Unit → Hp} {T : TypeId} {c : Nat → HV} (hE : getE E i = .heap h) (hk : k < g.M i) (ho : (h ()).o k = .cells T n c) :
    ∃ vs : Array Value, w.heap[g.W i k]? = some (.cells vs T (0, 0)) ∧ vs.size = n ∧ ∀ (j : Nat) (u : Value), vs[j]? = some u → R g ((c j).av i) u := by
  have hs := hS.sat i
  rw [hE] at hs
  obtain ⟨ob, h1, h2⟩ := hs.2.2 k hk
  rw [ho] at h2
  obtain ⟨vs, rfl, h3, h4⟩ := h2
  exact ⟨vs, h1, h3, h4⟩
theorem Sim.hmap {g : Gh} {E : List Chunk} {w : World} (hS : Sim g E w) {i k clock : Nat} {h : Unit → Hp} {es : List (Nat × Int × HV)} (hE : getE E i = .heap h) (hk : k < g.M i) (ho : (h ()).o k = .map es clock) :
    ∃ ms : Array MapEntry, w.heap[g.W i k]? = some (.map ms clock) ∧ EntR g i es ms.toList := by
  have hs := hS.sat i
  rw [hE] at hs
  obtain ⟨ob, h1, h2⟩ := hs.2.2 k hk
  rw [ho] at h2
  obtain ⟨ms, rfl, h3⟩ := h2
  exact ⟨ms, h1, h3⟩
theorem EntR.length {g : Gh} {i : Nat} : ∀ {es : List (Nat × Int × HV)} {ms : List MapEntry}, EntR g i es ms → es.length = ms.length
  | [], [], _ => rfl
  | (_, _, _) :: _, _ :: _, h => by simp [EntR.length h.2.2.2]
theorem EntR.find {g : Gh} {i : Nat} {d : IntKind} {n : Int} : ∀ {es : List (Nat × Int × HV)} {ms : List MapEntry} (j : Nat), EntR g i es ms →
    (∃ v k u, getH es n = some v ∧ Instr.findNow (.int d) (.int .i64 n) ms j = some (some (k, u)) ∧ R g (v.av i) u) ∨ (getH es n = none ∧ Instr.findNow (.int d) (.int .i64 n) ms j = some none)
  | [], [], j, _ => .inr ⟨rfl, rfl⟩
  | (b, m, v) :: es, e :: ms, j, h => by
    obtain ⟨h1, h2, h3, h4⟩ := h
    by_cases hn : m = n
    · exact .inl ⟨v, j, e.val, by simp [getH, hn], by simp [Instr.findNow, h2, Instr.sameNow, hn], h3⟩
    · have hb : (n == m) = false := by simpa using fun e => hn e.symm
      have e1 : Instr.findNow (.int d) (.int .i64 n) (e :: ms) j = Instr.findNow (.int d) (.int .i64 n) ms (j + 1) := by simp [Instr.findNow, h2, Instr.sameNow, hb]
      rw [e1]
      rcases EntR.find (d := d) (n := n) (j + 1) h4 with ⟨v', k, u, g1, g2, g3⟩ | ⟨g1, g2⟩
      · exact .inl ⟨v', k, u, by simp [getH, hn, g1], g2, g3⟩
      · exact .inr ⟨by simp [getH, hn, g1], g2⟩
theorem isSc_run {P : Program} {t : Nat} (h : isSc P t = true) (w : World) : (isAgg t).run P w = .ok false w := by
  unfold isSc at h
  split at h <;> first | (cases h; done) | skip
  rename_i d hns hna ht
  simp only [isAgg, Sem.run_bind, tund_run ht, Result.andThen_ok]
  cases d <;> simp_all

theorem cell_of_heap {w : World} {b : Nat} {vs : Array Value} {T : TypeId} {fr : Nat × Nat} (h : w.heap[b]? = some (.cells vs T fr)) (k : Nat) : w.cell? ⟨b, k, none⟩ = vs[k]? := by
  simp [World.cell?, h]

theorem atP_cells {g : Gh} {E : List Chunk} {w : World} {p : AV} {v : Value} {K : List AV → Nat → Prop} (hS : Sim g E w) (hr : R g p v) (h : atP E p K) :
    ∃ cs n us a, v = .pointer (some a) ∧ RL g cs us ∧ CellsAt w a (us.drop n) ∧ K cs n := by
  unfold atP at h
  split at h
  · rename_i i off
    split at h
    · rename_i T cs hE
      have hs := hS.sat i
      rw [hE] at hs
      obtain ⟨vs, hv, hl⟩ := hs
      cases hr
      exact ⟨cs, off, vs.toList, _, rfl, hl, ⟨rfl, fun j u hu => by rw [cell_of_heap hv]; simpa using hu⟩, h⟩
    · exact h.elim
  · rename_i i sz j off
    split at h
    · rename_i T t xs hE
      split at h
      · rename_i hsz
        have hsz' : t.size = sz := Nat.eq_of_beq_eq_true hsz
        have hs := hS.sat i
        rw [hE] at hs
        obtain ⟨hL, hn, hc⟩ := hs
        cases hr with
        | eptr _ _ _ _ _ hj =>
        have hj' : j () < (xs ()).length := by omega
        cases hV : g.V i with
        | none => rw [hn hV] at hj'; simp at hj'
        | some cap =>
          obtain ⟨vs, hv, hvs, hcap, hx⟩ := hc cap hV
          have hk := hx (j ()) _ (List.getElem?_eq_getElem hj')
          have e : (fun u => (xs u).getD (j u) t.dflt) = (fun _ => (xs ())[j ()]'hj') := by
            funext u; cases u; simp [List.getD, List.getElem?_eq_getElem hj']
          rw [e] at h
          refine ⟨_, _, _, _, rfl, hk, ⟨rfl, fun k u hu => ?_⟩, h⟩
          rw [cell_of_heap hv]
          subst hsz'
          rw [List.getElem?_drop, List.getElem?_take] at hu
          split at hu
          · simpa [List.getElem?_drop, Nat.add_assoc] using hu
          · cases hu
      · exact h.elim
    · rename_i T t xs hE
      split at h
      · rename_i hsz
        have hsz' : t.size = sz := Nat.eq_of_beq_eq_true hsz
        have hs := hS.sat i
        rw [hE] at hs
        obtain ⟨hL, hn, hc⟩ := hs
        cases hr with
        | eptr _ _ _ _ _ hj =>
        have hj' : j () < (xs ()).length := by omega
        cases hV : g.V i with
        | none => rw [hn hV] at hj'; simp at hj'
        | some cap =>
          obtain ⟨vs, hv, hvs, hcap, hx⟩ := hc cap hV
          have hk := hx (j ()) _ (List.getElem?_eq_getElem hj')
          have e : (fun u => (xs u).getD (j u) t.dflt) = (fun _ => (xs ())[j ()]'hj') := by
            funext u; cases u; simp [List.getD, List.getElem?_eq_getElem hj']
          rw [e] at h
          refine ⟨_, _, _, _, rfl, hk, ⟨rfl, fun k u hu => ?_⟩, h⟩
          rw [cell_of_heap hv]
          subst hsz'
          rw [List.getElem?_drop, List.getElem?_take] at hu
          split at hu
          · simpa [List.getElem?_drop, Nat.add_assoc] using hu
          · cases hu
      · exact h.elim
    · exact h.elim
  · rename_i t x off
    cases hr with
    | iptr _ _ _ b o u ha hr =>
    refine ⟨_, off, _, _, rfl, RL_of_fun _ u hr, ⟨rfl, fun j v hv => ?_⟩, h⟩
    have : off + j < (enc t x []).length := by
      have := (List.getElem?_eq_some_iff.1 hv).1
      simp at this
      omega
    have h1 := (ha (off + j) _ (List.getElem?_eq_getElem this)).cell hS
    simp [List.getElem?_drop, this] at hv
    subst hv
    show w.cell? ⟨b, o + off + j, none⟩ = _
    rw [Nat.add_assoc]; exact h1
  · rename_i cs off
    cases hr with
    | cptr _ _ b o u ha hr =>
    refine ⟨_, off, _, _, rfl, RL_of_fun _ u hr, ⟨rfl, fun j v hv => ?_⟩, h⟩
    have : off + j < cs.length := by
      have := (List.getElem?_eq_some_iff.1 hv).1
      simp at this
      omega
    have h1 := (ha (off + j) _ (List.getElem?_eq_getElem this)).cell hS
    simp [List.getElem?_drop, this] at hv
    subst hv
    show w.cell? ⟨b, o + off + j, none⟩ = _
    rw [Nat.add_assoc]; exact h1
  · exact h.elim

theorem of_sem {g : Gh} {w : World} {s : Sem Value} {K : AV → Prop} (h : ∃ v u, s.run P w = .ok u w ∧ R g v u ∧ K v) :
    ∃ v u, (do pure (Next.value (← s)) : Sem Next).run P w = .ok (.value u) w ∧ R g v u ∧ K v := by
  obtain ⟨v, u, h1, h2, h3⟩ := h
  exact ⟨v, u, by simp [h1], h2, h3⟩

theorem R.int_iff {g : Gh} {k : IntKind} {n : Unit → Int} {v : Value} (h : R g (.int k n) v) : v = .int k (n ()) := by cases h; rfl
theorem R.bool_iff {g : Gh} {n : Unit → Bool} {v : Value} (h : R g (.bool n) v) : v = .bool (n ()) := by cases h; rfl
theorem R.tt_iff {g : Gh} {v : Value} (h : R g .tt v) : v = .bool true := by cases h; rfl
theorem R.ff_iff {g : Gh} {v : Value} (h : R g .ff v) : v = .bool false := by cases h; rfl
theorem R.str_iff {g : Gh} {n : Unit → List UInt8} {v : Value} (h : R g (.str n) v) : v = .string ⟨(n ()).toArray⟩ := by cases h; rfl
theorem R.bool' {g : Gh} {b : Unit → Bool} {c : Bool} (h : b () = c) : R g (.bool b) (.bool c) := by subst h; exact .bool b
theorem R.int' {g : Gh} {k : IntKind} {b : Unit → Int} {c : Int} (h : b () = c) : R g (.int k b) (.int k c) := by subst h; exact .int k b
theorem R.str' {g : Gh} {b : Unit → List UInt8} {c : ByteArray} (h : c = ⟨(b ()).toArray⟩) : R g (.str b) (.string c) := by subst h; exact .str b

/-! ### arithmetic -/
theorem binI_ok {g : Gh} {w : World} {op : BinOp} {k : IntKind} {a b : Unit → Int} {K : AV → Prop} (hs : op ≠ .shl) (hs' : op ≠ .shr) (h : binI op k a b K) :
    ∃ v u, (match op with
      | .add | .sub | .mul => Op.intArith op k (a ()) (b ())
      | .quo | .rem => Op.intDiv op k (a ()) (b ())
      | .and | .or | .xor | .andNot => Op.intBits op k (a ()) (b ())
      | _ => Op.intCmp op (a ()) (b ())).run P w = .ok u w ∧ R g v u ∧ K v := by
  cases op <;> simp only [binI] at h
  case add => exact ⟨_, _, rfl, .int k _, h⟩
  case sub => exact ⟨_, _, rfl, .int k _, h⟩
  case mul => exact ⟨_, _, rfl, .int k _, h⟩
  case quo => exact ⟨_, _, by simp [Op.intDiv, h.1.h], .int k _, h.2⟩
  case rem => exact ⟨_, _, by simp [Op.intDiv, h.1.h], .int k _, h.2⟩
  case and => exact ⟨_, _, rfl, .int k _, h⟩
  case or => exact ⟨_, _, rfl, .int k _, h⟩
  case xor => exact ⟨_, _, rfl, .int k _, h⟩
  case andNot => exact ⟨_, _, rfl, .int k _, h⟩
  case eql => exact ⟨_, _, rfl, .bool _, h⟩
  case neq => exact ⟨_, _, rfl, .bool _, h⟩
  case lss => exact ⟨_, _, rfl, .bool _, h⟩
  case leq => exact ⟨_, _, rfl, .bool _, h⟩
  case gtr => exact ⟨_, _, rfl, .bool _, h⟩
  case geq => exact ⟨_, _, rfl, .bool _, h⟩

theorem toList_mk (l : List UInt8) : (ByteArray.mk l.toArray).toList = l := by
  rw [ByteArray.toList_eq]
theorem binS_ok {g : Gh} {w : World} {op : BinOp} {a b : Unit → List UInt8} {K : AV → Prop} (h : binS op a b K) :
    ∃ v u, (Op.stringOp op ⟨(a ()).toArray⟩ ⟨(b ()).toArray⟩).run P w = .ok u w ∧ R g v u ∧ K v := by
  cases op <;> simp only [binS] at h <;> try exact h.elim
  case add =>
    refine ⟨_, _, ?_, .str _, h.2⟩
    have := h.1.h
    have h1 : (ByteArray.mk (a ()).toArray).size = (a ()).length := by simp [ByteArray.size]
    have h2 : (ByteArray.mk (b ()).toArray).size = (b ()).length := by simp [ByteArray.size]
    simp only [Op.stringOp, h1, h2]
    rw [if_neg (by simp [IntKind.max, IntKind.signed, IntKind.bits]; omega)]
    simp only [Sem.run_pure]
    congr 2
  all_goals
    simp only [Op.stringOp, toList_mk, Sem.run_pure]
    exact ⟨_, _, rfl, .bool _, h⟩

theorem R.nb {g : Gh} {r : AV} {b : Bool} (h : R g r (.bool b)) : R g (nb r) (.bool !b) := by
  cases h with
  | tt => exact .ff
  | ff => exact .tt
  | bool c => exact .bool (fun u => !c u)
  | undef => exact .undef _

section
variable {t : Nat} (n : Nat) (w : World)
theorem eqIn_bool (h : tund P t = some .bool) (a b : Bool) : (Op.equalIn (n + 1) t (.bool a) (.bool b)).run P w = .ok (a == b) w := by simp [Op.equalIn, tund_run h]
theorem eqIn_nil_ptr {e : Nat} (h : tund P t = some (.pointer e)) (b : Option Addr) : (Op.equalIn (n + 1) t (.pointer none) (.pointer b)).run P w = .ok b.isNone w := by simp [Op.equalIn, tund_run h]
theorem eqIn_ptr_nil {e : Nat} (h : tund P t = some (.pointer e)) (b : Addr) : (Op.equalIn (n + 1) t (.pointer (some b)) (.pointer none)).run P w = .ok false w := by simp [Op.equalIn, tund_run h]
theorem eqIn_ptr_same {e : Nat} {i : TypeInfo} (h : tund P t = some (.pointer e)) (hi : tinfo P e = some i) (a : Addr) : (Op.equalIn (n + 1) t (.pointer (some a)) (.pointer (some a))).run P w = .ok true w := by
  simp [Op.equalIn, tund_run h, sizeOf, typeInfo, tinfo_info hi, run_sameAddr_same]
theorem eqIn_ptr_other {e : Nat} {i : TypeInfo} {a b : Addr} {ca cb : Array Value} {ta tb : TypeId} (h : tund P t = some (.pointer e)) (hi : tinfo P e = some i) (hsz : i.size ≠ 0) (hne : a ≠ b)
    (ha : w.heap[a.block]? = some (.cells ca ta (0, 0))) (hb : w.heap[b.block]? = some (.cells cb tb (0, 0))) : (Op.equalIn (n + 1) t (.pointer (some a)) (.pointer (some b))).run P w = .ok false w := by
  simp [Op.equalIn, tund_run h, sizeOf, typeInfo, tinfo_info hi, hsz, run_sameAddr_other w hne ha hb]
theorem eqIn_sl_nil {e : Nat} (h : tund P t = some (.slice e)) (A : Option Addr) (l c : Nat) : (Op.equalIn (n + 1) t (.slice A l c) (.slice none 0 0)).run P w = .ok A.isNone w := by
  cases A <;> simp [Op.equalIn, tund_run h]
theorem eqIn_fn_nil {a b c} (h : tund P t = some (.func a b c)) (f x y) : (Op.equalIn (n + 1) t (.func f x y) .nilFunc).run P w = .ok false w := by simp [Op.equalIn, tund_run h]
theorem eqIn_nil_nil {a b c} (h : tund P t = some (.func a b c)) : (Op.equalIn (n + 1) t .nilFunc .nilFunc).run P w = .ok true w := by simp [Op.equalIn, tund_run h]
end

theorem R_lst_nil (g : Gh) (t : Ty) : R g (.lst t fun _ => []) (.slice none 0 0) :=
  .lst t (fun _ => []) none 0 (fun _ _ => .nilIface) (Nat.le_refl _) (by show 0 ≤ _; omega) (fun i x j y h _ => by simp at h) (fun i x j y h _ => by simp at h)

theorem dec_ok {g : Gh} : ∀ (t : Ty) (cs : List AV) (us : List Value) (K : (Unit → t.den) → List AV → Prop), dec t cs K → RL g cs us →
    ∃ (y : Unit → t.den) (rest : List AV) (us1 us2 : List Value), us = us1 ++ us2 ∧ RL g (enc t y []) us1 ∧ RL g rest us2 ∧ K y rest
  | .int k, cs, us, K, h, hr => by
    obtain _ | ⟨c, cs⟩ := cs
    · simp [dec] at h
    obtain _ | ⟨u, us⟩ := us
    · exact hr.elim
    cases c <;> simp only [dec] at h <;> try exact h.elim
    split at h
    · rename_i hk _
      subst hk
      exact ⟨_, _, [u], us, rfl, ⟨hr.1, trivial⟩, hr.2, h⟩
    · exact h.elim
  | .bool, cs, us, K, h, hr => by
    obtain _ | ⟨c, cs⟩ := cs
    · simp [dec] at h
    obtain _ | ⟨u, us⟩ := us
    · exact hr.elim
    cases c <;> simp only [dec] at h <;> try exact h.elim
    · exact ⟨_, _, [u], us, rfl, ⟨hr.1, trivial⟩, hr.2, h⟩
    · have := hr.1.tt_iff
      subst this
      exact ⟨fun _ => true, _, [_], us, rfl, ⟨.bool (fun _ => true), trivial⟩, hr.2, h⟩
    · have := hr.1.ff_iff
      subst this
      exact ⟨fun _ => false, _, [_], us, rfl, ⟨.bool (fun _ => false), trivial⟩, hr.2, h⟩
  | .str, cs, us, K, h, hr => by
    obtain _ | ⟨c, cs⟩ := cs
    · simp [dec] at h
    obtain _ | ⟨u, us⟩ := us
    · exact hr.elim
    cases c <;> simp only [dec] at h <;> try exact h.elim
    exact ⟨_, _, [u], us, rfl, ⟨hr.1, trivial⟩, hr.2, h⟩
  | .list e, cs, us, K, h, hr => by
    obtain _ | ⟨c, cs⟩ := cs
    · simp [dec] at h
    obtain _ | ⟨u, us⟩ := us
    · exact hr.elim
    cases c <;> simp only [dec] at h <;> try exact h.elim
    · split at h
      · rename_i hk _
        subst hk
        exact ⟨_, _, [u], us, rfl, ⟨hr.1, trivial⟩, hr.2, h⟩
      · exact h.elim
    · have hu : u = .slice none 0 0 := by have := hr.1; cases this; rfl
      subst hu
      exact ⟨fun _ => [], _, [_], us, rfl, ⟨R_lst_nil g e, trivial⟩, hr.2, h⟩
  | .pair a b, cs, us, K, h, hr => by
    simp only [dec] at h
    obtain ⟨x, r1, u1, u2, rfl, h1, h2, h3⟩ := dec_ok a cs us _ h hr
    obtain ⟨y, r2, u3, u4, rfl, h4, h5, h6⟩ := dec_ok b r1 u2 _ h3 h2
    refine ⟨fun u => (x u, y u), r2, u1 ++ u3, u4, by simp, ?_, h5, h6⟩
    simp only [enc]
    rw [enc_append]
    exact h1.append h4
theorem dec1_ok {g : Gh} {t : Ty} {cs : List AV} {us : List Value} {K : (Unit → t.den) → Prop} (h : dec1 t cs K) (hr : RL g cs us) : ∃ y, RL g (enc t y []) us ∧ K y := by
  unfold dec1 at h
  obtain ⟨y, rest, u1, u2, rfl, h1, h2, h3⟩ := dec_ok t cs us _ h hr
  cases rest with
  | nil =>
    cases u2 with
    | nil => exact ⟨y, by simpa using h1, h3⟩
    | cons _ _ => exact h2.elim
  | cons _ _ => exact h3.elim

section
variable {w : World}
theorem part_leaf {t : Nat} {d : TypeDesc} (ht : tund P t = some d) (hs : ∀ fs, d ≠ .struct fs) (ha : ∀ n e, d ≠ .array n e) {us : Array Value} {n : Nat} {u : Value} (hu : us[n]? = some u) : (part t us n).run P w = .ok u w := by
  have hna : (isAgg t).run P w = .ok false w := by
    simp only [isAgg, Sem.run_bind, tund_run ht, Result.andThen_ok]
    cases d <;> simp_all
  simp [part, hna, hu]
theorem part_struct {t : Nat} {fs : Array Field} (ht : tund P t = some (.struct fs)) {m : Nat} (hm : tsize P t = some m) (us : Array Value) (n : Nat) : (part t us n).run P w = .ok (.agg (us.extract n (n + m))) w := by
  simp only [part, isAgg, Sem.run_bind, tund_run ht, tsize_size hm, Result.andThen_ok, Sem.run_pure, if_true, Sem.run_ite, Sem.run_map]
/-- A value of type t out of cells. -/
def mkV (P : Program) (t : Nat) (us : List Value) : Value := match tund P t with | some (.struct _) => .agg us.toArray | _ => us.headD .nilIface
theorem str_beq (a b : List UInt8) : ((⟨a.toArray⟩ : ByteArray) == ⟨b.toArray⟩) = (a == b) := by
  show ((⟨a.toArray⟩ : ByteArray) == ⟨b.toArray⟩) = _
  rw [beq_toListBytes, ByteArray.toList_eq, ByteArray.toList_eq]
theorem eqD_run {g : Gh} : ∀ (d : Nat) (t : Nat) (ty : Ty), tyOf P d t = some ty → eqOk P d t = true → ∀ (n : Nat) (us vs : List Value) (x y : Unit → ty.den), RL g (enc ty x []) us → RL g (enc ty y []) vs → d ≤ n →
    (Op.equalIn n t (mkV P t us) (mkV P t vs)).run P w = .ok (eqD ty (x ()) (y ())) w
  | 0, _, _, h, _ => by simp [tyOf] at h
  | d + 1, t, ty, h, ho => by
    intro n us vs x y hu hv hn
    obtain ⟨m, rfl⟩ : ∃ m, n = m + 1 := ⟨n - 1, by omega⟩
    simp only [tyOf] at h
    simp only [eqOk] at ho
    split at h
    · rename_i k ht
      cases h
      obtain _ | ⟨u, us⟩ := us <;> obtain _ | ⟨v, vs⟩ := vs <;> try exact hu.elim
      · exact hv.elim
      rw [hu.1.int_iff, hv.1.int_iff] 
      simp only [mkV, ht, List.headD_cons]
      rw [run_equalIn_int w m t k k _ _ (tund_und ht)]; rfl
    · rename_i ht
      cases h
      obtain _ | ⟨u, us⟩ := us <;> obtain _ | ⟨v, vs⟩ := vs <;> try exact hu.elim
      · exact hv.elim
      rw [hu.1.bool_iff, hv.1.bool_iff]
      simp only [mkV, ht, List.headD_cons]
      rw [eqIn_bool m w ht]; rfl
    · rename_i ht
      cases h
      obtain _ | ⟨u, us⟩ := us <;> obtain _ | ⟨v, vs⟩ := vs <;> try exact hu.elim
      · exact hv.elim
      rw [hu.1.str_iff, hv.1.str_iff]
      simp only [mkV, ht, List.headD_cons]
      rw [run_equalIn_string w m t _ _ (tund_und ht), ByteArray.toList_eq, ByteArray.toList_eq]; rfl
    · rename_i e ht
      rw [ht] at ho; cases ho
    · rename_i fs ht
      rw [ht] at ho
      simp only [Bool.and_eq_true, Bool.not_eq_true'] at ho
      have hfo : P.fieldsOf t = fs := by unfold Program.fieldsOf; rw [tund_und ht]
      simp only [mkV, ht]
      rw [run_equalIn_struct w m t _ _ (by rw [hfo]; exact tund_und ht) ho.1, hfo]
      have go : ∀ (l : List Field) (k : Nat) (ty : Ty) (x y : Unit → ty.den), tyFs (tyOf P d) l = some ty → eqFs P (tyOf P d) (eqOk P d) l k = true → RL g (enc ty x []) (us.drop k) → RL g (enc ty y []) (vs.drop k) →
          (Op.eqFields m us.toArray vs.toArray l).run P w = .ok (eqD ty (x ()) (y ())) w := by
        intro l
        induction l with
        | nil => intro k ty x y h; simp [tyFs] at h
        | cons f r ih =>
          intro k ty x y h he hu hv
          simp only [eqFs] at he
          obtain ⟨fn, tyf, hk, hsz, hty, h1, h2, h3, h4⟩ : ∃ fn tyf, Nat.beq f.offset k = true ∧ tsize P f.type = some fn ∧ tyOf P d f.type = some tyf ∧ Nat.beq fn tyf.size = true ∧ f.name ≠ "_" ∧ eqOk P d f.type = true ∧ eqFs P (tyOf P d) (eqOk P d) r (k + fn) = true := by
            cases hk : Nat.beq f.offset k with
            | false => rw [hk] at he; cases he
            | true =>
              cases hsz : tsize P f.type with
              | none => rw [hk, hsz] at he; cases he
              | some fn =>
                cases hty : tyOf P d f.type with
                | none => rw [hk, hsz, hty] at he; cases he
                | some tyf =>
                  rw [hk, hsz, hty] at he
                  simp only [Bool.and_eq_true, Bool.not_eq_true', beq_eq_false_iff_ne] at he
                  exact ⟨fn, tyf, rfl, rfl, rfl, he.1.1.1, he.1.1.2, he.1.2, he.2⟩
          have hk := Nat.eq_of_beq_eq_true hk
          have h1 := Nat.eq_of_beq_eq_true h1
          subst hk
          -- a field's value
          have field : ∀ (us : List Value) (z : Unit → tyf.den), RL g (enc tyf z []) ((us.drop f.offset).take fn) → (part f.type us.toArray f.offset).run P w = .ok (mkV P f.type ((us.drop f.offset).take fn)) w := by
            intro us z hz
            unfold mkV
            cases hd : tund P f.type with
            | none => cases d <;> simp [tyOf, hd] at hty
            | some dd =>
              by_cases hst : ∃ fs', dd = .struct fs'
              · obtain ⟨fs', rfl⟩ := hst
                simp only []
                rw [part_struct hd hsz]
                congr 2
                apply Array.ext'
                simp [List.extract_eq_drop_take']
              · have hna : ∀ n e, dd ≠ .array n e := by
                  rintro n e rfl
                  cases d <;> simp [eqOk, hd] at h3
                have hlen := hz.length
                rw [enc_length] at hlen
                have hpos := Ty.size_pos tyf
                obtain ⟨u, hu0⟩ : ∃ u, ((us.drop f.offset).take fn)[0]? = some u := ⟨_, List.getElem?_eq_getElem (by omega)⟩
                rw [part_leaf hd (fun fs' e => hst ⟨fs', e⟩) hna (u := u) (by
                  rw [List.getElem?_take] at hu0
                  split at hu0
                  · simpa using hu0
                  · cases hu0)]
                have : ((us.drop f.offset).take fn).headD .nilIface = u := by
                  cases hl : (us.drop f.offset).take fn with
                  | nil => rw [hl] at hu0; cases hu0
                  | cons a b => rw [hl] at hu0; simpa using hu0
                cases dd <;> first | (exfalso; exact hst ⟨_, rfl⟩) | (simp only [this])
          have step : ∀ (zx zy : Unit → tyf.den), RL g (enc tyf zx []) ((us.drop f.offset).take fn) → RL g (enc tyf zy []) ((vs.drop f.offset).take fn) →
              (Op.eqFields m us.toArray vs.toArray (f :: r)).run P w = if eqD tyf (zx ()) (zy ()) = true then (Op.eqFields m us.toArray vs.toArray r).run P w else .ok false w := by
            intro zx zy hzx hzy
            simp only [Op.eqFields]
            rw [if_pos h2]
            simp only [Sem.run_bind, field us zx hzx, field vs zy hzy, Result.andThen_ok, eqD_run d f.type tyf hty h3 m _ _ zx zy hzx hzy (by omega)]
            cases eqD tyf (zx ()) (zy ()) <;> simp
          cases r with
          | nil =>
            simp only [tyFs] at h
            rw [hty] at h
            cases h
            have hl1 := hu.length
            have hl2 := hv.length
            rw [enc_length] at hl1 hl2
            rw [step x y (by rw [List.take_of_length_le (by omega)]; exact hu) (by rw [List.take_of_length_le (by omega)]; exact hv)]
            simp only [Op.eqFields, Sem.run_pure]
            generalize eqD _ (x ()) (y ()) = b
            cases b <;> simp
          | cons f2 r2 =>
            simp only [tyFs] at h
            rw [hty] at h
            split at h <;> try cases h
            rename_i ta tb hta htb
            cases hta
            simp only [enc] at hu hv
            rw [enc_append tyf] at hu hv
            have sp : ∀ {us : List Value} {a b : List AV}, RL g (a ++ b) us → a.length = fn → RL g a (us.take fn) ∧ RL g b (us.drop fn) := by
              intro us a b hab hl
              refine ⟨RL.mk ?_ (fun i z u h1 h2 => ?_), RL.mk ?_ (fun i z u h1 h2 => ?_)⟩
              · have := hab.length; simp at this ⊢; omega
              · rw [List.getElem?_take] at h2
                split at h2
                · exact hab.at_ i z u (by rw [List.getElem?_append_left (by omega)]; exact h1) h2
                · cases h2
              · have := hab.length; simp at this ⊢; omega
              · exact hab.at_ (fn + i) z u (by rw [List.getElem?_append_right (by omega), hl, Nat.add_sub_cancel_left]; exact h1) (by simpa using h2)
            have hl : ∀ z : Unit → tyf.den, (enc tyf z []).length = fn := fun z => by rw [enc_length, h1]
            obtain ⟨hu1, hu2⟩ := sp hu (hl _)
            obtain ⟨hv1, hv2⟩ := sp hv (hl _)
            rw [List.drop_drop] at hu2 hv2
            rw [step _ _ hu1 hv1, ih (f.offset + fn) tb _ _ htb h4 hu2 hv2]
            simp only [eqD]
            cases eqD tyf (x ()).1 (y ()).1 <;> simp
      have := go fs.toList 0 ty x y h ho.2 (by simpa using hu) (by simpa using hv)
      exact this
    · rename_i n' e ht
      rw [ht] at ho; cases ho
    · cases h
end
/-- What '==' yields. -/
theorem eqV_ok {g : Gh} {E : List Chunk} {w : World} {t : Nat} {x y : Operand} {a b : AV} {va vb : Value} {K : AV → Prop} (hS : Sim g E w) (ha : R g a va) (hb : R g b vb) (h : eqV P t x y E a b K) :
    ∃ r c, K r ∧ R g r (.bool c) ∧ (eqGuard .eql t x y va vb).run P w = .ok () w ∧ (eqGuard .neq t x y va vb).run P w = .ok () w ∧
      (binOp .eql t va vb).run P w = .ok (.bool c) w ∧ (binOp .neq t va vb).run P w = .ok (.bool !c) w := by
  unfold eqV at h
  have H : ∀ (c : Bool) (r : AV), K r → R g r (.bool c) → (∀ k n k' m, va = .int k n → vb = .int k' m → False) → (∀ s s', va = .string s → vb = .string s' → False) → (va = .nilIface → vb = .nilIface → False) → (∀ p q, va = .agg p → vb = .agg q → False) →
      (∀ f k p q, va = .float f k → vb = .float p q → False) → (∀ f k l p q m, va = .complex f k l → vb = .complex p q m → False) →
      (Op.equalIn 10000 t va vb).run P w = .ok c w → ∃ r c, K r ∧ R g r (.bool c) ∧ (eqGuard .eql t x y va vb).run P w = .ok () w ∧ (eqGuard .neq t x y va vb).run P w = .ok () w ∧
      (binOp .eql t va vb).run P w = .ok (.bool c) w ∧ (binOp .neq t va vb).run P w = .ok (.bool !c) w := by
    intro c r hK hR h1 h2 h3 h4 h5 h6 he
    refine ⟨r, c, hK, hR, ?_, ?_, ?_, ?_⟩
    · unfold eqGuard; cases va <;> cases vb <;> first | rfl | exact (h3 rfl rfl).elim | exact (h4 _ _ rfl rfl).elim
    · unfold eqGuard; cases va <;> cases vb <;> first | rfl | exact (h3 rfl rfl).elim | exact (h4 _ _ rfl rfl).elim
    · have hb : binOp .eql t va vb = (do pure (.bool (← Op.equal t va vb))) := by
        unfold binOp; cases va <;> cases vb <;> first | rfl | exact (h1 _ _ _ _ rfl rfl).elim | exact (h2 _ _ rfl rfl).elim | exact (h5 _ _ _ _ rfl rfl).elim | exact (h6 _ _ _ _ _ _ rfl rfl).elim
      rw [hb]; simp [Op.equal, Op.maxDepth, he]
    · have hb : binOp .neq t va vb = (do pure (.bool (!(← Op.equal t va vb)))) := by
        unfold binOp; cases va <;> cases vb <;> first | rfl | exact (h1 _ _ _ _ rfl rfl).elim | exact (h2 _ _ rfl rfl).elim | exact (h5 _ _ _ _ rfl rfl).elim | exact (h6 _ _ _ _ _ _ rfl rfl).elim
      rw [hb]; simp [Op.equal, Op.maxDepth, he]
  split at h
  · -- ints
    split at h
    · rename_i hk _
      subst hk
      cases ha; cases hb
      refine ⟨_, _, h, .bool _, rfl, rfl, ?_, ?_⟩ <;> simp [binOp, Op.intCmp, bne]
    · exact h.elim
  · cases ha; cases hb
    refine ⟨_, _, h, .bool _, rfl, rfl, ?_, ?_⟩ <;> simp [binOp, Op.stringOp, toList_mk]
  all_goals
    first
    | exact h.elim
    | (split at h <;> try exact h.elim)
  all_goals rename_i ht
  · cases ha; cases hb; exact H _ _ h (.bool _) (by simp) (by simp) (by simp) (by simp) (by simp) (by simp) (eqIn_bool 9999 w ht _ _)
  · cases ha; cases hb; exact H _ _ h (R.bool' (by simp)) (by simp) (by simp) (by simp) (by simp) (by simp) (by simp) (eqIn_bool 9999 w ht _ _)
  · cases ha; cases hb; exact H _ _ h (R.bool' (by simp)) (by simp) (by simp) (by simp) (by simp) (by simp) (by simp) (eqIn_bool 9999 w ht _ _)
  · cases ha; cases hb; exact H _ _ h .tt (by simp) (by simp) (by simp) (by simp) (by simp) (by simp) (eqIn_bool 9999 w ht _ _)
  · cases ha; cases hb; exact H _ _ h .tt (by simp) (by simp) (by simp) (by simp) (by simp) (by simp) (eqIn_bool 9999 w ht _ _)
  · cases ha; cases hb; exact H _ _ h .ff (by simp) (by simp) (by simp) (by simp) (by simp) (by simp) (eqIn_bool 9999 w ht _ _)
  · cases ha; cases hb; exact H _ _ h .ff (by simp) (by simp) (by simp) (by simp) (by simp) (by simp) (eqIn_bool 9999 w ht _ _)
  · cases ha; cases hb; exact H _ _ h .tt (by simp) (by simp) (by simp) (by simp) (by simp) (by simp) (eqIn_nil_ptr 9999 w ht _)
  · cases ha; cases hb; exact H _ _ h .ff (by simp) (by simp) (by simp) (by simp) (by simp) (by simp) (eqIn_ptr_nil 9999 w ht _)
  · cases ha; cases hb; exact H _ _ h .ff (by simp) (by simp) (by simp) (by simp) (by simp) (by simp) (eqIn_ptr_nil 9999 w ht _)
  · cases ha; cases hb; exact H _ _ h .ff (by simp) (by simp) (by simp) (by simp) (by simp) (by simp) (eqIn_ptr_nil 9999 w ht _)
  · cases ha; cases hb; exact H _ _ h .ff (by simp) (by simp) (by simp) (by simp) (by simp) (by simp) (eqIn_ptr_nil 9999 w ht _)
  · cases ha; cases hb; exact H _ _ h .ff (by simp) (by simp) (by simp) (by simp) (by simp) (by simp) (eqIn_nil_ptr 9999 w ht _)
  · cases ha; cases hb; exact H _ _ h .ff (by simp) (by simp) (by simp) (by simp) (by simp) (by simp) (eqIn_nil_ptr 9999 w ht _)
  · cases ha; cases hb; exact H _ _ h .ff (by simp) (by simp) (by simp) (by simp) (by simp) (by simp) (eqIn_nil_ptr 9999 w ht _)
  · cases ha; cases hb; exact H _ _ h .ff (by simp) (by simp) (by simp) (by simp) (by simp) (by simp) (eqIn_nil_ptr 9999 w ht _)
  · rename_i i f _ _
    obtain ⟨rfl, _, _⟩ := ha.hp_iff
    cases hb
    refine H _ _ h (.bool _) (by simp) (by simp) (by simp) (by simp) (by simp) (by simp) ?_
    cases hf : f () with
    | none => simpa using eqIn_nil_ptr 9999 w ht none
    | some x => simpa using eqIn_ptr_nil 9999 w ht ⟨g.W i x.1, x.2, none⟩
  · rename_i i f _ _
    obtain ⟨rfl, _, _⟩ := hb.hp_iff
    cases ha
    refine H _ _ h (.bool _) (by simp) (by simp) (by simp) (by simp) (by simp) (by simp) ?_
    cases hf : f () with
    | none => simpa using eqIn_nil_ptr 9999 w ht none
    | some x => simpa using eqIn_nil_ptr 9999 w ht (some ⟨g.W i x.1, x.2, none⟩)
  · rename_i i f j q _ te
    split at h <;> try exact h.elim
    rename_i sz hp hsz hij hE
    have hij := Nat.eq_of_beq_eq_true hij
    subst hij
    obtain ⟨rfl, hi, h1⟩ := ha.hp_iff
    obtain ⟨rfl, _, h2⟩ := hb.hp_iff
    obtain ⟨h3, h4, h5⟩ := h.h
    refine H _ _ h5 (.bool _) (by simp) (by simp) (by simp) (by simp) (by simp) (by simp) ?_
    cases hf : f () with
    | none =>
      cases hq : q () with
      | none => simpa using eqIn_nil_ptr 9999 w ht none
      | some y => simpa using eqIn_nil_ptr 9999 w ht (some ⟨g.W i y.1, y.2, none⟩)
    | some x =>
      cases hq : q () with
      | none => simpa using eqIn_ptr_nil 9999 w ht ⟨g.W i x.1, x.2, none⟩
      | some y =>
        obtain ⟨T, n, c, g1⟩ := h3 x hf
        obtain ⟨T', n', c', g2⟩ := h4 y hq
        obtain ⟨vs, g3, _⟩ := hS.hcells hE (h1 x hf) g1
        obtain ⟨vs', g4, _⟩ := hS.hcells hE (h2 y hq) g2
        have hinj := (by have := hS.sat i; rw [hE] at this; exact this.2.1 : ∀ k k', k < g.M i → k' < g.M i → g.W i k = g.W i k' → k = k')
        obtain ⟨ti, hti, hts⟩ : ∃ ti, tinfo P te = some ti ∧ ti.size = sz + 1 := by
          unfold tsize at hsz
          split at hsz
          · rename_i ti hti; exact ⟨ti, hti, by simpa using hsz⟩
          · cases hsz
        by_cases hxy : x = y
        · subst hxy
          have := eqIn_ptr_same 9999 w ht hti ⟨g.W i x.1, x.2, none⟩
          simpa using this
        · have hne : (⟨g.W i x.1, x.2, none⟩ : Addr) ≠ ⟨g.W i y.1, y.2, none⟩ := fun e => by
            simp only [Addr.mk.injEq, and_true] at e
            exact hxy (Prod.ext (hinj _ _ (h1 x hf) (h2 y hq) e.1) e.2)
          have hb : (some x == some y) = false := by simpa using hxy
          rw [hb]
          exact eqIn_ptr_other 9999 w ht hti (by omega) hne g3 g4
  · cases ha; cases hb; exact H _ _ h .tt (by simp) (by simp) (by simp) (by simp) (by simp) (by simp) (eqIn_sl_nil 9999 w ht _ _ _)
  · rename_i ty xs _ _
    cases ha with
    | lst _ _ A c u hc hm ha hr =>
      cases hb
      refine H _ _ (h A.isNone fun hn => ?_) (.bool _) (by simp) (by simp) (by simp) (by simp) (by simp) (by simp) (eqIn_sl_nil 9999 w ht _ _ _)
      cases hx : xs () with
      | nil => rfl
      | cons x r =>
        have hp := Ty.size_pos ty
        have he : 0 < (enc ty (fun _ => x) []).length := by rw [enc_length]; exact hp
        obtain ⟨b, off, cells, T, fr, h1, _⟩ := ha 0 x 0 _ (by rw [hx]; rfl) (List.getElem?_eq_getElem he)
        rw [h1] at hn
        simp at hn
  · rename_i i sz off n _ _
    cases ha with
    | vec _ _ _ _ A c _ hL hn hs =>
      cases hb
      refine H _ _ (h A.isNone fun hn' => ?_) (.bool _) (by simp) (by simp) (by simp) (by simp) (by simp) (by simp) (eqIn_sl_nil 9999 w ht _ _ _)
      cases hV : g.V i with
      | none => exact (hn hV).2.1
      | some cap =>
        have := (hs cap hV).2.2.2.2
        simp at hn'
        exact (this hn').elim
  · cases ha; cases hb; exact H _ _ h .tt (by simp) (by simp) (by simp) (by simp) (by simp) (by simp) (eqIn_nil_nil 9999 w ht)
  · cases ha; cases hb; exact H _ _ h .ff (by simp) (by simp) (by simp) (by simp) (by simp) (by simp) (eqIn_fn_nil 9999 w ht _ _ _)
  · rename_i ty _
    obtain ⟨hck, h⟩ := h
    obtain ⟨us, rfl, hu⟩ := ha.agg_iff
    obtain ⟨vs, rfl, hv⟩ := hb.agg_iff
    have hc := hck.h
    rw [Bool.and_eq_true, Bool.not_eq_true'] at hc
    obtain ⟨x', hx, h⟩ := dec1_ok h hu
    obtain ⟨y', hy, h⟩ := dec1_ok h hv
    have he := eqD_run (w := w) 6 t ty ‹_› hc.1 10000 _ _ x' y' hx hy (by omega)
    have ht2 : ∃ fs, tund P t = some (.struct fs) := ⟨_, ‹_›⟩
    obtain ⟨fs, ht2⟩ := ht2
    simp only [mkV, ht2] at he
    have e1 : us.toList.toArray = us := by simp
    have e2 : vs.toList.toArray = vs := by simp
    rw [e1, e2] at he
    refine ⟨_, _, h, .bool _, run_eqGuard_agg w _ _ _ _ _ _ hc.2, run_eqGuard_agg w _ _ _ _ _ _ hc.2, ?_, ?_⟩
    · rw [run_eql_struct, he]; rfl
    · rw [run_neq_struct, he]; rfl
  · rename_i i p j q _ te
    split at h <;> try exact h.elim
    rename_i ti hti hi hg
    have hi := Nat.eq_of_beq_eq_true hi
    have hg := Nat.eq_of_beq_eq_true hg
    subst hi hg
    cases ha; cases hb
    exact H _ _ h .tt (by simp) (by simp) (by simp) (by simp) (by simp) (by simp) (eqIn_ptr_same 9999 w ht hti _)
end
end Go.Proofs.Ytafcenlbllmahaa.Fw
set_option linter.unusedVariables false
set_option linter.unusedSimpArgs false
namespace Go.Proofs.Ytafcenlbllmahaa.Fw
open Go

section
variable {P : Program}

theorem eqGuard_other {op : BinOp} (h : op ≠ .eql) (h' : op ≠ .neq) (t : Nat) (x y : Operand) (a b : Value) (w : World) : (eqGuard op t x y a b).run P w = .ok () w := by
  unfold eqGuard
  cases op <;> first | rfl | exact (h rfl).elim | exact (h' rfl).elim
theorem eqGuard_ii (op : BinOp) (t : Nat) (x y : Operand) (k k' : IntKind) (a b : Int) (w : World) : (eqGuard op t x y (.int k a) (.int k' b)).run P w = .ok () w := by
  unfold eqGuard; cases op <;> rfl
theorem eqGuard_ss (op : BinOp) (t : Nat) (x y : Operand) (a b : ByteArray) (w : World) : (eqGuard op t x y (.string a) (.string b)).run P w = .ok () w := by
  unfold eqGuard; cases op <;> rfl

theorem binII_ok {g : Gh} {w : World} {op : BinOp} {t : Nat} {x y : Operand} {k k' : IntKind} {a b : Unit → Int} {K : AV → Prop} (h : binII op k k' a b K) :
    ∃ r c, (do eqGuard op t x y (.int k (a ())) (.int k' (b ())); binOp op t (.int k (a ())) (.int k' (b ())) : Sem Value).run P w = .ok c w ∧ R g r c ∧ K r := by
  have H : op ≠ .shl → op ≠ .shr → (match decEq k k' with | isTrue _ => binI op k a b K | isFalse _ => False) →
      ∃ r c, (do eqGuard op t x y (.int k (a ())) (.int k' (b ())); binOp op t (.int k (a ())) (.int k' (b ())) : Sem Value).run P w = .ok c w ∧ R g r c ∧ K r := by
    clear h
    intro n1 n2 h
    split at h
    · rename_i hk _
      subst hk
      obtain ⟨r, u, h1, h2, h3⟩ := binI_ok (P := P) (g := g) (w := w) n1 n2 h
      refine ⟨r, u, ?_, h2, h3⟩
      simp only [Sem.run_bind, eqGuard_ii, Result.andThen_ok]
      rw [← h1]
      cases op <;> first | exact (n1 rfl).elim | exact (n2 rfl).elim | (simp [binOp])
    · exact h.elim
  cases op
  case shl =>
    have h1 := h.1.h
    refine ⟨_, _, ?_, .int k _, h.2⟩
    simp only [Sem.run_bind, eqGuard_ii, Result.andThen_ok, binOp, Op.shift]
    rw [if_neg (by omega)]; rfl
  case shr =>
    have h1 := h.1.h
    refine ⟨_, _, ?_, .int k _, h.2⟩
    simp only [Sem.run_bind, eqGuard_ii, Result.andThen_ok, binOp, Op.shift]
    rw [if_neg (by omega)]; rfl
  all_goals exact H (by simp) (by simp) h

theorem binV_ok {g : Gh} {E : List Chunk} {w : World} {op : BinOp} {t : Nat} {x y : Operand} {a b : AV} {va vb : Value} {K : AV → Prop} (hS : Sim g E w) (ha : R g a va) (hb : R g b vb) (h : binV P op t x y E a b K) :
    ∃ r c, (do eqGuard op t x y va vb; binOp op t va vb : Sem Value).run P w = .ok c w ∧ R g r c ∧ K r := by
  unfold binV at h
  split at h
  · cases ha; cases hb
    exact binII_ok h
  · cases ha; cases hb
    obtain ⟨r, u, h1, h2, h3⟩ := binS_ok (P := P) (g := g) (w := w) h
    refine ⟨r, u, ?_, h2, h3⟩
    simp only [Sem.run_bind, eqGuard_ss, Result.andThen_ok]
    rw [← h1]
    cases op <;> rfl
  · split at h
    · obtain ⟨r, c, hK, hR, g1, _, b1, _⟩ := eqV_ok (P := P) (w := w) hS ha hb h
      exact ⟨r, _, by simp [g1, b1], hR, hK⟩
    · obtain ⟨r, c, hK, hR, _, g1, _, b1⟩ := eqV_ok (P := P) (w := w) hS ha hb h
      exact ⟨nb r, _, by simp [g1, b1], hR.nb, hK⟩
    · exact h.elim

theorem min2V_ok {g : Gh} {w : World} {b a : AV} {v u : Value} {K : AV → Prop} (hb : R g b v) (ha : R g a u) (h : min2V b a K) : ∃ r c, (Builtin.min2 u v).run P w = .ok c w ∧ R g r c ∧ K r := by
  unfold min2V at h
  split at h
  · cases hb; cases ha; exact ⟨_, _, by simp [Builtin.min2], R.int' rfl, h⟩
  · exact h.elim
theorem max2V_ok {g : Gh} {w : World} {b a : AV} {v u : Value} {K : AV → Prop} (hb : R g b v) (ha : R g a u) (h : max2V b a K) : ∃ r c, (Builtin.max2 u v).run P w = .ok c w ∧ R g r c ∧ K r := by
  unfold max2V at h
  split at h
  · cases hb; cases ha; exact ⟨_, _, by simp [Builtin.max2], R.int' rfl, h⟩
  · exact h.elim
theorem minV_ok {g : Gh} {w : World} : ∀ (l : List AV) (us : List Value) (a : AV) (u : Value) (K : AV → Prop), RL g l us → R g a u → minV l a K → ∃ r c, (us.foldlM Builtin.min2 u).run P w = .ok c w ∧ R g r c ∧ K r
  | [], [], a, u, K, _, ha, h => ⟨a, u, rfl, ha, h⟩
  | b :: l, v :: us, a, u, K, hl, ha, h => by
    obtain ⟨r, c, h1, h2, h3⟩ := min2V_ok (P := P) (w := w) hl.1 ha h
    obtain ⟨r', c', h4, h5, h6⟩ := minV_ok (w := w) l us r c K hl.2 h2 h3
    exact ⟨r', c', by simp [h1, h4], h5, h6⟩
theorem maxV_ok {g : Gh} {w : World} : ∀ (l : List AV) (us : List Value) (a : AV) (u : Value) (K : AV → Prop), RL g l us → R g a u → maxV l a K → ∃ r c, (us.foldlM Builtin.max2 u).run P w = .ok c w ∧ R g r c ∧ K r
  | [], [], a, u, K, _, ha, h => ⟨a, u, rfl, ha, h⟩
  | b :: l, v :: us, a, u, K, hl, ha, h => by
    obtain ⟨r, c, h1, h2, h3⟩ := max2V_ok (P := P) (w := w) hl.1 ha h
    obtain ⟨r', c', h4, h5, h6⟩ := maxV_ok (w := w) l us r c K hl.2 h2 h3
    exact ⟨r', c', by simp [h1, h4], h5, h6⟩

theorem lenV_ok {g : Gh} {w : World} {t : Nat} {ts : List Nat} {ty : Nat} {cs : Array Bool} {a : AV} {u : Value} {K : AV → Prop} (hr : R g a u) (h : lenV P t a K) :
    ∃ r c, (builtin .len (t :: ts).toArray ty cs #[u]).run P w = .ok (.value c) w ∧ R g r c ∧ K r := by
  unfold lenV at h
  split at h <;> try exact h.elim
  all_goals
    split at h <;> try exact h.elim
    rename_i ht
    cases hr
    exact ⟨_, _, by simp [builtin, Builtin.len_, tund_run ht]; rfl, R.int' (by simp [goInt, ByteArray.size]), h⟩

theorem capV_ok {g : Gh} {w : World} {t : Nat} {ts : List Nat} {ty : Nat} {cs : Array Bool} {a : AV} {u : Value} {K : AV → Prop} (hr : R g a u) (h : capV P t a K) :
    ∃ r c, (builtin .cap (t :: ts).toArray ty cs #[u]).run P w = .ok (.value c) w ∧ R g r c ∧ K r := by
  cases a <;> simp only [capV] at h <;> try exact h.elim
  · split at h <;> try exact h.elim
    rename_i ht
    cases hr
    exact ⟨_, _, by simp [builtin, Builtin.cap_, tund_run ht]; rfl, R.int' (by simp [goInt]), h⟩
  · rename_i i sz off n
    split at h <;> try exact h.elim
    rename_i ht
    cases hr with | vec _ _ _ _ A c hi hL hn hs =>
    have hle : n () ≤ c := by
      cases hV : g.V i with
      | none => have := hn hV; omega
      | some cap => have := hs cap hV; omega
    exact ⟨_, _, by simp [builtin, Builtin.cap_, tund_run ht]; rfl, R.int' (by simp [goInt]), h c hle⟩
theorem builtinV_ok {g : Gh} {E : List Chunk} {w : World} {b : Builtin} {t : Nat} {ts : List Nat} {ty : Nat} {cs : Array Bool} {az : List AV} {us : List Value} {K : AV → Prop} (hS : Sim g E w) (hr : RL g az us) (h : builtinV P b t az E K) :
    ∃ r c, (builtin b (t :: ts).toArray ty cs us.toArray).run P w = .ok (.value c) w ∧ R g r c ∧ K r := by
  unfold builtinV at h
  split at h
  · exact h.elim
  · obtain _ | ⟨u, us⟩ := us <;> simp only [RL] at hr
    split at h
    · split at h
      · obtain _ | ⟨u', us⟩ := us
        · split at h
          · rename_i i f
            split at h <;> try exact h.elim
            rename_i ht hE
            obtain ⟨es, cl, h1, h2⟩ := h.h
            obtain ⟨rfl, hi, hf⟩ := hr.1.hm_iff
            obtain ⟨ms, h3, h4⟩ := hS.hmap hE hf h1
            have hl : (ms.size : Int) = (es.length : Int) := by rw [h4.length]; simp
            exact ⟨_, _, by simp [builtin, Builtin.len_, tund_run ht, MapKept.run_getObj_map h3]; rfl, R.int' (by simp [goInt, hl]), h2⟩
          · exact lenV_ok hr.1 h
        · exact hr.2.elim
      · exact h.elim
    · split at h
      · obtain _ | ⟨u', us⟩ := us
        · exact capV_ok hr.1 h
        · exact hr.2.elim
      · exact h.elim
    · obtain ⟨r, c, h1, h2, h3⟩ := minV_ok (P := P) (w := w) _ us _ u K hr.2 hr.1 h
      exact ⟨r, c, by simp [builtin, Builtin.min_, h1], h2, h3⟩
    · obtain ⟨r, c, h1, h2, h3⟩ := maxV_ok (P := P) (w := w) _ us _ u K hr.2 hr.1 h
      exact ⟨r, c, by simp [builtin, Builtin.max_, h1], h2, h3⟩
    · split at h <;> try exact h.elim
      rename_i i o n
      obtain _ | ⟨u', us⟩ := us
      · have hr := hr.1
        obtain ⟨hob, hk⟩ := h
        obtain ⟨h0, h1⟩ := hob.h
        cases hr with | vec _ _ _ _ A c hi hL hn hs =>
        cases hV : g.V i with
        | none => exact (h1 (hn hV).2.1).elim
        | some cap =>
          obtain ⟨h2, h3, h4, h5, h6⟩ := hs cap hV
          have hA := h5 (.inr h0)
          rw [h0] at hA
          subst hA
          refine ⟨_, .pointer (some ⟨g.B i, 0, none⟩), ?_, ?_, hk⟩
          · have := Lib.run_unsafeSliceData_row (P := P) w (t :: ts).toArray ty ⟨g.B i, 0 * 1, none⟩ (n ()) c (by omega)
            simp [builtin, this]
          · have := R.eptr (g := g) i 1 (fun _ => 0) 0 hi (by show 0 < g.L i; omega)
            simpa using this
      · exact hr.2.elim
    · exact h.elim
end
end Go.Proofs.Ytafcenlbllmahaa.Fw
set_option linter.unusedVariables false
set_option linter.unusedSimpArgs false
namespace Go.Proofs.Ytafcenlbllmahaa.Fw
open Go

section
variable {P : Program}

/-! ### parts laid over cells -/
theorem putX_ok {g : Gh} : ∀ (n : Nat) (cs vs r : List AV) (us ws : List Value), putX n cs vs = some r → RL g cs us → RL g vs ws → RL g r (us.take n ++ ws ++ us.drop (n + ws.length)) ∧ n + ws.length ≤ us.length
  | 0, cs, [], r, us, ws, h, h1, h2 => by
    cases ws with
    | cons _ _ => exact h2.elim
    | nil =>
      cases cs <;> simp [putX] at h <;> subst h <;> simpa using h1
  | 0, [], _ :: _, r, us, ws, h, h1, h2 => by simp [putX] at h
  | 0, c :: cs, v :: vs, r, us, ws, h, h1, h2 => by
    simp only [putX] at h
    split at h
    · rename_i r' hr
      simp only [Option.some.injEq] at h
      subst h
      cases us with
      | nil => exact h1.elim
      | cons u us =>
        cases ws with
        | nil => exact h2.elim
        | cons x ws =>
          obtain ⟨h3, h4⟩ := putX_ok 0 cs vs r' us ws hr h1.2 h2.2
          simp only [List.take_zero, List.nil_append, Nat.zero_add] at h3 h4 ⊢
          exact ⟨⟨h2.1, by simpa using h3⟩, by simpa using h4⟩
    · cases h
  | n + 1, [], vs, r, us, ws, h, h1, h2 => by simp [putX] at h
  | n + 1, c :: cs, vs, r, us, ws, h, h1, h2 => by
    simp only [putX] at h
    split at h
    · rename_i r' hr
      simp only [Option.some.injEq] at h
      subst h
      cases us with
      | nil => exact h1.elim
      | cons u us =>
        obtain ⟨h3, h4⟩ := putX_ok n cs vs r' us ws hr h1.2 h2
        refine ⟨?_, by simp; omega⟩
        rw [show n + 1 + ws.length = n + ws.length + 1 by omega]
        exact ⟨h1.1, h3⟩
    · cases h

theorem fold_set (off : Nat) : ∀ (l : List Value) (k : Nat) (arr : Array Value), off + k + l.length ≤ arr.size →
    ((l.zipIdx k).foldl (fun cs (cj : Value × Nat) => cs.setIfInBounds (off + cj.2) cj.1) arr).toList = arr.toList.take (off + k) ++ l ++ arr.toList.drop (off + k + l.length)
  | [], k, arr, h => by simp
  | c :: l, k, arr, h => by
    simp only [List.zipIdx_cons, List.foldl_cons, List.length_cons] at h ⊢
    rw [fold_set off l (k + 1) _ (by simp; omega)]
    simp only [Array.toList_setIfInBounds]
    apply List.ext_getElem?
    intro i
    have hs : arr.toList.length = arr.size := by simp
    rcases Nat.lt_trichotomy i (off + k) with hi | hi | hi
    · simp [List.getElem?_append, List.getElem?_take, List.getElem?_set, hs, show i < off + (k + 1) by omega, show i < arr.size by omega, hi, show ¬ off + k = i by omega, show min (off + (k + 1)) arr.size = off + (k + 1) by omega, show min (off + k) arr.size = off + k by omega]
    · subst hi
      simp [List.getElem?_append, List.getElem?_take, List.getElem?_set, hs, show min (off + (k + 1)) arr.size = off + (k + 1) by omega, show min (off + k) arr.size = off + k by omega]
    · obtain ⟨j, rfl⟩ : ∃ j, i = off + k + 1 + j := ⟨i - (off + k + 1), by omega⟩
      simp [List.getElem?_append, List.getElem?_take, List.getElem?_set, hs, show min (off + (k + 1)) arr.size = off + (k + 1) by omega, show min (off + k) arr.size = off + k by omega, show ¬ (off + k + 1 + j < off + (k + 1)) by omega, show ¬ (off + k + 1 + j < off + k) by omega,
        show off + k + 1 + j - (off + (k + 1)) = j by omega, show off + k + 1 + j - (off + k) = j + 1 by omega]
      by_cases hj : j < l.length
      · simp [hj]
      · simp [hj, List.getElem?_drop, List.getElem?_set] <;> (try (rw [if_neg (by omega)]; congr 1; omega))

theorem R.cells {g : Gh} {v : AV} {u : Value} {cs : List AV} (h : R g v u) (hc : cellsO v = some cs) : RL g cs u.cells.toList := by
  cases h <;> simp only [cellsO, Option.some.injEq] at hc <;> try (cases hc; done)
  case agg cs' vs hl hr => subst hc; exact (R.agg_iff (.agg cs' vs hl hr)).elim fun vs' ⟨e, h⟩ => by cases e; exact h
  case hp i f hi hf => subst hc; exact ⟨.hp i f hi hf, trivial⟩
  case hm i f hi hf => subst hc; exact ⟨.hm i f hi hf, trivial⟩
  all_goals (subst hc; exact ⟨by constructor <;> assumption, trivial⟩)

theorem partsV_ok {g : Gh} {env : Env} {a : Act} (hE : ER g env a.tmps) : ∀ (l : List (Nat × Operand)) (ps : List (Nat × List AV)), partsV env l = some ps →
    ps.length = l.length ∧ ∀ (i : Nat) (c : Nat × List AV), ps[i]? = some c → ∃ (j : Nat) (x : Operand), l[i]? = some (j, x) ∧ c.1 = j ∧ RL g c.2 (a.eval x).cells.toList
  | [], ps, h => by simp [partsV] at h; subst h; simp
  | (j, x) :: l, ps, h => by
    simp only [partsV] at h
    split at h
    · rename_i c l' hc hl
      simp only [Option.some.injEq] at h
      subst h
      obtain ⟨h1, h2⟩ := partsV_ok hE l l' hl
      refine ⟨by simp [h1], fun i c' hi => ?_⟩
      cases i with
      | zero => simp at hi; subst hi; exact ⟨j, x, rfl, rfl, (hE.ev x).cells hc⟩
      | succ i => simpa using h2 i c' (by simpa using hi)
    · cases h

theorem fillV_ok {g : Gh} (place : Nat → Option (Nat × Nat)) : ∀ (ps : List (Nat × List AV)) (vs : List (Nat × Value)) (cs r : List AV) (cells : Array Value), fillV place cs ps = some r → RL g cs cells.toList →
    ps.length = vs.length → (∀ (i : Nat) (c : Nat × List AV), ps[i]? = some c → ∃ u : Value, vs[i]? = some (c.1, u) ∧ RL g c.2 u.cells.toList) → ∃ out, Instr.fill place cells vs = some out ∧ RL g r out.toList
  | [], [], cs, r, cells, h, hr, _, _ => by simp [fillV] at h; subst h; exact ⟨cells, rfl, hr⟩
  | [], _ :: _, _, _, _, _, _, hl, _ => by simp at hl
  | _ :: _, [], _, _, _, _, _, hl, _ => by simp at hl
  | (i, c) :: ps, (j, v) :: vs, cs, r, cells, h, hr, hl, hp => by
    obtain ⟨u, hu, hc⟩ := hp 0 (i, c) rfl
    simp at hu
    obtain ⟨rfl, rfl⟩ := hu
    simp only [fillV] at h
    split at h
    · rename_i off size hpl
      split at h
      · rename_i hsz
        have hsz' : c.length = size := Nat.eq_of_beq_eq_true hsz
        split at h
        · rename_i cs' hput
          obtain ⟨h1, h2⟩ := putX_ok off cs c cs' cells.toList v.cells.toList hput hr hc
          have hvl : v.cells.size = size := by have := hc.length; simp at this; omega
          have hfit : off + v.cells.size ≤ cells.size := by simpa using h2
          have hfold := fold_set off v.cells.toList 0 cells (by simpa using hfit)
          simp only [Nat.add_zero] at hfold
          obtain ⟨out, h3, h4⟩ := fillV_ok place ps vs cs' r ((v.cells.toList.zipIdx 0).foldl (fun cs (cj : Value × Nat) => cs.setIfInBounds (off + cj.2) cj.1) cells) h (by rw [hfold]; exact h1) (by simpa using hl)
            (fun k c' hk => by simpa using hp (k + 1) c' (by simpa using hk))
          refine ⟨out, ?_, h4⟩
          simp only [Instr.fill, hpl]
          rw [if_neg (by simp [hvl]; omega)]
          rw [← h3]
          congr 1
          rw [← Array.foldl_toList, Array.toList_zipIdx]
        · cases h
      · cases h
    · cases h

theorem placesF_ok (w : World) : ∀ (fs : List Field) (pl : List (Nat × Nat)), placesF P fs = some pl → (fs.mapM fun f => (do pure (f.offset, ← sizeOf f.type) : Sem (Nat × Nat))).run P w = .ok pl w
  | [], pl, h => by simp [placesF] at h; subst h; rfl
  | f :: r, pl, h => by
    simp only [placesF] at h
    split at h
    · rename_i s l hs hl
      simp only [Option.some.injEq] at h
      subst h
      have ih := placesF_ok w r l hl
      simp at ih
      simp [List.mapM_cons, tsize_size hs, ih]
    · cases h

theorem cst_cells (g : Gh) (z : Value) (h : cellsO (cst z) ≠ none) : RL g (cellsV (cst z)) z.cells.toList := by
  have hr := R_cst g z
  cases hc : cellsO (cst z) with
  | none => exact (h hc).elim
  | some cs =>
    have : cellsV (cst z) = cs := by
      cases hz : cst z <;> rw [hz] at hc <;> simp [cellsO] at hc <;> simp [cellsV, hc]
    rw [this]
    exact hr.cells hc
end
end Go.Proofs.Ytafcenlbllmahaa.Fw
set_option linter.unusedVariables false
set_option linter.unusedSimpArgs false
namespace Go.Proofs.Ytafcenlbllmahaa.Fw
open Go

section
variable {P : Program}

theorem buildV_ok {g : Gh} {env : Env} {a : Act} {w : World} {t : Nat} {l : List (Nat × Operand)} {ps : List (Nat × List AV)} {K : AV → Prop} (hE : ER g env a.tmps) (hp : partsV env l = some ps) (h : buildV P t ps K) :
    ∃ r c, (Instr.build t (l.map fun ix => (ix.1, a.eval ix.2)).toArray).run P w = .ok c w ∧ R g r c ∧ K r := by
  obtain ⟨hl, hpp⟩ := partsV_ok hE l ps hp
  unfold buildV at h
  split at h <;> try exact h.elim
  rename_i z hz
  split at h <;> try exact h.elim
  rename_i cs hcs
  have hr := (R_cst g z).cells hcs
  have hp' : ∀ (i : Nat) (c : Nat × List AV), ps[i]? = some c → ∃ u : Value, (l.map fun ix => (ix.1, a.eval ix.2))[i]? = some (c.1, u) ∧ RL g c.2 u.cells.toList := by
    intro i c hi
    obtain ⟨j, x, h1, h2, h3⟩ := hpp i c hi
    exact ⟨a.eval x, by simp [h1, h2], h3⟩
  split at h <;> try exact h.elim
  · rename_i fs ht
    split at h <;> try exact h.elim
    rename_i pl hpl
    split at h <;> try exact h.elim
    rename_i cs' hf
    rw [fL_eq] at h
    obtain ⟨out, h1, h2⟩ := fillV_ok (nth pl) ps _ cs cs' z.cells hf hr (by simp [hl]) hp'
    refine ⟨_, _, ?_, R.mkAgg h2, h⟩
    have hm : (fs.mapM fun f => (do pure (f.offset, ← sizeOf f.type) : Sem (Nat × Nat))).run P w = .ok pl.toArray w := by
      have := placesF_ok (P := P) w fs.toList pl hpl
      rw [← Array.toArray_toList (xs := fs), List.mapM_toArray]
      simp at this
      simp [this]
    simp at hm
    have e : (fun i => pl.toArray[i]?) = nth pl := by funext i; simp [nth_eq]
    simp [Instr.build, tzero_zero hz, tund_run ht, hm, nth_eq]
    have h1' : Instr.fill (fun x => pl[x]?) z.cells (l.map fun ix => (ix.1, a.eval ix.2)) = some out := by
      rw [← h1]; congr 1; funext i; simp [nth_eq]
    simp [h1']
  · rename_i n e ht
    split at h <;> try exact h.elim
    rename_i s hs
    split at h <;> try exact h.elim
    rename_i cs' hf
    rw [fL_eq] at h
    obtain ⟨out, h1, h2⟩ := fillV_ok (fun i => some (i * s, s)) ps _ cs cs' z.cells hf hr (by simp [hl]) hp'
    refine ⟨_, _, ?_, R.mkAgg h2, h⟩
    simp [Instr.build, tzero_zero hz, tund_run ht, tsize_size hs, h1]

theorem R.ptr_addr {g : Gh} {p : AV} {v : Value} (h : R g p v) (n : Nat) : (∀ i o, p = .ptr i o → ∃ a, v = .pointer (some a) ∧ a.spot = none ∧ R g (.ptr i (o + n)) (.pointer (some (a.add n)))) ∧
    (∀ i s j o, p = .eptr i s j o → ∃ a, v = .pointer (some a) ∧ a.spot = none ∧ R g (.eptr i s j (o + n)) (.pointer (some (a.add n)))) ∧
    (∀ t x o, p = .iptr t x o → ∃ a, v = .pointer (some a) ∧ a.spot = none ∧ R g (.iptr t x (o + n)) (.pointer (some (a.add n)))) ∧
    (∀ cs o, p = .cptr cs o → ∃ a, v = .pointer (some a) ∧ a.spot = none ∧ R g (.cptr cs (o + n)) (.pointer (some (a.add n)))) := by
  refine ⟨?_, ?_, ?_, ?_⟩
  · rintro i o rfl
    cases h with | ptr _ _ hi =>
    refine ⟨_, rfl, rfl, ?_⟩
    rw [add_none rfl]
    exact .ptr i (o + n) hi
  · rintro i s j o rfl
    cases h with | eptr _ _ _ _ hi hL =>
    refine ⟨_, rfl, rfl, ?_⟩
    rw [add_none rfl]
    have := R.eptr i s j (o + n) hi hL
    simpa [Nat.add_assoc] using this
  · rintro t x o rfl
    cases h with | iptr _ _ _ b ob u ha hr =>
    refine ⟨_, rfl, rfl, ?_⟩
    rw [add_none rfl]
    have := R.iptr t x (o + n) b ob u ha hr
    simpa [Nat.add_assoc] using this
  · rintro cs o rfl
    cases h with | cptr _ _ b ob u ha hr =>
    refine ⟨_, rfl, rfl, ?_⟩
    rw [add_none rfl]
    have := R.cptr cs (o + n) b ob u ha hr
    simpa [Nat.add_assoc] using this

theorem fieldPlace_run {f : Field} {n : Nat} (h : tsize P f.type = some (n + 1)) (a : Addr) (w : World) : (fieldPlace a f).run P w = .ok (a.add f.offset) w := by
  simp [fieldPlace, tsize_size h]

theorem bnd_ok {g : Gh} {env : Env} {a : Act} {x : Option Operand} {d : Unit → Int} {K : (Unit → Int) → Prop} (hE : ER g env a.tmps) (h : bnd env x d K) :
    (x = none ∧ K d) ∨ ∃ y k n, x = some y ∧ a.eval y = .int k (n ()) ∧ K n := by
  unfold bnd at h
  split at h
  · exact .inl ⟨rfl, h⟩
  · rename_i y
    split at h
    · rename_i k n he
      have := hE.ev y
      rw [he] at this
      exact .inr ⟨y, k, n, rfl, this.int_iff, h⟩
    · exact h.elim

theorem bound_in {k : IntKind} {n : Int} {y : Nat} {c : BoundsCode} (w : World) (h0 : 0 ≤ n) (h1 : n ≤ y) : (Instr.sliceBound (.int k n) y c).run P w = .ok n.toNat w := by
  simp [Instr.sliceBound, asIntOf, h0, h1]

theorem R_lst_cut {g : Gh} {ty : Ty} {xs : Unit → List ty.den} {A : Option Addr} {n c l h : Nat} (hr : R g (.lst ty xs) (.slice A n c)) (hlh : l ≤ h) (hn : h ≤ n) :
    R g (.lst ty fun u => ((xs u).take h).drop l) (.slice (if c = l then A else A.map (·.add (l * ty.size))) (h - l) (c - l)) := by
  cases hr with | lst _ _ A c u hc hm ha hr =>
  have hlen : (((xs ()).take h).drop l).length = h - l := by simp; omega
  have := R.lst (g := g) ty (fun u => ((xs u).take h).drop l) (if c = l then A else A.map (·.add (l * ty.size))) (c - l) (fun i j => u (l + i) j) (by show (((xs ()).take h).drop l).length ≤ _; omega) (by show (((xs ()).take h).drop l).length ≤ _; omega)
    (fun i x j y hi hj => ?_) (fun i x j y hi hj => ?_)
  · show R g _ (.slice _ (h - l) _)
    rw [← hlen]; exact this
  · have hi' : (((xs ()).take h).drop l)[i]? = some x := hi
    have hlt : i < h - l := by rw [← hlen]; exact (List.getElem?_eq_some_iff.1 hi').1
    have hi2 : (xs ())[l + i]? = some x := by
      rw [List.getElem?_drop, List.getElem?_take] at hi'
      split at hi'
      · exact hi'
      · cases hi'
    obtain ⟨b, off, cells, T, fr, h1, h2, h3⟩ := ha (l + i) x j y hi2 hj
    subst h1
    rw [if_neg (by omega)]
    refine ⟨b, off + l * ty.size, cells, T, fr, ?_, h2, ?_⟩
    · simp [add_none (a := ⟨b, off, none⟩) rfl]
    · rw [← h3]; congr 1; rw [Nat.add_mul]; omega
  · have hi' : (((xs ()).take h).drop l)[i]? = some x := hi
    have hi2 : (xs ())[l + i]? = some x := by
      rw [List.getElem?_drop, List.getElem?_take] at hi'
      split at hi'
      · exact hi'
      · cases hi'
    exact hr (l + i) x j y hi2 hj

theorem R_vec_cut {g : Gh} {i s : Nat} {o n : Unit → Nat} {A : Option Addr} {m c l h : Nat} (hr : R g (.vec i s o n) (.slice A m c)) (hlh : l ≤ h) (hn : h ≤ m) :
    R g (.vec i s (fun u => o u + l) (fun u => h - l)) (.slice (if c = l then A else A.map (·.add (l * s))) (h - l) (c - l)) := by
  cases hr with | vec _ _ _ _ A c hi hL hn' hs =>
  refine R.vec i s (fun u => o u + l) (fun u => h - l) _ _ hi (by show o () + l + (h - l) ≤ _; omega) (fun hV => ?_) (fun cap hV => ?_)
  · obtain ⟨h1, h2, h3, h4⟩ := hn' hV
    have : l = 0 := by omega
    subst this
    refine ⟨by simp [h1, h3], by show h - 0 = 0; omega, by omega, by show o () + 0 = 0; omega⟩
  · obtain ⟨h0, h1, h2, h3, h4⟩ := hs cap hV
    refine ⟨h0, by show o () + l + (h - l) ≤ cap; omega, by show o () + l + (c - l) = cap; omega, ?_, ?_⟩
    · intro hlt
      have hlt : o () + l < cap ∨ o () + l = 0 := hlt
      rcases Nat.eq_zero_or_pos l with h0 | h0
      · subst h0
        have hA := h3 (by simpa using hlt)
        subst hA
        split
        · simp
        · simp [add_none]
      · have hA := h3 (Or.inl (by omega))
        subst hA
        rw [if_neg (by omega)]
        simp [add_none, Nat.add_mul]
    · split
      · exact h4
      · cases A with
        | none => exact (h4 rfl).elim
        | some a => simp

/-- A slice expression's run, its bounds known. -/
theorem slice_run {a : Act} {w : World} {t e sz : Nat} {A : Option Addr} {n c : Nat} {lo hi : Option Operand} {L H : Int} (ht : tund P t = some (.slice e)) (hs : tsize P e = some sz)
    (hlo : (lo = none ∧ L = 0) ∨ ∃ y k, lo = some y ∧ a.eval y = .int k L) (hhi : (hi = none ∧ H = n) ∨ ∃ y k, hi = some y ∧ a.eval y = .int k H)
    (h0 : 0 ≤ L) (h1 : L ≤ H) (h2 : H ≤ n) (hc : n ≤ c) :
    (Instr.sliceAt t (.slice A n c) (lo.map a.eval) (hi.map a.eval) none).run P w = .ok (.slice (if c = L.toNat then A else A.map (·.add (L.toNat * sz))) (H.toNat - L.toNat) (c - L.toNat)) w := by
  have hb : (Instr.sliceBounds true n c (lo.map a.eval) (hi.map a.eval) none).run P w = .ok (L.toNat, H.toNat, c) w := by
    have hH : ∀ code, (Instr.sliceBound (.int .i64 H) c code).run P w = .ok H.toNat w := fun code => bound_in w (by omega) (by omega)
    rcases hlo with ⟨rfl, rfl⟩ | ⟨y, k, rfl, hy⟩ <;> rcases hhi with ⟨rfl, rfl⟩ | ⟨z, k', rfl, hz⟩
    · simp [Instr.sliceBounds]
    · simp [Instr.sliceBounds, hz, bound_in (k := k') (c := .sliceAcap) (P := P) w (show 0 ≤ H by omega) (show H ≤ (c : Nat) by omega)]
    · simp [Instr.sliceBounds, hy, bound_in (k := k) (c := .sliceB) (P := P) w h0 (show L ≤ (n : Nat) by omega)]
    · simp [Instr.sliceBounds, hz, hy, bound_in (k := k') (c := .sliceAcap) (P := P) w (show 0 ≤ H by omega) (show H ≤ (c : Nat) by omega), bound_in (k := k) (c := .sliceB) (P := P) w h0 (show L ≤ (H.toNat : Nat) by omega)]
  simp [Instr.sliceAt, Instr.slice, tund_run ht, hb, tsize_size hs]
theorem slice3_run {w : World} {t e sz : Nat} {A : Option Addr} {n c : Nat} {hv mv : Value} {k k' : IntKind} (ht : tund P t = some (.slice e)) (hs : tsize P e = some sz) (hh : hv = .int k n) (hm : mv = .int k' n) (hc : n ≤ c) :
    (Instr.sliceAt t (.slice A n c) none (some hv) (some mv)).run P w = .ok (.slice (if n = 0 then A else A.map (·.add (0 * sz))) n n) w := by
  subst hh hm
  have hb : (Instr.sliceBounds true n c none (some (.int k n)) (some (.int k' n))).run P w = .ok (0, n, n) w := by
    have h1 : ∀ (k : IntKind) (m : Nat) code, n ≤ m → (Instr.sliceBound (.int k n) m code).run P w = .ok n w := fun k m code h => by
      have := bound_in (k := k) (c := code) (P := P) w (n := (n : Int)) (y := m) (by omega) (by omega)
      simpa using this
    simp [Instr.sliceBounds, h1 _ _ _ hc, h1 _ _ _ (Nat.le_refl n)]
  simp [Instr.sliceAt, Instr.slice, tund_run ht, hb, tsize_size hs]
theorem R_lst_cap {g : Gh} {ty : Ty} {xs : Unit → List ty.den} {A : Option Addr} {n c sz : Nat} (hr : R g (.lst ty xs) (.slice A n c)) : R g (.lst ty xs) (.slice (if n = 0 then A else A.map (·.add (0 * sz))) n n) := by
  cases hr with | lst _ _ A c u hc hm ha hr =>
  have e : (if (xs ()).length = 0 then A else A.map (·.add (0 * sz))) = A := by
    split
    · rfl
    · cases A with
      | none => rfl
      | some a => simp [Addr.add]
  rw [e]
  exact .lst ty xs A _ u (Nat.le_refl _) hm ha hr
theorem slice_run_str {a : Act} {w : World} {t : Nat} {s : ByteArray} {lo hi : Option Operand} {L H : Int} (ht : tund P t = some .string)
    (hlo : (lo = none ∧ L = 0) ∨ ∃ y k, lo = some y ∧ a.eval y = .int k L) (hhi : (hi = none ∧ H = s.size) ∨ ∃ y k, hi = some y ∧ a.eval y = .int k H)
    (h0 : 0 ≤ L) (h1 : L ≤ H) (h2 : H ≤ s.size) :
    (Instr.sliceAt t (.string s) (lo.map a.eval) (hi.map a.eval) none).run P w = .ok (.string (s.extract L.toNat H.toNat)) w := by
  have hb : (Instr.sliceBounds false s.size s.size (lo.map a.eval) (hi.map a.eval) none).run P w = .ok (L.toNat, H.toNat, s.size) w := by
    rcases hlo with ⟨rfl, rfl⟩ | ⟨y, k, rfl, hy⟩ <;> rcases hhi with ⟨rfl, rfl⟩ | ⟨z, k', rfl, hz⟩
    · simp [Instr.sliceBounds]
    · simp [Instr.sliceBounds, hz, bound_in (k := k') (c := .sliceAlen) (P := P) w (show 0 ≤ H by omega) (show H ≤ (s.size : Nat) by omega)]
    · simp [Instr.sliceBounds, hy, bound_in (k := k) (c := .sliceB) (P := P) w h0 (show L ≤ (s.size : Nat) by omega)]
    · simp [Instr.sliceBounds, hz, hy, bound_in (k := k') (c := .sliceAlen) (P := P) w (show 0 ≤ H by omega) (show H ≤ (s.size : Nat) by omega), bound_in (k := k) (c := .sliceB) (P := P) w h0 (show L ≤ (H.toNat : Nat) by omega)]
  simp [Instr.sliceAt, Instr.slice, tund_run ht, hb]
end
end Go.Proofs.Ytafcenlbllmahaa.Fw
set_option linter.unusedVariables false
set_option linter.unusedSimpArgs false
namespace Go.Proofs.Ytafcenlbllmahaa.Fw
open Go

section
variable {P : Program}

theorem map_byte (l : List UInt8) : (l.map fun b => (b.toNat : Int)).map (fun z => UInt8.ofNat z.toNat) = l := by
  induction l with
  | nil => rfl
  | cons b r ih => simp [ih]

theorem forIn_bytes (w : World) : ∀ (l : List Int) (s : ByteArray),
    (forIn (m := Sem) (l.map fun z => Value.int .u8 z) s fun c s => (match c with | .int .u8 n => pure (ForInStep.yield (s.push (UInt8.ofNat n.toNat))) | _ => do let r ← stuck "bytesToString: byte expected"; pure (ForInStep.yield r))).run P w
      = .ok (⟨(s.data.toList ++ l.map fun z => UInt8.ofNat z.toNat).toArray⟩) w
  | [], s => by simp
  | z :: r, s => by
    simp only [List.map_cons, List.forIn_cons, Sem.run_bind, Sem.run_pure, Result.andThen_ok]
    rw [forIn_bytes w r]
    simp [ByteArray.push]

theorem bytes_run {w : World} {A : Option Addr} {n c : Nat} {zs : List Int} (hl : zs.length = n) (h : n = 0 ∨ ∃ b o, A = some ⟨b, o, none⟩ ∧ ∀ i, i < n → w.cell? ⟨b, o + i, none⟩ = some (.int .u8 (zs.getD i 0))) :
    (Conv.bytesToString (.slice A n c)).run P w = .ok (.string ⟨(zs.map fun z => UInt8.ofNat z.toNat).toArray⟩) w := by
  cases A with
  | none =>
    rcases h with rfl | ⟨b, o, h, _⟩
    · obtain rfl : zs = [] := List.eq_nil_of_length_eq_zero hl
      rfl
    · cases h
  | some a =>
    have hload : (loadCells a n).run P w = .ok (zs.map fun z => Value.int .u8 z).toArray w := by
      have := run_loadCells_list (P := P) w a (zs.map fun z => Value.int .u8 z) (fun j v hv => by
        rcases h with rfl | ⟨b, o, e, hc⟩
        · obtain rfl : zs = [] := List.eq_nil_of_length_eq_zero hl
          simp at hv
        · cases e
          have hj : j < zs.length := by simpa using (List.getElem?_eq_some_iff.1 hv).1
          rw [add_none rfl, hc j (by omega)]
          simp [hj] at hv
          simp [hj, ← hv])
      simpa [hl] using this
    have hf := forIn_bytes (P := P) w zs ByteArray.empty
    simp only [Conv.bytesToString, Sem.run_bind, hload, Result.andThen_ok]
    rw [List.forIn_toArray]
    simp at hf
    simp [hf]

theorem lst_bytes {g : Gh} {E : List Chunk} {w : World} (hS : Sim g E w) {xs : Unit → List Int} {A : Option Addr} {n c : Nat} (hr : R g (.lst (.int .u8) xs) (.slice A n c)) :
    (xs ()).length = n ∧ (n = 0 ∨ ∃ b o, A = some ⟨b, o, none⟩ ∧ ∀ i, i < n → w.cell? ⟨b, o + i, none⟩ = some (.int .u8 ((xs ()).getD i 0))) := by
  cases hr with | lst _ _ A c u hc hm ha hr =>
  refine ⟨rfl, ?_⟩
  cases hx : (xs ()) with
  | nil => exact .inl rfl
  | cons x r =>
    right
    obtain ⟨b, off, cells, T, fr, h1, h2, h3⟩ := ha 0 x 0 (.int .u8 fun _ => x) (by rw [hx]; rfl) rfl
    refine ⟨b, off, h1, fun i hi => ?_⟩
    have hi' : i < (xs ()).length := by rw [hx]; exact hi
    have h4 := ha i _ 0 (.int .u8 fun _ => (xs ())[i]'hi') (List.getElem?_eq_getElem hi') rfl
    have h5 := hr i _ 0 (.int .u8 fun _ => (xs ())[i]'hi') (List.getElem?_eq_getElem hi') rfl
    rw [h1] at h4
    have h6 := h4.cell hS
    simp only [Ty.size, Nat.mul_one, Nat.add_zero] at h6
    rw [h6, h5.int_iff]
    rw [← hx]
    simp [List.getD, List.getElem?_eq_getElem hi']

theorem vec_bytes {g : Gh} {E : List Chunk} {w : World} (hS : Sim g E w) {i s T : Nat} {xs : Unit → List Int} {o n : Unit → Nat} {A : Option Addr} {m c : Nat} (hE : getE E i = .vect T (.int .u8) xs) (hr : R g (.vec i s o n) (.slice A m c)) (hs1 : s = 1) :
    (((xs ()).drop (o ())).take (n ())).length = m ∧ (m = 0 ∨ ∃ b o', A = some ⟨b, o', none⟩ ∧ ∀ k, k < m → w.cell? ⟨b, o' + k, none⟩ = some (.int .u8 ((((xs ()).drop (o ())).take (n ())).getD k 0))) := by
  subst hs1
  have hs := hS.sat i
  rw [hE] at hs
  obtain ⟨hL, hn0, hc⟩ := hs
  cases hr with | vec _ _ _ _ A c _ hL' hn hs' =>
  have hlen : (((xs ()).drop (o ())).take (n ())).length = n () := by simp; omega
  refine ⟨hlen, ?_⟩
  cases hV : g.V i with
  | none => exact .inl (hn hV).2.1
  | some cap =>
    obtain ⟨h0, h1, h2, h3, h4⟩ := hs' cap hV
    obtain ⟨vs, hv, hvs, hcap, hx⟩ := hc cap hV
    rcases Nat.eq_zero_or_pos (n ()) with hz | hz
    · exact .inl hz
    right
    refine ⟨_, _, h3 (.inl (by omega)), fun k hk => ?_⟩
    have hk' : o () + k < (xs ()).length := by omega
    have hxk := hx (o () + k) _ (List.getElem?_eq_getElem hk')
    have hsz : (Ty.int IntKind.u8).size = 1 := rfl
    rw [hsz] at hxk hvs
    cases hd : (vs.toList.drop ((o () + k) * 1)).take 1 with
    | nil => rw [hd] at hxk; exact hxk.elim
    | cons u r =>
      rw [hd] at hxk
      have hu := hxk.1
      have hu' := hu.int_iff
      have : ((vs.toList.drop ((o () + k) * 1)).take 1)[0]? = some u := by rw [hd]; rfl
      rw [cell_of_heap hv]
      simp at this
      rw [show o () * 1 + k = o () + k by omega, this, hu']
      simp [List.getD, List.getElem?_take, hk, List.getElem?_drop, List.getElem?_eq_getElem hk']
end
end Go.Proofs.Ytafcenlbllmahaa.Fw
set_option linter.unusedVariables false
set_option linter.unusedSimpArgs false
namespace Go.Proofs.Ytafcenlbllmahaa.Fw
open Go

section
variable {P : Program}

theorem lkV_ok {g : Gh} {k : IntKind} {d : IntKind} {n : Unit → Int} : ∀ {ks : List Int} {vs : List AV} {es : List MapEntry} {K : AV → Prop} {D : Prop} (i : Nat), lkV ks vs n K D → es.map (·.key) = ks.map (Value.int k) → RL g vs (es.map (·.val)) →
    (∃ j v u, Instr.findNow (.int d) (.int k (n ())) es i = some (some (j, u)) ∧ R g v u ∧ K v) ∨ (Instr.findNow (.int d) (.int k (n ())) es i = some none ∧ D)
  | [], vs, [], K, D, i, h, hk, hr => by
    cases vs with
    | nil => exact .inr ⟨rfl, h⟩
    | cons _ _ => exact h.elim
  | [], _, _ :: _, _, _, _, _, hk, _ => by simp at hk
  | _ :: _, _, [], _, _, _, _, hk, _ => by simp at hk
  | k0 :: ks, [], e :: es, _, _, _, h, _, _ => h.elim
  | k0 :: ks, v :: vs, e :: es, K, D, i, h, hk, hr => by
    simp only [List.map_cons, List.cons.injEq] at hk
    simp only [lkV, fV_eq] at h
    by_cases hn : n () = k0
    · exact .inl ⟨i, v, e.val, by simp [Instr.findNow, hk.1, Instr.sameNow, hn], hr.1, h.1 hn⟩
    · have ih := lkV_ok (d := d) (i + 1) (h.2 hn) hk.2 hr.2
      have e1 : Instr.findNow (.int d) (.int k (n ())) (e :: es) i = Instr.findNow (.int d) (.int k (n ())) es (i + 1) := by
        have hb : (n () == k0) = false := by simpa using hn
        simp [Instr.findNow, hk.1, Instr.sameNow, hb]
      rw [e1]; exact ih
theorem lookV_ok {g : Gh} {E : List Chunk} {w : World} {t : Nat} {ok : Bool} {x k : AV} {u uk : Value} {K : AV → Prop} (hS : Sim g E w) (hx : R g x u) (hk : R g k uk) (h : lookV P t ok x k E K) :
    ∃ r c, (Instr.lookup t u uk ok).run P w = .ok c w ∧ R g r c ∧ K r := by
  unfold lookV at h
  split at h <;> try exact h.elim
  · rename_i i f n
    split at h <;> try exact h.elim
    rename_i hp hE
    obtain ⟨es, cl, z, h1, h2, h3, h4⟩ := h.h
    obtain ⟨rfl, hi, hf⟩ := hx.hm_iff
    obtain ⟨ms, h5, h6⟩ := hS.hmap hE hf h1
    have huk := hk.int_iff
    rw [huk]
    unfold mapZ at h2
    split at h2 <;> try (cases h2; done)
    rename_i kt et ht
    split at h2 <;> try (cases h2; done)
    rename_i hkt
    have hck : (Instr.checkKey ms.isEmpty 10000 kt (.int .i64 (n ()))).run P w = .ok () w := by
      unfold Instr.checkKey
      simp only [Sem.run_bind, tund_run hkt, Result.andThen_ok]
      rfl
    have hzr := tzero_zero (P := P) (w := w) h2
    have hzR := R_cst g z
    rcases EntR.find (d := .i64) (n := n ()) 0 h6 with ⟨v, k, u, g1, g2, g3⟩ | ⟨g1, g2⟩
    · have hK := h3 v g1
      cases ok with
      | true =>
        refine ⟨_, _, ?_, R.mkTup (cs := [v.av i, .tt]) (vs := [u, .bool true]) ⟨g3, .tt, trivial⟩, hK⟩
        simp [Instr.lookup, tund_run ht, MapKept.run_getObj_map h5, hck, MapKept.run_findKey (tund_und hkt) g2, Result.andThen]
      | false =>
        refine ⟨v.av i, u, ?_, g3, hK⟩
        simp [Instr.lookup, tund_run ht, MapKept.run_getObj_map h5, hck, MapKept.run_findKey (tund_und hkt) g2, Result.andThen]
    · have hK := h4 g1
      cases ok with
      | true =>
        refine ⟨_, _, ?_, R.mkTup (cs := [cst z, .ff]) (vs := [z, .bool false]) ⟨hzR, .ff, trivial⟩, hK⟩
        simp [Instr.lookup, tund_run ht, MapKept.run_getObj_map h5, hck, MapKept.run_findKey (tund_und hkt) g2, Result.andThen, hzr]
      | false =>
        refine ⟨cst z, z, ?_, hzR, hK⟩
        simp [Instr.lookup, tund_run ht, MapKept.run_getObj_map h5, hck, MapKept.run_findKey (tund_und hkt) g2, Result.andThen, hzr]
  rename_i i kk n
  split at h <;> try exact h.elim
  rename_i kt et k' ks vs ht hE
  split at h <;> try exact h.elim
  rename_i d e2 z hkt hdq hz
  subst e2
  have hs := hS.sat i
  rw [hE] at hs
  obtain ⟨es, cl, h1, h2, h3⟩ := hs
  have hu : u = .map (some (g.B i)) := by cases hx; rfl
  have huk := hk.int_iff
  subst hu
  rw [huk]
  have hck : (Instr.checkKey es.isEmpty 10000 kt (.int kk (n ()))).run P w = .ok () w := by
    unfold Instr.checkKey
    simp only [Sem.run_bind, tund_run hkt, Result.andThen_ok]
    rfl
  have hzr := tzero_zero (P := P) (w := w) hz
  have hzR := R_cst g z
  cases ok with
  | true =>
    simp only [] at h
    rcases lkV_ok (d := d) 0 h h2 h3 with ⟨j, v, u, h4, h5, h6⟩ | ⟨h4, h5⟩
    · refine ⟨_, _, ?_, R.mkTup (cs := [v, .tt]) (vs := [u, .bool true]) ⟨h5, .tt, trivial⟩, h6⟩
      simp [Instr.lookup, tund_run ht, MapKept.run_getObj_map h1, hck, MapKept.run_findKey (tund_und hkt) h4, Result.andThen]
    · refine ⟨_, _, ?_, R.mkTup (cs := [cst z, .ff]) (vs := [z, .bool false]) ⟨hzR, .ff, trivial⟩, h5⟩
      simp [Instr.lookup, tund_run ht, MapKept.run_getObj_map h1, hck, MapKept.run_findKey (tund_und hkt) h4, Result.andThen, hzr]
  | false =>
    simp only [] at h
    rcases lkV_ok (d := d) 0 h h2 h3 with ⟨j, v, u, h4, h5, h6⟩ | ⟨h4, h5⟩
    · refine ⟨v, u, ?_, h5, h6⟩
      simp [Instr.lookup, tund_run ht, MapKept.run_getObj_map h1, hck, MapKept.run_findKey (tund_und hkt) h4, Result.andThen]
    · refine ⟨cst z, z, ?_, hzR, h5⟩
      simp [Instr.lookup, tund_run ht, MapKept.run_getObj_map h1, hck, MapKept.run_findKey (tund_und hkt) h4, Result.andThen, hzr]
set_option maxHeartbeats 1000000 in
theorem qV_ok {g : Gh} {E : List Chunk} {w : World} {env : Env} {a : Act} {op : Op} {K : AV → Prop} (hS : Sim g E w) (hE : ER g env a.tmps) (h : qV P op env E K) (o : Oper) (ho : o.op = op) :
    ∃ r c, (execOp a.eval o).run P w = .ok (.value c) w ∧ R g r c ∧ K r := by
  unfold execOp
  simp only [ho]
  unfold qV at h
  split at h
  · -- move
    exact ⟨_, _, rfl, hE.ev _, h⟩
  · exact ⟨_, _, rfl, hE.ev _, h⟩
  · -- pick
    rename_i c x y
    have hc := hE.ev c
    split at h
    · rename_i b e
      rw [e] at hc
      have hc' := hc.bool_iff
      cases hb : b ()
      · exact ⟨_, _, by simp [hc', hb, asBool], hE.ev y, h.2 hb⟩
      · exact ⟨_, _, by simp [hc', hb, asBool], hE.ev x, h.1 hb⟩
    · rename_i e
      rw [e] at hc
      exact ⟨_, _, by simp [hc.tt_iff, asBool], hE.ev x, h⟩
    · rename_i e
      rw [e] at hc
      exact ⟨_, _, by simp [hc.ff_iff, asBool], hE.ev y, h⟩
    · exact h.elim
  · -- load
    rename_i t x
    apply of_sem
    split at h
    · rename_i i f ex
      split at h <;> try exact h.elim
      rename_i hp hE2
      obtain ⟨k, off, T, n, c, v, h1, h2, h3, h4, h5, h6⟩ := h.h
      have hx := hE.ev x
      rw [ex] at hx
      obtain ⟨hv, hi, hf⟩ := hx.hp_iff
      rw [h1] at hv
      obtain ⟨vs, h7, h8, h9⟩ := hS.hcells hE2 (hf _ h1) h2
      have hlt : off < vs.size := by omega
      have hc := cell_of_heap h7 off
      rw [Array.getElem?_eq_getElem hlt] at hc
      refine ⟨v.av i, vs[off], ?_, by rw [← h4]; exact h9 off _ (Array.getElem?_eq_getElem hlt), h6⟩
      simp [Instr.loadAt, Instr.sureAddr, hv, loadVar, isSc_run h5, hc]
    rename_i hnp
    obtain ⟨cs, n, us, ad, h1, h2, h3, h4⟩ := atP_cells hS (hE.ev x) h
    obtain ⟨r, u, h5, h6, h7⟩ := ldC_load h4 h2 h3
    exact ⟨r, u, by simp [Instr.loadAt, Instr.sureAddr, h1, h5], h6, h7⟩
  · -- nilCheck
    rename_i x
    have hx := hE.ev x
    split at h
    · rename_i i off e
      rw [e] at hx
      obtain ⟨ad, h1, _, _⟩ := (hx.ptr_addr 0).1 _ _ rfl
      exact ⟨_, .pointer (some ad), by simp [h1], by rw [← h1]; exact hx, h⟩
    · rename_i i s j off e
      rw [e] at hx
      obtain ⟨ad, h1, _, _⟩ := (hx.ptr_addr 0).2.1 _ _ _ _ rfl
      exact ⟨_, .pointer (some ad), by simp [h1], by rw [← h1]; exact hx, h⟩
    · rename_i t y off e
      rw [e] at hx
      obtain ⟨ad, h1, _, _⟩ := (hx.ptr_addr 0).2.2.1 _ _ _ rfl
      exact ⟨_, .pointer (some ad), by simp [h1], by rw [← h1]; exact hx, h⟩
    · rename_i cs off e
      rw [e] at hx
      obtain ⟨ad, h1, _, _⟩ := (hx.ptr_addr 0).2.2.2 _ _ rfl
      exact ⟨_, .pointer (some ad), by simp [h1], by rw [← h1]; exact hx, h⟩
    · rename_i f p q e
      rw [e] at hx
      obtain ⟨vs, ws, hv, hr⟩ : ∃ vs ws, a.eval x = .func (.func f) vs ws ∧ R g (.fn (.func f) p q) (.func (.func f) vs ws) := by
        generalize a.eval x = v at hx
        cases hx with | fn _ _ _ vs ws hl hl' hr hr' => exact ⟨vs, ws, rfl, .fn _ _ _ vs ws hl hl' hr hr'⟩
      exact ⟨_, .func (.func f) vs ws, by simp [hv], hr, h⟩
    · rename_i i f e
      rw [e] at hx
      obtain ⟨hv, hi, hf⟩ := hx.hp_iff
      obtain ⟨x', hx'⟩ := Option.ne_none_iff_exists'.1 h.1.h
      rw [hx'] at hv
      exact ⟨_, .pointer (some ⟨g.W i x'.1, x'.2, none⟩), by simp [hv], by have := hx; rw [hv] at this; exact this, h.2⟩
    · exact h.elim
  · -- fieldAddr
    rename_i s x f
    apply of_sem
    split at h <;> try exact h.elim
    rename_i fs ht
    split at h <;> try exact h.elim
    rename_i fd hf
    rw [nth_eq] at hf
    simp only [Array.getElem?_toList] at hf
    split at h <;> try exact h.elim
    rename_i n hs
    have hx := hE.ev x
    split at h
    · rename_i i off e
      rw [e] at hx
      rw [fN_eq] at h
      obtain ⟨ad, h1, _, h2⟩ := (hx.ptr_addr fd.offset).1 _ _ rfl
      exact ⟨_, _, by simp [Instr.fieldAt, tund_run ht, hf, Instr.sureAddr, h1, fieldPlace_run hs], h2, h⟩
    · rename_i i s j off e
      rw [e] at hx
      rw [fN_eq] at h
      obtain ⟨ad, h1, _, h2⟩ := (hx.ptr_addr fd.offset).2.1 _ _ _ _ rfl
      exact ⟨_, _, by simp [Instr.fieldAt, tund_run ht, hf, Instr.sureAddr, h1, fieldPlace_run hs], h2, h⟩
    · rename_i t y off e
      rw [e] at hx
      rw [fN_eq] at h
      obtain ⟨ad, h1, _, h2⟩ := (hx.ptr_addr fd.offset).2.2.1 _ _ _ rfl
      exact ⟨_, _, by simp [Instr.fieldAt, tund_run ht, hf, Instr.sureAddr, h1, fieldPlace_run hs], h2, h⟩
    · rename_i cs off e
      rw [e] at hx
      rw [fN_eq] at h
      obtain ⟨ad, h1, _, h2⟩ := (hx.ptr_addr fd.offset).2.2.2 _ _ rfl
      exact ⟨_, _, by simp [Instr.fieldAt, tund_run ht, hf, Instr.sureAddr, h1, fieldPlace_run hs], h2, h⟩
    · rename_i i f' e
      rw [e] at hx
      obtain ⟨hv, hi, hf'⟩ := hx.hp_iff
      obtain ⟨x', hx'⟩ := Option.ne_none_iff_exists'.1 h.1.h
      rw [hx'] at hv
      refine ⟨_, .pointer (some ⟨g.W i x'.1, x'.2 + fd.offset, none⟩), by simp [Instr.fieldAt, tund_run ht, hf, Instr.sureAddr, hv, fieldPlace_run hs, add_none], ?_, h.2⟩
      have := R.hp (g := g) i (fun u => (f' u).map fun x => (x.1, x.2 + fd.offset)) hi (fun y hy => by simp [hx'] at hy; rw [← hy]; exact hf' x' hx')
      simpa [hx'] using this
    · exact h.elim
  · -- field
    rename_i s x f
    apply of_sem
    split at h <;> try exact h.elim
    rename_i fs ht
    split at h <;> try exact h.elim
    rename_i fd hf
    rw [nth_eq] at hf
    simp only [Array.getElem?_toList] at hf
    have hx := hE.ev x
    split at h <;> try exact h.elim
    rename_i cs e
    rw [e] at hx
    obtain ⟨vs, h1, h2⟩ := hx.agg_iff
    obtain ⟨r, u, h5, h6, h7⟩ := ldC_part (w := w) h h2
    exact ⟨r, u, by simp [Instr.field, tund_run ht, hf, h1, asAgg, h5], h6, h7⟩
  · -- indexAddr
    rename_i t x ix
    apply of_sem
    have hi := hE.ev ix
    split at h <;> try exact h.elim
    rename_i k j ej
    rw [ej] at hi
    have hi' := hi.int_iff
    have hx := hE.ev x
    split at h <;> try exact h.elim
    · rename_i e ht
      split at h <;> try exact h.elim
      rename_i sz hsz
      split at h <;> try exact h.elim
      · rename_i ty xs ex
        split at h <;> try exact h.elim
        rename_i hb
        have hb' : ty.size = sz := Nat.eq_of_beq_eq_true hb
        rw [ex] at hx
        generalize a.eval x = v at hx ⊢
        cases hx with | lst _ _ A c u hc hm ha hr =>
        have hob := h.1.h
        have hlt : (j ()).toNat < (xs ()).length := by omega
        have hp := Ty.size_pos ty
        have he0 : 0 < (enc ty (fun _ => (xs ())[(j ()).toNat]'hlt) []).length := by rw [enc_length]; exact hp
        obtain ⟨b, off, cells, T, fr, h1, h2, h3⟩ := ha (j ()).toNat _ 0 _ (List.getElem?_eq_getElem hlt) (List.getElem?_eq_getElem he0)
        subst h1
        refine ⟨_, _, by simp [Instr.indexAt, hi', asIntOf, tund_run ht, hob.1, hob.2, tsize_size hsz]; rfl, ?_, h.2⟩
        have e : (fun u => (xs u).getD (j u).toNat ty.dflt) = (fun _ => (xs ())[(j ()).toNat]'hlt) := by
          funext u; cases u; simp [List.getD, List.getElem?_eq_getElem hlt]
        rw [e, add_none rfl]
        have := R.iptr ty (fun _ => (xs ())[(j ()).toNat]'hlt) 0 b (off + (j ()).toNat * sz) (u (j ()).toNat) (fun k y hy => ?_) (fun k y hy => hr _ _ k y (List.getElem?_eq_getElem hlt) hy)
        · simpa using this
        · obtain ⟨b', off', cells', T', fr', g1, g2, g3⟩ := ha (j ()).toNat _ k y (List.getElem?_eq_getElem hlt) hy
          cases g1
          exact ⟨b, _, cells', T', fr', rfl, g2, by rw [← g3]; congr 1; rw [hb']; omega⟩
      · rename_i i s o n ex
        split at h <;> try exact h.elim
        rename_i hb
        have hb' : s = sz := Nat.eq_of_beq_eq_true hb
        rw [ex] at hx
        generalize a.eval x = v at hx ⊢
        cases hx with | vec _ _ _ _ A c hi hL hn hs =>
        have hob := h.1.h
        have hV : ∃ cap, g.V i = some cap := by
          cases hV : g.V i with
          | none => have := (hn hV).2.1; omega
          | some cap => exact ⟨cap, rfl⟩
        obtain ⟨cap, hV⟩ := hV
        obtain ⟨h0, h1, h2, h3, h4⟩ := hs cap hV
        have hA := h3 (.inl (by omega))
        subst hA
        have hrun : (Instr.indexAt t (.slice (some ⟨g.B i, o () * s, none⟩) (n ()) c) (a.eval ix)).run P w = .ok (.pointer (some ⟨g.B i, o () * s + (j ()).toNat * sz, none⟩)) w := by
          simp [Instr.indexAt, hi', asIntOf, tund_run ht, hob.1, hob.2, tsize_size hsz, add_none]
        have h' := h.2
        split at h' <;> try exact h'.elim
        · refine ⟨_, _, hrun, ?_, h'⟩
          have := R.eptr (g := g) i s (fun u => o u + (j u).toNat) 0 hi (by show o () + (j ()).toNat < _; omega)
          rw [← hb', ← Nat.add_mul]
          simpa using this
        · refine ⟨_, _, hrun, ?_, h'⟩
          have := R.eptr (g := g) i s (fun u => o u + (j u).toNat) 0 hi (by show o () + (j ()).toNat < _; omega)
          rw [← hb', ← Nat.add_mul]
          simpa using this
        · rw [fN_eq] at h'
          refine ⟨_, _, hrun, ?_, h'⟩
          rw [← hb', ← Nat.add_mul]
          exact .ptr _ _ hi
    · rename_i len e ht
      split at h <;> try exact h.elim
      rename_i sz hsz
      split at h <;> try exact h.elim
      · rename_i i off ex
        rw [ex] at hx
        rw [fN_eq] at h
        obtain ⟨ad, h1, _, h2⟩ := (hx.ptr_addr ((j ()).toNat * sz)).1 _ _ rfl
        have hob := h.1.h
        exact ⟨_, _, by simp [Instr.indexAt, hi', asIntOf, tund_run ht, h1, Instr.sureAddr, hob.1, hob.2, tsize_size hsz], h2, h.2⟩
      · rename_i i s q off ex
        rw [ex] at hx
        rw [fN_eq] at h
        obtain ⟨ad, h1, _, h2⟩ := (hx.ptr_addr ((j ()).toNat * sz)).2.1 _ _ _ _ rfl
        have hob := h.1.h
        exact ⟨_, _, by simp [Instr.indexAt, hi', asIntOf, tund_run ht, h1, Instr.sureAddr, hob.1, hob.2, tsize_size hsz], h2, h.2⟩
      · rename_i ty y off ex
        rw [ex] at hx
        rw [fN_eq] at h
        obtain ⟨ad, h1, _, h2⟩ := (hx.ptr_addr ((j ()).toNat * sz)).2.2.1 _ _ _ rfl
        have hob := h.1.h
        exact ⟨_, _, by simp [Instr.indexAt, hi', asIntOf, tund_run ht, h1, Instr.sureAddr, hob.1, hob.2, tsize_size hsz], h2, h.2⟩
      · rename_i i f' ex
        rw [ex] at hx
        obtain ⟨hv, hi, hf'⟩ := hx.hp_iff
        have hob := h.1.h
        obtain ⟨x', hx'⟩ := Option.ne_none_iff_exists'.1 hob.1
        rw [hx'] at hv
        refine ⟨_, .pointer (some ⟨g.W i x'.1, x'.2 + (j ()).toNat * sz, none⟩), by simp [Instr.indexAt, hi', asIntOf, tund_run ht, hv, Instr.sureAddr, hob.2.1, hob.2.2, tsize_size hsz, add_none], ?_, h.2⟩
        have := R.hp (g := g) i (fun u => (f' u).map fun x => (x.1, x.2 + (j u).toNat * sz)) hi (fun y hy => by simp [hx'] at hy; rw [← hy]; exact hf' x' hx')
        simpa [hx'] using this
  · -- index
    rename_i t x ix
    apply of_sem
    have hi := hE.ev ix
    split at h <;> try exact h.elim
    rename_i k j ej
    rw [ej] at hi
    have hi' := hi.int_iff
    have hx := hE.ev x
    split at h <;> try exact h.elim
    · rename_i ht
      split at h <;> try exact h.elim
      rename_i s ex
      rw [ex] at hx
      have hx' := hx.str_iff
      have hob := h.1.h
      have hlt : (j ()).toNat < (s ()).length := by omega
      refine ⟨_, _, ?_, .int _ _, h.2⟩
      have hg : (ByteArray.mk (s ()).toArray)[(j ()).toNat]? = some ((s ())[(j ()).toNat]'hlt) := by
        rw [getElem?_pos (h := by simpa [ByteArray.size] using hlt)]
        rfl
      simp [Instr.index, hi', hx', asIntOf, tund_run ht, hob.1, hg, List.getD, List.getElem?_eq_getElem hlt]
    · rename_i len e ht
      split at h <;> try exact h.elim
      rename_i sz hsz
      split at h <;> try exact h.elim
      rename_i cs ex
      rw [ex] at hx
      obtain ⟨vs, h1, h2⟩ := hx.agg_iff
      have hob := h.1.h
      obtain ⟨r, u, h5, h6, h7⟩ := ldC_part (w := w) h.2 h2
      exact ⟨r, u, by simp [Instr.index, hi', h1, asIntOf, tund_run ht, hob.1, hob.2, tsize_size hsz, h5], h6, h7⟩
  · -- slice
    rename_i t x lo hi
    apply of_sem
    have hx := hE.ev x
    split at h <;> try exact h.elim
    · rename_i ht
      split at h <;> try exact h.elim
      rename_i s ex
      rw [ex] at hx
      have hx' := hx.str_iff
      have hsz : (ByteArray.mk (s ()).toArray).size = (s ()).length := by simp [ByteArray.size]
      have fin : ∀ L H : Unit → Int, ((lo = none ∧ L () = 0) ∨ ∃ y k, lo = some y ∧ a.eval y = .int k (L ())) → ((hi = none ∧ H () = (s ()).length) ∨ ∃ y k, hi = some y ∧ a.eval y = .int k (H ())) →
          (Ob (fun u => 0 ≤ L u ∧ L u ≤ H u ∧ H u ≤ (s u).length) ∧ K (.str fun u => ((s u).take (H u).toNat).drop (L u).toNat)) →
          ∃ r c, (Instr.sliceAt t (a.eval x) (lo.map a.eval) (hi.map a.eval) none).run P w = .ok c w ∧ R g r c ∧ K r := by
        intro L H hL hH h
        have hob := h.1.h
        refine ⟨_, _, by rw [hx']; exact slice_run_str ht hL (by rw [hsz]; exact hH) hob.1 hob.2.1 (by rw [hsz]; exact hob.2.2), R.str' ?_, h.2⟩
        apply ByteArray.ext
        simp [ByteArray.data_extract, List.extract_eq_drop_take']
      rcases bnd_ok hE h with ⟨rfl, h1⟩ | ⟨y, k, n, rfl, hy, h1⟩ <;> rcases bnd_ok hE h1 with ⟨rfl, h2⟩ | ⟨z, k', m, rfl, hz, h2⟩
      · exact fin _ _ (.inl ⟨rfl, rfl⟩) (.inl ⟨rfl, rfl⟩) h2
      · exact fin _ _ (.inl ⟨rfl, rfl⟩) (.inr ⟨_, _, rfl, hz⟩) h2
      · exact fin _ _ (.inr ⟨_, _, rfl, hy⟩) (.inl ⟨rfl, rfl⟩) h2
      · exact fin _ _ (.inr ⟨_, _, rfl, hy⟩) (.inr ⟨_, _, rfl, hz⟩) h2
    · rename_i e ht
      split at h <;> try exact h.elim
      · rename_i ty xs ex
        split at h <;> try exact h.elim
        rename_i sz hsz
        split at h <;> try exact h.elim
        rename_i hb
        have hb' : ty.size = sz := Nat.eq_of_beq_eq_true hb
        rw [ex] at hx
        obtain ⟨A, c, hv, hc⟩ : ∃ A c, a.eval x = .slice A (xs ()).length c ∧ (xs ()).length ≤ c := by
          generalize a.eval x = v at hx
          cases hx with | lst _ _ A c u hc => exact ⟨A, c, rfl, hc⟩
        rw [hv] at hx
        have fin : ∀ L H : Unit → Int, ((lo = none ∧ L () = 0) ∨ ∃ y k, lo = some y ∧ a.eval y = .int k (L ())) → ((hi = none ∧ H () = (xs ()).length) ∨ ∃ y k, hi = some y ∧ a.eval y = .int k (H ())) →
            (Ob (fun u => 0 ≤ L u ∧ L u ≤ H u ∧ H u ≤ (xs u).length) ∧ K (.lst ty fun u => ((xs u).take (H u).toNat).drop (L u).toNat)) →
            ∃ r c, (Instr.sliceAt t (a.eval x) (lo.map a.eval) (hi.map a.eval) none).run P w = .ok c w ∧ R g r c ∧ K r := by
          intro L H hL hH h
          have hob := h.1.h
          refine ⟨_, _, by rw [hv]; exact slice_run ht hsz hL hH hob.1 hob.2.1 hob.2.2 hc, ?_, h.2⟩
          have := R_lst_cut (l := (L ()).toNat) (h := (H ()).toNat) hx (by omega) (by omega)
          rw [hb'] at this
          have e : (fun u => ((xs u).take (H u).toNat).drop (L u).toNat) = (fun u => ((xs u).take (H ()).toNat).drop (L ()).toNat) := by funext u; cases u; rfl
          rw [e]
          exact this
        rcases bnd_ok hE h with ⟨rfl, h1⟩ | ⟨y, k, n, rfl, hy, h1⟩ <;> rcases bnd_ok hE h1 with ⟨rfl, h2⟩ | ⟨z, k', m, rfl, hz, h2⟩
        · exact fin _ _ (.inl ⟨rfl, rfl⟩) (.inl ⟨rfl, rfl⟩) h2
        · exact fin _ _ (.inl ⟨rfl, rfl⟩) (.inr ⟨_, _, rfl, hz⟩) h2
        · exact fin _ _ (.inr ⟨_, _, rfl, hy⟩) (.inl ⟨rfl, rfl⟩) h2
        · exact fin _ _ (.inr ⟨_, _, rfl, hy⟩) (.inr ⟨_, _, rfl, hz⟩) h2
      · rename_i i s o n ex
        split at h <;> try exact h.elim
        rename_i sz hsz
        split at h <;> try exact h.elim
        rename_i hb
        have hb' : s = sz := Nat.eq_of_beq_eq_true hb
        rw [ex] at hx
        obtain ⟨A, c, hv, hc⟩ : ∃ A c, a.eval x = .slice A (n ()) c ∧ n () ≤ c := by
          generalize a.eval x = v at hx
          cases hx with | vec _ _ _ _ A c hi hL hn hs =>
          refine ⟨A, c, rfl, ?_⟩
          cases hV : g.V i with
          | none => have := hn hV; omega
          | some cap => have := hs cap hV; omega
        rw [hv] at hx
        have fin : ∀ L H : Unit → Int, ((lo = none ∧ L () = 0) ∨ ∃ y k, lo = some y ∧ a.eval y = .int k (L ())) → ((hi = none ∧ H () = n ()) ∨ ∃ y k, hi = some y ∧ a.eval y = .int k (H ())) →
            (Ob (fun u => 0 ≤ L u ∧ L u ≤ H u ∧ H u ≤ n u) ∧ K (.vec i s (fun u => o u + (L u).toNat) (fun u => (H u).toNat - (L u).toNat))) →
            ∃ r c, (Instr.sliceAt t (a.eval x) (lo.map a.eval) (hi.map a.eval) none).run P w = .ok c w ∧ R g r c ∧ K r := by
          intro L H hL hH h
          have hob := h.1.h
          refine ⟨_, _, by rw [hv]; exact slice_run ht hsz hL hH hob.1 hob.2.1 hob.2.2 hc, ?_, h.2⟩
          have := R_vec_cut (l := (L ()).toNat) (h := (H ()).toNat) hx (by omega) (by omega)
          rw [hb'] at this
          have e1 : (fun u => o u + (L u).toNat) = (fun u => o u + (L ()).toNat) := by funext u; cases u; rfl
          have e2 : (fun u => (H u).toNat - (L u).toNat) = (fun _ : Unit => (H ()).toNat - (L ()).toNat) := by funext u; cases u; rfl
          rw [e1, e2, hb']
          exact this
        rcases bnd_ok hE h with ⟨rfl, h1⟩ | ⟨y, k, n, rfl, hy, h1⟩ <;> rcases bnd_ok hE h1 with ⟨rfl, h2⟩ | ⟨z, k', m, rfl, hz, h2⟩
        · exact fin _ _ (.inl ⟨rfl, rfl⟩) (.inl ⟨rfl, rfl⟩) h2
        · exact fin _ _ (.inl ⟨rfl, rfl⟩) (.inr ⟨_, _, rfl, hz⟩) h2
        · exact fin _ _ (.inr ⟨_, _, rfl, hy⟩) (.inl ⟨rfl, rfl⟩) h2
        · exact fin _ _ (.inr ⟨_, _, rfl, hy⟩) (.inr ⟨_, _, rfl, hz⟩) h2
      · rename_i ex
        rw [ex] at hx
        have hv : a.eval x = .slice none 0 0 := by generalize a.eval x = v at hx; cases hx; rfl
        split at h <;> try exact h.elim
        rename_i sz hsz
        have fin : ∀ L H : Unit → Int, ((lo = none ∧ L () = 0) ∨ ∃ y k, lo = some y ∧ a.eval y = .int k (L ())) → ((hi = none ∧ H () = 0) ∨ ∃ y k, hi = some y ∧ a.eval y = .int k (H ())) →
            (Ob (fun u => L u = 0 ∧ H u = 0) ∧ K .snil) → ∃ r c, (Instr.sliceAt t (a.eval x) (lo.map a.eval) (hi.map a.eval) none).run P w = .ok c w ∧ R g r c ∧ K r := by
          intro L H hL hH h
          have hob := h.1.h
          have hrun := slice_run (P := P) (a := a) (w := w) (A := none) (n := 0) (c := 0) (lo := lo) (hi := hi) (L := L ()) (H := H ()) ht hsz hL (by simpa using hH) (by omega) (by omega) (by simp; omega) (Nat.le_refl _)
          refine ⟨_, _, by rw [hv]; exact hrun, ?_, h.2⟩
          simp [hob.1, hob.2]
          exact .snil
        rcases bnd_ok hE h with ⟨rfl, h1⟩ | ⟨y, k, n, rfl, hy, h1⟩ <;> rcases bnd_ok hE h1 with ⟨rfl, h2⟩ | ⟨z, k', m, rfl, hz, h2⟩
        · exact fin _ _ (.inl ⟨rfl, rfl⟩) (.inl ⟨rfl, rfl⟩) h2
        · exact fin _ _ (.inl ⟨rfl, rfl⟩) (.inr ⟨_, _, rfl, hz⟩) h2
        · exact fin _ _ (.inr ⟨_, _, rfl, hy⟩) (.inl ⟨rfl, rfl⟩) h2
        · exact fin _ _ (.inr ⟨_, _, rfl, hy⟩) (.inr ⟨_, _, rfl, hz⟩) h2
  · -- slice, three numbers
    rename_i t x hi mx
    apply of_sem
    have hx := hE.ev x
    have hh := hE.ev hi
    have hm := hE.ev mx
    split at h <;> try exact h.elim
    rename_i k hn k' mn eh em
    rw [eh] at hh
    rw [em] at hm
    have hh := hh.int_iff
    have hm := hm.int_iff
    split at h <;> try exact h.elim
    rename_i e ht
    split at h <;> try exact h.elim
    rename_i sz hsz
    split at h <;> try exact h.elim
    · rename_i ty xs ex
      split at h <;> try exact h.elim
      rename_i hb
      have hb' : ty.size = sz := Nat.eq_of_beq_eq_true hb
      rw [ex] at hx
      obtain ⟨hob, hk⟩ := h
      obtain ⟨h1, h2⟩ := hob.h
      obtain ⟨A, c, hv, hc⟩ : ∃ A c, a.eval x = .slice A (xs ()).length c ∧ (xs ()).length ≤ c := by
        generalize a.eval x = v at hx
        cases hx with | lst _ _ A c u hc => exact ⟨A, c, rfl, hc⟩
      rw [hv] at hx
      refine ⟨_, _, by rw [hv]; exact slice3_run ht hsz (by rw [hh, h1]) (by rw [hm, h2]) hc, ?_, hk⟩
      exact R_lst_cap hx
    · rename_i ex
      rw [ex] at hx
      obtain ⟨hob, hk⟩ := h
      obtain ⟨h1, h2⟩ := hob.h
      have hv : a.eval x = .slice none 0 0 := by generalize a.eval x = v at hx; cases hx; rfl
      exact ⟨_, _, by rw [hv]; exact slice3_run ht hsz (n := 0) (by rw [hh, h1]; rfl) (by rw [hm, h2]; rfl) (Nat.le_refl _), .snil, hk⟩
  · -- binOp
    rename_i op t x y t'
    apply of_sem
    exact binV_ok hS (hE.ev x) (hE.ev y) h
  · -- unOp
    rename_i op t x
    apply of_sem
    have hx := hE.ev x
    generalize a.eval x = v at hx ⊢
    split at h <;> try exact h.elim
    all_goals (rename_i e; rw [e] at hx; cases hx)
    · exact ⟨_, _, by simp [Op.unary], R.bool' rfl, h⟩
    · exact ⟨_, _, by simp [Op.unary], .ff, h⟩
    · exact ⟨_, _, by simp [Op.unary], .tt, h⟩
    · exact ⟨_, _, rfl, .int _ _, h⟩
    · exact ⟨_, _, rfl, .int _ _, h⟩
  · -- convert
    rename_i src dst x
    apply of_sem
    have hx := hE.ev x
    split at h <;> try exact h.elim
    · rename_i d k k' n hs hd e
      rw [e] at hx
      exact ⟨_, _, by simp [convert, tund_run hs, tund_run hd, hx.int_iff, Conv.intToInt], .int _ _, h⟩
    · rename_i d s hs hd e
      rw [e] at hx
      exact ⟨_, _, by simp [convert, tund_run hs, tund_run hd, hx.str_iff], .str _, h⟩
    · rename_i e xs hs hd ex
      split at h <;> try exact h.elim
      rename_i he
      rw [ex] at hx
      obtain ⟨A, c, hv⟩ : ∃ A c, a.eval x = .slice A (xs ()).length c := by
        generalize a.eval x = v at hx
        cases hx with | lst _ _ A c u hc => exact ⟨A, c, rfl⟩
      rw [hv] at hx
      obtain ⟨h1, h2⟩ := lst_bytes hS hx
      exact ⟨_, _, by simp [convert, tund_run hs, tund_run hd, hv, tund_run he, bytes_run h1 h2], R.str' rfl, h⟩
    · rename_i e hs hd ex
      split at h <;> try exact h.elim
      rename_i he
      rw [ex] at hx
      have hv : a.eval x = .slice none 0 0 := by generalize a.eval x = v at hx; cases hx; rfl
      exact ⟨_, _, by simp [convert, tund_run hs, tund_run hd, hv, tund_run he, Conv.bytesToString]; rfl, R.str' rfl, h⟩
    · rename_i e i o n hs hd ex
      split at h <;> try exact h.elim
      rename_i T xs he hc
      rw [ex] at hx
      obtain ⟨A, c, hv⟩ : ∃ A c, a.eval x = .slice A (n ()) c := by
        generalize a.eval x = v at hx
        cases hx with | vec _ _ _ _ A c => exact ⟨A, c, rfl⟩
      rw [hv] at hx
      obtain ⟨h1, h2⟩ := vec_bytes hS hc hx rfl
      exact ⟨_, _, by simp [convert, tund_run hs, tund_run hd, hv, tund_run he, bytes_run h1 h2], R.str' rfl, h⟩
    · rename_i t i gg hs hd ex
      split at h <;> try exact h.elim
      rename_i k T cs hsz hc
      split at h <;> try exact h.elim
      rename_i hlt
      have hlt : gg < lenA cs := Nat.le_of_ble_eq_true hlt
      rw [ex] at hx
      have hsat := hS.sat i
      rw [hc] at hsat
      obtain ⟨vs, hb, hrl⟩ := hsat
      have hlen := hrl.length
      rw [lenA_eq] at hlt
      obtain ⟨ti, hti, htz⟩ : ∃ ti, P.info? t = some ti ∧ ti.size = k + 1 := by
        unfold tsize at hsz
        split at hsz
        · rename_i ti hti
          exact ⟨ti, tinfo_info hti, by simpa using hsz⟩
        · cases hsz
      have hv : a.eval x = .pointer (some ⟨g.B i, gg, none⟩) := by generalize a.eval x = v at hx; cases hx; rfl
      rw [hv] at hx
      exact ⟨_, _, by rw [hv]; exact Lib.run_to_unsafe w _ (tund_und hs) (tund_und hd) hti (by omega) (e := T) (cells := vs.size) (by simp [World.shape?, hb]) (by simp at hlen; show gg < vs.size; omega), hx, h⟩
    · rename_i t i gg hs hd ex
      split at h <;> try exact h.elim
      rename_i ti T cs hti hc
      rw [fN_eq] at h
      obtain ⟨hck, hk⟩ := h
      rw [ex] at hx
      have hsat := hS.sat i
      rw [hc] at hsat
      obtain ⟨vs, hb, hrl⟩ := hsat
      have hlen := hrl.length
      have hck := hck.h
      rw [lenA_eq] at hck
      have hv : a.eval x = .pointer (some ⟨g.B i, gg, none⟩) := by generalize a.eval x = v at hx; cases hx; rfl
      rw [hv] at hx
      exact ⟨_, _, by rw [hv]; exact Lib.run_from_unsafe w _ (tund_und hs) (tund_und hd) (tinfo_info hti) (e := T) (cells := vs.size) (by simp [World.shape?, hb]) (by simp at hlen; rw [← hlen]; exact hck), hx, hk⟩
  · -- makeInterface
    rename_i t x
    apply of_sem
    split at h <;> try exact h.elim
    rename_i d hni ht
    refine ⟨_, _, ?_, .ifc _ _ _ (hE.ev x), h⟩
    simp only [Instr.makeInterface, Sem.run_bind, tund_run ht, Result.andThen_ok]
    cases d <;> first | rfl | exact (hni _ rfl).elim
  · -- makeFunc
    rename_i f p q
    apply of_sem
    rw [fL_eq, fL_eq] at h
    refine ⟨_, _, rfl, ?_, h⟩
    have := R.mkFn (f := f) (hE.evL p.toList) (hE.evL q.toList)
    have e1 : (List.map a.eval p.toList).toArray = p.map a.eval := by apply Array.ext'; simp
    have e2 : (List.map a.eval q.toList).toArray = q.map a.eval := by apply Array.ext'; simp
    rw [e1, e2] at this
    exact this
  · -- extract
    rename_i x i
    apply of_sem
    have hx := hE.ev x
    split at h <;> try exact h.elim
    rename_i cs e
    rw [e] at hx
    split at h <;> try exact h.elim
    rename_i v hv
    rw [fV_eq] at h
    obtain ⟨vs, h1, h2⟩ := hx.tup_iff
    rw [nth_eq] at hv
    obtain ⟨u, hu, hr⟩ := h2.get hv
    simp at hu
    exact ⟨v, u, by simp [Instr.extract, h1, hu], hr, h⟩
  · -- lookup
    apply of_sem
    exact lookV_ok hS (hE.ev _) (hE.ev _) h
  · -- build
    rename_i t parts
    apply of_sem
    split at h <;> try exact h.elim
    rename_i ps hps
    obtain ⟨r, c, h1, h2, h3⟩ := buildV_ok (P := P) (w := w) hE hps h
    refine ⟨r, c, ?_, h2, h3⟩
    rw [← h1]
    congr 2
    apply Array.ext'
    simp
  · -- a builtin
    rename_i b args ts
    split at h <;> try exact h.elim
    rename_i t r hts
    obtain ⟨r', c, h1, h2, h3⟩ := builtinV_ok (P := P) (w := w) (ts := r) (ty := o.type) (cs := args.map fun | .const _ => true | _ => false) hS (hE.evL args.toList) h
    refine ⟨r', c, ?_, h2, h3⟩
    simp only [resolve, invoke, Sem.run_bind, Sem.run_pure, Result.andThen_ok]
    rw [← h1]
    congr 2
    · apply Array.ext'; simp [hts]
    · apply Array.ext'; simp
  · exact h.elim
end
end Go.Proofs.Ytafcenlbllmahaa.Fw
set_option linter.unusedVariables false
set_option linter.unusedSimpArgs false
namespace Go.Proofs.Ytafcenlbllmahaa.Fw
open Go Go.RowKit

/-! ### References turned -/
mutual
def mapV (f : AV → AV) : AV → AV
  | .ptr i o => f (.ptr i o) | .eptr i s j o => f (.eptr i s j o) | .vec i s o n => f (.vec i s o n) | .mp i => f (.mp i) | .hp i g => f (.hp i g) | .hm i g => f (.hm i g)
  | .agg cs => .agg (mapL f cs) | .tup cs => .tup (mapL f cs) | .fn g az bs => .fn g (mapL f az) (mapL f bs) | .ifc t v => .ifc t (mapV f v)
  | .undef => .undef | .skip => .skip | .int k n => .int k n | .bool b => .bool b | .tt => .tt | .ff => .ff | .str s => .str s | .lst t xs => .lst t xs
  | .pnil => .pnil | .iptr t x o => .iptr t x o | .cptr cs o => .cptr (mapL f cs) o | .snil => .snil | .fnil => .fnil | .inil => .inil | .mnil => .mnil
def mapL (f : AV → AV) : List AV → List AV
  | [] => [] | c :: r => mapV f c :: mapL f r
end
theorem mapL_length (f : AV → AV) : ∀ l : List AV, (mapL f l).length = l.length
  | [] => by simp [mapL]
  | c :: r => by simp [mapL, mapL_length f r]
theorem mapL_get (f : AV → AV) : ∀ (l : List AV) (i : Nat), (mapL f l)[i]? = l[i]?.map (mapV f)
  | [], i => by simp [mapL]
  | c :: r, 0 => by simp [mapL]
  | c :: r, i + 1 => by simp [mapL, mapL_get f r i]
def isRef : AV → Bool
  | .ptr _ _ | .eptr _ _ _ _ | .vec _ _ _ _ | .mp _ | .hp _ _ | .hm _ _ => true | _ => false

theorem At.mono {g g' : Gh} (hΦ : ∀ b o, g.Φ b = some o → g'.Φ b = some o) {A : Option Addr} {k : Nat} {u : Value} (h : At g A k u) : At g' A k u := by
  obtain ⟨b, off, cells, T, fr, h1, h2, h3⟩ := h
  exact ⟨b, off, cells, T, fr, h1, hΦ _ _ h2, h3⟩

theorem enc_noref (f : AV → AV) : ∀ (t : Ty) (x : Unit → t.den) (j : Nat) (y : AV), (enc t x [])[j]? = some y → mapV f y = y
  | .int _, x, j, y, h => by cases j <;> simp [enc] at h; subst h; rfl
  | .bool, x, j, y, h => by cases j <;> simp [enc] at h; subst h; rfl
  | .str, x, j, y, h => by cases j <;> simp [enc] at h; subst h; rfl
  | .list _, x, j, y, h => by cases j <;> simp [enc] at h; subst h; rfl
  | .pair a b, x, j, y, h => by
    simp only [enc] at h
    rw [enc_append, List.getElem?_append] at h
    split at h
    · exact enc_noref f a _ j y h
    · exact enc_noref f b _ _ y h

theorem R.mapA {g g' : Gh} (f : AV → AV) (hA : ∀ A k u, At g A k u → At g' A k u) (hf : ∀ v u, isRef v = true → R g v u → R g' (f v) u) {v : AV} {u : Value} (h : R g v u) : R g' (mapV f v) u := by
  induction h with
  | undef v => exact .undef v
  | skip => exact .skip
  | int k n => exact .int k n
  | bool b => exact .bool b
  | tt => exact .tt
  | ff => exact .ff
  | str s => exact .str s
  | lst t xs A c u hc hm ha hr ih =>
    refine .lst t xs A c u hc hm (fun i x j y h1 h2 => hA _ _ _ (ha i x j y h1 h2)) (fun i x j y h1 h2 => ?_)
    have := ih i x j y h1 h2
    rwa [enc_noref f t _ j y h2] at this
  | agg cs vs hl hr ih =>
    refine .agg _ vs (by rw [mapL_length]; exact hl) (fun i y u h1 h2 => ?_)
    rw [mapL_get] at h1
    cases hc : cs[i]? with
    | none => rw [hc] at h1; cases h1
    | some c => rw [hc] at h1; cases h1; exact ih i c u hc h2
  | tup cs vs hl hr ih =>
    refine .tup _ vs (by rw [mapL_length]; exact hl) (fun i y u h1 h2 => ?_)
    rw [mapL_get] at h1
    cases hc : cs[i]? with
    | none => rw [hc] at h1; cases h1
    | some c => rw [hc] at h1; cases h1; exact ih i c u hc h2
  | pnil => exact .pnil
  | ptr i off hi => exact hf _ _ rfl (.ptr i off hi)
  | eptr i sz idx off hi h => exact hf _ _ rfl (.eptr i sz idx off hi h)
  | iptr t x off b o u ha hr ih =>
    refine .iptr t x off b o u (fun j y h => hA _ _ _ (ha j y h)) (fun j y h => ?_)
    have := ih j y h
    rwa [enc_noref f t _ j y h] at this
  | cptr cs off b o u ha hr ih =>
    refine .cptr _ off b o u (fun j y h => ?_) (fun j y h => ?_)
    · rw [mapL_get] at h
      cases hc : cs[j]? with
      | none => rw [hc] at h; cases h
      | some c => exact hA _ _ _ (ha j c hc)
    · rw [mapL_get] at h
      cases hc : cs[j]? with
      | none => rw [hc] at h; cases h
      | some c => rw [hc] at h; cases h; exact ih j c hc
  | snil => exact .snil
  | vec i sz off n A c hi hL hn hs => exact hf _ _ rfl (.vec i sz off n A c hi hL hn hs)
  | fn h az bs vs ws hl hl' hr hr' ih ih' =>
    refine .fn h _ _ vs ws (by rw [mapL_length]; exact hl) (by rw [mapL_length]; exact hl') (fun i y u h1 h2 => ?_) (fun i y u h1 h2 => ?_)
    · rw [mapL_get] at h1
      cases hc : az[i]? with
      | none => rw [hc] at h1; cases h1
      | some c => rw [hc] at h1; cases h1; exact ih i c u hc h2
    · rw [mapL_get] at h1
      cases hc : bs[i]? with
      | none => rw [hc] at h1; cases h1
      | some c => rw [hc] at h1; cases h1; exact ih' i c u hc h2
  | fnil => exact .fnil
  | ifc t v u h ih => exact .ifc t _ u ih
  | inil => exact .inil
  | mp i hi => exact hf _ _ rfl (.mp i hi)
  | hp i f hi h => exact hf _ _ rfl (.hp i f hi h)
  | hm i f hi h => exact hf _ _ rfl (.hm i f hi h)
  | mnil => exact .mnil

theorem R.map {g g' : Gh} (f : AV → AV) (hΦ : ∀ b o, g.Φ b = some o → g'.Φ b = some o) (hf : ∀ v u, isRef v = true → R g v u → R g' (f v) u) {v : AV} {u : Value} (h : R g v u) : R g' (mapV f v) u := h.mapA f (fun _ _ _ h => h.mono hΦ) hf

mutual
theorem mapV_id : ∀ v : AV, mapV id v = v
  | .agg cs => by simp only [mapV]; rw [mapL_id cs]
  | .tup cs => by simp only [mapV]; rw [mapL_id cs]
  | .cptr cs o => by simp only [mapV]; rw [mapL_id cs]
  | .fn g az bs => by simp only [mapV]; rw [mapL_id az, mapL_id bs]
  | .ifc t v => by simp only [mapV]; rw [mapV_id v]
  | .ptr _ _ | .eptr _ _ _ _ | .vec _ _ _ _ | .mp _ | .hp _ _ | .hm _ _ | .undef | .skip | .int _ _ | .bool _ | .tt | .ff | .str _ | .lst _ _ | .pnil | .iptr _ _ _ | .snil | .fnil | .inil | .mnil => rfl
theorem mapL_id : ∀ l : List AV, mapL id l = l
  | [] => rfl
  | c :: r => by simp only [mapL]; rw [mapV_id c, mapL_id r]
end
/-- A ghost that knows more. -/
structure Gh.le (g g' : Gh) : Prop where
  n : g.n ≤ g'.n
  phi : ∀ b o, g.Φ b = some o → g'.Φ b = some o
  B : ∀ i, i < g.n → g'.B i = g.B i
  V : ∀ i, i < g.n → g'.V i = g.V i
  L : ∀ i, i < g.n → g'.L i = g.L i
  k : g'.k = g.k
  W : ∀ i k, i < g.n → k < g.M i → g'.W i k = g.W i k
  M : ∀ i, i < g.n → g.M i ≤ g'.M i
theorem Gh.le.refl (g : Gh) : g.le g := ⟨Nat.le_refl _, fun _ _ h => h, fun _ _ => rfl, fun _ _ => rfl, fun _ _ => rfl, rfl, fun _ _ _ _ => rfl, fun _ _ => Nat.le_refl _⟩
theorem R.mono {g g' : Gh} (hg : g.le g') {v : AV} {u : Value} (h : R g v u) : R g' v u := by
  have := R.map (g' := g') id hg.phi (fun v u hv h => ?_) h
  · rwa [mapV_id] at this
  · cases h <;> first | (cases hv; done) | skip
    · rename_i i off hi
      show R g' (.ptr i off) _
      rw [← hg.B i hi]; exact .ptr i off (Nat.lt_of_lt_of_le hi hg.n)
    · rename_i i sz idx off hi h
      show R g' (.eptr i sz idx off) _
      rw [← hg.B i hi]; exact .eptr i sz idx off (Nat.lt_of_lt_of_le hi hg.n) (by rw [hg.L i hi]; exact h)
    · rename_i i sz off n A c hi hL hn hs
      exact .vec i sz off n A c (Nat.lt_of_lt_of_le hi hg.n) (by rw [hg.L i hi]; exact hL) (by rw [hg.V i hi]; exact hn) (by rw [hg.V i hi, hg.B i hi]; exact hs)
    · rename_i i hi
      show R g' (.mp i) _
      rw [← hg.B i hi]; exact .mp i (Nat.lt_of_lt_of_le hi hg.n)
    · rename_i i f hi hf
      show R g' (.hp i f) _
      have := R.hp (g := g') i f (Nat.lt_of_lt_of_le hi hg.n) (fun x hx => Nat.lt_of_lt_of_le (hf x hx) (hg.M i hi))
      cases hfx : f () with
      | none => rw [hfx] at this; exact this
      | some x => rw [hfx] at this; simp only [Option.map_some] at this ⊢; rw [← hg.W i x.1 hi (hf x hfx)]; exact this
    · rename_i i f hi hf
      show R g' (.hm i f) _
      rw [← hg.W i _ hi hf]; exact .hm i f (Nat.lt_of_lt_of_le hi hg.n) (Nat.lt_of_lt_of_le hf (hg.M i hi))
theorem RL.mono {g g' : Gh} (hg : g.le g') : ∀ {cs : List AV} {us : List Value}, RL g cs us → RL g' cs us
  | [], [], h => h
  | c :: r, u :: us, h => ⟨h.1.mono hg, RL.mono hg h.2⟩
theorem RL.mapA {g g' : Gh} (f : AV → AV) (hA : ∀ A k u, At g A k u → At g' A k u) (hf : ∀ v u, isRef v = true → R g v u → R g' (f v) u) : ∀ {cs : List AV} {us : List Value}, RL g cs us → RL g' (mapL f cs) us
  | [], [], h => h
  | c :: r, u :: us, h => ⟨h.1.mapA f hA hf, RL.mapA f hA hf h.2⟩
theorem RL.map {g g' : Gh} (f : AV → AV) (hΦ : ∀ b o, g.Φ b = some o → g'.Φ b = some o) (hf : ∀ v u, isRef v = true → R g v u → R g' (f v) u) {cs : List AV} {us : List Value} (h : RL g cs us) : RL g' (mapL f cs) us := h.mapA f (fun _ _ _ h => h.mono hΦ) hf
theorem RL.mono_dataA {g g' : Gh} (hA : ∀ A k u, At g A k u → At g' A k u) {t : Ty} {x : Unit → t.den} {us : List Value} (h : RL g (enc t x []) us) : RL g' (enc t x []) us :=
  RL.mk h.length fun i y u h1 h2 => by
    have := R.mapA (g' := g') (fun _ => .undef) hA (fun v u _ _ => .undef u) (h.at_ i y u h1 h2)
    rwa [enc_noref _ t _ i y h1] at this
theorem RL.mono_data {g g' : Gh} (hΦ : ∀ b o, g.Φ b = some o → g'.Φ b = some o) {t : Ty} {x : Unit → t.den} {us : List Value} (h : RL g (enc t x []) us) : RL g' (enc t x []) us := h.mono_dataA (fun _ _ _ h => h.mono hΦ)

def mapC (f : AV → AV) : Chunk → Chunk
  | .none => .none | .cells T cs => .cells T (mapL f cs) | .vect T t xs => .vect T t xs | .count k => .count k | .smp k ks vs => .smp k ks (mapL f vs) | .row T t xs => .row T t xs | .heap h => .heap h | .mit x a b l => .mit (mapV f x) a b l
def mapE (f : AV → AV) : List Chunk → List Chunk
  | [] => [] | c :: r => mapC f c :: mapE f r
def mapEnv (f : AV → AV) : Env → Env
  | [] => [] | (k, v) :: r => (k, mapV f v) :: mapEnv f r
theorem lenE_mapE (f : AV → AV) : ∀ E, lenE (mapE f E) = lenE E
  | [] => rfl
  | c :: r => by simp [mapE, lenE, lenE_mapE f r]
theorem getE_mapE (f : AV → AV) : ∀ E i, getE (mapE f E) i = mapC f (getE E i)
  | [], i => by simp [mapE, getE, mapC]
  | c :: r, 0 => by simp [mapE, getE]
  | c :: r, i + 1 => by simp [mapE, getE, getE_mapE f r i]
theorem look_mapEnv (f : AV → AV) : ∀ env t, look (mapEnv f env) t = mapV f (look env t)
  | [], t => by simp [mapEnv, look, mapV]
  | (k, v) :: r, t => by
    simp only [mapEnv, look]
    split <;> rename_i h <;> simp [h, look_mapEnv f r t]
theorem getE_set (E : List Chunk) (i j : Nat) (c : Chunk) : getE (setE E i c) j = if i = j ∧ i < lenE E then c else getE E j := by
  induction E generalizing i j with
  | nil => simp [setE, getE, lenE]
  | cons d r ih =>
    cases i <;> cases j <;> simp [setE, getE, lenE, ih]
theorem lenE_set : ∀ (E : List Chunk) (i : Nat) (c : Chunk), lenE (setE E i c) = lenE E
  | [], _, _ => rfl
  | d :: r, 0, c => rfl
  | d :: r, i + 1, c => by simp [setE, lenE, lenE_set r i c]
theorem getE_add (E : List Chunk) (j : Nat) (c : Chunk) : getE (addE E c) j = if j = lenE E then c else getE E j := by
  induction E generalizing j with
  | nil => cases j <;> simp [addE, getE, lenE]
  | cons d r ih => cases j <;> simp [addE, getE, lenE, ih]
theorem lenE_add : ∀ (E : List Chunk) (c : Chunk), lenE (addE E c) = lenE E + 1
  | [], _ => rfl
  | d :: r, c => by simp [addE, lenE, lenE_add r c]
theorem getE_ge : ∀ (E : List Chunk) (i : Nat), lenE E ≤ i → getE E i = .none
  | [], _, _ => rfl
  | d :: r, 0, h => by simp [lenE] at h
  | d :: r, i + 1, h => by simp only [getE]; exact getE_ge r i (by simpa [lenE] using h)
theorem getE_lt {E : List Chunk} {i : Nat} (h : getE E i ≠ .none) : i < lenE E := by
  rcases Nat.lt_or_ge i (lenE E) with h' | h'
  · exact h'
  · exact (h (getE_ge E i h')).elim
theorem own_lt {g : Gh} {E : List Chunk} {i b : Nat} (h : (getE E i).own g i b) : i < lenE E := getE_lt (fun e => by rw [e] at h; cases h)

/-- What lies in a heap, told under another ghost. -/
theorem EntR.turn {g g' : Gh} {i i' : Nat} (hR : ∀ (v : HV) u, R g (v.av i) u → R g' (v.av i') u) : ∀ {es : List (Nat × Int × HV)} {ms : List MapEntry}, EntR g i es ms → EntR g' i' es ms
  | [], [], _ => trivial
  | (_, _, _) :: _, _ :: _, h => ⟨h.1, h.2.1, hR _ _ h.2.2.1, EntR.turn hR h.2.2.2⟩
theorem HO.sat_turn {g g' : Gh} {i i' : Nat} {ob : Obj} {o : HO} (hR : ∀ (v : HV) u, R g (v.av i) u → R g' (v.av i') u) (h : o.sat g i ob) : o.sat g' i' ob := by
  cases o with
  | cells T n c =>
    obtain ⟨vs, rfl, h1, h2⟩ := h
    exact ⟨vs, rfl, h1, fun j u hu => hR _ _ (h2 j u hu)⟩
  | map es cl =>
    obtain ⟨ms, rfl, h1⟩ := h
    exact ⟨ms, rfl, h1.turn hR⟩
theorem HV.av_data {i : Nat} (t : Ty) (x : t.den) : (∃ v, enc t (fun _ => x) [] = [v] ∧ (HV.dat t x).av i = v) ∨ (HV.dat t x).av i = .agg (enc t (fun _ => x) []) := by
  by_cases h : ∃ v, enc t (fun _ => x) [] = [v]
  · obtain ⟨v, hv⟩ := h
    exact .inl ⟨v, hv, by simp [HV.av, hv]⟩
  · refine .inr ?_
    simp only [HV.av]
    split
    · rename_i v hv; exact (h ⟨v, hv⟩).elim
    · rfl
theorem HV.av_same {g g' : Gh} {i i' : Nat} (hA : ∀ A k u, At g A k u → At g' A k u) (hi : i < g.n → i' < g'.n) (hW : i < g.n → ∀ k, k < g.M i → g'.W i' k = g.W i k) (hM : i < g.n → g.M i ≤ g'.M i') (v : HV) (u : Value) (h : R g (v.av i) u) : R g' (v.av i') u := by
  cases v with
  | dat t x =>
    have key : ∀ us, RL g (enc t (fun _ => x) []) us → RL g' (enc t (fun _ => x) []) us := fun us h => h.mono_dataA hA
    rcases HV.av_data (i := i) t x with ⟨v, h1, h2⟩ | h2
    · rw [h2] at h
      have e : (HV.dat t x).av i' = v := by simp [HV.av, h1]
      rw [e]
      rw [h1] at key
      exact (key [u] ⟨h, trivial⟩).1
    · have e : (HV.dat t x).av i' = (HV.dat t x).av i := rfl
      rw [e, h2]
      rw [h2] at h
      obtain ⟨vs, rfl, h3⟩ := h.agg_iff
      have := R.mkAgg (key _ h3)
      simpa using this
  | hp f =>
    simp only [HV.av] at h ⊢
    cases h with | hp _ _ h1 h2 =>
    have := R.hp (g := g') i' (fun _ => f) (hi h1) (fun x hx => Nat.lt_of_lt_of_le (h2 x hx) (hM h1))
    cases f with
    | none => exact this
    | some x => simp only [Option.map_some] at this ⊢; rw [← hW h1 x.1 (h2 x rfl)]; exact this
  | hm k =>
    simp only [HV.av] at h ⊢
    cases h with | hm _ _ h1 h2 =>
    rw [← hW h1 k h2]
    exact .hm i' (fun _ => k) (hi h1) (Nat.lt_of_lt_of_le h2 (hM h1))
/-- A chunk is satisfied by its own blocks alone. -/
theorem Chunk.sat_frame {g g' : Gh} {i : Nat} {w w' : World} {c : Chunk} (hR : ∀ cs us, RL g cs us → RL g' cs us) (hB : g'.B i = g.B i) (hV : g'.V i = g.V i) (hL : g'.L i = g.L i) (hk : g'.k = g.k) (hW : g'.W i = g.W i) (hM : g'.M i = g.M i)
    (hw : ∀ b, c.own g i b → w'.heap[b]? = w.heap[b]?) (h : c.sat g i w) : c.sat g' i w' := by
  cases c with
  | none => trivial
  | cells T cs =>
    obtain ⟨vs, h1, h2⟩ := h
    exact ⟨vs, by rw [hB, hw _ rfl]; exact h1, hR _ _ h2⟩
  | vect T t xs =>
    obtain ⟨h1, h2, h3⟩ := h
    refine ⟨by rw [hL]; exact h1, by rw [hV]; exact h2, fun cap hc => ?_⟩
    rw [hV] at hc
    obtain ⟨vs, h4, h5, h6, h7⟩ := h3 cap hc
    exact ⟨vs, by rw [hB, hw _ (by simp [Chunk.own, hc])]; exact h4, h5, h6, fun k x hx => hR _ _ (h7 k x hx)⟩
  | row T t xs =>
    obtain ⟨h1, h2, h3⟩ := h
    refine ⟨by rw [hL]; exact h1, by rw [hV]; exact h2, fun cap hc => ?_⟩
    rw [hV] at hc
    obtain ⟨vs, h4, h5, h6, h7⟩ := h3 cap hc
    exact ⟨vs, by rw [hB, hw _ (by simp [Chunk.own, hc])]; exact h4, h5, h6, fun k x hx => hR _ _ (h7 k x hx)⟩
  | count k => exact h.trans hk.symm
  | smp k ks us =>
    obtain ⟨es, cl, h1, h2, h3⟩ := h
    exact ⟨es, cl, by rw [hB, hw _ rfl]; exact h1, h2, hR _ _ h3⟩
  | heap hp =>
    obtain ⟨h1, h2, h3⟩ := h
    refine ⟨by rw [hM]; exact h1, by rw [hM, hW]; exact h2, fun k hk => ?_⟩
    rw [hM] at hk
    obtain ⟨ob, h4, h5⟩ := h3 k hk
    exact ⟨ob, by rw [hW, hw _ ⟨k, hk, rfl⟩]; exact h4, HO.sat_turn (fun v u hv => (hR [v.av i] [u] ⟨hv, trivial⟩).1) h5⟩
  | mit x a b l =>
    obtain ⟨r, h1, h2⟩ := h
    exact ⟨r, (hR [x] [_] ⟨h1, trivial⟩).1, by rw [hB, hw _ rfl]; exact h2⟩
theorem Chunk.own_eq {g g' : Gh} {i b : Nat} {c : Chunk} (hB : g'.B i = g.B i) (hV : g'.V i = g.V i) (hW : g'.W i = g.W i) (hM : g'.M i = g.M i) : c.own g' i b = c.own g i b := by
  cases c <;> simp [Chunk.own, hB, hV, hW, hM]
end Go.Proofs.Ytafcenlbllmahaa.Fw
set_option linter.unusedVariables false
set_option linter.unusedSimpArgs false
namespace Go.Proofs.Ytafcenlbllmahaa.Fw
open Go

def fEnv (l : Env) (K : Env → Prop) : Prop := match l with
  | [] => K [] | (k, v) :: r => fV v fun v => fEnv r fun r => K ((k, v) :: r)
theorem fEnv_eq (l : Env) (K : Env → Prop) : fEnv l K = K l := by
  induction l generalizing K with
  | nil => rfl
  | cons c r ih => cases c; simp only [fEnv, fV_eq, ih]
def fEE (l : List Chunk) (K : List Chunk → Prop) : Prop := match l with
  | [] => K [] | c :: r => fC c fun c => fEE r fun r => K (c :: r)
theorem fEE_eq (l : List Chunk) (K : List Chunk → Prop) : fEE l K = K l := by
  induction l generalizing K with
  | nil => rfl
  | cons c r ih => simp only [fEE, fC_eq, ih]

/-- A chunk let go: what leads to it is not known any more. -/
def scrF (i : Nat) : AV → AV
  | .ptr j o => (match Nat.beq j i with | true => .undef | false => .ptr j o)
  | .eptr j s x o => (match Nat.beq j i with | true => .undef | false => .eptr j s x o)
  | .vec j s o n => (match Nat.beq j i with | true => .undef | false => .vec j s o n)
  | .mp j => (match Nat.beq j i with | true => .undef | false => .mp j)
  | .hp j f => (match Nat.beq j i with | true => .undef | false => .hp j f)
  | .hm j f => (match Nat.beq j i with | true => .undef | false => .hm j f)
  | v => v
/-- A chunk that never turns again: what leads to it reads as data. -/
def frzF (i : Nat) (t : Ty) (xs : Unit → List t.den) : AV → AV
  | .ptr j o => (match Nat.beq j i with | true => .undef | false => .ptr j o)
  | .eptr j s x o => (match Nat.beq j i with | true => (match Nat.beq s t.size with | true => .iptr t (fun u => (xs u).getD (x u) t.dflt) o | false => .undef) | false => .eptr j s x o)
  | .vec j s o n => (match Nat.beq j i with | true => (match Nat.beq s t.size with | true => .lst t (fun u => ((xs u).drop (o u)).take (n u)) | false => .undef) | false => .vec j s o n)
  | .mp j => (match Nat.beq j i with | true => .undef | false => .mp j)
  | .hp j f => (match Nat.beq j i with | true => .undef | false => .hp j f)
  | .hm j f => (match Nat.beq j i with | true => .undef | false => .hm j f)
  | v => v
/-- Freeze chunk i: all that leads to it turned. -/
def frz (i : Nat) (env : Env) (E : List Chunk) (cs : List AV) (K : Env → List Chunk → List AV → Prop) : Prop :=
  match getE E i with
  | .vect T t xs => fEnv (mapEnv (frzF i t xs) env) fun env => fEE (mapE (frzF i t xs) (setE E i .none)) fun E => fL (mapL (frzF i t xs) cs) fun cs => K env E cs
  | _ => False
def findVec : List AV → Option Nat
  | [] => none | .vec i _ _ _ :: _ => some i | _ :: r => findVec r
/-- Whatever slices stand among the cells are frozen. -/
def frzAll : Nat → Env → List Chunk → List AV → (Env → List Chunk → List AV → Prop) → Prop
  | 0, env, E, cs, K => K env E cs
  | n + 1, env, E, cs, K => match findVec cs with
    | none => K env E cs
    | some i => frz i env E cs fun env E cs => frzAll n env E cs K
def okC : AV → Bool
  | .undef | .skip | .agg _ | .tup _ => false | _ => true
def okL : List AV → Bool
  | [] => true | c :: r => match okC c with | true => okL r | false => false

/-! ### What is asked where a heap is written -/
structure StH (i : Nat) (v : AV) (h : Unit → Hp) (f : Unit → Option (Nat × Nat)) (K : Hp → Prop) : Prop where
  h : ∃ k off T n c hv h', f () = some (k, off) ∧ (h ()).o k = .cells T n c ∧ off < n ∧ IsHV i v hv ∧ Hp.like h' ((h ()).set k (.cells T n fun j => if j = off then hv else c j)) ∧ K h'
structure MuH (P : Program) (t i : Nat) (n : Unit → Int) (v : AV) (h : Unit → Hp) (f : Unit → Nat) (K : Hp → Prop) : Prop where
  h : ∃ es clock z hv h', (h ()).o (f ()) = .map es clock ∧ mapZ P t = some z ∧ IsHV i v hv ∧ Hp.like h' ((h ()).set (f ()) (putO es clock (n ()) hv)) ∧ K h'
structure DeH (P : Program) (t : Nat) (n : Unit → Int) (h : Unit → Hp) (f : Unit → Nat) (K : Hp → Prop) : Prop where
  h : ∃ es clock z h', (h ()).o (f ()) = .map es clock ∧ mapZ P t = some z ∧ Hp.like h' ((h ()).set (f ()) (.map (delH es (n ())) clock)) ∧ K h'
structure RaH (P : Program) (t : Nat) (h : Unit → Hp) (f : Unit → Nat) (K : Nat → Prop) : Prop where
  h : ∃ es clock kt et, (h ()).o (f ()) = .map es clock ∧ tund P t = some (.map kt et) ∧ K clock
structure NxH (j : Nat) (h : Unit → Hp) (f : Unit → Nat) (since last : Nat) (seen : Unit → List Nat) (K0 : Prop) (K : Int → AV → List Nat → Prop) : Prop where
  h : ∃ es, (h ()).o (f ()) = .map es since ∧ last = since ∧ (∀ e ∈ es, e.1 < since) ∧ ((∀ e ∈ es, e.1 ∈ seen ()) → K0) ∧ (∀ b n v, (b, n, v) ∈ es → b ∉ seen () → K n (v.av j) (seen () ++ [b]))
def rangeV (P : Program) (t : Nat) (x : AV) (env : Env) (E : List Chunk) (K : AV → Env → List Chunk → Prop) : Prop := match x with
  | .hm i f => (match getE E i with
    | .heap h => RaH P t h f fun clock => fN (lenE E) fun n => fEE (addE E (.mit (.hm i f) clock clock fun _ => [])) fun E => K (.ptr n 0) env E
    | _ => False)
  | _ => False
def nextV (x : AV) (env : Env) (E : List Chunk) (K : AV → Env → List Chunk → Prop) : Prop := match x with
  | .ptr i 0 => (match getE E i with
    | .mit (.hm j f) since last seen => (match getE E j with
      | .heap h => NxH j h f since last seen (K (.tup [.ff]) env E) fun n v seen' => fV v fun v => fEE (setE E i (.mit (.hm j f) since since fun _ => seen')) fun E => K (.tup [.tt, .int .i64 fun _ => n, v]) env E
      | _ => False)
    | _ => False)
  | _ => False

structure EnH (j : Nat) (h : Unit → Hp) (f : Unit → Nat) (last : Nat) (seen : Unit → List Nat) (K : Int → AV → Prop) : Prop where
  h : ∃ es b e, (h ()).o (f ()) = .map es last ∧ (seen ()).getLast? = some b ∧ es.find? (fun e => e.1 == b) = some e ∧ K e.2.1 (e.2.2.av j)
def entryV (x : AV) (env : Env) (E : List Chunk) (K : AV → Env → List Chunk → Prop) : Prop := match x with
  | .ptr i 0 => (match getE E i with
    | .mit (.hm j f) since last seen => (match getE E j with
      | .heap h => EnH j h f last seen fun n v => fV v fun v => K (.tup [.int .i64 fun _ => n, v]) env E
      | _ => False)
    | _ => False)
  | _ => False

/-- n data out of cells -/
def decN (t : Ty) : Nat → List AV → ((Unit → List t.den) → Prop) → Prop
  | 0, [], K => K (fun _ => [])
  | 0, _ :: _, _ => False
  | n + 1, cs, K => dec t cs fun x r => decN t n r fun xs => K (fun u => x u :: xs u)

section
variable (P : Program)

/-- what is appended, as data of the kind -/
def srcV (t : Ty) (E : List Chunk) (v : AV) (K : (Unit → List t.den) → Prop) : Prop :=
  match v with
  | .snil => K (fun _ => [])
  | .lst t' xs => (match decEq t' t with | isTrue h => castK h xs K | isFalse _ => False)
  | .vec i s o n => (match getE E i with
    | .vect _ t' xs => (match decEq t' t with | isTrue h => (match Nat.beq s t.size with | true => castK h xs fun xs => K (fun u => ((xs u).drop (o u)).take (n u)) | false => False) | isFalse _ => False)
    | _ => False)
  | _ => False
def repF {α : Type} (xs : Unit → List α) (o n : Unit → Nat) (ys : Unit → List α) : Unit → List α := fun u => (xs u).take (o u) ++ ys u ++ (xs u).drop (o u + n u)

/-- Noughts appended to nil. -/
def appZ (e : Nat) (n : Unit → Int) (env : Env) (E : List Chunk) (K : AV → Env → List Chunk → Prop) : Prop :=
  match tyOf P 6 e, tsize P e, tbytes P e, tzero P e with
  | some ty, some sz, some by_, some z => (match Nat.beq ty.size sz, cellsO (cst z) with
    | true, some cs => dec1 ty cs fun d => Ob (fun u => 0 ≤ n u ∧ n u ≤ 140737488355328 ∧ n u * by_ ≤ 140737488355328) ∧ (n () = 0 → K .snil env E) ∧
        (n () ≠ 0 → fN (lenE E) fun i => fEE (addE E (.vect e ty fun u => List.replicate (n u).toNat (d u))) fun E => K (.vec i sz (fun _ => 0) (fun u => (n u).toNat)) env E)
    | _, _ => False)
  | _, _, _, _ => False
def eBuiltin (b : Builtin) (ts : List Nat) (az : List AV) (env : Env) (E : List Chunk) (K : AV → Env → List Chunk → Prop) : Prop :=
  match b with
  | .append => (match ts, az with
    | [t, t2], [s, x] => (match Nat.beq t t2, tund P t with
      | true, some (.slice e) => (match tyOf P 6 e, tbytes P e, tzero P e with
        | some ty, some by_, some z => (match tsize P e with
          | some sz => (match Nat.beq sz ty.size with
            | true => (match Nat.beq z.cells.size sz with
              | true => srcV ty E x fun ys => (match s with
                | .snil => Ob (fun u => (ys u).length * by_ ≤ 140737488355328) ∧ fN (lenE E) fun n => fEE (addE E (.vect e ty ys)) fun E => K (.vec n sz (fun _ => 0) (fun u => (ys u).length)) env E
                | .vec i s o n => (match getE E i with
                  | .vect T t' xs => (match decEq t' ty with
                    | isTrue h => (match Nat.beq s sz, Nat.beq T e with
                      | true, true => Ob (fun u => o u = 0 ∧ n u + (ys u).length ≤ 140737488355328 ∧ (n u + (ys u).length) * by_ ≤ 140737488355328) ∧
                        castK h xs fun xs => fEnv (mapEnv (scrF i) env) fun env => fEE (mapE (scrF i) (setE E i (.vect e ty fun u => (xs u).take (n u) ++ ys u))) fun E => K (.vec i sz (fun _ => 0) (fun u => n u + (ys u).length)) env E
                      | _, _ => False)
                    | isFalse _ => False)
                  | _ => False)
                | _ => False)
              | false => False)
            | false => False)
          | none => False)
        | _, _, _ => False)
      | false, some (.slice e) => (match s, x with
        | .snil, .int .i64 n => (match tund P t2 with | some (.int .i64) => appZ P e n env E K | _ => False)
        | s, .str y => (match tund P t2, tyOf P 6 e, tsize P e, tbytes P e, tzero P e with
          | some .string, some (.int .u8), some 1, some 1, some (.int .u8 0) => (match s with
            | .snil => Ob (fun u => (y u).length ≤ 140737488355328) ∧ fN (lenE E) fun n => fEE (addE E (.vect e (.int .u8) fun u => (y u).map fun b => (b.toNat : Int))) fun E => K (.vec n 1 (fun _ => 0) (fun u => (y u).length)) env E
            | .vec i 1 o n => (match getE E i with
              | .vect T (.int .u8) xs => (match Nat.beq T e with
                | true => Ob (fun u => o u = 0 ∧ n u + (y u).length ≤ 140737488355328) ∧
                  fEnv (mapEnv (scrF i) env) fun env => fEE (mapE (scrF i) (setE E i (.vect e (.int .u8) fun u => (xs u).take (n u) ++ (y u).map fun b => (b.toNat : Int)))) fun E => K (.vec i 1 (fun _ => 0) (fun u => n u + (y u).length)) env E
                | false => False)
              | _ => False)
            | _ => False)
          | _, _, _, _, _ => False)
        | _, _ => False)
      | _, _ => False)
    | _, _ => False)
  | .copy => (match ts, az with
    | t :: _, [.vec i s o n, x] => (match tund P t with
      | some (.slice e) => (match tsize P e with
        | some sz => (match getE E i with
          | .vect T ty xs => (match Nat.beq sz ty.size with
            | true => (match Nat.beq s sz with
              | true => srcV ty E x fun ys => fEE (setE E i (.vect T ty (repF xs o (fun u => min (ys u).length (n u)) fun u => (ys u).take (n u)))) fun E => K (.int .i64 fun u => (min (ys u).length (n u) : Nat)) env E
              | false => False)
            | false => False)
          | _ => False)
        | none => False)
      | _ => False)
    | _, _ => False)
  | .delete => (match ts, az with
    | t :: _, [.hm i f, .int .i64 n] => (match getE E i with
      | .heap h => DeH P t n h f fun h' => fEE (setE E i (.heap fun _ => h')) fun E => K (.tup []) env E
      | _ => False)
    | _, _ => False)
  | .unsafeString => (match ts, az with
    | [pt, it], [.eptr i 1 idx 0, .int .i64 m] => (match tund P pt with
      | some (.pointer e) => (match tsize P e, getE E i with
        | some 1, .vect T (.int .u8) xs => (match Nat.beq T e with
          | true => Ob (fun u => idx u = 0 ∧ 0 < m u ∧ m u ≤ (xs u).length ∧ (xs u).length ≤ 140737488355328 ∧ (∀ z ∈ xs u, 0 ≤ z ∧ z < 256)) ∧
            fEnv (mapEnv (scrF i) env) fun env => fEE (mapE (scrF i) (setE E i .none)) fun E => K (.str fun u => ((xs u).take (m u).toNat).map fun z => UInt8.ofNat z.toNat) env E
          | false => False)
        | _, _ => False)
      | _ => False)
    | _, _ => False)
  | .clear => (match ts, az with
    | t :: _, [.vec i s o n] => (match tund P t with
      | some (.slice e) => (match tsize P e, tzero P e with
        | some sz, some z => (match getE E i with
          | .vect T ty xs => (match Nat.beq sz ty.size with
            | true => (match Nat.beq s sz with
              | true => (match Nat.beq z.cells.size sz with
                | true => (match cellsO (cst z) with
                  | some cs => dec1 ty cs fun d => fEE (setE E i (.vect T ty (repF xs o n fun u => List.replicate (n u) (d u)))) fun E => K (.tup []) env E
                  | none => False)
                | false => False)
              | false => False)
            | false => False)
          | _ => False)
        | _, _ => False)
      | _ => False)
    | _, _ => False)
  | _ => False

/-- A call: what follows of it is told by whoever knows the function. -/
structure CallH (f : FuncId) (args : List AV) (env : Env) (E : List Chunk) (K : AV → Env → List Chunk → Prop) (sem : Prop) : Prop where
  h : sem

def notIn (n : Int) : List Int → Bool
  | [] => true | k :: r => (match decEq k n with | isTrue _ => false | isFalse _ => notIn n r)
/-- Into a known map, by a new key. -/
def putM (t : Nat) (k : IntKind) (n : Int) (m x : AV) (env : Env) (E : List Chunk) (K : AV → Env → List Chunk → Prop) : Prop :=
  match m with
  | .mp i => (match tund P t, getE E i with
    | some (.map kt _), .smp k' ks vs => (match tund P kt, decEq k k', notIn n ks with
      | some (.int _), isTrue _, true => fEE (setE E i (.smp k' (ks ++ [n]) (vs ++ [x]))) fun E => K .skip env E
      | _, _, _ => False)
    | _, _ => False)
  | _ => False
/-- The operations that turn the world. -/
def eV (op : Op) (env : Env) (E : List Chunk) (K : AV → Env → List Chunk → Prop) : Prop :=
  match op with
  | .alloc e => (match tzero P e with
    | some z => (match cellsO (cst z) with
      | some cs => fL cs fun cs => fN (lenE E) fun n => fEE (addE E (.cells e cs)) fun E => K (.ptr n 0) env E
      | none => False)
    | none => False)
  | .box e x => (match cellsO (ev env x) with
    | some cs => fN (lenE E) fun n => fEE (addE E (.cells e cs)) fun E => K (.ptr n 0) env E
    | none => False)
  | .store t x v => (match cellsO (ev env v) with
    | some cs => (match tsize P t with
      | some sz => (match Nat.beq cs.length sz, okL cs with
        | true, true => (match ev env x with
          | .ptr i g => (match getE E i with
            | .cells T ds => (match putX g ds cs with | some ds => fL ds fun ds => fEE (setE E i (.cells T ds)) fun E => K .skip env E | none => False)
            | _ => False)
          | .eptr i s j g => frzAll 3 env E (.eptr i s j g :: cs) fun env E l => (match l with
            | .eptr i s j g :: cs => (match getE E i with
              | .vect T ty xs => (match Nat.beq ty.size s with
                | true => (match putX g (enc ty (fun u => (xs u).getD (j u) ty.dflt) []) cs with
                  | some ds => dec1 ty ds fun y => fEE (setE E i (.vect T ty fun u => (xs u).set (j u) (y u))) fun E => K .skip env E
                  | none => False)
                | false => False)
              | .row T ty xs => (match Nat.beq ty.size s with
                | true => (match putX g (enc ty (fun u => (xs u).getD (j u) ty.dflt) []) cs with
                  | some ds => dec1 ty ds fun y => fEE (setE E i (.row T ty fun u => (xs u).set (j u) (y u))) fun E => K .skip env E
                  | none => False)
                | false => False)
              | _ => False)
            | _ => False)
          | .hp i f => (match cs, getE E i with
            | [c], .heap h => StH i c h f fun h' => fEE (setE E i (.heap fun _ => h')) fun E => K .skip env E
            | _, _ => False)
          | _ => False)
        | _, _ => False)
      | none => False)
    | none => False)
  | .buildSlice t len parts => (match tund P t with
    | some (.slice e) => (match tsize P e, tzero P e, partsV env parts.toList with
      | some sz, some z, some ps => (match Nat.ble len 1000, Nat.ble sz 1000 with
        | true, true => (match cellsO (cst z) with
          | some zc => (match Nat.beq zc.length sz, fillV (fun i => some (i * sz, sz)) ((List.replicate len zc).flatten) ps with
            | true, some cs => fL cs fun cs => (match tyOf P 6 e with
              | some ty => (match Nat.beq ty.size sz with
                | true => frzAll 8 env E cs fun env E cs => decN ty len cs fun xs => fN (lenE E) fun n => fEE (addE E (.vect e ty xs)) fun E => K (.vec n sz (fun _ => 0) (fun _ => len)) env E
                | false => False)
              | none => fN (lenE E) fun n => fEE (addE E (.cells e cs)) fun E => K (.vec n sz (fun _ => 0) (fun _ => len)) env E)
            | _, _ => False)
          | none => False)
        | _, _ => False)
      | _, _, _ => False)
    | _ => False)
  | .makeMap t none => (match tund P t with
    | some (.map kt _) => (match tund P kt with
      | some (.int k) => fN (lenE E) fun n => fEE (addE E (.smp k [] [])) fun E => K (.mp n) env E
      | _ => False)
    | _ => False)
  | .insert t m (.const (.int k n)) x => putM P t k n (ev env m) (ev env x) env E K
  | .mapUpdate t m k x => (match ev env m, ev env k with
    | .hm i f, .int .i64 n => (match getE E i with
      | .heap h => MuH P t i n (ev env x) h f fun h' => fEE (setE E i (.heap fun _ => h')) fun E => K .skip env E
      | _ => False)
    | _, _ => False)
  | .range t x => rangeV P t (ev env x) env E K
  | .next x false => nextV (ev env x) env E K
  | .entry x => entryV (ev env x) env E K
  | .makeSlice t l c => (match ev env l, ev env c with
    | .int .i64 l, .int .i64 c => (match tund P t with
      | some (.slice e) => (match tyOf P 6 e, tsize P e, tbytes P e, tzero P e with
        | some ty, some sz, some by_, some z => (match Nat.beq ty.size sz with
          | true => (match cellsO (cst z) with
            | some cs => dec1 ty cs fun d => Ob (fun u => 0 ≤ l u ∧ l u ≤ c u ∧ c u ≤ 281474976710656 ∧ by_ * c u ≤ 281474976710656) ∧ fN (lenE E) fun n => fEE (addE E (.vect e ty fun u => List.replicate (l u).toNat (d u))) fun E => K (.vec n sz (fun _ => 0) (fun u => (l u).toNat)) env E
            | none => False)
          | false => False)
        | _, _, _, _ => False)
      | _ => False)
    | _, _ => False)
  | .convert src dst x => (match tund P dst, ev env x with
    | some (.slice e), .str s => (match tund P e with
      | some (.int .u8) => Ob (fun u => (s u).length ≤ 140737488355328) ∧ K (.lst (.int .u8) fun u => (s u).map fun b => (b.toNat : Int)) env E
      | _ => False)
    | _, _ => False)
  | .call { callee := .builtin b, args, argTypes } => eBuiltin P b argTypes.toList (evL env args.toList) env E K
  | _ => False
end
end Go.Proofs.Ytafcenlbllmahaa.Fw
set_option linter.unusedVariables false
set_option linter.unusedSimpArgs false
namespace Go.Proofs.Ytafcenlbllmahaa.Fw
open Go Go.RowKit

/-- What a run has put out is the same, and it draws on. -/
structure Outs (a b : World) : Prop where
  o : b.output = a.output
  d : a.drawn ≤ b.drawn
theorem Outs.trans {a b c : World} (h : Outs b c) (h' : Outs a b) : Outs a c := ⟨h.o.trans h'.o, Nat.le_trans h'.d h.d⟩
theorem Outs.refl (a : World) : Outs a a := ⟨rfl, Nat.le_refl _⟩
/-- Where a call begins. -/
structure Base where
  g : Gh
  E : List Chunk
  w : World
def Base.owns (B : Base) (b : Nat) : Prop := ∃ i, (getE B.E i).own B.g i b

theorem fix_lt {E : List Chunk} {i : Nat} (h : fixB (getE E i) = true) : i < lenE E := getE_lt (fun e => by rw [e] at h; cases h)
structure Ext (B : Base) (g : Gh) (E : List Chunk) (w : World) : Prop where
  os : w.os = B.w.os
  tape : w.tape = B.w.tape
  output : Outs B.w w
  size : B.w.heap.size ≤ w.heap.size
  keep : ∀ b, b < B.w.heap.size → ¬ B.owns b → w.heap[b]? = B.w.heap[b]?
  phi : ∀ b o, B.g.Φ b = some o → g.Φ b = some o
  phin : ∀ b o, g.Φ b = some o → B.g.Φ b = some o ∨ B.w.heap.size ≤ b ∨ B.owns b
  own : ∀ i b, (getE E i).own g i b → B.w.heap.size ≤ b ∨ B.owns b
  n : lenE B.E ≤ g.n
  ids : ∀ i, fixB (getE B.E i) = true → g.B i = B.g.B i ∧ g.V i = B.g.V i ∧ g.L i = B.g.L i
  kk : g.k = B.g.k
  kin : ∀ i T' t xs, fixB (getE B.E i) = true → getE E i = .vect T' t xs → False
  idw : ∀ i k, fixB (getE B.E i) = true → k < B.g.M i → g.W i k = B.g.W i k
  idm : ∀ i, fixB (getE B.E i) = true → B.g.M i ≤ g.M i

structure Inv (B : Base) (g : Gh) (env : Env) (E : List Chunk) (tmps : Array Value) (w : World) : Prop where
  er : ER g env tmps
  sim : Sim g E w
  ext : Ext B g E w

/-- The world, one block turned. -/
structure WSet (w w' : World) (b : Nat) (o : Obj) : Prop where
  os : w'.os = w.os
  tape : w'.tape = w.tape
  output : Outs w w'
  size : w'.heap.size = w.heap.size
  at_ : w'.heap[b]? = some o
  else_ : ∀ k, k ≠ b → w'.heap[k]? = w.heap[k]?
/-- The world, one block new. -/
structure WNew (w w' : World) (o : Obj) : Prop where
  os : w'.os = w.os
  tape : w'.tape = w.tape
  output : Outs w w'
  size : w'.heap.size = w.heap.size + 1
  at_ : w'.heap[w.heap.size]? = some o
  else_ : ∀ k, k < w.heap.size → w'.heap[k]? = w.heap[k]?
/-- The world, nothing turned but what is drawn. -/
structure WSame (w w' : World) : Prop where
  os : w'.os = w.os
  tape : w'.tape = w.tape
  output : Outs w w'
  heap : w'.heap = w.heap
theorem WSame.refl (w : World) : WSame w w := ⟨rfl, rfl, ⟨rfl, Nat.le_refl _⟩, rfl⟩
theorem WNew.push (w : World) (o : Obj) : WNew w { w with heap := w.heap.push o } o :=
  ⟨rfl, rfl, ⟨rfl, Nat.le_refl _⟩, by simp, by simp, fun k hk => by show (w.heap.push o)[k]? = _; rw [Array.getElem?_push, if_neg (by omega)]⟩

theorem lt_heap {w : World} {b : Nat} {o : Obj} (h : w.heap[b]? = some o) : b < w.heap.size := (Array.getElem?_eq_some_iff.1 h).1
theorem sat_lt {g : Gh} {i : Nat} {w : World} {c : Chunk} {b : Nat} (h : c.sat g i w) (hb : c.own g i b) : b < w.heap.size := by
  cases c with
  | none => cases hb
  | cells T cs => obtain ⟨vs, h1, _⟩ := h; cases hb; exact lt_heap h1
  | vect T t xs =>
    obtain ⟨_, _, h3⟩ := h
    cases hV : g.V i with
    | none => simp [Chunk.own, hV] at hb
    | some cap =>
      obtain ⟨vs, h4, _⟩ := h3 cap hV
      simp [Chunk.own, hV] at hb
      subst hb
      exact lt_heap h4
  | row T t xs =>
    obtain ⟨_, _, h3⟩ := h
    cases hV : g.V i with
    | none => simp [Chunk.own, hV] at hb
    | some cap =>
      obtain ⟨vs, h4, _⟩ := h3 cap hV
      simp [Chunk.own, hV] at hb
      subst hb
      exact lt_heap h4
  | count k => cases hb
  | smp k ks us => obtain ⟨es, cl, h1, _⟩ := h; cases hb; exact lt_heap h1
  | heap hp =>
    obtain ⟨k, hk, rfl⟩ := hb
    obtain ⟨ob, h1, _⟩ := h.2.2 k hk
    exact lt_heap h1
  | mit x a b l => obtain ⟨r, _, h1⟩ := h; cases hb; exact lt_heap h1
/-- Has it one block at most? -/
def oneB : Chunk → Bool
  | .heap _ => false | _ => true
theorem own_one {g : Gh} {i : Nat} {c : Chunk} {b b' : Nat} (h : oneB c = true) (hb : c.own g i b) (hb' : c.own g i b') : b = b' := by
  cases c with
  | none => cases hb
  | cells T cs => exact Eq.trans (Eq.symm hb) hb'
  | vect T t xs => exact hb.2.symm.trans hb'.2
  | row T t xs => exact hb.2.symm.trans hb'.2
  | count k => cases hb
  | smp k ks us => exact Eq.trans (Eq.symm hb) hb'
  | heap hp => cases h
  | mit x a b l => exact Eq.trans (Eq.symm hb) hb'

section
variable {B : Base} {g : Gh} {env : Env} {E : List Chunk} {tmps : Array Value} {w w' : World}

theorem Sim.same (h : Sim g E w) (hw : w'.heap = w.heap) : Sim g E w' :=
  ⟨h.len, fun b o hb => by rw [hw]; exact h.phi b o hb, fun i => Chunk.sat_frame (fun _ _ h => h) rfl rfl rfl rfl rfl rfl (fun b _ => by rw [hw]) (h.sat i), h.dis, h.dphi⟩
theorem Ext.same (h : Ext B g E w) (hw : WSame w w') : Ext B g E w' :=
  ⟨hw.os.trans h.os, hw.tape.trans h.tape, hw.output.trans h.output, by rw [hw.heap]; exact h.size, fun b h1 h2 => by rw [hw.heap]; exact h.keep b h1 h2, h.phi, h.phin, h.own, h.n, h.ids, h.kk, h.kin, h.idw, h.idm⟩
theorem Inv.same (h : Inv B g env E tmps w) (hw : WSame w w') : Inv B g env E tmps w' := ⟨h.er, h.sim.same hw.heap, h.ext.same hw⟩

theorem ER.put (h : ER g env tmps) {d : Nat} {v : AV} {u : Value} (hr : R g v u) (hd : d < tmps.size) : ER g ((d, v) :: env) (tmps.setIfInBounds d u) := by
  intro t
  simp only [look]
  split
  · rename_i hb
    have : d = t := Nat.eq_of_beq_eq_true hb
    subst this
    simpa [hd] using hr
  · rename_i hb
    have hne : d ≠ t := fun e => by subst e; simp at hb
    have := h t
    rw [Array.getD_eq_getD_getElem?] at this ⊢
    rwa [Array.getElem?_setIfInBounds_ne hne]
theorem Inv.put (h : Inv B g env E tmps w) {d : Nat} {v : AV} {u : Value} (hr : R g v u) (hd : d < tmps.size) : Inv B g ((d, v) :: env) E (tmps.setIfInBounds d u) w := ⟨h.er.put hr hd, h.sim, h.ext⟩
theorem ER.mono {g' : Gh} (h : ER g env tmps) (hg : g.le g') : ER g' env tmps := fun t => (h t).mono hg

/-- A new chunk. -/
def Gh.add (g : Gh) (b : Nat) (v : Option Nat) (l : Nat) : Gh :=
  { n := g.n + 1, Φ := g.Φ, B := fun i => if i = g.n then b else g.B i, V := fun i => if i = g.n then v else g.V i, L := fun i => if i = g.n then l else g.L i, k := g.k, W := g.W, M := g.M }
theorem Gh.le_add (g : Gh) (b : Nat) (v : Option Nat) (l : Nat) : g.le (g.add b v l) :=
  ⟨Nat.le_succ _, fun _ _ h => h, fun i hi => by simp [Gh.add, Nat.ne_of_lt hi], fun i hi => by simp [Gh.add, Nat.ne_of_lt hi], fun i hi => by simp [Gh.add, Nat.ne_of_lt hi], rfl, fun _ _ _ _ => rfl, fun _ _ => Nat.le_refl _⟩

theorem Inv.new (h : Inv B g env E tmps w) {c : Chunk} {b : Nat} {v : Option Nat} {l : Nat} (hos : w'.os = w.os) (htape : w'.tape = w.tape) (hout : Outs w w') (hsz : w.heap.size ≤ w'.heap.size)
    (helse : ∀ k, k < w.heap.size → w'.heap[k]? = w.heap[k]?) (hc : c.sat (g.add b v l) g.n w') (hb : ∀ b', c.own (g.add b v l) g.n b' → w.heap.size ≤ b') :
    Inv B (g.add b v l) env (addE E c) tmps w' := by
  have hle := g.le_add b v l
  have hlen := h.sim.len
  have old : ∀ i, i < g.n → (getE (addE E c) i) = getE E i := fun i hi => by rw [getE_add, if_neg (by omega)]
  have new : getE (addE E c) g.n = c := by rw [getE_add, if_pos (by omega)]
  have out : ∀ i, g.n < i → getE (addE E c) i = .none := fun i hi => by rw [getE_add, if_neg (by omega)]; exact getE_ge _ _ (by omega)
  have blkold : ∀ i, i < g.n → ∀ (d : Chunk) b', d.own (g.add b v l) i b' = d.own g i b' := fun i hi d b' => Chunk.own_eq (hle.B i hi) (hle.V i hi) rfl rfl
  have blklt : ∀ i b', i < g.n → (getE E i).own g i b' → b' < w.heap.size := fun i b' _ hb' => sat_lt (h.sim.sat i) hb'
  refine ⟨h.er.mono hle, ⟨by rw [lenE_add]; simp [Gh.add, hlen], fun b' o hb' => ?_, fun i => ?_, fun i j b' hi hj => ?_, fun i b' hi => ?_⟩, ⟨hos.trans h.ext.os, htape.trans h.ext.tape, hout.trans h.ext.output, Nat.le_trans h.ext.size hsz, fun b' h1 h2 => ?_, h.ext.phi, h.ext.phin, fun i b' hi => ?_, Nat.le_trans h.ext.n (Nat.le_succ _), fun i hi => ?_, h.ext.kk, fun i T' t xs hi hv => ?_, h.ext.idw, h.ext.idm⟩⟩
  · have := h.sim.phi b' o hb'
    rw [helse b' (lt_heap this)]; exact this
  · rcases Nat.lt_trichotomy i g.n with hi | hi | hi
    · rw [old i hi]
      exact Chunk.sat_frame (fun _ _ h => h.mono hle) (hle.B i hi) (hle.V i hi) (hle.L i hi) hle.k rfl rfl (fun b' hb' => helse b' (blklt i b' hi hb')) (h.sim.sat i)
    · subst hi; rw [new]; exact hc
    · rw [out i hi]; trivial
  · have key : ∀ i b', (getE (addE E c) i).own (g.add b v l) i b' → (i < g.n ∧ (getE E i).own g i b' ∧ b' < w.heap.size) ∨ (i = g.n ∧ w.heap.size ≤ b') := by
      intro i b' hi
      rcases Nat.lt_trichotomy i g.n with h' | h' | h'
      · rw [old i h', blkold i h'] at hi; exact .inl ⟨h', hi, blklt i b' h' hi⟩
      · subst h'; rw [new] at hi; exact .inr ⟨rfl, hb b' hi⟩
      · rw [out i h'] at hi; cases hi
    rcases key i b' hi with ⟨h1, h2, h3⟩ | ⟨h1, h2⟩ <;> rcases key j b' hj with ⟨h4, h5, h6⟩ | ⟨h4, h5⟩
    · exact h.sim.dis i j b' h2 h5
    · omega
    · omega
    · omega
  · show g.Φ b' = Option.none
    rcases Nat.lt_trichotomy i g.n with h' | h' | h'
    · rw [old i h', blkold i h'] at hi; exact h.sim.dphi i b' hi
    · subst h'
      rw [new] at hi
      have := hb b' hi
      cases hp : g.Φ b' with
      | none => rfl
      | some o => have := lt_heap (h.sim.phi b' o hp); omega
    · rw [out i h'] at hi; cases hi
  · rw [helse b' (Nat.lt_of_lt_of_le h1 h.ext.size)]; exact h.ext.keep b' h1 h2
  · rcases Nat.lt_trichotomy i g.n with h' | h' | h'
    · rw [old i h', blkold i h'] at hi; exact h.ext.own i b' hi
    · subst h'; rw [new] at hi; exact .inl (Nat.le_trans h.ext.size (hb b' hi))
    · rw [out i h'] at hi; cases hi
  · have hlt : i < g.n := Nat.lt_of_lt_of_le (fix_lt hi) h.ext.n
    rw [hle.B i hlt, hle.V i hlt, hle.L i hlt]; exact h.ext.ids i hi
  · have hlt : i < g.n := Nat.lt_of_lt_of_le (fix_lt hi) h.ext.n
    rw [old i hlt] at hv; exact h.ext.kin i T' t xs hi hv

/-- A chunk's block written. -/
theorem Inv.setG (h : Inv B g env E tmps w) {i : Nat} {b : Nat} {o : Obj} {c : Chunk} (hb : (getE E i).own g i b) (hw : WSet w w' b o) (hc : c.sat g i w') (hcb : ∀ b', c.own g i b' → (getE E i).own g i b') (hk : ∀ T t xs, c = .vect T t xs → ∃ T' t' xs', getE E i = .vect T' t' xs') : Inv B g env (setE E i c) tmps w' := by
  have hi : i < lenE E := own_lt hb
  have hblk : ∀ j b', (getE (setE E i c) j).own g j b' → (getE E j).own g j b' := by
    intro j b' hj
    rw [getE_set] at hj
    split at hj
    · rename_i hij; rw [← hij.1] at hj ⊢; exact hcb b' hj
    · exact hj
  refine ⟨h.er, ⟨by rw [lenE_set]; exact h.sim.len, fun b' o' hb' => ?_, fun j => ?_, fun j k b' hj hk => ?_, fun j b' hj => ?_⟩, ⟨hw.os.trans h.ext.os, hw.tape.trans h.ext.tape, hw.output.trans h.ext.output, by rw [hw.size]; exact h.ext.size, fun b' h1 h2 => ?_, h.ext.phi, h.ext.phin, fun j b' hj => ?_, h.ext.n, h.ext.ids, h.ext.kk, fun j T' t xs hj hv => ?_, h.ext.idw, h.ext.idm⟩⟩
  · have hne : b' ≠ b := fun e => by subst e; rw [h.sim.dphi i b' hb] at hb'; cases hb'
    rw [hw.else_ b' hne]; exact h.sim.phi b' o' hb'
  · rw [getE_set]
    split
    · rename_i hij; rw [← hij.1]; exact hc
    · rename_i hij
      refine Chunk.sat_frame (fun _ _ h => h) rfl rfl rfl rfl rfl rfl (fun b' hb' => ?_) (h.sim.sat j)
      refine hw.else_ b' (fun e => ?_)
      subst e
      exact hij ⟨h.sim.dis i j b' hb hb', hi⟩
  · exact h.sim.dis j k b' (hblk _ _ hj) (hblk _ _ hk)
  · exact h.sim.dphi j b' (hblk _ _ hj)
  · have hne : b' ≠ b := fun e => by
      subst e
      rcases h.ext.own i b' hb with h3 | h3
      · omega
      · exact h2 h3
    rw [hw.else_ b' hne]; exact h.ext.keep b' h1 h2
  · exact h.ext.own j b' (hblk _ _ hj)
  · rw [getE_set] at hv
    split at hv
    · rename_i hij
      obtain ⟨T2, t2, xs2, h2⟩ := hk _ _ _ hv
      rw [hij.1] at h2
      exact h.ext.kin j _ _ _ hj h2
    · exact h.ext.kin j _ _ _ hj hv

theorem Inv.set (h : Inv B g env E tmps w) {i : Nat} {b : Nat} {o : Obj} {c : Chunk} (hb : (getE E i).own g i b) (hw : WSet w w' b o) (hc : c.sat g i w') (hcb : c.own g i b) (hk : ∀ T t xs, c = .vect T t xs → ∃ T' t' xs', getE E i = .vect T' t' xs') (h1 : oneB c = true := by rfl) : Inv B g env (setE E i c) tmps w' :=
  h.setG hb hw hc (fun b' hb' => by rw [← own_one h1 hcb hb']; exact hb) hk
theorem HO.sat_like {g : Gh} {i : Nat} {o o' : HO} {ob : Obj} (hl : o'.like o) (h : o.sat g i ob) : o'.sat g i ob := by
  cases o <;> cases o' <;> simp only [HO.like] at hl
  · obtain ⟨rfl, rfl, h1⟩ := hl
    obtain ⟨vs, rfl, h2, h3⟩ := h
    exact ⟨vs, rfl, h2, fun j u hu => by rw [h1 j (by have := (Array.getElem?_eq_some_iff.1 hu).1; omega)]; exact h3 j u hu⟩
  · obtain ⟨rfl, rfl⟩ := hl; exact h
/-- A heap's block written. -/
theorem Inv.hset (h : Inv B g env E tmps w) {i k : Nat} {ob : Obj} {o : HO} {hp : Unit → Hp} {h' : Hp} (hE : getE E i = .heap hp) (hk : k < g.M i) (hw : WSet w w' (g.W i k) ob) (ho : o.sat g i ob) (hl : h'.like ((hp ()).set k o)) :
    Inv B g env (setE E i (.heap fun _ => h')) tmps w' := by
  have hs := h.sim.sat i
  rw [hE] at hs
  obtain ⟨h1, h2, h3⟩ := hs
  have hown : ∀ k, k < g.M i → (getE E i).own g i (g.W i k) := fun k hk => by rw [hE]; exact ⟨k, hk, rfl⟩
  refine h.setG (hown k hk) hw ⟨h1.trans hl.1.symm, h2, fun j hj => ?_⟩ (fun b' hb' => by rw [hE]; exact hb') (fun T t xs hc => by cases hc)
  have hlj := hl.2 j (by rw [hl.1]; show j < (hp ()).m; omega)
  by_cases hjk : j = k
  · subst hjk
    refine ⟨ob, hw.at_, HO.sat_like hlj ?_⟩
    simpa [Hp.set] using ho
  · obtain ⟨ob', h4, h5⟩ := h3 j hj
    refine ⟨ob', by rw [hw.else_ _ (fun e => hjk (h2 _ _ hj hk e))]; exact h4, HO.sat_like hlj ?_⟩
    simpa [Hp.set, hjk] using h5

/-- References turned, the ghost turned at chunk i alone: what was chunk i is c now. -/
theorem Inv.turn {g' : Gh} (h : Inv B g env E tmps w) (f : AV → AV) {i : Nat} {c : Chunk} (hiv : ∃ T t xs, getE E i = .vect T t xs) (hn : g'.n = g.n) (hgk : g'.k = g.k) (hW : g'.W = g.W) (hM : g'.M = g.M) (hΦ : ∀ b o, g.Φ b = some o → g'.Φ b = some o)
    (hf : ∀ v u, isRef v = true → R g v u → R g' (f v) u) (hi : i < lenE E) (hB : ∀ j, j ≠ i → g'.B j = g.B j ∧ g'.V j = g.V j ∧ g'.L j = g.L j)
    (hos : w'.os = w.os) (htape : w'.tape = w.tape) (hout : Outs w w') (hsz : w.heap.size ≤ w'.heap.size)
    (helse : ∀ k, k < w.heap.size → (∀ b, (getE E i).own g i b → k ≠ b) → w'.heap[k]? = w.heap[k]?)
    (hc : (mapC f c).sat g' i w') (hcb : ∀ b, c.own g' i b → w.heap.size ≤ b ∨ (getE E i).own g i b)
    (hphi : ∀ b o, g'.Φ b = some o → g.Φ b = some o ∨ ((getE E i).own g i b ∧ w'.heap[b]? = some o ∧ ¬ c.own g' i b)) :
    Inv B g' (mapEnv f env) (mapE f (setE E i c)) tmps w' := by
  have hmb : ∀ (g : Gh) (j : Nat) (c : Chunk) b, (mapC f c).own g j b = c.own g j b := fun g j c b => by cases c <;> rfl
  have hget : ∀ j, getE (mapE f (setE E i c)) j = if i = j then mapC f c else mapC f (getE E j) := by
    intro j
    rw [getE_mapE, getE_set]
    by_cases hij : i = j
    · subst hij; simp [hi]
    · simp [hij]
  have hblk : ∀ j b, (getE (mapE f (setE E i c)) j).own g' j b = if i = j then c.own g' i b else (getE E j).own g j b := by
    intro j b
    rw [hget]
    by_cases hij : i = j
    · subst hij; simp [hmb]
    · have := hB j (Ne.symm hij)
      simp [hij, hmb, Chunk.own_eq (b := b) this.1 this.2.1 (congrFun hW j) (congrFun hM j)]
  have hother : ∀ j b, i ≠ j → (getE E j).own g j b → ∀ b', (getE E i).own g i b' → b ≠ b' := by
    intro j b hij hj b' hb' e
    subst e
    exact hij (h.sim.dis i j b hb' hj)
  refine ⟨fun t => ?_, ⟨by rw [lenE_mapE, lenE_set, hn]; exact h.sim.len, fun b o hb => ?_, fun j => ?_, fun j k b hj hk => ?_, fun j b hj => ?_⟩, ⟨hos.trans h.ext.os, htape.trans h.ext.tape, hout.trans h.ext.output, Nat.le_trans h.ext.size hsz, fun b h1 h2 => ?_, fun b o hb => hΦ b o (h.ext.phi b o hb), fun b o hb => ?_, fun j b hj => ?_, by rw [hn]; exact h.ext.n, fun j hj => ?_, hgk.trans h.ext.kk, fun j T' t xs hj hv => ?_, fun j k hj hk => by rw [hW]; exact h.ext.idw j k hj hk, fun j hj => by rw [hM]; exact h.ext.idm j hj⟩⟩
  · rw [look_mapEnv]; exact (h.er t).map f hΦ hf
  · rcases hphi b o hb with hb | ⟨_, hb, _⟩
    · have hs := h.sim.phi b o hb
      rw [helse b (lt_heap hs) (fun b' hb' e => by subst e; rw [h.sim.dphi i b hb'] at hb; cases hb)]; exact hs
    · exact hb
  · rw [hget]
    by_cases hij : i = j
    · subst hij; simpa using hc
    · simp only [hij, if_false]
      have hBj := hB j (Ne.symm hij)
      have hs := h.sim.sat j
      have hfr : ∀ b, (getE E j).own g j b → w'.heap[b]? = w.heap[b]? := fun b hb => helse b (sat_lt hs hb) (fun b' hb' => hother j b hij hb b' hb')
      cases hcj : getE E j with
      | none => trivial
      | cells T cs =>
        rw [hcj] at hs hfr
        obtain ⟨vs, h1, h2⟩ := hs
        exact ⟨vs, by rw [hBj.1, hfr _ rfl]; exact h1, h2.map f hΦ hf⟩
      | vect T t xs =>
        rw [hcj] at hs hfr
        obtain ⟨h1, h2, h3⟩ := hs
        refine ⟨by rw [hBj.2.2]; exact h1, by rw [hBj.2.1]; exact h2, fun cap hcap => ?_⟩
        rw [hBj.2.1] at hcap
        obtain ⟨vs, h4, h5, h6, h7⟩ := h3 cap hcap
        exact ⟨vs, by rw [hBj.1, hfr _ (by simp [Chunk.own, hcap])]; exact h4, h5, h6, fun k x hx => (h7 k x hx).mono_data hΦ⟩
      | row T t xs =>
        rw [hcj] at hs hfr
        obtain ⟨h1, h2, h3⟩ := hs
        refine ⟨by rw [hBj.2.2]; exact h1, by rw [hBj.2.1]; exact h2, fun cap hcap => ?_⟩
        rw [hBj.2.1] at hcap
        obtain ⟨vs, h4, h5, h6, h7⟩ := h3 cap hcap
        exact ⟨vs, by rw [hBj.1, hfr _ (by simp [Chunk.own, hcap])]; exact h4, h5, h6, fun k x hx => (h7 k x hx).mono_data hΦ⟩
      | count k => rw [hcj] at hs; exact hs.trans hgk.symm
      | smp k ks us =>
        rw [hcj] at hs hfr
        obtain ⟨es, cl, h1, h2, h3⟩ := hs
        exact ⟨es, cl, by rw [hBj.1, hfr _ rfl]; exact h1, h2, h3.map f hΦ hf⟩
      | heap hp =>
        rw [hcj] at hs hfr
        obtain ⟨h1, h2, h3⟩ := hs
        refine ⟨by rw [hM]; exact h1, by rw [hM, hW]; exact h2, fun k hk => ?_⟩
        rw [hM] at hk
        obtain ⟨ob, h4, h5⟩ := h3 k hk
        refine ⟨ob, by rw [hW, hfr _ ⟨k, hk, rfl⟩]; exact h4, HO.sat_turn (HV.av_same (fun _ _ _ h => h.mono hΦ) (fun h => by rw [hn]; exact h) (fun _ k _ => by rw [hW]) (fun _ => by rw [hM]; exact Nat.le_refl _)) h5⟩
      | mit x a b l =>
        rw [hcj] at hs hfr
        obtain ⟨r, h1, h2⟩ := hs
        exact ⟨r, h1.map f hΦ hf, by rw [hBj.1, hfr _ rfl]; exact h2⟩
  · rw [hblk] at hj hk
    by_cases hij : i = j <;> by_cases hik : i = k
    · exact hij.symm.trans hik
    · subst hij
      simp only [if_true, hik, if_false] at hj hk
      rcases hcb b hj with h3 | h3
      · have := sat_lt (h.sim.sat k) hk; omega
      · exact (hik (h.sim.dis i k b h3 hk)).elim
    · subst hik
      simp only [if_true, hij, if_false] at hj hk
      rcases hcb b hk with h3 | h3
      · have := sat_lt (h.sim.sat j) hj; omega
      · exact (hij (h.sim.dis i j b h3 hj)).elim
    · simp only [hij, hik, if_false] at hj hk; exact h.sim.dis j k b hj hk
  · rw [hblk] at hj
    cases hp : g'.Φ b with
    | none => rfl
    | some o =>
      exfalso
      by_cases hij : i = j
      · subst hij
        simp only [if_true] at hj
        rcases hphi b o hp with h3 | ⟨h3, _, h4⟩
        · rcases hcb b hj with h5 | h5
          · have := lt_heap (h.sim.phi b o h3); omega
          · rw [h.sim.dphi i b h5] at h3; cases h3
        · exact h4 hj
      · simp only [hij, if_false] at hj
        rcases hphi b o hp with h3 | ⟨h3, _, _⟩
        · rw [h.sim.dphi j b hj] at h3; cases h3
        · exact hij (h.sim.dis i j b h3 hj)
  · have hne : ∀ b', (getE E i).own g i b' → b ≠ b' := fun b' hb' e => by
      subst e
      rcases h.ext.own i b hb' with h3 | h3
      · omega
      · exact h2 h3
    rw [helse b (Nat.lt_of_lt_of_le h1 h.ext.size) hne]; exact h.ext.keep b h1 h2
  · rcases hphi b o hb with h3 | ⟨h3, _, _⟩
    · exact h.ext.phin b o h3
    · exact .inr (h.ext.own i b h3)
  · rw [hblk] at hj
    by_cases hij : i = j
    · subst hij
      simp only [if_true] at hj
      rcases hcb b hj with h3 | h3
      · exact .inl (Nat.le_trans h.ext.size h3)
      · exact h.ext.own i b h3
    · simp only [hij, if_false] at hj; exact h.ext.own j b hj
  · obtain ⟨T1, t1, xs1, hv1⟩ := hiv
    have hij : j ≠ i := fun e => by subst e; exact h.ext.kin j _ _ _ hj hv1
    rw [(hB j hij).1, (hB j hij).2.1, (hB j hij).2.2]; exact h.ext.ids j hj
  · obtain ⟨T1, t1, xs1, hv1⟩ := hiv
    rw [hget] at hv
    by_cases hij : i = j
    · subst hij; exact h.ext.kin i _ _ _ hj hv1
    · simp only [hij, if_false] at hv
      cases hcj : getE E j with
      | none => rw [hcj] at hv; cases hv
      | count _ => rw [hcj] at hv; cases hv
      | cells _ _ => rw [hcj] at hv; cases hv
      | smp _ _ _ => rw [hcj] at hv; cases hv
      | row _ _ _ => rw [hcj] at hv; cases hv
      | heap _ => rw [hcj] at hv; cases hv
      | mit _ _ _ _ => rw [hcj] at hv; cases hv
      | vect _ _ _ => exact h.ext.kin j _ _ _ hj hcj
end
end Go.Proofs.Ytafcenlbllmahaa.Fw
set_option linter.unusedVariables false
set_option linter.unusedSimpArgs false
namespace Go.Proofs.Ytafcenlbllmahaa.Fw
open Go Go.RowKit


/-- Cells that are data, one behind the other. -/
def Data (g : Gh) (t : Ty) (xs : List t.den) (us : List Value) : Prop :=
  us.length = xs.length * t.size ∧ ∀ (k : Nat) (x : t.den), xs[k]? = some x → RL g (enc t (fun _ => x) []) ((us.drop (k * t.size)).take t.size)
theorem drop_add (u us : List Value) (n : Nat) : (u ++ us).drop (u.length + n) = us.drop n := by
  rw [← List.drop_drop, List.drop_left]
theorem Data.nil (g : Gh) (t : Ty) : Data g t [] [] := ⟨by simp, fun k x h => by simp at h⟩
theorem Data.cons {g : Gh} {t : Ty} {x : t.den} {xs : List t.den} {u us : List Value} (h : RL g (enc t (fun _ => x) []) u) (hs : Data g t xs us) : Data g t (x :: xs) (u ++ us) := by
  have hl : u.length = t.size := by rw [← h.length, enc_length]
  refine ⟨by rw [List.length_append, hs.1, hl, List.length_cons, Nat.add_mul]; omega, fun k y hk => ?_⟩
  cases k with
  | zero =>
    simp at hk; subst hk
    rw [Nat.zero_mul, List.drop_zero, ← hl, List.take_left]; exact h
  | succ k =>
    have := hs.2 k y (by simpa using hk)
    rw [show (k + 1) * t.size = u.length + k * t.size by rw [Nat.add_mul, hl]; omega, drop_add]
    exact this
theorem Data.append {g : Gh} {t : Ty} : ∀ {xs ys : List t.den} {us vs : List Value}, Data g t xs us → Data g t ys vs → Data g t (xs ++ ys) (us ++ vs) := by
  intro xs ys us vs h h'
  refine ⟨by rw [List.length_append, h.1, h'.1, List.length_append, Nat.add_mul], fun k y hk => ?_⟩
  rcases Nat.lt_or_ge k xs.length with hlt | hge
  · rw [List.getElem?_append_left hlt] at hk
    have h1 : k * t.size + t.size ≤ us.length := by rw [h.1, ← Nat.succ_mul]; exact Nat.mul_le_mul_right _ hlt
    rw [List.drop_append_of_le_length (by omega), List.take_append_of_le_length (by rw [List.length_drop]; omega)]
    exact h.2 k y hk
  · rw [List.getElem?_append_right hge] at hk
    have := h'.2 _ y hk
    have e : k * t.size = us.length + (k - xs.length) * t.size := by rw [h.1, ← Nat.add_mul]; congr 1; omega
    rw [e, drop_add]
    exact this
theorem Data.take {g : Gh} {t : Ty} {xs : List t.den} {us : List Value} (h : Data g t xs us) (n : Nat) : Data g t (xs.take n) (us.take (n * t.size)) := by
  refine ⟨?_, fun k y hk => ?_⟩
  · rw [List.length_take, h.1, List.length_take]
    rcases Nat.le_total n xs.length with hn | hn
    · rw [Nat.min_eq_left hn, Nat.min_eq_left (Nat.mul_le_mul_right _ hn)]
    · rw [Nat.min_eq_right hn, Nat.min_eq_right (Nat.mul_le_mul_right _ hn)]
  · rw [List.getElem?_take] at hk
    split at hk
    · rename_i hlt
      have := h.2 k y hk
      have h1 : k * t.size + t.size ≤ n * t.size := by rw [← Nat.succ_mul]; exact Nat.mul_le_mul_right _ hlt
      rw [List.drop_take, List.take_take, Nat.min_eq_left (by omega)]
      exact this
    · cases hk
theorem Data.drop {g : Gh} {t : Ty} {xs : List t.den} {us : List Value} (h : Data g t xs us) (n : Nat) : Data g t (xs.drop n) (us.drop (n * t.size)) := by
  refine ⟨by rw [List.length_drop, h.1, List.length_drop, Nat.sub_mul], fun k y hk => ?_⟩
  rw [List.getElem?_drop] at hk
  have := h.2 (n + k) y hk
  rw [List.drop_drop, ← Nat.add_mul]; exact this
theorem Data.replicate {g : Gh} {t : Ty} {x : t.den} {u : List Value} (h : RL g (enc t (fun _ => x) []) u) : ∀ n, Data g t (List.replicate n x) (List.replicate n u).flatten
  | 0 => Data.nil g t
  | n + 1 => by simp only [List.replicate_succ, List.flatten_cons]; exact Data.cons h (Data.replicate h n)
theorem Data.mono {g g' : Gh} (hg : g.le g') {t : Ty} {xs : List t.den} {us : List Value} (h : Data g t xs us) : Data g' t xs us := ⟨h.1, fun k x hk => (h.2 k x hk).mono hg⟩
theorem Data.one {g : Gh} {t : Ty} : ∀ {us : List Value} {x : t.den}, RL g (enc t (fun _ => x) []) us → ∀ u ∈ us, u.oneCell' = true := by
  intro us x h u hu
  obtain ⟨i, hi, rfl⟩ := List.mem_iff_getElem.1 hu
  have hl : i < (enc t (fun _ => x) []).length := by rw [h.length]; exact hi
  have := h.at_ i _ _ (List.getElem?_eq_getElem hl) (List.getElem?_eq_getElem hi)
  have key : ∀ (t : Ty) (x : Unit → t.den) (j : Nat) (y : AV), (enc t x [])[j]? = some y → ∀ u, R g y u → u.oneCell' = true := by
    intro t
    induction t with
    | int k => intro x j y h u hr; cases j <;> simp [enc] at h; subst h; cases hr; rfl
    | bool => intro x j y h u hr; cases j <;> simp [enc] at h; subst h; cases hr; rfl
    | str => intro x j y h u hr; cases j <;> simp [enc] at h; subst h; cases hr; rfl
    | list e => intro x j y h u hr; cases j <;> simp [enc] at h; subst h; cases hr; rfl
    | pair a b iha ihb =>
      intro x j y h u hr
      simp only [enc] at h
      rw [enc_append, List.getElem?_append] at h
      split at h
      · exact iha _ _ _ h _ hr
      · exact ihb _ _ _ h _ hr
  exact key t _ i _ (List.getElem?_eq_getElem hl) _ this
theorem Data.all_one {g : Gh} {t : Ty} {xs : List t.den} {us : List Value} (h : Data g t xs us) : ∀ u ∈ us, u.oneCell' = true := by
  intro u hu
  obtain ⟨i, hi, rfl⟩ := List.mem_iff_getElem.1 hu
  have hp := Ty.size_pos t
  have hk : i / t.size < xs.length := by rw [Nat.div_lt_iff_lt_mul hp, ← h.1]; exact hi
  have hd := h.2 (i / t.size) _ (List.getElem?_eq_getElem hk)
  have hm : i % t.size < t.size := Nat.mod_lt _ hp
  have he := Nat.div_add_mod i t.size
  refine Data.one hd _ (List.mem_iff_getElem?.2 ⟨i % t.size, ?_⟩)
  rw [List.getElem?_take, if_pos hm, List.getElem?_drop, Nat.mul_comm, he, List.getElem?_eq_getElem hi]

/-- A chunk of data, as cells. -/
theorem sat_data {g : Gh} {i : Nat} {w : World} {T : TypeId} {t : Ty} {xs : Unit → List t.den} {cap : Nat} (h : (Chunk.vect T t xs).sat g i w) (hV : g.V i = some cap) :
    ∃ vs : Array Value, w.heap[g.B i]? = some (.cells vs T (0, 0)) ∧ vs.size = cap * t.size ∧ (xs ()).length ≤ cap ∧ (xs ()).length = g.L i ∧ Data g t (xs ()) (vs.toList.take ((xs ()).length * t.size)) := by
  obtain ⟨h1, h2, h3⟩ := h
  obtain ⟨vs, h4, h5, h6, h7⟩ := h3 cap hV
  refine ⟨vs, h4, h5, h6, h1, ?_, fun k x hk => ?_⟩
  · rw [List.length_take]
    have : (xs ()).length * t.size ≤ cap * t.size := Nat.mul_le_mul_right _ h6
    simp; omega
  · have hlt : k < (xs ()).length := (List.getElem?_eq_some_iff.1 hk).1
    have hl : k * t.size + t.size ≤ (xs ()).length * t.size := by rw [← Nat.succ_mul]; exact Nat.mul_le_mul_right _ hlt
    rw [List.drop_take, List.take_take, Nat.min_eq_left (by omega)]
    exact h7 k x hk
theorem sat_of_data {g : Gh} {i : Nat} {w : World} {T : TypeId} {t : Ty} {xs : Unit → List t.den} {cap : Nat} {vs : Array Value} (hV : g.V i = some cap) (hL : (xs ()).length = g.L i)
    (hb : w.heap[g.B i]? = some (.cells vs T (0, 0))) (hs : vs.size = cap * t.size) (hc : (xs ()).length ≤ cap) (hd : Data g t (xs ()) (vs.toList.take ((xs ()).length * t.size))) : (Chunk.vect T t xs).sat g i w := by
  show _ ∧ _ ∧ _
  refine ⟨hL, ?_, ?_⟩
  · intro h; rw [hV] at h; cases h
  intro cap' hc'
  rw [hV] at hc'; cases hc'
  refine ⟨vs, hb, hs, hc, fun k x hk => ?_⟩
  have hlt : k < (xs ()).length := (List.getElem?_eq_some_iff.1 hk).1
  have hl : k * t.size + t.size ≤ (xs ()).length * t.size := by rw [← Nat.succ_mul]; exact Nat.mul_le_mul_right _ hlt
  have := hd.2 k x hk
  rwa [List.drop_take, List.take_take, Nat.min_eq_left (by omega)] at this
end Go.Proofs.Ytafcenlbllmahaa.Fw
set_option linter.unusedVariables false
set_option linter.unusedSimpArgs false
namespace Go.Proofs.Ytafcenlbllmahaa.Fw
open Go Go.RowKit

/-- What an operation comes to. -/
def Done (P : Program) (o : Oper) (a : Act) (w : World) (B : Base) (K : AV → Env → List Chunk → Prop) : Prop :=
  ∃ n c r w' g' env' E', (execOp a.eval o).run P w = .ok n w' ∧ (n = .value c ∨ (n = .skip ∧ c = Go.undef)) ∧ Inv B g' env' E' a.tmps w' ∧ R g' r c ∧ K r env' E'

section
variable {P : Program} {B : Base} {g : Gh} {env : Env} {E : List Chunk} {tmps : Array Value} {w : World}

theorem setRow_set {b : Nat} {old : Array Value} {T : TypeId} (h : w.heap[b]? = some (.cells old T (0, 0))) (cs : Array Value) : WSet w (w.setRow b cs) b (.cells cs T (0, 0)) :=
  ⟨rfl, rfl, ⟨rfl, Nat.le_refl _⟩, by simp, setRow_heap w b old cs T _ h, fun k hk => setRow_other w b k cs hk⟩

/-- New cells. -/
theorem Inv.newCells (h : Inv B g env E tmps w) (T : TypeId) {cs : List AV} {vs : Array Value} (hr : RL g cs vs.toList) (v : Option Nat) (l : Nat) :
    Inv B (g.add w.heap.size v l) env (addE E (.cells T cs)) tmps { w with heap := w.heap.push (.cells vs T) } := by
  have hw := WNew.push w (.cells vs T)
  refine h.new (c := .cells T cs) hw.os hw.tape hw.output (by rw [hw.size]; omega) hw.else_ ⟨vs, ?_, hr.mono (g.le_add _ _ _)⟩ (fun b' hb' => ?_)
  · simp only [Gh.add, if_true]; exact hw.at_
  · simp [Chunk.own, Gh.add] at hb'; omega
theorem R_new (g : Gh) (E : List Chunk) (hl : lenE E = g.n) (b : Nat) (v : Option Nat) (l : Nat) : R (g.add b v l) (.ptr (lenE E) 0) (.pointer (some ⟨b, 0, none⟩)) := by
  have := R.ptr (g := g.add b v l) g.n 0 (by simp [Gh.add])
  simpa [Gh.add, hl] using this
/-- New data. -/
theorem Inv.newData (h : Inv B g env E tmps w) (T : TypeId) {t : Ty} {xs : Unit → List t.den} {vs : Array Value} {cap : Nat} (hs : vs.size = cap * t.size) (hc : (xs ()).length ≤ cap)
    (hd : Data g t (xs ()) (vs.toList.take ((xs ()).length * t.size))) {w' : World} (hw : WNew w w' (.cells vs T)) :
    Inv B (g.add w.heap.size (some cap) (xs ()).length) env (addE E (.vect T t xs)) tmps w' := by
  refine h.new (c := .vect T t xs) hw.os hw.tape hw.output (by rw [hw.size]; omega) hw.else_ (sat_of_data (cap := cap) (vs := vs) (by simp [Gh.add]) (by simp [Gh.add]) (by simp only [Gh.add, if_true]; exact hw.at_) hs hc (hd.mono (g.le_add _ _ _))) (fun b' hb' => ?_)
  simp [Chunk.own, Gh.add] at hb'; omega
theorem R_newVec (g : Gh) (E : List Chunk) (hl : lenE E = g.n) (b cap l s : Nat) (n : Unit → Nat) (hn : n () ≤ l) (hc : l ≤ cap) (hcap : cap ≤ 9223372036854775807) :
    R (g.add b (some cap) l) (.vec (lenE E) s (fun _ => 0) n) (.slice (some ⟨b, 0, none⟩) (n ()) cap) := by
  rw [hl]
  refine .vec g.n s (fun _ => 0) n _ _ (by simp [Gh.add]) (by simp [Gh.add]; exact hn) (by simp [Gh.add]) (fun cap' hc' => ?_)
  simp [Gh.add] at hc'
  subst hc'
  simp [Gh.add]
  omega

theorem okL_ok {g : Gh} : ∀ {cs : List AV} {us : List Value}, okL cs = true → RL g cs us → ∀ u ∈ us, u.oneCell' = true
  | [], [], _, _, u, hu => by simp at hu
  | c :: cs, v :: us, h, hr, u, hu => by
    simp only [okL] at h
    split at h
    · rename_i hc
      rcases List.mem_cons.1 hu with rfl | hu
      · have := hr.1
        cases this <;> first | rfl | (simp [okC] at hc; done)
      · exact okL_ok h hr.2 u hu
    · cases h

theorem storeVar_cells {t sz : Nat} (hs : tsize P t = some sz) {b off : Nat} {old : Array Value} {T : TypeId} (hb : w.heap[b]? = some (.cells old T (0, 0))) {v : Value} (hv : v.cells.size = sz) (hl : off + v.cells.size ≤ old.size)
    (h1 : ∀ u ∈ v.cells.toList, u.oneCell' = true) :
    (storeVar t ⟨b, off, none⟩ v).run P w = .ok () (w.setRow b (old.toList.take off ++ v.cells.toList ++ old.toList.drop (off + v.cells.toList.length)).toArray) := by
  have := run_storeCells_at P b off T v.cells.toList 0 old w hb (by simpa using hl) h1
  simp only [Nat.add_zero] at this
  simp [storeVar, tsize_size hs, hv, this]

/-- Chunk i never turns again. -/
theorem frz_ok2 {i : Nat} {cs : List AV} {us : List Value} {K : Env → List Chunk → List AV → Prop} (h : Inv B g env E tmps w) (hr : RL g cs us) (hk : frz i env E cs K) :
    ∃ g' env' E' cs', Inv B g' env' E' tmps w ∧ RL g' cs' us ∧ K env' E' cs' ∧ (g'.n = g.n ∧ g'.B = g.B ∧ g'.V = g.V ∧ g'.L = g.L ∧ g'.k = g.k ∧ g'.W = g.W ∧ g'.M = g.M) ∧ (∀ b o, g.Φ b = some o → g'.Φ b = some o) ∧
      (∀ b o, g'.Φ b = some o → g.Φ b = some o ∨ (getE E i).own g i b) ∧ (∀ b, (getE E i).own g i b → ∃ o, g'.Φ b = some o) := by
  unfold frz at hk
  split at hk <;> try exact hk.elim
  rename_i T t xs hE
  rw [fEnv_eq, fEE_eq, fL_eq] at hk
  have hs := h.sim.sat i
  rw [hE] at hs
  have hi : i < lenE E := getE_lt (by rw [hE]; simp)
  -- the ghost: the block is one of those that never turn
  let g' : Gh := { g with Φ := fun b => match g.V i with | none => g.Φ b | some _ => if b = g.B i then w.heap[g.B i]? else g.Φ b }
  have hblk : ∀ cap, g.V i = some cap → (getE E i).own g i (g.B i) := fun cap hV => by rw [hE]; simp [Chunk.own, hV]
  have hΦ : ∀ b o, g.Φ b = some o → g'.Φ b = some o := by
    intro b o hb
    show (match g.V i with | none => g.Φ b | some _ => if b = g.B i then w.heap[g.B i]? else g.Φ b) = some o
    split
    · exact hb
    · rename_i cap hV
      rw [if_neg (fun e => by subst e; rw [h.sim.dphi i _ (hblk cap hV)] at hb; cases hb)]
      exact hb
  -- what leads to the chunk
  have hat : ∀ cap, g.V i = some cap → ∀ (k : Nat) (x : t.den), (xs ())[k]? = some x → ∃ u : Nat → Value, ∀ (j : Nat) (y : AV), (enc t (fun _ => x) [])[j]? = some y → At g' (some ⟨g.B i, 0, none⟩) (k * t.size + j) (u j) ∧ R g' y (u j) := by
    intro cap hV k x hk
    obtain ⟨vs, hb, hsz, hc, hl, hd⟩ := sat_data hs hV
    have hdx := (hd.2 k x hk).mono_data hΦ
    refine ⟨fun j => ((((vs.toList.take ((xs ()).length * t.size)).drop (k * t.size)).take t.size).getD j Go.undef), fun j y hy => ?_⟩
    obtain ⟨u, hu, hru⟩ := hdx.get hy
    have e : (((vs.toList.take ((xs ()).length * t.size)).drop (k * t.size)).take t.size).getD j Go.undef = u := by simp [List.getD, hu]
    simp only [e]
    refine ⟨⟨g.B i, 0, vs, T, (0, 0), rfl, ?_, ?_⟩, hru⟩
    · show (match g.V i with | none => g.Φ (g.B i) | some _ => if g.B i = g.B i then w.heap[g.B i]? else g.Φ (g.B i)) = _
      rw [hV]; simp [hb]
    · rw [List.getElem?_take] at hu
      split at hu
      · rw [List.getElem?_drop, List.getElem?_take] at hu
        split at hu
        · simpa using hu
        · cases hu
      · cases hu
  have hleaf : ∀ v u, isRef v = true → R g v u → R g' (frzF i t xs v) u := by
    intro v u hv hr
    cases hr <;> first | (cases hv; done) | skip
    · rename_i j off hj
      simp only [frzF]; split
      · exact .undef _
      · exact .ptr (g := g') j off hj
    · rename_i j sz idx off hj hL
      simp only [frzF]; split
      · rename_i hji
        have hji := Nat.eq_of_beq_eq_true hji
        subst hji
        split
        · rename_i hsz
          have hsz := Nat.eq_of_beq_eq_true hsz
          subst hsz
          have hlt : idx () < (xs ()).length := by have := hs.1; omega
          cases hV : g.V j with
          | none => have := hs.2.1 hV; rw [this] at hlt; simp at hlt
          | some cap =>
            obtain ⟨u, hu⟩ := hat cap hV (idx ()) _ (List.getElem?_eq_getElem hlt)
            have e : (fun u => (xs u).getD (idx u) t.dflt) = (fun _ => (xs ())[idx ()]'hlt) := by funext u; cases u; simp [List.getD, List.getElem?_eq_getElem hlt]
            rw [e]
            exact .iptr t _ off (g.B j) (idx () * t.size) u (fun k y hy => by
              obtain ⟨⟨b, o, cells, T', fr, h1, h2, h3⟩, _⟩ := hu k y hy
              cases h1
              exact ⟨_, _, cells, T', fr, rfl, h2, by rw [← h3]; congr 1; omega⟩) (fun k y hy => (hu k y hy).2)
        · exact .undef _
      · exact .eptr (g := g') j sz idx off hj hL
    · rename_i j s o n A c hj hL hn hs'
      simp only [frzF]; split
      · rename_i hji
        have hji := Nat.eq_of_beq_eq_true hji
        subst hji
        split
        · rename_i hsz
          have hsz := Nat.eq_of_beq_eq_true hsz
          subst hsz
          have hlen : (((xs ()).drop (o ())).take (n ())).length = n () := by have := hs.1; simp; omega
          have hcn : n () ≤ c := by
            cases hV : g.V j with
            | none => have := hn hV; omega
            | some cap => have := hs' cap hV; omega
          have hmn : n () ≤ 9223372036854775807 := by
            cases hV : g.V j with
            | none => have := hn hV; omega
            | some cap => have := hs' cap hV; omega
          have key : ∀ (k : Nat) (x : t.den), (((xs ()).drop (o ())).take (n ()))[k]? = some x → ∃ u : Nat → Value, ∀ (m : Nat) (y : AV), (enc t (fun _ => x) [])[m]? = some y → At g' A (k * t.size + m) (u m) ∧ R g' y (u m) := by
            intro k x hx
            have hk : k < n () := by rw [← hlen]; exact (List.getElem?_eq_some_iff.1 hx).1
            rw [List.getElem?_take, if_pos hk, List.getElem?_drop] at hx
            cases hV : g.V j with
            | none => have := (hn hV).2.1; omega
            | some cap =>
              obtain ⟨u, hu⟩ := hat cap hV _ x hx
              obtain ⟨_, _, _, hA, _⟩ := hs' cap hV
              have hA := hA (.inl (by have := hs' cap hV; omega))
              subst hA
              refine ⟨u, fun m y hy => ?_⟩
              obtain ⟨⟨b, o', cells, T', fr, h1, h2, h3⟩, h4⟩ := hu m y hy
              cases h1
              exact ⟨⟨_, _, cells, T', fr, rfl, h2, by rw [← h3]; congr 1; rw [Nat.add_mul]; omega⟩, h4⟩
          have hfun : ∃ u : Nat → Nat → Value, ∀ (k : Nat) (x : t.den), (((xs ()).drop (o ())).take (n ()))[k]? = some x → ∀ (m : Nat) (y : AV), (enc t (fun _ => x) [])[m]? = some y → At g' A (k * t.size + m) (u k m) ∧ R g' y (u k m) := by
            refine ⟨fun k => if hk : k < (((xs ()).drop (o ())).take (n ())).length then Classical.choose (key k _ (List.getElem?_eq_getElem hk)) else fun _ => Go.undef, fun k x hx => ?_⟩
            obtain ⟨hk, rfl⟩ := List.getElem?_eq_some_iff.1 hx
            simp only [hk, dif_pos]
            exact Classical.choose_spec (key k _ (List.getElem?_eq_getElem hk))
          obtain ⟨u, hu⟩ := hfun
          have := R.lst (g := g') t (fun u => ((xs u).drop (o u)).take (n u)) A c u (by show (((xs ()).drop (o ())).take (n ())).length ≤ c; omega) (by show (((xs ()).drop (o ())).take (n ())).length ≤ _; omega)
            (fun k x m y h1 h2 => (hu k x h1 m y h2).1) (fun k x m y h1 h2 => (hu k x h1 m y h2).2)
          have e : ((fun u => ((xs u).drop (o u)).take (n u)) ()).length = n () := hlen
          rw [e] at this
          exact this
        · exact .undef _
      · exact .vec (g := g') j s o n A c hj hL hn hs'
    · rename_i j hj
      simp only [frzF]; split
      · exact .undef _
      · exact .mp (g := g') j hj
    · rename_i j f hj hf
      simp only [frzF]; split
      · exact .undef _
      · exact .hp (g := g') j f hj hf
    · rename_i j f hj hf
      simp only [frzF]; split
      · exact .undef _
      · exact .hm (g := g') j f hj hf
  have hphi : ∀ b o, g'.Φ b = some o → g.Φ b = some o ∨ ((getE E i).own g i b ∧ w.heap[b]? = some o) := by
    intro b o hb
    have hm : (match g.V i with | none => g.Φ b | some _ => if b = g.B i then w.heap[g.B i]? else g.Φ b) = some o := hb
    clear hb
    split at hm
    · exact .inl hm
    · rename_i cap hV
      split at hm
      · rename_i e
        subst e
        exact .inr ⟨hblk cap hV, hm⟩
      · exact .inl hm
  refine ⟨g', _, _, _, h.turn (g' := g') (frzF i t xs) (c := .none) ⟨T, t, xs, hE⟩ rfl rfl rfl rfl hΦ hleaf hi (fun j _ => ⟨rfl, rfl, rfl⟩) rfl rfl (Outs.refl _) (Nat.le_refl _) (fun _ _ _ => rfl) trivial (fun b hb => by cases hb) (fun b o hb => ?_), hr.map _ hΦ hleaf, hk, ⟨rfl, rfl, rfl, rfl, rfl, rfl, rfl⟩, hΦ, fun b o hb => (hphi b o hb).imp id And.left, fun b hb => ?_⟩
  rotate_left
  · rw [hE] at hb
    cases hV : g.V i with
    | none => simp [Chunk.own, hV] at hb
    | some cap =>
      simp [Chunk.own, hV] at hb
      subst hb
      obtain ⟨vs, hbv, _⟩ := sat_data hs hV
      refine ⟨.cells vs T (0, 0), ?_⟩
      · show (match g.V i with | none => g.Φ (g.B i) | some _ => if g.B i = g.B i then w.heap[g.B i]? else g.Φ (g.B i)) = _
        rw [hV]; simp only [if_true]; exact hbv
  rcases hphi b o hb with h1 | ⟨h1, h2⟩
  · exact .inl h1
  · exact .inr ⟨h1, h2, fun h => by cases h⟩
theorem frz_ok {i : Nat} {cs : List AV} {us : List Value} {K : Env → List Chunk → List AV → Prop} (h : Inv B g env E tmps w) (hr : RL g cs us) (hk : frz i env E cs K) :
    ∃ g' env' E' cs', Inv B g' env' E' tmps w ∧ RL g' cs' us ∧ K env' E' cs' := by
  obtain ⟨g', env', E', cs', h1, h2, h3, _⟩ := frz_ok2 h hr hk
  exact ⟨g', env', E', cs', h1, h2, h3⟩

theorem frzAll_ok : ∀ (n : Nat) {g : Gh} {env : Env} {E : List Chunk} {cs : List AV} {us : List Value} {K : Env → List Chunk → List AV → Prop}, Inv B g env E tmps w → RL g cs us → frzAll n env E cs K →
    ∃ g' env' E' cs', Inv B g' env' E' tmps w ∧ RL g' cs' us ∧ K env' E' cs'
  | 0, g, env, E, cs, us, K, h, hr, hk => ⟨g, env, E, cs, h, hr, hk⟩
  | n + 1, g, env, E, cs, us, K, h, hr, hk => by
    simp only [frzAll] at hk
    split at hk
    · exact ⟨g, env, E, cs, h, hr, hk⟩
    · obtain ⟨g', env', E', cs', h1, h2, h3⟩ := frz_ok h hr hk
      exact frzAll_ok n h1 h2 h3
end
end Go.Proofs.Ytafcenlbllmahaa.Fw
set_option linter.unusedVariables false
set_option linter.unusedSimpArgs false
namespace Go.Proofs.Ytafcenlbllmahaa.Fw
open Go Go.RowKit

theorem row_eq {α : Type} (V c : List α) (N p s off : Nat) (hN : N ≤ V.length) (hp : p + s ≤ N) (hc : off + c.length ≤ s) :
    (V.take (p + off) ++ c ++ V.drop (p + off + c.length)).take N =
      (V.take N).take p ++ ((((V.take N).drop p).take s).take off ++ c ++ (((V.take N).drop p).take s).drop (off + c.length)) ++ (V.take N).drop (p + s) := by
  apply List.ext_getElem?
  intro k
  simp only [List.getElem?_append, List.getElem?_take, List.getElem?_drop, List.length_append, List.length_take, List.length_drop]
  grind
theorem flatten_rep (l : List Value) : ∀ (n i : Nat), i < n * l.length → (List.replicate n l).flatten[i]? = l[i % l.length]?
  | 0, i, h => by simp at h
  | n + 1, i, h => by
    rw [List.replicate_succ, List.flatten_cons, List.getElem?_append]
    split
    · rename_i hi; rw [Nat.mod_eq_of_lt hi]
    · rename_i hi
      have hle : l.length ≤ i := by omega
      rw [flatten_rep l n (i - l.length) (by rw [Nat.add_mul] at h; omega)]
      congr 1
      rw [Nat.mod_eq_sub_mod hle]
theorem made_list (z : Array Value) (n : Nat) : ((Array.range (n * z.size)).map (z[· % z.size]!)).toList = (List.replicate n z.toList).flatten := by
  apply List.ext_getElem?
  intro i
  have hl : ((List.replicate n z.toList).flatten).length = n * z.size := by simp
  by_cases hi : i < n * z.size
  · rw [flatten_rep _ n i (by simpa using hi)]
    have hz : 0 < z.size := by rcases Nat.eq_zero_or_pos z.size with h | h; · rw [h] at hi; simp at hi
                               · exact h
    have hm : i % z.size < z.size := Nat.mod_lt _ hz
    simp [hi, hm]
  · rw [List.getElem?_eq_none (by simp; omega), List.getElem?_eq_none (by omega)]

section
variable {P : Program} {B : Base} {g : Gh} {env : Env} {E : List Chunk} {tmps : Array Value} {w : World}

theorem decN_ok {t : Ty} : ∀ (n : Nat) (cs : List AV) (us : List Value) (K : (Unit → List t.den) → Prop), decN t n cs K → RL g cs us → ∃ xs, (xs ()).length = n ∧ Data g t (xs ()) us ∧ K xs
  | 0, [], [], K, h, hr => ⟨_, rfl, Data.nil g t, h⟩
  | 0, _ :: _, _, K, h, hr => by simp [decN] at h
  | n + 1, cs, us, K, h, hr => by
    simp only [decN] at h
    obtain ⟨x, rest, u1, u2, rfl, h1, h2, h3⟩ := dec_ok t cs us _ h hr
    obtain ⟨xs, h4, h5, h6⟩ := decN_ok n rest u2 _ h3 h2
    refine ⟨fun u => x u :: xs u, by simp [h4], ?_, h6⟩
    exact Data.cons (by rw [enc_const]; exact h1) h5

theorem IsHV.R {i : Nat} {v : AV} {hv : HV} (h : IsHV i v hv) (hi : i < g.n) {u : Value} (hr : R g v u) : Fw.R g (hv.av i) u := by
  cases h with
  | eq => exact hr
  | pnil => cases hr; exact .hp i (fun _ => none) hi (fun x hx => by cases hx)
  | tt => cases hr; exact .bool (fun _ => true)
  | ff => cases hr; exact .bool (fun _ => false)
  | snil t => cases hr; exact R_lst_nil g t
theorem zeros_ok {z : Value} {cs : List AV} (h : cellsO (cst z) = some cs) (n : Nat) : RL g ((List.replicate n cs).flatten) ((List.replicate n z.cells.toList).flatten) := by
  have hr := (R_cst g z).cells h
  induction n with
  | zero => exact trivial
  | succ n ih => simp only [List.replicate_succ, List.flatten_cons]; exact hr.append ih

variable {a : Act} {o : Oper} {K : AV → Env → List Chunk → Prop}

theorem alloc_ok {e : TypeId} (h : Inv B g env E a.tmps w) (ho : o.op = .alloc e) (hk : eV P (.alloc e) env E K) : Done P o a w B K := by
  simp only [eV] at hk
  split at hk <;> try exact hk.elim
  rename_i z hz
  split at hk <;> try exact hk.elim
  rename_i cs hcs
  rw [fL_eq, fN_eq, fEE_eq] at hk
  have hr := (R_cst g z).cells hcs
  refine ⟨_, _, _, _, _, _, _, ?_, .inl rfl, h.newCells e (vs := z.cells) hr Option.none 0, R_new g E h.sim.len _ _ _, hk⟩
  simp [execOp, ho, Instr.alloc, tzero_zero hz, newVar, newRow]
theorem box_ok {e : TypeId} {x : Operand} (h : Inv B g env E a.tmps w) (ho : o.op = .box e x) (hk : eV P (.box e x) env E K) : Done P o a w B K := by
  simp only [eV] at hk
  split at hk <;> try exact hk.elim
  rename_i cs hcs
  rw [fN_eq, fEE_eq] at hk
  have hr := (h.er.ev x).cells hcs
  refine ⟨_, _, _, _, _, _, _, ?_, .inl rfl, h.newCells e (vs := (a.eval x).cells) hr Option.none 0, R_new g E h.sim.len _ _ _, hk⟩
  simp [execOp, ho, Instr.box, newVar, newRow]

theorem makeMap_ok {t : TypeId} (h : Inv B g env E a.tmps w) (ho : o.op = .makeMap t none) (hk : eV P (.makeMap t none) env E K) : Done P o a w B K := by
  simp only [eV] at hk
  split at hk <;> try exact hk.elim
  rename_i kt et ht
  split at hk <;> try exact hk.elim
  rename_i k hkt
  rw [fN_eq, fEE_eq] at hk
  have hle := g.le_add w.heap.size Option.none 0
  have hn := WNew.push w (.map #[] 0)
  have hinv := h.new (w' := { w with heap := w.heap.push (.map #[] 0) }) (c := .smp k [] []) (b := w.heap.size) (v := Option.none) (l := 0) hn.os hn.tape hn.output (by rw [hn.size]; omega) hn.else_
    ⟨#[], 0, by simp [Gh.add], rfl, trivial⟩ (fun b' hb' => by simp [Chunk.own, Gh.add] at hb'; omega)
  refine ⟨_, .map (some w.heap.size), _, _, _, _, _, ?_, .inl rfl, hinv, ?_, hk⟩
  · simp [execOp, ho, Instr.makeMap, Result.andThen]
  · have := R.mp (g := g.add w.heap.size Option.none 0) (lenE E) (by rw [h.sim.len]; simp [Gh.add])
    have e : (g.add w.heap.size Option.none 0).B (lenE E) = w.heap.size := by rw [h.sim.len]; simp [Gh.add]
    rwa [e] at this
theorem notIn_ok {n : Int} : ∀ {ks : List Int}, notIn n ks = true → n ∉ ks
  | [], _ => by simp
  | k :: r, h => by
    simp only [notIn] at h
    split at h
    · cases h
    · rename_i hne _
      intro hm
      rcases List.mem_cons.1 hm with rfl | hm
      · exact hne rfl
      · exact notIn_ok h hm
theorem findNow_none {k d : IntKind} {n : Int} : ∀ {ks : List Int} {es : List MapEntry} (i : Nat), n ∉ ks → es.map (·.key) = ks.map (Value.int k) → Instr.findNow (.int d) (.int k n) es i = some none
  | [], [], _, _, _ => rfl
  | [], _ :: _, _, _, hk => by simp at hk
  | _ :: _, [], _, _, hk => by simp at hk
  | k0 :: ks, e :: es, i, hn, hk => by
    simp only [List.map_cons, List.cons.injEq] at hk
    simp only [List.mem_cons, not_or] at hn
    have hb : (n == k0) = false := by simpa using hn.1
    simp only [Instr.findNow, hk.1, Instr.sameNow, if_true, hb]
    exact findNow_none (i + 1) hn.2 hk.2
theorem putM_ok {t : TypeId} {k : IntKind} {n : Int} {m x : Operand} (h : Inv B g env E a.tmps w) (ho : o.op = .insert t m (.const (.int k n)) x) (hk : putM P t k n (ev env m) (ev env x) env E K) : Done P o a w B K := by
  unfold putM at hk
  have hm := h.er.ev m
  have hx := h.er.ev x
  split at hk <;> try exact hk.elim
  rename_i i em
  rw [em] at hm
  split at hk <;> try exact hk.elim
  rename_i kt et k' ks vs ht hE
  split at hk <;> try exact hk.elim
  rename_i d e2 hkt hdq hni
  subst e2
  rw [fEE_eq] at hk
  have hs := h.sim.sat i
  rw [hE] at hs
  obtain ⟨es, cl, h1, h2, h3⟩ := hs
  have hu : a.eval m = .map (some (g.B i)) := by generalize a.eval m = u at hm; cases hm; rfl
  have hck : (Instr.checkKey false 10000 kt (.int k n)).run P w = .ok () w := by
    unfold Instr.checkKey
    simp only [Sem.run_bind, tund_run hkt, Result.andThen_ok]
    rfl
  have hfn := findNow_none (d := d) 0 (notIn_ok hni) h2
  have hset : WSet w { w with heap := w.heap.setIfInBounds (g.B i) (.map (es.push { key := .int k n, val := a.eval x, born := cl }) (cl + 1)) } (g.B i) (.map (es.push { key := .int k n, val := a.eval x, born := cl }) (cl + 1)) :=
    ⟨rfl, rfl, ⟨rfl, Nat.le_refl _⟩, by simp, (MapKept.heap_set h1).1, (MapKept.heap_set h1).2⟩
  refine ⟨.skip, Go.undef, .skip, _, g, env, _, ?_, .inr ⟨rfl, rfl⟩, h.set (c := .smp k (ks ++ [n]) (vs ++ [ev env x])) (by rw [hE]; rfl) hset ⟨_, _, hset.at_, by simp [h2], by simpa using h3.append (cs := vs) (ds := [ev env x]) (vs := [a.eval x]) ⟨hx, trivial⟩⟩ rfl (fun T' t' xs' hc => by cases hc), .skip, hk⟩
  have he : a.eval (.const (.int k n)) = .int k n := rfl
  simp [execOp, ho, Instr.mapUpdate, tund_run ht, hu, he, MapKept.run_getObj_map h1, hck, MapKept.run_findKey (tund_und hkt) hfn, MapKept.run_setObj_map _ h1, Result.andThen]
theorem store_ok {t : TypeId} {x v : Operand} (h : Inv B g env E a.tmps w) (ho : o.op = .store t x v) (hk : eV P (.store t x v) env E K) : Done P o a w B K := by
  simp only [eV] at hk
  split at hk <;> try exact hk.elim
  rename_i cs hcs
  split at hk <;> try exact hk.elim
  rename_i sz hsz
  split at hk <;> try exact hk.elim
  rename_i hl hok
  have hlen : cs.length = sz := Nat.eq_of_beq_eq_true hl
  have hr := (h.er.ev v).cells hcs
  have hvl : (a.eval v).cells.size = sz := by have := hr.length; simp at this; omega
  have hone := okL_ok hok hr
  have hx := h.er.ev x
  split at hk <;> try exact hk.elim
  · rename_i i off ex
    rw [ex] at hx
    split at hk <;> try exact hk.elim
    rename_i T ds hE
    split at hk <;> try exact hk.elim
    rename_i ds' hput
    rw [fL_eq, fEE_eq] at hk
    have hs := h.sim.sat i
    rw [hE] at hs
    obtain ⟨vs, hb, hrl⟩ := hs
    obtain ⟨h1, h2⟩ := putX_ok off ds cs ds' vs.toList (a.eval v).cells.toList hput hrl hr
    have hv : a.eval x = .pointer (some ⟨g.B i, off, none⟩) := by generalize a.eval x = u at hx; cases hx; rfl
    have hrun := storeVar_cells (P := P) (w := w) (t := t) hsz (off := off) hb hvl (by simpa using h2) hone
    refine ⟨.skip, Go.undef, .skip, _, g, env, _, ?_, .inr ⟨rfl, rfl⟩, h.set (c := .cells T ds') (by rw [hE]; rfl) (setRow_set hb _) ⟨_, (setRow_set hb _).at_, by simpa using h1⟩ rfl (fun T' t' xs' hc => by cases hc), .skip, hk⟩
    simp [execOp, ho, Instr.storeAt, Instr.sureAddr, hv, hrun]
  · rename_i i s j off ex
    rw [ex] at hx
    obtain ⟨g', env', E', l, hinv, hl', hk⟩ := frzAll_ok 3 (cs := AV.eptr i s j off :: cs) (us := a.eval x :: (a.eval v).cells.toList) h ⟨hx, hr⟩ hk
    split at hk <;> try exact hk.elim
    rename_i i s j off cs' 
    have hx := hl'.1
    have hr := hl'.2
    split at hk <;> try exact hk.elim
    · rename_i T ty xs hE
      split at hk <;> try exact hk.elim
      rename_i hb
      have hs' : ty.size = s := Nat.eq_of_beq_eq_true hb
      subst hs'
      split at hk <;> try exact hk.elim
      rename_i ds hput
      have hs := hinv.sim.sat i
      rw [hE] at hs
      have hv : a.eval x = .pointer (some ⟨g'.B i, j () * ty.size + off, none⟩) ∧ j () < g'.L i := by generalize a.eval x = u at hx; cases hx with | eptr _ _ _ _ _ hL => exact ⟨rfl, hL⟩
      obtain ⟨hv, hL⟩ := hv
      have hj : j () < (xs ()).length := by rw [hs.1]; exact hL
      cases hV : g'.V i with
      | none => have := hs.2.1 hV; rw [this] at hj; simp at hj
      | some cap =>
        obtain ⟨vs, hb, hsz2, hcap, hLe, hd⟩ := sat_data hs hV
        have hdj := hd.2 (j ()) _ (List.getElem?_eq_getElem hj)
        have e : (fun u => (xs u).getD (j u) ty.dflt) = (fun _ => (xs ())[j ()]'hj) := by funext u; cases u; simp [List.getD, List.getElem?_eq_getElem hj]
        rw [e] at hput
        obtain ⟨h1, h2⟩ := putX_ok off _ cs' ds _ (a.eval v).cells.toList hput hdj hr
        obtain ⟨y, h3, hk⟩ := dec1_ok hk h1
        rw [fEE_eq] at hk
        have hjl : j () * ty.size + ty.size ≤ (xs ()).length * ty.size := by rw [← Nat.succ_mul]; exact Nat.mul_le_mul_right _ hj
        have hxc : (xs ()).length * ty.size ≤ cap * ty.size := Nat.mul_le_mul_right _ hcap
        have hel : (List.take ty.size (List.drop (j () * ty.size) (List.take ((xs ()).length * ty.size) vs.toList))).length = ty.size := by
          rw [← hdj.length, enc_length]
        have hfit : off + (a.eval v).cells.toList.length ≤ ty.size := by rw [hel] at h2; exact h2
        have hrun := storeVar_cells (P := P) (w := w) (t := t) hsz (off := j () * ty.size + off) hb hvl (by simp at hfit; omega) hone
        -- the new row
        let row : List Value := vs.toList.take (j () * ty.size + off) ++ (a.eval v).cells.toList ++ vs.toList.drop (j () * ty.size + off + (a.eval v).cells.toList.length)
        have hset := setRow_set hb row.toArray
        have hrowlen : row.length = cap * ty.size := by
          simp only [row, List.length_append, List.length_take, List.length_drop, Array.length_toList]
          simp at hfit ⊢
          omega
        refine ⟨.skip, Go.undef, .skip, _, g', env', _, ?_, .inr ⟨rfl, rfl⟩, hinv.set (c := .vect T ty fun u => (xs u).set (j u) (y u)) (by rw [hE]; simp [Chunk.own, hV]) hset (sat_of_data (cap := cap) (vs := row.toArray) hV (by simp [hLe]) hset.at_ (by simpa using hrowlen) (by simpa using hcap) ?_) (by simp [Chunk.own, hV]) (fun _ _ _ _ => ⟨_, _, _, hE⟩), .skip, hk⟩
        · simp [execOp, ho, Instr.storeAt, Instr.sureAddr, hv, hrun, row]
        · -- the data of the new row
          have hrow : row.toArray.toList.take (((fun u => (xs u).set (j u) (y u)) ()).length * ty.size) =
              (vs.toList.take ((xs ()).length * ty.size)).take (j () * ty.size) ++ ((((vs.toList.take ((xs ()).length * ty.size)).drop (j () * ty.size)).take ty.size).take off ++ (a.eval v).cells.toList ++ (((vs.toList.take ((xs ()).length * ty.size)).drop (j () * ty.size)).take ty.size).drop (off + (a.eval v).cells.toList.length)) ++ (vs.toList.take ((xs ()).length * ty.size)).drop (j () * ty.size + ty.size) := by
            have := row_eq vs.toList (a.eval v).cells.toList ((xs ()).length * ty.size) (j () * ty.size) ty.size off (by simp; omega) hjl hfit
            simpa [row] using this
          rw [hrow]
          have hlen' : (xs ()).set (j ()) (y ()) = (xs ()).take (j ()) ++ [y ()] ++ (xs ()).drop (j () + 1) := by
            rw [List.set_eq_take_append_cons_drop]
            simp [hj]
          show Data g' ty ((xs ()).set (j ()) (y ())) _
          rw [hlen']
          have d1 := hd.take (j ())
          have d3 := hd.drop (j () + 1)
          have d2 : Data g' ty [y ()] ((((vs.toList.take ((xs ()).length * ty.size)).drop (j () * ty.size)).take ty.size).take off ++ (a.eval v).cells.toList ++ (((vs.toList.take ((xs ()).length * ty.size)).drop (j () * ty.size)).take ty.size).drop (off + (a.eval v).cells.toList.length)) := by
            have := Data.cons (g := g') (t := ty) (x := y ()) (xs := []) (us := []) (by rw [enc_const]; exact h3) (Data.nil g' ty)
            simpa using this
          have := (d1.append d2).append d3
          rw [Nat.add_mul, Nat.one_mul] at this
          exact this
    · rename_i T ty xs hE
      split at hk <;> try exact hk.elim
      rename_i hb
      have hs' : ty.size = s := Nat.eq_of_beq_eq_true hb
      subst hs'
      split at hk <;> try exact hk.elim
      rename_i ds hput
      have hs : (Chunk.row T ty xs).sat g' i w := by have := hinv.sim.sat i; rwa [hE] at this
      have hs : (Chunk.vect T ty xs).sat g' i w := hs
      have hv : a.eval x = .pointer (some ⟨g'.B i, j () * ty.size + off, none⟩) ∧ j () < g'.L i := by generalize a.eval x = u at hx; cases hx with | eptr _ _ _ _ _ hL => exact ⟨rfl, hL⟩
      obtain ⟨hv, hL⟩ := hv
      have hj : j () < (xs ()).length := by rw [hs.1]; exact hL
      cases hV : g'.V i with
      | none => have := hs.2.1 hV; rw [this] at hj; simp at hj
      | some cap =>
        obtain ⟨vs, hb, hsz2, hcap, hLe, hd⟩ := sat_data hs hV
        have hdj := hd.2 (j ()) _ (List.getElem?_eq_getElem hj)
        have e : (fun u => (xs u).getD (j u) ty.dflt) = (fun _ => (xs ())[j ()]'hj) := by funext u; cases u; simp [List.getD, List.getElem?_eq_getElem hj]
        rw [e] at hput
        obtain ⟨h1, h2⟩ := putX_ok off _ cs' ds _ (a.eval v).cells.toList hput hdj hr
        obtain ⟨y, h3, hk⟩ := dec1_ok hk h1
        rw [fEE_eq] at hk
        have hjl : j () * ty.size + ty.size ≤ (xs ()).length * ty.size := by rw [← Nat.succ_mul]; exact Nat.mul_le_mul_right _ hj
        have hxc : (xs ()).length * ty.size ≤ cap * ty.size := Nat.mul_le_mul_right _ hcap
        have hel : (List.take ty.size (List.drop (j () * ty.size) (List.take ((xs ()).length * ty.size) vs.toList))).length = ty.size := by
          rw [← hdj.length, enc_length]
        have hfit : off + (a.eval v).cells.toList.length ≤ ty.size := by rw [hel] at h2; exact h2
        have hrun := storeVar_cells (P := P) (w := w) (t := t) hsz (off := j () * ty.size + off) hb hvl (by simp at hfit; omega) hone
        -- the new row
        let row : List Value := vs.toList.take (j () * ty.size + off) ++ (a.eval v).cells.toList ++ vs.toList.drop (j () * ty.size + off + (a.eval v).cells.toList.length)
        have hset := setRow_set hb row.toArray
        have hrowlen : row.length = cap * ty.size := by
          simp only [row, List.length_append, List.length_take, List.length_drop, Array.length_toList]
          simp at hfit ⊢
          omega
        refine ⟨.skip, Go.undef, .skip, _, g', env', _, ?_, .inr ⟨rfl, rfl⟩, hinv.set (c := .row T ty fun u => (xs u).set (j u) (y u)) (by rw [hE]; simp [Chunk.own, hV]) hset (sat_of_data (T := T) (t := ty) (xs := fun u => (xs u).set (j u) (y u)) (cap := cap) (vs := row.toArray) hV (by simp [hLe]) hset.at_ (by simpa using hrowlen) (by simpa using hcap) ?_) (by simp [Chunk.own, hV]) (fun _ _ _ hc => by cases hc), .skip, hk⟩
        · simp [execOp, ho, Instr.storeAt, Instr.sureAddr, hv, hrun, row]
        · -- the data of the new row
          have hrow : row.toArray.toList.take (((fun u => (xs u).set (j u) (y u)) ()).length * ty.size) =
              (vs.toList.take ((xs ()).length * ty.size)).take (j () * ty.size) ++ ((((vs.toList.take ((xs ()).length * ty.size)).drop (j () * ty.size)).take ty.size).take off ++ (a.eval v).cells.toList ++ (((vs.toList.take ((xs ()).length * ty.size)).drop (j () * ty.size)).take ty.size).drop (off + (a.eval v).cells.toList.length)) ++ (vs.toList.take ((xs ()).length * ty.size)).drop (j () * ty.size + ty.size) := by
            have := row_eq vs.toList (a.eval v).cells.toList ((xs ()).length * ty.size) (j () * ty.size) ty.size off (by simp; omega) hjl hfit
            simpa [row] using this
          rw [hrow]
          have hlen' : (xs ()).set (j ()) (y ()) = (xs ()).take (j ()) ++ [y ()] ++ (xs ()).drop (j () + 1) := by
            rw [List.set_eq_take_append_cons_drop]
            simp [hj]
          show Data g' ty ((xs ()).set (j ()) (y ())) _
          rw [hlen']
          have d1 := hd.take (j ())
          have d3 := hd.drop (j () + 1)
          have d2 : Data g' ty [y ()] ((((vs.toList.take ((xs ()).length * ty.size)).drop (j () * ty.size)).take ty.size).take off ++ (a.eval v).cells.toList ++ (((vs.toList.take ((xs ()).length * ty.size)).drop (j () * ty.size)).take ty.size).drop (off + (a.eval v).cells.toList.length)) := by
            have := Data.cons (g := g') (t := ty) (x := y ()) (xs := []) (us := []) (by rw [enc_const]; exact h3) (Data.nil g' ty)
            simpa using this
          have := (d1.append d2).append d3
          rw [Nat.add_mul, Nat.one_mul] at this
          exact this
  · rename_i i f ex
    rw [ex] at hx
    split at hk <;> try exact hk.elim
    rename_i c hp hE
    obtain ⟨k, off, T, n, cc, hv, h', h1, h2, h3, h4, h5, h6⟩ := hk.h
    rw [fEE_eq] at h6
    obtain ⟨hval, hi, hf⟩ := hx.hp_iff
    rw [h1] at hval
    have hkM := hf _ h1
    obtain ⟨vs, hb, hsz', hcell⟩ := h.sim.hcells hE hkM h2
    obtain ⟨u, hu⟩ : ∃ u, (a.eval v).cells.toList = [u] := by
      match hl : (a.eval v).cells.toList, hr.length with
      | [u], _ => exact ⟨u, rfl⟩
    rw [hu] at hr
    have hsz1 : (a.eval v).cells.size = 1 := by have := congrArg List.length hu; simpa using this
    have hrun := storeVar_cells (P := P) (w := w) (t := t) hsz (off := off) hb hvl (by omega) hone
    simp only [hu] at hrun
    refine ⟨.skip, Go.undef, .skip, _, g, env, _, ?_, .inr ⟨rfl, rfl⟩, h.hset (o := .cells T n fun j => if j = off then hv else cc j) hE hkM (setRow_set hb (vs.toList.take off ++ [u] ++ vs.toList.drop (off + [u].length)).toArray) ⟨_, rfl, ?_, fun j w' hj => ?_⟩ h5, .skip, h6⟩
    · simp [execOp, ho, Instr.storeAt, Instr.sureAddr, hval, hrun]
    · simp; omega
    · have hlt : off < vs.toList.length := by simp; omega
      simp only [List.getElem?_toArray] at hj
      by_cases hjo : j = off
      · subst hjo
        simp only [if_true]
        have : u = w' := by
          have hlen : (vs.toList.take j).length = j := by rw [List.length_take]; omega
          rw [List.append_assoc, List.getElem?_append_right (by rw [hlen]; exact Nat.le_refl _), hlen, Nat.sub_self] at hj
          simpa using hj
        subst this
        exact h4.R hi hr.1
      · simp only [hjo, if_false]
        refine hcell j w' ?_
        rw [← hj]
        simp only [List.append_assoc, List.getElem?_append, List.length_take, List.length_singleton, List.getElem?_take, List.getElem?_drop]
        rw [Nat.min_eq_left (Nat.le_of_lt hlt)]
        rcases Nat.lt_trichotomy j off with hlt' | hlt' | hlt'
        · simp [hlt']
        · exact (hjo hlt').elim
        · have e1 : ¬ j < off := by omega
          have e2 : ¬ j - off < 1 := by omega
          simp only [e1, e2, if_false]
          rw [show off + 1 + (j - off - 1) = j by omega]
          simp
end
end Go.Proofs.Ytafcenlbllmahaa.Fw
set_option linter.unusedVariables false
set_option linter.unusedSimpArgs false
namespace Go.Proofs.Ytafcenlbllmahaa.Fw
open Go Go.RowKit

section
variable {P : Program} {B : Base} {g : Gh} {env : Env} {E : List Chunk} {tmps : Array Value} {w : World}
variable {a : Act} {o : Oper} {K : AV → Env → List Chunk → Prop}

/-- A key found: where. -/
theorem EntR.at_ {i : Nat} {d : IntKind} {n : Int} : ∀ {es : List (Nat × Int × HV)} {ms : List MapEntry} (j : Nat), EntR g i es ms →
    (∃ k u v e, Instr.findNow (.int d) (.int .i64 n) ms j = some (some (j + k, u)) ∧ ms[k]? = some e ∧ e.key = .int .i64 n ∧ getH es n = some v ∧
      (∀ clock hv x, R g (hv.av i) x → EntR g i (putH es clock n hv) (ms.set k { e with key := .int .i64 n, val := x })) ∧ EntR g i (delH es n) (ms.eraseIdx k)) ∨
    (Instr.findNow (.int d) (.int .i64 n) ms j = some none ∧ getH es n = none ∧ (∀ clock hv x, R g (hv.av i) x → EntR g i (putH es clock n hv) (ms ++ [{ key := .int .i64 n, val := x, born := clock }])) ∧ delH es n = es)
  | [], [], j, _ => .inr ⟨rfl, rfl, fun clock hv x hx => ⟨rfl, rfl, hx, trivial⟩, rfl⟩
  | (b, m, v) :: es, e :: ms, j, h => by
    obtain ⟨h1, h2, h3, h4⟩ := h
    by_cases hn : m = n
    · subst hn
      refine .inl ⟨0, e.val, v, e, by simp [Instr.findNow, h2, Instr.sameNow], rfl, h2, by simp [getH], fun clock hv x hx => ?_, ?_⟩
      · simp only [putH, if_true, List.set_cons_zero]; exact ⟨h1, rfl, hx, h4⟩
      · simp only [delH, if_true, List.eraseIdx_cons_zero]; exact h4
    · have hb : (n == m) = false := by simpa using fun e => hn e.symm
      have e1 : Instr.findNow (.int d) (.int .i64 n) (e :: ms) j = Instr.findNow (.int d) (.int .i64 n) ms (j + 1) := by simp [Instr.findNow, h2, Instr.sameNow, hb]
      rw [e1]
      rcases EntR.at_ (d := d) (n := n) (j + 1) h4 with ⟨k, u, v', e', g1, g2, g3, g4, g5, g6⟩ | ⟨g1, g2, g3, g4⟩
      · refine .inl ⟨k + 1, u, v', e', by rw [g1]; congr 3; omega, by simpa using g2, g3, by simp [getH, hn, g4], fun clock hv x hx => ?_, ?_⟩
        · simp only [putH, hn, if_false, List.set_cons_succ]; exact ⟨h1, h2, h3, g5 clock hv x hx⟩
        · simp only [delH, hn, if_false, List.eraseIdx_cons_succ]; exact ⟨h1, h2, h3, g6⟩
      · refine .inr ⟨g1, by simp [getH, hn, g2], fun clock hv x hx => ?_, by simp [delH, hn, g4]⟩
        simp only [putH, hn, if_false, List.cons_append]; exact ⟨h1, h2, h3, g3 clock hv x hx⟩

theorem mapZ_iff {t : Nat} {z : Value} (h : mapZ P t = some z) : ∃ kt et, tund P t = some (.map kt et) ∧ tund P kt = some (.int .i64) := by
  unfold mapZ at h
  split at h <;> try (cases h; done)
  rename_i kt et ht
  split at h <;> try (cases h; done)
  rename_i hkt
  exact ⟨kt, et, ht, hkt⟩
theorem checkKey_int {kt : Nat} (hkt : tund P kt = some (.int .i64)) (n : Int) (b : Bool) : (Instr.checkKey b 10000 kt (.int .i64 n)).run P w = .ok () w := by
  unfold Instr.checkKey
  simp only [Sem.run_bind, tund_run hkt, Result.andThen_ok]
  rfl
theorem setAt {b : Nat} {ob ob' : Obj} (hb : w.heap[b]? = some ob) : WSet w { w with heap := w.heap.setIfInBounds b ob' } b ob' :=
  ⟨rfl, rfl, ⟨rfl, Nat.le_refl _⟩, by simp, (MapKept.heap_set hb).1, (MapKept.heap_set hb).2⟩

theorem mapUpdate_ok {t : TypeId} {m k x : Operand} (h : Inv B g env E a.tmps w) (ho : o.op = .mapUpdate t m k x) (hk : eV P (.mapUpdate t m k x) env E K) : Done P o a w B K := by
  simp only [eV] at hk
  have hm := h.er.ev m
  have hkey := h.er.ev k
  have hx := h.er.ev x
  split at hk <;> try exact hk.elim
  rename_i i f n em ek
  rw [em] at hm
  rw [ek] at hkey
  split at hk <;> try exact hk.elim
  rename_i hp hE
  obtain ⟨es, clock, z, hv, h', h1, h2, h3, h4, h5⟩ := hk.h
  rw [fEE_eq] at h5
  obtain ⟨hval, hi, hf⟩ := hm.hm_iff
  have hkv := hkey.int_iff
  obtain ⟨ms, hb, hent⟩ := h.sim.hmap hE hf h1
  obtain ⟨kt, et, ht, hkt⟩ := mapZ_iff h2
  have hR := h3.R hi hx
  rcases hent.at_ (d := .i64) (n := n ()) 0 with ⟨j, u, v, e, g1, g2, g3, g4, g5, g6⟩ | ⟨g1, g2, g3, g4⟩
  · have hj : ms[j]? = some e := by simpa using g2
    rw [Nat.zero_add] at g1
    refine ⟨.skip, Go.undef, .skip, _, g, env, _, ?_, .inr ⟨rfl, rfl⟩, h.hset (o := putO es clock (n ()) hv) hE hf (setAt (ob' := .map (ms.modify j fun e => { e with key := .int .i64 (n ()), val := a.eval x }) clock) hb) ⟨_, by rw [g4], ?_⟩ h4, .skip, h5⟩
    · have hst : (Instr.keyThatStays (.int .i64 (n ())) (.int .i64 (n ()))).run P w = .ok (.int .i64 (n ())) w := by simp [Instr.keyThatStays, Instr.sameBits]
      simp [execOp, ho, Instr.mapUpdate, tund_run ht, hval, hkv, MapKept.run_getObj_map hb, checkKey_int hkt, MapKept.run_findKey (tund_und hkt) g1, hj, g3, hst, MapKept.run_setObj_map _ hb, Result.andThen]
    · have := g5 clock hv (a.eval x) hR
      have e : (ms.modify j fun e => { e with key := .int .i64 (n ()), val := a.eval x }).toList = ms.toList.set j { e with key := .int .i64 (n ()), val := a.eval x } := by
        apply List.ext_getElem?
        intro q
        rw [Array.toList_modify, List.getElem?_modify, List.getElem?_set]
        by_cases hq : j = q
        · subst hq
          have hl := (List.getElem?_eq_some_iff.1 g2).1
          rw [g2]; simp at hl; simp [hl]
        · simp [hq]
      rw [e]; exact this
  · refine ⟨.skip, Go.undef, .skip, _, g, env, _, ?_, .inr ⟨rfl, rfl⟩, h.hset (o := putO es clock (n ()) hv) hE hf (setAt (ob' := .map (ms.push { key := .int .i64 (n ()), val := a.eval x, born := clock }) (clock + 1)) hb) ⟨_, by rw [g2], ?_⟩ h4, .skip, h5⟩
    · simp [execOp, ho, Instr.mapUpdate, tund_run ht, hval, hkv, MapKept.run_getObj_map hb, checkKey_int hkt, MapKept.run_findKey (tund_und hkt) g1, MapKept.run_setObj_map _ hb, Result.andThen]
    · rw [Array.toList_push]; exact g3 clock hv (a.eval x) hR

theorem delete_ok {ts : List Nat} {xs : List Operand} (h : Inv B g env E a.tmps w) (ho : o.op = .call { callee := .builtin .delete, args := ⟨xs⟩, argTypes := ⟨ts⟩ }) (hk : eBuiltin P .delete ts (evL env xs) env E K) : Done P o a w B K := by
  simp only [eBuiltin] at hk
  split at hk <;> try exact hk.elim
  rename_i t ts' i f n eaz
  split at hk <;> try exact hk.elim
  rename_i hp hE
  obtain ⟨es, clock, z, h', h1, h2, h4, h5⟩ := hk.h
  rw [fEE_eq] at h5
  have hargs := h.er.evL xs
  rw [eaz] at hargs
  obtain ⟨m, k, hmk⟩ : ∃ m k, xs.map a.eval = [m, k] := by
    match hl : xs.map a.eval, hargs.length with
    | [m, k], _ => exact ⟨m, k, rfl⟩
  rw [hmk] at hargs
  obtain ⟨hval, hi, hf⟩ := hargs.1.hm_iff
  have hkv := hargs.2.1.int_iff
  subst hval hkv
  obtain ⟨ms, hb, hent⟩ := h.sim.hmap hE hf h1
  obtain ⟨kt, et, ht, hkt⟩ := mapZ_iff h2
  have harr : (⟨xs⟩ : Array Operand).map a.eval = #[.map (some (g.W i (f ()))), .int .i64 (n ())] := by apply Array.ext'; simpa using hmk
  rcases hent.at_ (d := .i64) (n := n ()) 0 with ⟨j, u, v, e, g1, g2, g3, g4, g5, g6⟩ | ⟨g1, g2, g3, g4⟩
  · rw [Nat.zero_add] at g1
    refine ⟨.value (.tuple #[]), _, .tup [], _, g, env, _, ?_, .inl rfl, h.hset (o := .map (delH es (n ())) clock) hE hf (setAt (ob' := .map (ms.eraseIdxIfInBounds j) clock) hb) ⟨_, rfl, ?_⟩ h4, R.mkTup (cs := []) (vs := []) trivial, h5⟩
    · simp [execOp, ho, resolve, invoke, harr, builtin, Builtin.delete_, tund_run ht, MapKept.run_getObj_map hb, checkKey_int hkt, MapKept.run_findKey (tund_und hkt) g1, MapKept.run_setObj_map _ hb, Result.andThen]
    · have hj : j < ms.size := by have := (List.getElem?_eq_some_iff.1 g2).1; simpa using this
      have e : (ms.eraseIdxIfInBounds j).toList = ms.toList.eraseIdx j := by
        unfold Array.eraseIdxIfInBounds
        rw [dif_pos hj, Array.toList_eraseIdx]
      rw [e]; exact g6
  · refine ⟨.value (.tuple #[]), _, .tup [], _, g, env, _, ?_, .inl rfl, h.hset (o := .map (delH es (n ())) clock) hE hf (setAt (ob' := .map ms clock) hb) ⟨_, rfl, ?_⟩ h4, R.mkTup (cs := []) (vs := []) trivial, h5⟩
    · simp [execOp, ho, resolve, invoke, harr, builtin, Builtin.delete_, tund_run ht, MapKept.run_getObj_map hb, checkKey_int hkt, MapKept.run_findKey (tund_und hkt) g1, MapKept.run_setObj_map _ hb, Result.andThen]
    · rw [g4]; exact hent

theorem range_ok {t : TypeId} {x : Operand} (h : Inv B g env E a.tmps w) (ho : o.op = .range t x) (hk : eV P (.range t x) env E K) : Done P o a w B K := by
  simp only [eV] at hk
  unfold rangeV at hk
  have hx := h.er.ev x
  split at hk <;> try exact hk.elim
  rename_i i f ex
  rw [ex] at hx
  split at hk <;> try exact hk.elim
  rename_i hp hE
  obtain ⟨es, clock, kt, et, h1, ht, h5⟩ := hk.h
  rw [fN_eq, fEE_eq] at h5
  obtain ⟨hval, hi, hf⟩ := hx.hm_iff
  obtain ⟨ms, hb, hent⟩ := h.sim.hmap hE hf h1
  have hn := WNew.push w (.mapIter (some (g.W i (f ()))) clock #[] clock)
  have hle := g.le_add w.heap.size Option.none 0
  have hinv := h.new (w' := { w with heap := w.heap.push (.mapIter (some (g.W i (f ()))) clock #[] clock) }) (c := .mit (.hm i f) clock clock fun _ => []) (b := w.heap.size) (v := Option.none) (l := 0) hn.os hn.tape hn.output (by rw [hn.size]; omega) hn.else_
    ⟨_, (R.hm (g := g) i f hi hf).mono hle, by simp [Gh.add]⟩ (fun b' hb' => by simp [Chunk.own, Gh.add] at hb'; omega)
  refine ⟨_, .pointer (some ⟨w.heap.size, 0, none⟩), _, _, _, _, _, ?_, .inl rfl, hinv, ?_, h5⟩
  · simp [execOp, ho, Instr.range, tund_run ht, hval, MapKept.run_getObj_map hb, Result.andThen, newObj, Sem.run]
  · exact R_new g E h.sim.len _ _ _

theorem next_ok {x : Operand} (h : Inv B g env E a.tmps w) (ho : o.op = .next x false) (hk : eV P (.next x false) env E K) : Done P o a w B K := by
  simp only [eV] at hk
  unfold nextV at hk
  have hx := h.er.ev x
  split at hk <;> try exact hk.elim
  rename_i i ex
  rw [ex] at hx
  split at hk <;> try exact hk.elim
  rename_i j f since last seen hE
  split at hk <;> try exact hk.elim
  rename_i hp hEj
  obtain ⟨es, h1, h2, h3, h4, h5⟩ := hk.h
  subst h2
  have hs := h.sim.sat i
  rw [hE] at hs
  obtain ⟨b, hRb, hr⟩ := hs
  obtain ⟨hval, hj, hf⟩ := hRb.hm_iff
  cases hval
  obtain ⟨ms, hb, hent⟩ := h.sim.hmap hEj hf h1
  have hv : a.eval x = .pointer (some ⟨g.B i, 0, none⟩) := by generalize a.eval x = u at hx; cases hx; rfl
  have get : ∀ {es : List (Nat × Int × HV)} {ms : List MapEntry}, EntR g j es ms → ∀ e ∈ ms, ∃ b n v, (b, n, v) ∈ es ∧ e.born = b ∧ e.key = .int .i64 n ∧ R g (v.av j) e.val := by
    intro es ms
    induction es generalizing ms with
    | nil => intro h e he; cases ms with
      | nil => simp at he
      | cons _ _ => exact h.elim
    | cons p es ih =>
      obtain ⟨b, n, v⟩ := p
      intro h e he
      cases ms with
      | nil => exact h.elim
      | cons e' ms =>
        obtain ⟨q1, q2, q3, q4⟩ := h
        rcases List.mem_cons.1 he with rfl | he
        · exact ⟨b, n, v, .head _, q1, q2, q3⟩
        · obtain ⟨b, n, v, r1, r2⟩ := ih q4 e he
          exact ⟨b, n, v, .tail _ r1, r2⟩
  have get' : ∀ {es : List (Nat × Int × HV)} {ms : List MapEntry}, EntR g j es ms → ∀ p ∈ es, ∃ e ∈ ms, e.born = p.1 := by
    intro es ms
    induction es generalizing ms with
    | nil => intro h p hp; simp at hp
    | cons p es ih =>
      obtain ⟨b, n, v⟩ := p
      intro h q hq
      cases ms with
      | nil => exact h.elim
      | cons e' ms =>
        obtain ⟨q1, q2, q3, q4⟩ := h
        rcases List.mem_cons.1 hq with rfl | hq
        · exact ⟨e', .head _, q1⟩
        · obtain ⟨e, r1, r2⟩ := ih q4 q hq
          exact ⟨e, .tail _ r1, r2⟩
  have hold : ∀ x ∈ ms.toList, x.born < last := fun e he => by
    obtain ⟨b, n, v, q1, q2, _⟩ := get hent e he
    rw [q2]; exact h3 _ q1
  rcases run_next_at (P := P) w o.type (g.B i) (g.W j (f ())) last last (seen ()).toArray ms last hr hb hold (Nat.le_refl _) with ⟨q1, q2⟩ | ⟨e, he, w1, hw1, q2⟩
  · refine ⟨.value (.tuple #[.bool false]), _, _, w, g, env, E, ?_, .inl rfl, h, R.mkTup (cs := [.ff]) (vs := [.bool false]) ⟨.ff, trivial⟩, h4 ?_⟩
    · simp [execOp, ho, hv, q2]
    · intro p hp
      obtain ⟨e, r1, r2⟩ := get' hent p hp
      have : ¬ (e ∈ (leftOf ms (seen ()).toArray).toList) := by
        have e0 : leftOf ms (seen ()).toArray = #[] := Array.eq_empty_of_size_eq_zero q1
        rw [e0]; simp
      unfold leftOf at this
      simp only [Array.toList_filter, List.mem_filter, not_and] at this
      have := this r1
      rw [← r2]
      simpa using this
  · have hmem : e ∈ ms.toList ∧ ¬ e.born ∈ seen () := by
      unfold leftOf at he
      simp only [Array.toList_filter, List.mem_filter] at he
      exact ⟨he.1, by simpa using he.2⟩
    obtain ⟨b, n, v, r1, r2, r3, r4⟩ := get hent e hmem.1
    have hk' := h5 b n v r1 (by rw [← r2]; exact hmem.2)
    rw [fV_eq, fEE_eq] at hk'
    have hsame : WSame w w1 := by rcases hw1 with rfl | rfl <;> first | exact ⟨rfl, rfl, ⟨rfl, Nat.le_refl _⟩, rfl⟩ | exact ⟨rfl, rfl, ⟨rfl, Nat.le_succ _⟩, rfl⟩
    have hr1 : w1.heap[g.B i]? = some (.mapIter (some (g.W j (f ()))) last (seen ()).toArray last) := by rw [hsame.heap]; exact hr
    have hinv := (h.same hsame).set (c := .mit (.hm j f) last last fun _ => seen () ++ [b]) (by rw [hE]; rfl) (setAt (ob' := .mapIter (some (g.W j (f ()))) last ((seen ()).toArray.push e.born) last) hr1)
      ⟨_, hRb, by rw [(setAt (ob' := .mapIter (some (g.W j (f ()))) last ((seen ()).toArray.push e.born) last) hr1).at_]; congr 2; rw [r2]; apply Array.ext'; simp⟩ rfl (fun T' t' xs' hc => by cases hc)
    refine ⟨.value (.tuple #[.bool true, e.key, e.val]), _, _, _, g, env, _, ?_, .inl rfl, hinv, R.mkTup (cs := [.tt, .int .i64 fun _ => n, v.av j]) (vs := [.bool true, e.key, e.val]) ⟨.tt, by rw [r3]; exact .int .i64 (fun _ => n), r4, trivial⟩, hk'⟩
    simp [execOp, ho, hv, q2, ChangeMaps.setBlock]
theorem entry_ok {x : Operand} (h : Inv B g env E a.tmps w) (ho : o.op = .entry x) (hk : eV P (.entry x) env E K) : Done P o a w B K := by
  simp only [eV] at hk
  unfold entryV at hk
  have hx := h.er.ev x
  split at hk <;> try exact hk.elim
  rename_i i ex
  rw [ex] at hx
  split at hk <;> try exact hk.elim
  rename_i j f since last seen hE
  split at hk <;> try exact hk.elim
  rename_i hp hEj
  obtain ⟨es, bb, en, h1, h2, h3, h4⟩ := hk.h
  rw [fV_eq] at h4
  have hs := h.sim.sat i
  rw [hE] at hs
  obtain ⟨b, hRb, hr⟩ := hs
  obtain ⟨hval, hj, hf⟩ := hRb.hm_iff
  cases hval
  obtain ⟨ms, hb, hent⟩ := h.sim.hmap hEj hf h1
  have hv : a.eval x = .pointer (some ⟨g.B i, 0, none⟩) := by generalize a.eval x = u at hx; cases hx; rfl
  have get : ∀ {es : List (Nat × Int × HV)} {ms : List MapEntry}, EntR g j es ms → es.find? (fun e => e.1 == bb) = some en → ∃ e, ms.find? (fun e => e.born == bb) = some e ∧ e.key = .int .i64 en.2.1 ∧ R g (en.2.2.av j) e.val := by
    intro es ms
    induction es generalizing ms with
    | nil => intro h he; cases he
    | cons p es ih =>
      obtain ⟨b, n, v⟩ := p
      intro h he
      cases ms with
      | nil => exact h.elim
      | cons e' ms =>
        obtain ⟨q1, q2, q3, q4⟩ := h
        simp only [List.find?_cons] at he ⊢
        rw [q1]
        cases hbb : b == bb with
        | true => rw [hbb] at he; cases he; exact ⟨e', rfl, q2, q3⟩
        | false => rw [hbb] at he; exact ih q4 he
  obtain ⟨e, r1, r2, r3⟩ := get hent h3
  have hback : (seen ()).toArray.back? = some bb := by rw [← h2]; simp
  have hfind : ms.find? (fun e => e.born == bb) = some e := by rw [← r1]; simp
  refine ⟨.value (.tuple #[e.key, e.val]), _, _, w, g, env, E, ?_, .inl rfl, h, R.mkTup (cs := [.int .i64 fun _ => en.2.1, en.2.2.av j]) (vs := [e.key, e.val]) ⟨by rw [r2]; exact .int .i64 (fun _ => en.2.1), r3, trivial⟩, h4⟩
  simp [execOp, ho, hv, Instr.entry, getObj, Sem.run, Sem.bind, hr, hb, hback, hfind]
end
end Go.Proofs.Ytafcenlbllmahaa.Fw
