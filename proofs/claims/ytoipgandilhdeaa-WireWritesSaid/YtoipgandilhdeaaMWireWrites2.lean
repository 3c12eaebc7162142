/- The law WireWrites holds at every input that its statement lets in; part 3 of its proof. -/
import Derived.Test.YtoipgandilhdeaaMWireWrites1
import Derived.Test.YtoipgandilhdeaaProg
set_option linter.unusedVariables false
set_option linter.unusedSimpArgs false
namespace Go.Proofs.Ytoipgandilhdeaa.Fw
open Go Go.RowKit

/-- A contract that says less. -/
theorem Meets.le {P : Program} {f : FuncId} {args : List AV} {E : List Chunk} {Y Y' : Type} {Q : Y → Prop} {res : Y → AV} {out : Y → List Chunk} {Q' : Y' → Prop} {res' : Y' → AV} {out' : Y' → List Chunk} (π : List Nat)
    (hm : Meets P f args E Q res out) (hn : nodupB π = true) (hh : headB (cellsL E) 0 π = true)
    (h : ∀ y, Q y → ∃ y', Q' y' ∧ LeV π (res y) (res' y') ∧ LeE π (out y) π (out' y')) : Meets P f args E Q' res' out' where
  callable := hm.callable
  h := by
    intro g w vals hS hr
    refine (hm.h g w vals hS hr).mono ?_
    rintro e w' ⟨y, c, g', hq, rfl, h1, h2, h3⟩
    obtain ⟨y', hq', hv, hE⟩ := h y hq
    have hI : Inv ⟨g, E, w⟩ g' [] (out y) #[] w' := ⟨fun t => .undef _, h2, h3⟩
    have hI' := hI.ren (env' := []) trivial hE hn hh
    exact ⟨y', c, g'.ren π, hq', rfl, LeV_ok _ _ _ hv h1, hI'.sim, hI'.ext⟩
end Go.Proofs.Ytoipgandilhdeaa.Fw
set_option linter.unusedVariables false
set_option linter.unusedSimpArgs false
namespace Go.Proofs.Ytoipgandilhdeaa.Fw
open Go Go.RowKit
def unrow : Chunk → Chunk
  | .row T t xs => .vect T t xs | c => c
theorem unrow_sat {g : Gh} {i : Nat} {w : World} {c : Chunk} (h : c.sat g i w) : (unrow c).sat g i w := by cases c <;> exact h
theorem unrow_blk (g : Gh) (i : Nat) (c : Chunk) : (unrow c).blk g i = c.blk g i := by cases c <;> rfl
theorem Inv.unrow {B : Base} {g : Gh} {env : Env} {E : List Chunk} {tmps : Array Value} {w : World} (h : Inv B g env E tmps w) {i : Nat} (hi : lenE B.E ≤ i) : Inv B g env (setE E i (unrow (getE E i))) tmps w := by
  have hget : ∀ j, getE (setE E i (Fw.unrow (getE E i))) j = if i = j then Fw.unrow (getE E j) else getE E j := by
    intro j
    rw [getE_set]
    by_cases hij : i = j
    · subst hij
      by_cases hl : i < lenE E
      · simp [hl]
      · have : getE E i = .none := by rw [getE_eq, List.getElem?_eq_none (by rw [← lenE_eq]; omega)]; rfl
        simp [hl, this, Fw.unrow]
    · simp [hij]
  have hb : ∀ j, (getE (setE E i (Fw.unrow (getE E i))) j).blk g j = (getE E j).blk g j := fun j => by
    rw [hget]; split
    · exact unrow_blk _ _ _
    · rfl
  refine ⟨h.er, ⟨by rw [lenE_set]; exact h.sim.len, h.sim.phi, fun j => ?_, fun j k b hj hk => h.sim.dis j k b (by rw [← hb]; exact hj) (by rw [← hb]; exact hk), fun j b hj => h.sim.dphi j b (by rw [← hb]; exact hj)⟩,
    ⟨h.ext.os, h.ext.tape, h.ext.output, h.ext.size, h.ext.keep, h.ext.phi, h.ext.phin, fun j b hj => h.ext.own j b (by rw [← hb]; exact hj), h.ext.n, h.ext.ids, h.ext.kk, fun j T' t xs hf hv => ?_⟩⟩
  · rw [hget]; split
    · exact unrow_sat (h.sim.sat j)
    · exact h.sim.sat j
  · rw [hget] at hv
    split at hv
    · have := fix_lt hf; omega
    · exact h.ext.kin j T' t xs hf hv
theorem RetN.unrow {M : List Bool} {env : Env} {E : List Chunk} {l : List AV} {Y : Type} {Q : Y → Prop} {res : Y → List AV} {out : Y → List Chunk} (i : Nat) (hM : Nat.ble M.length i = true) (h : RetN M env (setE E i (Fw.unrow (getE E i))) l Q res out) : RetN M env E l Q res out where
  h := by
    intro B g tmps w cs hB hI hr
    exact h.h B g tmps w cs hB (hI.unrow (by rw [← cellsL_len, hB]; exact Nat.le_of_ble_eq_true hM)) hr
def flat : Ty → Bool
  | .list _ => false | .pair a b => flat a && flat b | _ => true
theorem eqD_iff : ∀ (t : Ty), flat t = true → ∀ x y : t.den, (eqD t x y = true ↔ x = y)
  | .int k, _, x, y => by
    show (@BEq.beq Int _ x y = true ↔ x = y)
    exact beq_iff_eq
  | .bool, _, x, y => by
    show (@BEq.beq Bool _ x y = true ↔ x = y)
    exact beq_iff_eq
  | .str, _, x, y => by
    show (@BEq.beq (List UInt8) _ x y = true ↔ x = y)
    exact beq_iff_eq
  | .list e, h, x, y => by cases h
  | .pair a b, h, x, y => by
    have h : (flat a && flat b) = true := h
    rw [Bool.and_eq_true] at h
    show ((eqD a x.1 y.1 && eqD b x.2 y.2) = true ↔ x = y)
    rw [Bool.and_eq_true, eqD_iff a h.1, eqD_iff b h.2]
    exact Prod.ext_iff.symm
theorem eqD_no (t : Ty) (h : flat t = true) (x y : t.den) : eqD t x y = false ↔ x ≠ y := by
  rw [← Bool.not_eq_true, eqD_iff t h]
theorem take_eq_step {α : Type} {a b : List α} {i : Nat} {d : α} (hi : i < a.length) (hj : i < b.length) (h : a.take i = b.take i) (he : a.getD i d = b.getD i d) : a.take (i + 1) = b.take (i + 1) := by
  rw [List.getD_eq_getElem?_getD, List.getD_eq_getElem?_getD, List.getElem?_eq_getElem hi, List.getElem?_eq_getElem hj] at he
  rw [List.take_add_one, List.take_add_one, h, List.getElem?_eq_getElem hi, List.getElem?_eq_getElem hj]
  exact congrArg _ (congrArg _ (congrArg _ he))
/-- What a way's conditions come to. -/
theorem bs : (∀ (p : Prop) [Decidable p], (decide p = true) = p) ∧ (∀ (p : Prop) [Decidable p], (decide p = false) = ¬ p) ∧ (∀ (α : Type) [BEq α] [LawfulBEq α] (a b : α), ((a == b) = true) = (a = b)) ∧ (∀ (α : Type) [BEq α] [LawfulBEq α] (a b : α), ((a == b) = false) = ¬ a = b) ∧
    (∀ (α : Type) [BEq α] [LawfulBEq α] (a b : α), ((a != b) = true) = (a ≠ b)) ∧ (∀ (α : Type) [BEq α] [LawfulBEq α] (a b : α), ((a != b) = false) = (a = b)) ∧ (∀ b : Bool, ((!b) = true) = (b = false)) ∧ (∀ b : Bool, ((!b) = false) = (b = true)) ∧ ((!true) = false) ∧ ((!false) = true) :=
  ⟨fun _ _ => propext decide_eq_true_iff, fun _ _ => propext decide_eq_false_iff_not, fun _ _ _ _ _ => propext beq_iff_eq, fun _ _ _ _ _ => propext beq_eq_false_iff_ne, fun _ _ _ _ _ => propext bne_iff_ne, fun _ _ _ _ _ => propext bne_eq_false_iff_eq, fun _ => Bool.not_eq_true' _, fun _ => Bool.not_eq_false' _, rfl, rfl⟩
/-- A call by its contract, what is asked of the arguments shown at once. -/
theorem CallN.q {P : Program} {f : FuncId} {args args₀ : List AV} {env : Env} {E E₀ : List Chunk} {K : AV → Env → List Chunk → Prop} {Y : Type} {Q : Y → Prop} {res : Y → AV} {out : Y → List Chunk}
    (hs : Meets P f args₀ E₀ Q res out) (π : List Nat)
    (k : ∀ y, Q y → fV (mapV (renF π (lenE E)) (res y)) fun r => fEnv (mapEnv (calF π E₀) env) fun env' => fEE (merE (renF π (lenE E)) π (out y) (mapE (calF π E₀) E)) fun E' => K r env' E')
    (hn : nodupB π = true := by rfl) (hk : allK E₀ = true := by rfl)
    (ha : LeL π args args₀ := by ((repeat' ((conv => whnf) <;> first | exact rfl | exact trivial | apply And.intro | exact Nat.zero_add _)); done))
    (hE : LeE π E π E₀ := by ((repeat' ((conv => whnf) <;> first | exact rfl | exact trivial | apply And.intro | exact Nat.zero_add _)); done)) : CallN P f args env E K := CallN.intro hs π hn hk ha hE k
theorem RetN.q {M : List Bool} {env : Env} {E : List Chunk} {l : List AV} {Y : Type} {Q : Y → Prop} {res : Y → List AV} {out : Y → List Chunk} (y : Y) (π : List Nat)
    (hE : LeE π E π (out y)) (hl : LeL π l (res y)) (hq : Q y) (hn : nodupB π = true := by rfl) (hh : headB M 0 π = true := by rfl) : RetN M env E l Q res out := RetN.intro y π hn hh hE hl hq
end Go.Proofs.Ytoipgandilhdeaa.Fw
set_option linter.unusedVariables false
set_option linter.unusedSimpArgs false
namespace Go.Proofs.Ytoipgandilhdeaa.Nu
open Go Go.RowKit Fw
abbrev Bytes := List UInt8
theorem wr {x : Int} (h : -9223372036854775808 ≤ x ∧ x ≤ 9223372036854775807) : IntKind.i64.wrap x = x := by rw [IntKind.wrap_i64]; omega
theorem wru8 (x : Int) : IntKind.u8.wrap x = x % 256 := by simp [IntKind.wrap, IntKind.bits, IntKind.signed]
theorem wrapu64 (x : Int) : IntKind.u64.wrap x = x % 18446744073709551616 := by simp [IntKind.wrap, IntKind.bits, IntKind.signed]
theorem wru64 {x : Int} (h : 0 ≤ x ∧ x < 18446744073709551616) : IntKind.u64.wrap x = x := by rw [wrapu64]; omega
theorem u64_range (x : Int) : 0 ≤ IntKind.u64.wrap x ∧ IntKind.u64.wrap x < 18446744073709551616 := by rw [wrapu64]; omega
/-- The i-th of w bytes. -/
def byteAt (n : Int) (w i : Nat) : Int := n / (256 : Int) ^ (w - 1 - i) % 256
def wide (n : Int) (w : Nat) : Bytes := (List.range w).map fun i => UInt8.ofNat (byteAt n w i).toNat
theorem wide_len (n : Int) (w : Nat) : (wide n w).length = w := by simp [wide]
def narrow (s : Bytes) : Nat := s.foldl (fun n b => 256 * n + b.toNat) 0
theorem narrow_snoc (s : Bytes) (b : UInt8) : narrow (s ++ [b]) = 256 * narrow s + b.toNat := by simp [narrow]
theorem foldl_lt : ∀ (s : Bytes) (n : Nat), s.foldl (fun n b => 256 * n + b.toNat) n < 256 ^ s.length * (n + 1)
  | [], n => by simp
  | b :: r, n => by
    have h := foldl_lt r (256 * n + b.toNat)
    have hb := b.toNat_lt
    simp only [List.foldl_cons, List.length_cons]
    refine Nat.lt_of_lt_of_le h ?_
    rw [Nat.pow_succ, Nat.mul_assoc]
    exact Nat.mul_le_mul_left _ (by omega)
theorem narrow_lt (s : Bytes) : narrow s < 256 ^ s.length := by
  have := foldl_lt s 0
  simpa [narrow] using this
theorem narrow_lt8 {s : Bytes} (h : s.length ≤ 8) : narrow s < 18446744073709551616 := by
  refine Nat.lt_of_lt_of_le (narrow_lt s) ?_
  calc 256 ^ s.length ≤ 256 ^ 8 := Nat.pow_le_pow_right (by decide) h
    _ = 18446744073709551616 := by decide
/-- The number of w bytes at a place, the place behind, and what is wrong. -/
def number (s : Bytes) (at_ : Int) (w : Nat) : Int × Int × Int :=
  if at_ < 0 ∨ (s.length : Int) < at_ then (0, 0, 1) else if (s.length : Int) < at_ + w then (0, 0, 2) else (narrow ((s.drop at_.toNat).take w), at_ + w, 0)
def put (s : Bytes) : Bytes × Bool := if s.length ≤ 255 then (UInt8.ofNat s.length :: s, true) else ([], false)
def text (s : Bytes) (at_ : Int) : Bytes × Int × Int :=
  if (number s at_ 1).2.2 ≠ 0 then ([], 0, (number s at_ 1).2.2)
  else if (s.length : Int) < at_ + 1 + (number s at_ 1).1 then ([], 0, 2)
  else ((s.drop (at_ + 1).toNat).take (number s at_ 1).1.toNat, at_ + 1 + (number s at_ 1).1, 0)
/-- A shift by bytes. -/
theorem shr_byte (n : Int) (k : Nat) (hk : k ≤ 7) : n.fdiv (2 ^ (min ((8 * k : Nat) : Int).toNat 64)) = n / (256 : Int) ^ k := by
  rw [Int.toNat_natCast, Nat.min_eq_left (by omega), Int.fdiv_eq_ediv_of_nonneg _ (Int.le_of_lt (Int.pow_pos (by decide))), Int.pow_mul]
  rfl
theorem or_byte {a b : Nat} (h : 256 * a < 18446744073709551616) (hb : b < 256) :
    IntKind.u64.wrap (BitVec.ofInt IntKind.u64.bits (256 * a : Nat) ||| BitVec.ofInt IntKind.u64.bits (b : Nat)).toNat = ((256 * a + b : Nat) : Int) := by
  have h1 : (BitVec.ofInt IntKind.u64.bits ((256 * a : Nat) : Int) ||| BitVec.ofInt IntKind.u64.bits ((b : Nat) : Int)).toNat = 256 * a + b := by
    have e1 : (BitVec.ofInt IntKind.u64.bits ((256 * a : Nat) : Int)).toNat = 256 * a := by
      rw [BitVec.ofInt_natCast, BitVec.toNat_ofNat]
      exact Nat.mod_eq_of_lt h
    have e2 : (BitVec.ofInt IntKind.u64.bits ((b : Nat) : Int)).toNat = b := by
      rw [BitVec.ofInt_natCast, BitVec.toNat_ofNat]
      exact Nat.mod_eq_of_lt (Nat.lt_trans hb (by decide))
    rw [BitVec.toNat_or, e1, e2]
    have := Nat.two_pow_add_eq_or_of_lt (i := 8) (b := b) hb a
    rw [← this]
  rw [h1]
  have h2 : 256 * a + b < 18446744073709551616 := by omega
  rw [wru64 (by omega)]
end Go.Proofs.Ytoipgandilhdeaa.Nu
set_option linter.unusedVariables false
set_option linter.unusedSimpArgs false
namespace Go.Proofs.Ytoipgandilhdeaa.Nu
open Go Go.RowKit Fw
theorem hm : Try.prog.follows .mixedOrders = true := by kernel_rfl
theorem wr2 {n : Nat} (i : Nat) (h : i < n) (hn : n ≤ 1000000000) : IntKind.i64.wrap ((i : Int) + 1) = ((i + 1 : Nat) : Int) := by rw [wr (by omega)]; omega
/-- The first i of w bytes. -/
def wideTo (n : Int) (w i : Nat) : List Int := (List.range w).map fun j => if j < i then byteAt n w j else 0
theorem wideTo_set (n : Int) (w i : Nat) (h : i < w) : (wideTo n w i).set i (byteAt n w i) = wideTo n w (i + 1) := by
  apply List.ext_getElem
  · simp [wideTo]
  · intro j h1 h2
    rw [List.getElem_set]
    simp only [wideTo, List.getElem_map, List.getElem_range]
    by_cases e : i = j
    · subst e; simp
    · rw [if_neg e]
      by_cases hj : j < i
      · rw [if_pos hj, if_pos (by omega)]
      · rw [if_neg hj, if_neg (by omega)]
theorem wideTo_all (n : Int) (w : Nat) : (wideTo n w w).map (fun z => UInt8.ofNat z.toNat) = wide n w := by
  simp only [wideTo, wide, List.map_map]
  apply List.map_congr_left
  intro j hj
  have : j < w := by simpa using hj
  simp [this]
theorem wideTo_zero (n : Int) (w : Nat) : wideTo n w 0 = List.replicate w 0 := by
  apply List.ext_getElem <;> simp [wideTo]
/-- The last k of w bytes. -/
def wideFrom (n : Int) (w k : Nat) : List Int := (List.range w).map fun j => if w - k ≤ j then byteAt n w j else 0
theorem wideFrom_zero (n : Int) (w : Nat) : wideFrom n w 0 = List.replicate w 0 := by
  apply List.ext_getElem
  · simp [wideFrom]
  · intro j h1 h2
    have : j < w := by simpa [wideFrom] using h1
    simp only [wideFrom, List.getElem_map, List.getElem_range, List.getElem_replicate]
    rw [if_neg (by omega)]
theorem wideFrom_set (n : Int) (w k : Nat) (h : k < w) : (wideFrom n w k).set (w - 1 - k) (n / (256 : Int) ^ k % 256) = wideFrom n w (k + 1) := by
  apply List.ext_getElem
  · simp [wideFrom]
  · intro j h1 h2
    have hjw : j < w := by simpa [wideFrom] using h2
    rw [List.getElem_set]
    simp only [wideFrom, List.getElem_map, List.getElem_range]
    by_cases e : w - 1 - k = j
    · subst e
      rw [if_pos rfl, if_pos (by omega), byteAt, show w - 1 - (w - 1 - k) = k by omega]
    · rw [if_neg e]
      by_cases hj : w - k ≤ j
      · rw [if_pos hj, if_pos (by omega)]
      · rw [if_neg hj, if_neg (by omega)]
theorem wideFrom_all (n : Int) (w : Nat) : wideFrom n w w = wideTo n w w := by
  simp only [wideFrom, wideTo]
  apply List.map_congr_left
  intro j hj
  have : j < w := by simpa using hj
  rw [if_pos (by omega), if_pos this]
theorem wideM (n : Int) (w : Nat) (hw : w ≤ 8) : Meets Try.prog 78 [.int .u64 fun _ => n, .int .i64 fun _ => (w : Int)] [] (Y := Unit) (fun _ => True) (fun _ => .str fun _ => wide n w) (fun _ => []) := by
  refine Meets.intro hm (fn := Try.f78) Try.func78 rfl (by decide) (Nat.le_of_ble_eq_true rfl) (fun _ => rfl) ?_; intro S hok; (conv => whnf)
  (repeat' ((conv => whnf); first | apply And.intro | exact ⟨by kernel_rfl⟩ | apply DrawN.mk | apply CodeN.step hm rfl | exact trivial | exact rfl | (intro hh; try simp only [bs] at hh))); all_goals (conv => whnf)
  · exfalso; omega
  · refine Ob.mk ?_
    have e : ((Try.t5.bytes : Nat) : Int) = 1 := rfl
    simp only [e]; omega
  · refine LoopN.intro hm (X := Nat) (fun i => i ≤ w) (fun i => w - i)
      (fun i => [(17, .int .i64 fun _ => (i : Int)), (16, .int .i64 fun _ => (w : Int)), (5, .vec 0 1 (fun _ => 0) fun _ => w), (0, .int .u64 fun _ => n), (1, .int .i64 fun _ => (w : Int))])
      (fun i => [.vect 5 (.int .u8) fun _ => wideTo n w i]) 0 [0] ⟨rfl, rfl, ?_, ?_⟩ (Nat.zero_le _) (fun i hi => ?_)
    · (repeat' ((conv => whnf) <;> first | exact rfl | exact trivial | apply And.intro | exact Nat.zero_add _))
      all_goals ((conv => whnf); first | exact (wideTo_zero n w).symm | skip)
    · (repeat' ((conv => whnf) <;> first | exact rfl | exact trivial | apply And.intro | exact Nat.zero_add _))
    · (repeat' ((conv => whnf); first | apply And.intro | exact ⟨by kernel_rfl⟩ | apply DrawN.mk | apply CodeN.step hm rfl | exact trivial | exact rfl | (intro hh; try simp only [bs] at hh))); all_goals (conv => whnf)
      · refine Ob.mk ?_
        have e1 : IntKind.i64.wrap ((w : Int) - 1) = (w : Int) - 1 := wr (by omega)
        have e2 : IntKind.i64.wrap ((w : Int) - 1 - i) = (w : Int) - 1 - i := wr (by omega)
        have e3 : IntKind.i64.wrap (8 * ((w : Int) - 1 - i)) = 8 * ((w : Int) - 1 - i) := wr (by omega)
        simp only [e1, e2, e3]; omega
      · (refine Ob.mk ?_; (try simp only [Ty.dflt, Nat.zero_add, Nat.add_zero, Int.toNat_natCast, Int.toNat_zero, Int.toNat_one, List.length_take, List.length_drop, List.length_append, List.length_replicate, List.length_cons, List.length_nil, List.length_set, List.length_map, true_and, and_true]); omega)
      · have hi1 : i < w := by omega
        have e1 : IntKind.i64.wrap ((w : Int) - 1) = (w : Int) - 1 := wr (by omega)
        have e2 : IntKind.i64.wrap ((w : Int) - 1 - i) = (w : Int) - 1 - i := wr (by omega)
        have e3 : IntKind.i64.wrap (8 * ((w : Int) - 1 - i)) = ((8 * (w - 1 - i) : Nat) : Int) := by rw [wr (by omega)]; omega
        have hb : IntKind.u8.wrap (n.fdiv (2 ^ (min (IntKind.i64.wrap (8 * (IntKind.i64.wrap (IntKind.i64.wrap ((w : Int) - 1) - i)))).toNat IntKind.u64.bits))) = byteAt n w i := by
          rw [e1, e2, e3, wru8]
          exact congrArg (· % 256) (shr_byte n (w - 1 - i) (by omega))
        have hset : (wideTo n w i).set (0 + (i : Int).toNat) (byteAt n w i) = wideTo n w (i + 1) := by
          rw [Nat.zero_add]; exact wideTo_set n w i hi1
        rw [← hb] at hset
        refine ⟨i + 1, [0], ⟨rfl, rfl, ?_, ?_⟩, hi1, by omega⟩
        · (repeat' ((conv => whnf) <;> first | exact rfl | exact trivial | apply And.intro | exact Nat.zero_add _))
          all_goals ((conv => whnf); first | exact hset | skip)
        · (repeat' ((conv => whnf) <;> first | exact rfl | exact trivial | apply And.intro | exact Nat.zero_add _)); all_goals ((conv => whnf); try simp only [])
          exact wr2 i hi1 (by omega)
      · have e : i = w := by omega
        subst e
        (refine RetN.q () [] ?_ ?_ ?_ <;> (repeat' ((conv => whnf) <;> first | exact rfl | exact trivial | apply And.intro | exact Nat.zero_add _)); all_goals ((conv => whnf); try simp only []))
        rw [List.drop_zero, List.take_of_length_le (by simp [wideTo])]
        exact wideTo_all n i
  · exfalso; omega
theorem rwideM (n : Int) (w : Nat) (hw : w ≤ 8) (hn : 0 ≤ n ∧ n < 18446744073709551616) : Meets Try.prog 63 [.int .u64 fun _ => n, .int .i64 fun _ => (w : Int)] [] (Y := Unit) (fun _ => True) (fun _ => .str fun _ => wide n w) (fun _ => []) := by
  refine Meets.intro hm (fn := Try.f63) Try.func63 rfl (by decide) (Nat.le_of_ble_eq_true rfl) (fun _ => rfl) ?_; intro S hok; (conv => whnf)
  (repeat' ((conv => whnf); first | apply And.intro | exact ⟨by kernel_rfl⟩ | apply DrawN.mk | apply CodeN.step hm rfl | exact trivial | exact rfl | (intro hh; try simp only [bs] at hh))); all_goals (conv => whnf)
  · exfalso; omega
  · refine Ob.mk ?_
    have e : ((Try.t5.bytes : Nat) : Int) = 1 := rfl
    simp only [e]; omega
  · refine LoopN.intro hm (X := Nat) (fun k => k ≤ w) (fun k => w - k)
      (fun k => [(6, .int .i64 fun _ => (w : Int) - 1 - k), (5, .vec 0 1 (fun _ => 0) fun _ => w), (0, .int .u64 fun _ => n / (256 : Int) ^ k)])
      (fun k => [.vect 5 (.int .u8) fun _ => wideFrom n w k]) 0 [0] ⟨rfl, rfl, ?_, ?_⟩ (Nat.zero_le _) (fun k hk => ?_)
    · (repeat' ((conv => whnf) <;> first | exact rfl | exact trivial | apply And.intro | exact Nat.zero_add _))
      all_goals ((conv => whnf); first | exact (wideFrom_zero n w).symm | skip)
    · (repeat' ((conv => whnf) <;> first | exact rfl | exact trivial | apply And.intro | exact Nat.zero_add _)); all_goals ((conv => whnf); try simp only [])
      all_goals first | (rw [wr (by omega)]; simp; done) | (simp; done) | skip
    · have hp : (0 : Int) < (256 : Int) ^ k := Int.pow_pos (by decide)
      have hq0 : 0 ≤ n / (256 : Int) ^ k := Int.ediv_nonneg hn.1 (Int.le_of_lt hp)
      have hq1 : n / (256 : Int) ^ k ≤ n := Int.ediv_le_self _ hn.1
      (repeat' ((conv => whnf); first | apply And.intro | exact ⟨by kernel_rfl⟩ | apply DrawN.mk | apply CodeN.step hm rfl | exact trivial | exact rfl | (intro hh; try simp only [bs] at hh))); all_goals (conv => whnf)
      · exact Ob.mk (by decide)
      · (refine Ob.mk ?_; (try simp only [Ty.dflt, Nat.zero_add, Nat.add_zero, Int.toNat_natCast, Int.toNat_zero, Int.toNat_one, List.length_take, List.length_drop, List.length_append, List.length_replicate, List.length_cons, List.length_nil, List.length_set, List.length_map, true_and, and_true]); omega)
      · exact Ob.mk (by decide)
      · have hk1 : k < w := by omega
        have e1 : IntKind.u8.wrap ((n / (256 : Int) ^ k).tmod 256) = n / (256 : Int) ^ k % 256 := by
          rw [wru8, Int.tmod_eq_emod_of_nonneg hq0]; omega
        have e2 : IntKind.u64.wrap ((n / (256 : Int) ^ k).tdiv 256) = n / (256 : Int) ^ (k + 1) := by
          rw [Int.tdiv_eq_ediv_of_nonneg hq0, wru64 (by omega), Int.pow_succ, Int.ediv_ediv, if_neg (fun h => by have := h.1; omega), Int.sub_zero]
        have hset : (wideFrom n w k).set (0 + ((w : Int) - 1 - k).toNat) (n / (256 : Int) ^ k % 256) = wideFrom n w (k + 1) := by
          rw [Nat.zero_add, show ((w : Int) - 1 - k).toNat = w - 1 - k by omega]; exact wideFrom_set n w k hk1
        rw [← e1] at hset
        refine ⟨k + 1, [0], ⟨rfl, rfl, ?_, ?_⟩, hk1, by omega⟩
        · (repeat' ((conv => whnf) <;> first | exact rfl | exact trivial | apply And.intro | exact Nat.zero_add _))
          all_goals ((conv => whnf); first | exact hset | skip)
        · (repeat' ((conv => whnf) <;> first | exact rfl | exact trivial | apply And.intro | exact Nat.zero_add _)); all_goals ((conv => whnf); try simp only [])
          · rw [wr (by omega)]; omega
          · exact e2
      · have e : k = w := by omega
        subst e
        (refine RetN.q () [] ?_ ?_ ?_ <;> (repeat' ((conv => whnf) <;> first | exact rfl | exact trivial | apply And.intro | exact Nat.zero_add _)); all_goals ((conv => whnf); try simp only []))
        rw [List.drop_zero, List.take_of_length_le (by simp [wideFrom]), wideFrom_all]
        exact wideTo_all n k
  · exfalso; omega
theorem narrowM (s : Bytes) (hs : s.length ≤ 8) : Meets Try.prog 80 [.str fun _ => s] [] (Y := Unit) (fun _ => True) (fun _ => .tup [.int .u64 fun _ => narrow s, .tt]) (fun _ => []) := by
  refine Meets.intro hm (fn := Try.f80) Try.func80 rfl (by decide) (Nat.le_of_ble_eq_true rfl) (fun _ => rfl) ?_; intro S hok; (conv => whnf)
  (repeat' ((conv => whnf); first | apply And.intro | exact ⟨by kernel_rfl⟩ | apply DrawN.mk | apply CodeN.step hm rfl | exact trivial | exact rfl | (intro hh; try simp only [bs] at hh))); all_goals (conv => whnf)
  · exfalso; omega
  · exact Ob.mk (by simp only []; omega)
  · refine LoopN.intro hm (X := Nat) (fun i => i ≤ s.length) (fun i => s.length - i)
      (fun i => [(13, .int .i64 fun _ => (i : Int)), (12, .int .i64 fun _ => (s.length : Int)), (11, .lst (.int .u8) fun _ => s.map fun b => (b.toNat : Int)), (4, .int .u64 fun _ => (narrow (s.take i) : Int))])
      (fun i => []) 0 [] ⟨rfl, rfl, ?_, ?_⟩ (Nat.zero_le _) (fun i hi => ?_)
    · (repeat' ((conv => whnf) <;> first | exact rfl | exact trivial | apply And.intro | exact Nat.zero_add _))
    · (repeat' ((conv => whnf) <;> first | exact rfl | exact trivial | apply And.intro | exact Nat.zero_add _)); all_goals ((conv => whnf); try simp only [])
      all_goals first | (simp; done) | rfl | skip
    · (repeat' ((conv => whnf); first | apply And.intro | exact ⟨by kernel_rfl⟩ | apply DrawN.mk | apply CodeN.step hm rfl | exact trivial | exact rfl | (intro hh; try simp only [bs] at hh))); all_goals (conv => whnf)
      · (refine Ob.mk ?_; (try simp only [Ty.dflt, Nat.zero_add, Nat.add_zero, Int.toNat_natCast, Int.toNat_zero, Int.toNat_one, List.length_take, List.length_drop, List.length_append, List.length_replicate, List.length_cons, List.length_nil, List.length_set, List.length_map, true_and, and_true]); omega)
      · exact Ob.mk (by decide)
      · have hi1 : i < s.length := by omega
        have hb : (s.getD i 0).toNat < 256 := UInt8.toNat_lt _
        have hlt := narrow_lt8 (s := s.take i ++ [s.getD i 0]) (by simp; omega)
        rw [narrow_snoc] at hlt
        have hst : s.take (i + 1) = s.take i ++ [s.getD i 0] := by
          rw [List.take_add_one, List.getElem?_eq_getElem hi1, List.getD_eq_getElem?_getD, List.getElem?_eq_getElem hi1]; rfl
        have hg : (s.map fun b => (b.toNat : Int)).getD (i : Int).toNat (Ty.dflt (.int .u8)) = (((s.getD i 0).toNat : Nat) : Int) := by
          rw [Int.toNat_natCast, List.getD_eq_getElem?_getD, List.getD_eq_getElem?_getD, List.getElem?_map, List.getElem?_eq_getElem hi1]; rfl
        have e1 : IntKind.u64.wrap ((narrow (s.take i) : Int) * 2 ^ (min (8 : Int).toNat IntKind.u64.bits)) = ((256 * narrow (s.take i) : Nat) : Int) := by
          have : (2 : Int) ^ (min (8 : Int).toNat IntKind.u64.bits) = 256 := by decide
          rw [this, wru64 (by omega)]; omega
        have e2 : IntKind.u64.wrap (((s.getD i 0).toNat : Nat) : Int) = (((s.getD i 0).toNat : Nat) : Int) := wru64 (by omega)
        have e3 := or_byte (a := narrow (s.take i)) (b := (s.getD i 0).toNat) (by omega) hb
        refine ⟨i + 1, [], ⟨rfl, rfl, ?_, ?_⟩, hi1, by omega⟩
        · (repeat' ((conv => whnf) <;> first | exact rfl | exact trivial | apply And.intro | exact Nat.zero_add _))
        · (repeat' ((conv => whnf) <;> first | exact rfl | exact trivial | apply And.intro | exact Nat.zero_add _)); all_goals ((conv => whnf); try simp only [])
          · exact wr2 i hi1 (by omega)
          · rw [hg, e1, e2, e3, hst, narrow_snoc]
      · have e : i = s.length := by omega
        subst e
        (refine RetN.q () [] ?_ ?_ ?_ <;> (repeat' ((conv => whnf) <;> first | exact rfl | exact trivial | apply And.intro | exact Nat.zero_add _)); all_goals ((conv => whnf); try simp only []))
        rw [List.take_length]
theorem rnarrowM (s : Bytes) (hs : s.length ≤ 8) : Meets Try.prog 81 [.str fun _ => s] [] (Y := Unit) (fun _ => True) (fun _ => .tup [.int .u64 fun _ => narrow s, .tt]) (fun _ => []) := by
  refine Meets.intro hm (fn := Try.f81) Try.func81 rfl (by decide) (Nat.le_of_ble_eq_true rfl) (fun _ => rfl) ?_; intro S hok; (conv => whnf)
  (repeat' ((conv => whnf); first | apply And.intro | exact ⟨by kernel_rfl⟩ | apply DrawN.mk | apply CodeN.step hm rfl | exact trivial | exact rfl | (intro hh; try simp only [bs] at hh))); all_goals (conv => whnf)
  · exfalso; omega
  · refine LoopN.intro hm (X := Nat) (fun i => i ≤ s.length) (fun i => s.length - i)
      (fun i => [(5, .int .i64 fun _ => (i : Int)), (0, .str fun _ => s), (4, .int .u64 fun _ => (narrow (s.take i) : Int))])
      (fun i => []) 0 [] ⟨rfl, rfl, ?_, ?_⟩ (Nat.zero_le _) (fun i hi => ?_)
    · (repeat' ((conv => whnf) <;> first | exact rfl | exact trivial | apply And.intro | exact Nat.zero_add _))
    · (repeat' ((conv => whnf) <;> first | exact rfl | exact trivial | apply And.intro | exact Nat.zero_add _))
    · (repeat' ((conv => whnf); first | apply And.intro | exact ⟨by kernel_rfl⟩ | apply DrawN.mk | apply CodeN.step hm rfl | exact trivial | exact rfl | (intro hh; try simp only [bs] at hh))); all_goals (conv => whnf)
      · (refine Ob.mk ?_; (try simp only [Ty.dflt, Nat.zero_add, Nat.add_zero, Int.toNat_natCast, Int.toNat_zero, Int.toNat_one, List.length_take, List.length_drop, List.length_append, List.length_replicate, List.length_cons, List.length_nil, List.length_set, List.length_map, true_and, and_true]); omega)
      · have hi1 : i < s.length := by omega
        have hb : (s.getD i 0).toNat < 256 := UInt8.toNat_lt _
        have hlt := narrow_lt8 (s := s.take i ++ [s.getD i 0]) (by simp; omega)
        rw [narrow_snoc] at hlt
        have hst : s.take (i + 1) = s.take i ++ [s.getD i 0] := by
          rw [List.take_add_one, List.getElem?_eq_getElem hi1, List.getD_eq_getElem?_getD, List.getElem?_eq_getElem hi1]; rfl
        have hg : s.getD (i : Int).toNat 0 = s.getD i 0 := rfl
        have e1 : IntKind.u64.wrap (256 * (narrow (s.take i) : Int)) = ((256 * narrow (s.take i) : Nat) : Int) := by
          rw [wru64 (by omega)]; omega
        have e2 : IntKind.u64.wrap (((s.getD i 0).toNat : Nat) : Int) = (((s.getD i 0).toNat : Nat) : Int) := wru64 (by omega)
        refine ⟨i + 1, [], ⟨rfl, rfl, ?_, ?_⟩, hi1, by omega⟩
        · (repeat' ((conv => whnf) <;> first | exact rfl | exact trivial | apply And.intro | exact Nat.zero_add _))
        · (repeat' ((conv => whnf) <;> first | exact rfl | exact trivial | apply And.intro | exact Nat.zero_add _)); all_goals ((conv => whnf); try simp only [])
          · exact wr2 i hi1 (by omega)
          · rw [hg, e1, e2, wru64 (by omega), hst, narrow_snoc]; omega
      · have e : i = s.length := by omega
        subst e
        (refine RetN.q () [] ?_ ?_ ?_ <;> (repeat' ((conv => whnf) <;> first | exact rfl | exact trivial | apply And.intro | exact Nat.zero_add _)); all_goals ((conv => whnf); try simp only []))
        rw [List.take_length]
end Go.Proofs.Ytoipgandilhdeaa.Nu
set_option linter.unusedVariables false
set_option linter.unusedSimpArgs false
namespace Go.Proofs.Ytoipgandilhdeaa.Nu
open Go Go.RowKit Fw
def numAV (r : Int × Int × Int) : AV := .tup [.int .u64 fun _ => r.1, .int .i64 fun _ => r.2.1, .int .i64 fun _ => r.2.2]
def txtAV (r : Bytes × Int × Int) : AV := .tup [.str fun _ => r.1, .int .i64 fun _ => r.2.1, .int .i64 fun _ => r.2.2]
theorem n_arg {s : Bytes} {t : Int} {w : Nat} (h : t < 0 ∨ (s.length : Int) < t) : number s t w = (0, 0, 1) := by unfold number; rw [if_pos h]
theorem n_cut {s : Bytes} {t : Int} {w : Nat} (h0 : 0 ≤ t ∧ t ≤ s.length) (h : (s.length : Int) < t + w) : number s t w = (0, 0, 2) := by unfold number; rw [if_neg (by omega), if_pos h]
theorem n_ok {s : Bytes} {t : Int} {w : Nat} (h0 : 0 ≤ t ∧ t ≤ s.length) (h : t + w ≤ (s.length : Int)) : number s t w = (((narrow ((s.drop t.toNat).take w) : Nat) : Int), t + w, 0) := by unfold number; rw [if_neg (by omega), if_neg (by omega)]
theorem numberM (s : Bytes) (t : Int) (w : Nat) (hw : w ≤ 8) (hs : s.length ≤ 1000000) : Meets Try.prog 65 [.str fun _ => s, .int .i64 fun _ => t, .int .i64 fun _ => (w : Int)] [] (Y := Unit) (fun _ => True) (fun _ => numAV (number s t w)) (fun _ => []) := by
  refine Meets.intro hm (fn := Try.f65) Try.func65 rfl (by decide) (Nat.le_of_ble_eq_true rfl) (fun _ => rfl) ?_; intro S hok; (conv => whnf)
  (repeat' ((conv => whnf); first | apply And.intro | exact ⟨by kernel_rfl⟩ | apply DrawN.mk | apply CodeN.step hm rfl | exact trivial | exact rfl | (intro hh; try simp only [bs] at hh))); all_goals (conv => whnf)
  · have hn : number s t w = (0, 0, 1) := n_arg (by omega)
    (refine RetN.q () [] ?_ ?_ ?_ <;> (repeat' ((conv => whnf) <;> first | exact rfl | exact trivial | apply And.intro | exact Nat.zero_add _)); all_goals ((conv => whnf); try simp only []))
    all_goals rw [hn]
  · exact Ob.mk (by simp only []; omega)
  · have hd : ((s.drop t.toNat).take w).length = (s.drop t.toNat).length - ((s.drop t.toNat).length - w) := by simp; omega
    rw [Int.toNat_natCast, List.take_length, List.length_drop] at hh
    have hn : number s t w = (0, 0, 2) := n_cut (by omega) (by omega)
    (refine RetN.q () [] ?_ ?_ ?_ <;> (repeat' ((conv => whnf) <;> first | exact rfl | exact trivial | apply And.intro | exact Nat.zero_add _)); all_goals ((conv => whnf); try simp only []))
    all_goals rw [hn]
  · rw [Int.toNat_natCast, List.take_length, List.length_drop] at hh
    refine Ob.mk ?_
    simp only [Int.toNat_natCast, List.take_length, List.length_drop]; omega
  · rw [Int.toNat_natCast, List.take_length, List.length_drop] at hh
    have hn : number s t w = (((narrow ((s.drop t.toNat).take w) : Nat) : Int), t + w, 0) := n_ok (by omega) (by omega)
    have e : List.drop (Int.toNat 0) (List.take ((w : Nat) : Int).toNat (List.drop t.toNat (List.take (((s.length : Nat) : Int)).toNat s))) = (s.drop t.toNat).take w := by
      rw [Int.toNat_natCast, Int.toNat_natCast, List.take_length]; rfl
    simp only [e]
    (refine CallN.q (narrowM ((s.drop t.toNat).take w) (by rw [List.length_take]; omega)) [] (fun _ _ => ?_); (repeat' ((conv => whnf); first | apply And.intro | exact ⟨by kernel_rfl⟩ | apply DrawN.mk | apply CodeN.step hm rfl | exact trivial | exact rfl | (intro hh; try simp only [bs] at hh; try exact absurd hh (by decide)))); all_goals (conv => whnf); all_goals try exact ⟨by decide⟩)
    (refine RetN.q () [] ?_ ?_ ?_ <;> (repeat' ((conv => whnf) <;> first | exact rfl | exact trivial | apply And.intro | exact Nat.zero_add _)); all_goals ((conv => whnf); try simp only []))
    all_goals rw [hn]
    exact wr (by omega)
  · have hn : number s t w = (0, 0, 1) := n_arg (by omega)
    (refine RetN.q () [] ?_ ?_ ?_ <;> (repeat' ((conv => whnf) <;> first | exact rfl | exact trivial | apply And.intro | exact Nat.zero_add _)); all_goals ((conv => whnf); try simp only []))
    all_goals rw [hn]
  · exfalso; omega
  · exfalso; omega
theorem rnumberM (s : Bytes) (t : Int) (w : Nat) (hw : w ≤ 8) (hs : s.length ≤ 1000000) : Meets Try.prog 67 [.str fun _ => s, .int .i64 fun _ => t, .int .i64 fun _ => (w : Int)] [] (Y := Unit) (fun _ => True) (fun _ => numAV (number s t w)) (fun _ => []) := by
  refine Meets.intro hm (fn := Try.f67) Try.func67 rfl (by decide) (Nat.le_of_ble_eq_true rfl) (fun _ => rfl) ?_; intro S hok; (conv => whnf)
  (repeat' ((conv => whnf); first | apply And.intro | exact ⟨by kernel_rfl⟩ | apply DrawN.mk | apply CodeN.step hm rfl | exact trivial | exact rfl | (intro hh; try simp only [bs] at hh))); all_goals (conv => whnf)
  · have hn : number s t w = (0, 0, 1) := n_arg (by omega)
    (refine RetN.q () [] ?_ ?_ ?_ <;> (repeat' ((conv => whnf) <;> first | exact rfl | exact trivial | apply And.intro | exact Nat.zero_add _)); all_goals ((conv => whnf); try simp only []))
    all_goals rw [hn]
  · rw [wr (by omega)] at hh
    have hn : number s t w = (0, 0, 2) := n_cut (by omega) (by omega)
    (refine RetN.q () [] ?_ ?_ ?_ <;> (repeat' ((conv => whnf) <;> first | exact rfl | exact trivial | apply And.intro | exact Nat.zero_add _)); all_goals ((conv => whnf); try simp only []))
    all_goals rw [hn]
  · rw [wr (by omega)] at hh
    have e : IntKind.i64.wrap (t + w) = t + w := wr (by omega)
    exact Ob.mk (by simp only [e]; omega)
  · rw [wr (by omega)] at hh
    have hn : number s t w = (((narrow ((s.drop t.toNat).take w) : Nat) : Int), t + w, 0) := n_ok (by omega) (by omega)
    have e : IntKind.i64.wrap (t + w) = t + w := wr (by omega)
    have e2 : List.drop t.toNat (List.take (t + w).toNat s) = (s.drop t.toNat).take w := by
      rw [List.drop_take]; congr 1; omega
    simp only [e, e2]
    (refine CallN.q (rnarrowM ((s.drop t.toNat).take w) (by rw [List.length_take]; omega)) [] (fun _ _ => ?_); (repeat' ((conv => whnf); first | apply And.intro | exact ⟨by kernel_rfl⟩ | apply DrawN.mk | apply CodeN.step hm rfl | exact trivial | exact rfl | (intro hh; try simp only [bs] at hh; try exact absurd hh (by decide)))); all_goals (conv => whnf); all_goals try exact ⟨by decide⟩)
    (refine RetN.q () [] ?_ ?_ ?_ <;> (repeat' ((conv => whnf) <;> first | exact rfl | exact trivial | apply And.intro | exact Nat.zero_add _)); all_goals ((conv => whnf); try simp only []))
    all_goals rw [hn]
    exact e
  · have hn : number s t w = (0, 0, 1) := n_arg (by omega)
    (refine RetN.q () [] ?_ ?_ ?_ <;> (repeat' ((conv => whnf) <;> first | exact rfl | exact trivial | apply And.intro | exact Nat.zero_add _)); all_goals ((conv => whnf); try simp only []))
    all_goals rw [hn]
  · exfalso; omega
  · exfalso; omega
theorem putM (s : Bytes) (hs : s.length ≤ 1000000) : Meets Try.prog 60 [.str fun _ => s] [] (Y := Unit) (fun _ => True) (fun _ => .tup [.str fun _ => (put s).1, .bool fun _ => (put s).2]) (fun _ => []) := by
  refine Meets.intro hm (fn := Try.f60) Try.func60 rfl (by decide) (Nat.le_of_ble_eq_true rfl) (fun _ => rfl) ?_; intro S hok; (conv => whnf)
  (repeat' ((conv => whnf); first | apply And.intro | exact ⟨by kernel_rfl⟩ | apply DrawN.mk | apply CodeN.step hm rfl | exact trivial | exact rfl | (intro hh; try simp only [bs] at hh))); all_goals (conv => whnf)
  · have hp : put s = ([], false) := by unfold put; rw [if_neg (by omega)]
    (refine RetN.q () [] ?_ ?_ ?_ <;> (repeat' ((conv => whnf) <;> first | exact rfl | exact trivial | apply And.intro | exact Nat.zero_add _)); all_goals ((conv => whnf); try simp only []))
    all_goals rw [hp]
  · exact Ob.mk (by simp; omega)
  · have hp : put s = (UInt8.ofNat s.length :: s, true) := by unfold put; rw [if_pos (by omega)]
    have e : IntKind.u8.wrap (s.length : Int) = (s.length : Int) := by rw [wru8]; omega
    (refine RetN.q () [] ?_ ?_ ?_ <;> (repeat' ((conv => whnf) <;> first | exact rfl | exact trivial | apply And.intro | exact Nat.zero_add _)); all_goals ((conv => whnf); try simp only []))
    all_goals rw [hp]
    simp only [e]
    rfl
theorem rputM (s : Bytes) (hs : s.length ≤ 1000000) : Meets Try.prog 34 [.str fun _ => s] [] (Y := Unit) (fun _ => True) (fun _ => .tup [.str fun _ => (put s).1, .bool fun _ => (put s).2]) (fun _ => []) := by
  refine Meets.intro hm (fn := Try.f34) Try.func34 rfl (by decide) (Nat.le_of_ble_eq_true rfl) (fun _ => rfl) ?_; intro S hok; (conv => whnf)
  (repeat' ((conv => whnf); first | apply And.intro | exact ⟨by kernel_rfl⟩ | apply DrawN.mk | apply CodeN.step hm rfl | exact trivial | exact rfl | (intro hh; try simp only [bs] at hh))); all_goals (conv => whnf)
  · have hp : put s = ([], false) := by unfold put; rw [if_neg (by omega)]
    (refine RetN.q () [] ?_ ?_ ?_ <;> (repeat' ((conv => whnf) <;> first | exact rfl | exact trivial | apply And.intro | exact Nat.zero_add _)); all_goals ((conv => whnf); try simp only []))
    all_goals rw [hp]
  · exact Ob.mk (by simp; omega)
  · have hp : put s = (UInt8.ofNat s.length :: s, true) := by unfold put; rw [if_pos (by omega)]
    have e : IntKind.u8.wrap (s.length : Int) = (s.length : Int) := by rw [wru8]; omega
    (refine RetN.q () [] ?_ ?_ ?_ <;> (repeat' ((conv => whnf) <;> first | exact rfl | exact trivial | apply And.intro | exact Nat.zero_add _)); all_goals ((conv => whnf); try simp only []))
    all_goals rw [hp]
    simp only [e]
    rfl
theorem narrow_one (s : Bytes) (t : Nat) (h : t < s.length) : narrow ((s.drop t).take 1) = (s.getD t 0).toNat := by
  have e : (s.drop t).take 1 = [s.getD t 0] := by
    rw [List.drop_eq_getElem_cons h, List.getD_eq_getElem?_getD, List.getElem?_eq_getElem h]; rfl
  rw [e]; simp [narrow]
theorem number_one (s : Bytes) (t : Int) : ((number s t 1).2.2 = 0 → 0 ≤ t ∧ t + 1 ≤ s.length ∧ (number s t 1).2.1 = t + 1 ∧ (number s t 1).1 = (s.getD t.toNat 0).toNat) ∧ 0 ≤ (number s t 1).1 ∧ (number s t 1).1 < 256 := by
  by_cases h1 : t < 0 ∨ (s.length : Int) < t
  · rw [n_arg h1]; simp
  · by_cases h2 : (s.length : Int) < t + (1 : Nat)
    · rw [n_cut (by omega) h2]; simp
    · have h1' : 0 ≤ t ∧ t ≤ s.length := by omega
      have h2' : t + ((1 : Nat) : Int) ≤ s.length := by omega
      rw [n_ok h1' h2', narrow_one s t.toNat (by omega)]
      have := UInt8.toNat_lt (s.getD t.toNat 0)
      refine ⟨fun _ => ⟨by omega, by omega, rfl, rfl⟩, Int.natCast_nonneg _, ?_⟩
      show (((s.getD t.toNat 0).toNat : Nat) : Int) < 256
      omega
theorem t_ok {s : Bytes} {t : Int} (h : (number s t 1).2.2 = 0) : text s t = if (s.length : Int) < t + 1 + (s.getD t.toNat 0).toNat then ([], 0, 2) else ((s.drop (t + 1).toNat).take (s.getD t.toNat 0).toNat, t + 1 + (s.getD t.toNat 0).toNat, 0) := by
  obtain ⟨h1, _⟩ := number_one s t
  obtain ⟨_, _, _, h5⟩ := h1 h
  unfold text
  rw [if_neg (by omega), h5]; rfl
theorem textM (s : Bytes) (t : Int) (hs : s.length ≤ 1000000) : Meets Try.prog 66 [.str fun _ => s, .int .i64 fun _ => t] [] (Y := Unit) (fun _ => True) (fun _ => txtAV (text s t)) (fun _ => []) := by
  refine Meets.intro hm (fn := Try.f66) Try.func66 rfl (by decide) (Nat.le_of_ble_eq_true rfl) (fun _ => rfl) ?_; intro S hok; (conv => whnf)
  (repeat' ((conv => whnf); first | apply And.intro | exact ⟨by kernel_rfl⟩ | apply DrawN.mk | apply CodeN.step hm rfl | exact trivial | exact rfl | (intro hh; try simp only [bs] at hh))); all_goals (conv => whnf)
  obtain ⟨h1, h2, h3⟩ := number_one s t
  (refine CallN.q (numberM s t 1 (by omega) hs) [] (fun _ _ => ?_); (repeat' ((conv => whnf); first | apply And.intro | exact ⟨by kernel_rfl⟩ | apply DrawN.mk | apply CodeN.step hm rfl | exact trivial | exact rfl | (intro hh; try simp only [bs] at hh; try exact absurd hh (by decide)))); all_goals (conv => whnf); all_goals try exact ⟨by decide⟩)
  · have ht : text s t = ([], 0, (number s t 1).2.2) := by unfold text; rw [if_pos hh]
    (refine RetN.q () [] ?_ ?_ ?_ <;> (repeat' ((conv => whnf) <;> first | exact rfl | exact trivial | apply And.intro | exact Nat.zero_add _)); all_goals ((conv => whnf); try simp only []))
    all_goals rw [ht]
  all_goals
    have h0 : (number s t 1).2.2 = 0 := by assumption
    obtain ⟨g1, g2, g3, g4⟩ := h1 h0
    have e1 : IntKind.i64.wrap (number s t 1).1 = ((s.getD t.toNat 0).toNat : Int) := by rw [g4]; exact wr (by omega)
    have e2 : IntKind.i64.wrap (t + 1 + ((s.getD t.toNat 0).toNat : Int)) = t + 1 + ((s.getD t.toNat 0).toNat : Int) := wr (by omega)
    have ht := t_ok h0
    simp only [g3, e1, e2] at hh ⊢
  · rw [if_pos hh] at ht
    (refine RetN.q () [] ?_ ?_ ?_ <;> (repeat' ((conv => whnf) <;> first | exact rfl | exact trivial | apply And.intro | exact Nat.zero_add _)); all_goals ((conv => whnf); try simp only []))
    all_goals rw [ht]
  · exact Ob.mk (by try simp only []
                    omega)
  · rw [if_neg hh] at ht
    (refine RetN.q () [] ?_ ?_ ?_ <;> (repeat' ((conv => whnf) <;> first | exact rfl | exact trivial | apply And.intro | exact Nat.zero_add _)); all_goals ((conv => whnf); try simp only []))
    all_goals rw [ht]
    rw [List.drop_take]; congr 1; omega
theorem rtextM (s : Bytes) (t : Int) (hs : s.length ≤ 1000000) : Meets Try.prog 44 [.str fun _ => s, .int .i64 fun _ => t] [] (Y := Unit) (fun _ => True) (fun _ => txtAV (text s t)) (fun _ => []) := by
  refine Meets.intro hm (fn := Try.f44) Try.func44 rfl (by decide) (Nat.le_of_ble_eq_true rfl) (fun _ => rfl) ?_; intro S hok; (conv => whnf)
  (repeat' ((conv => whnf); first | apply And.intro | exact ⟨by kernel_rfl⟩ | apply DrawN.mk | apply CodeN.step hm rfl | exact trivial | exact rfl | (intro hh; try simp only [bs] at hh))); all_goals (conv => whnf)
  · have ht : text s t = ([], 0, 1) := by unfold text; rw [n_arg (by omega)]; rfl
    (refine RetN.q () [] ?_ ?_ ?_ <;> (repeat' ((conv => whnf) <;> first | exact rfl | exact trivial | apply And.intro | exact Nat.zero_add _)); all_goals ((conv => whnf); try simp only []))
    all_goals rw [ht]
  · (refine Ob.mk ?_; (try simp only [Ty.dflt, Nat.zero_add, Nat.add_zero, Int.toNat_natCast, Int.toNat_zero, Int.toNat_one, List.length_take, List.length_drop, List.length_append, List.length_replicate, List.length_cons, List.length_nil, List.length_set, List.length_map, true_and, and_true]); omega)
  all_goals first
    | (have ht : text s t = ([], 0, 1) := by unfold text; rw [n_arg (by omega)]; rfl
       (refine RetN.q () [] ?_ ?_ ?_ <;> (repeat' ((conv => whnf) <;> first | exact rfl | exact trivial | apply And.intro | exact Nat.zero_add _)); all_goals ((conv => whnf); try simp only []))
       all_goals rw [ht]
       done)
    | (have ht : text s t = ([], 0, 2) := by unfold text; rw [n_cut (by omega) (by omega)]; rfl
       (refine RetN.q () [] ?_ ?_ ?_ <;> (repeat' ((conv => whnf) <;> first | exact rfl | exact trivial | apply And.intro | exact Nat.zero_add _)); all_goals ((conv => whnf); try simp only []))
       all_goals rw [ht]
       done)
    | ((refine Ob.mk ?_; (try simp only [Ty.dflt, Nat.zero_add, Nat.add_zero, Int.toNat_natCast, Int.toNat_zero, Int.toNat_one, List.length_take, List.length_drop, List.length_append, List.length_replicate, List.length_cons, List.length_nil, List.length_set, List.length_map, true_and, and_true]); omega))
    | skip
  all_goals
    have hb := UInt8.toNat_lt (s.getD t.toNat 0)
    have hne : t ≠ (s.length : Int) := by assumption
    have h0 : (number s t 1).2.2 = 0 := by rw [n_ok (by omega) (by omega)]
    have ht := t_ok h0
    have e1 : IntKind.i64.wrap ((s.getD t.toNat 0).toNat : Int) = ((s.getD t.toNat 0).toNat : Int) := wr (by omega)
    have e2 : IntKind.i64.wrap (t + 1) = t + 1 := wr (by omega)
    have e3 : IntKind.i64.wrap (t + 1 + ((s.getD t.toNat 0).toNat : Int)) = t + 1 + ((s.getD t.toNat 0).toNat : Int) := wr (by omega)
    have e4 : IntKind.i64.wrap ((s.length : Int) - t) = (s.length : Int) - t := wr (by omega)
    have e5 : IntKind.i64.wrap ((s.length : Int) - t - 1) = (s.length : Int) - t - 1 := wr (by omega)
    simp only [e1, e2, e3, e4, e5] at hh ⊢
  · rw [if_pos (by omega)] at ht
    (refine RetN.q () [] ?_ ?_ ?_ <;> (repeat' ((conv => whnf) <;> first | exact rfl | exact trivial | apply And.intro | exact Nat.zero_add _)); all_goals ((conv => whnf); try simp only []))
    all_goals rw [ht]
  · exact Ob.mk (by try simp only []
                    omega)
  · rw [if_neg (by omega)] at ht
    (refine RetN.q () [] ?_ ?_ ?_ <;> (repeat' ((conv => whnf) <;> first | exact rfl | exact trivial | apply And.intro | exact Nat.zero_add _)); all_goals ((conv => whnf); try simp only []))
    all_goals rw [ht]
    rw [List.drop_take]; congr 1; omega
end Go.Proofs.Ytoipgandilhdeaa.Nu
set_option linter.unusedVariables false
set_option linter.unusedSimpArgs false
namespace Go.Proofs.Ytoipgandilhdeaa.An
open Go Go.RowKit Fw Nu
def byv (s : Bytes) : List Int := s.map fun b => (b.toNat : Int)
theorem byv_len (s : Bytes) : (byv s).length = s.length := by simp [byv]
theorem byv_app (a b : Bytes) : byv (a ++ b) = byv a ++ byv b := by simp [byv]
theorem byv_back (s : Bytes) : (byv s).map (fun z => UInt8.ofNat z.toNat) = s := by
  rw [byv, List.map_map]
  conv => rhs; rw [← List.map_id s]
  apply List.map_congr_left
  intro b _
  simp
theorem byv_range (s : Bytes) : ∀ z ∈ byv s, 0 ≤ z ∧ z < 256 := by
  intro z hz
  obtain ⟨b, _, rfl⟩ := List.mem_map.1 hz
  have := b.toNat_lt
  omega
/-- A writer: fresh; and with bytes. -/
def w0 (wrong : Bool) : List Chunk := [.cells 104 [.pnil, .snil, .bool fun _ => wrong]]
def wN (s : Bytes) (wrong : Bool) : List Chunk := [.cells 104 [.ptr 0 0, .vec 1 1 (fun _ => 0) (fun _ => s.length), .bool fun _ => wrong], .vect 5 (.int .u8) fun _ => byv s]
theorem check0 (wrong : Bool) : Meets Try.prog 79 [.ptr 0 0] (w0 wrong) (Y := Unit) (fun _ => True) (fun _ => .tup []) (fun _ => [.cells 104 [.ptr 0 0, .snil, .bool fun _ => wrong]]) := by
  refine Meets.intro hm (fn := Try.f79) Try.func79 rfl (by decide) (Nat.le_of_ble_eq_true rfl) (fun _ => rfl) ?_; intro S hok; (conv => whnf)
  (repeat' ((conv => whnf); first | apply And.intro | exact ⟨by kernel_rfl⟩ | apply DrawN.mk | apply CodeN.step hm rfl | exact trivial | exact rfl | (intro hh; try simp only [bs] at hh))); all_goals (conv => whnf)
  · exact ⟨_, rfl, by kernel_rfl, by kernel_rfl, by kernel_rfl, by kernel_rfl⟩
  · (refine RetN.q () [0] ?_ ?_ ?_ <;> (repeat' ((conv => whnf) <;> first | exact rfl | exact trivial | apply And.intro | exact Nat.zero_add _)); all_goals ((conv => whnf); try simp only []))
theorem checkN (s : Bytes) (wrong : Bool) : Meets Try.prog 79 [.ptr 0 0] (wN s wrong) (Y := Unit) (fun _ => True) (fun _ => .tup []) (fun _ => wN s wrong) := by
  refine Meets.intro hm (fn := Try.f79) Try.func79 rfl (by decide) (Nat.le_of_ble_eq_true rfl) (fun _ => rfl) ?_; intro S hok; (conv => whnf)
  (repeat' ((conv => whnf); first | apply And.intro | exact ⟨by kernel_rfl⟩ | apply DrawN.mk | apply CodeN.step hm rfl | exact trivial | exact rfl | (intro hh; try simp only [bs] at hh))); all_goals (conv => whnf)
  (refine RetN.q () [0, 1] ?_ ?_ ?_ <;> (repeat' ((conv => whnf) <;> first | exact rfl | exact trivial | apply And.intro | exact Nat.zero_add _)); all_goals ((conv => whnf); try simp only []))
theorem write0 (t : Bytes) (wrong : Bool) (ht : t.length ≤ 1000000) : Meets Try.prog 61 [.ptr 0 0, .str fun _ => t] (w0 wrong) (Y := Unit) (fun _ => True) (fun _ => .tup [.int .i64 fun _ => t.length, .inil]) (fun _ => wN t wrong) := by
  refine Meets.intro hm (fn := Try.f61) Try.func61 rfl (by decide) (Nat.le_of_ble_eq_true rfl) (fun _ => rfl) ?_; intro S hok; (conv => whnf)
  (repeat' ((conv => whnf); first | apply And.intro | exact ⟨by kernel_rfl⟩ | apply DrawN.mk | apply CodeN.step hm rfl | exact trivial | exact rfl | (intro hh; try simp only [bs] at hh))); all_goals (conv => whnf)
  (refine CallN.q (check0 wrong) [0] (fun _ _ => ?_); (repeat' ((conv => whnf); first | apply And.intro | exact ⟨by kernel_rfl⟩ | apply DrawN.mk | apply CodeN.step hm rfl | exact trivial | exact rfl | (intro hh; try simp only [bs] at hh; try exact absurd hh (by decide)))); all_goals (conv => whnf); all_goals try exact ⟨by decide⟩)
  · exact Ob.mk (by simp only []; omega)
  · (refine RetN.q () [0, 1] ?_ ?_ ?_ <;> (repeat' ((conv => whnf) <;> first | exact rfl | exact trivial | apply And.intro | exact Nat.zero_add _)); all_goals ((conv => whnf); try simp only []))
theorem writeN (s t : Bytes) (wrong : Bool) (ht : s.length + t.length ≤ 1000000) : Meets Try.prog 61 [.ptr 0 0, .str fun _ => t] (wN s wrong) (Y := Unit) (fun _ => True) (fun _ => .tup [.int .i64 fun _ => t.length, .inil]) (fun _ => wN (s ++ t) wrong) := by
  refine Meets.intro hm (fn := Try.f61) Try.func61 rfl (by decide) (Nat.le_of_ble_eq_true rfl) (fun _ => rfl) ?_; intro S hok; (conv => whnf)
  (repeat' ((conv => whnf); first | apply And.intro | exact ⟨by kernel_rfl⟩ | apply DrawN.mk | apply CodeN.step hm rfl | exact trivial | exact rfl | (intro hh; try simp only [bs] at hh))); all_goals (conv => whnf)
  (refine CallN.q (checkN s wrong) [0, 1] (fun _ _ => ?_); (repeat' ((conv => whnf); first | apply And.intro | exact ⟨by kernel_rfl⟩ | apply DrawN.mk | apply CodeN.step hm rfl | exact trivial | exact rfl | (intro hh; try simp only [bs] at hh; try exact absurd hh (by decide)))); all_goals (conv => whnf); all_goals try exact ⟨by decide⟩)
  · exact Ob.mk ⟨rfl, by simp only []; omega⟩
  · (refine RetN.q () [0, 1] ?_ ?_ ?_ <;> (repeat' ((conv => whnf) <;> first | exact rfl | exact trivial | apply And.intro | exact Nat.zero_add _)); all_goals ((conv => whnf); try simp only []))
    all_goals first | (rw [byv_app, ← byv_len s, List.take_length]; rfl) | (rw [List.length_append]) | skip
theorem stringN (s : Bytes) (wrong : Bool) (hs : 0 < s.length ∧ s.length ≤ 1000000) : Meets Try.prog 62 [.ptr 0 0] (wN s wrong) (Y := Unit) (fun _ => True) (fun _ => .str fun _ => s) (fun _ => [.cells 104 [.undef, .undef, .bool fun _ => wrong], .none]) := by
  refine Meets.intro hm (fn := Try.f62) Try.func62 rfl (by decide) (Nat.le_of_ble_eq_true rfl) (fun _ => rfl) ?_; intro S hok; (conv => whnf)
  (repeat' ((conv => whnf); first | apply And.intro | exact ⟨by kernel_rfl⟩ | apply DrawN.mk | apply CodeN.step hm rfl | exact trivial | exact rfl | (intro hh; try simp only [bs] at hh))); all_goals (conv => whnf)
  · exact Ob.mk ⟨rfl, by simp only []; omega⟩
  · exact Ob.mk ⟨rfl, by simp only []; omega, by simp only [byv_len]; omega, by simp only [byv_len]; omega, byv_range s⟩
  · (refine RetN.q () [0, 1] ?_ ?_ ?_ <;> (repeat' ((conv => whnf) <;> first | exact rfl | exact trivial | apply And.intro | exact Nat.zero_add _)); all_goals ((conv => whnf); try simp only []))
    rw [Int.toNat_natCast, ← byv_len s, List.take_length]; exact byv_back s
end Go.Proofs.Ytoipgandilhdeaa.An
set_option linter.unusedVariables false
set_option linter.unusedSimpArgs false
namespace Go.Proofs.Ytoipgandilhdeaa.An
open Go Go.RowKit Fw Nu
def fitsB (n : Int) (w : Nat) : Bool := decide (0 ≤ n) && decide (n < (256 : Int) ^ w)
/-- Numbers, each with its width: their bytes, and whether one does not fit. -/
def wides (l : List (Int × Nat)) : Bytes := l.flatMap fun x => wide (IntKind.u64.wrap x.1) x.2
def bads (l : List (Int × Nat)) : Bool := l.any fun x => !fitsB x.1 x.2
theorem wides_step (l : List (Int × Nat)) (i : Nat) (x : Int × Nat) (h : l[i]? = some x) (s : Bytes) : s ++ wides (l.take i) ++ wide (IntKind.u64.wrap x.1) x.2 = s ++ wides (l.take (i + 1)) := by
  rw [List.take_add_one, h, wides, wides, List.flatMap_append, List.append_assoc]
  simp
theorem bads_step (l : List (Int × Nat)) (i : Nat) (x : Int × Nat) (h : l[i]? = some x) : bads (l.take (i + 1)) = (bads (l.take i) || !fitsB x.1 x.2) := by
  rw [List.take_add_one, h, bads, bads, List.any_append]
  simp
theorem wides_len (l : List (Int × Nat)) : (wides l).length = (l.map (·.2)).sum := by
  induction l with
  | nil => rfl
  | cons x r ih => simp only [wides, List.flatMap_cons, List.length_append, wide_len, List.map_cons, List.sum_cons] at ih ⊢; rw [ih]
theorem shr_ne {n : Int} {w : Nat} (hw : w ≤ 7) (h0 : 0 ≤ n) : (n.fdiv (2 ^ (min (8 * (w : Int)).toNat IntKind.i64.bits)) ≠ 0) ↔ fitsB n w = false := by
  have e : min (8 * (w : Int)).toNat IntKind.i64.bits = 8 * w := by
    have : IntKind.i64.bits = 64 := rfl
    omega
  rw [e, Int.fdiv_eq_ediv_of_nonneg _ (Int.le_of_lt (Int.pow_pos (by decide))), Int.pow_mul]
  have e2 : ((2 : Int) ^ 8) = 256 := by decide
  rw [e2, fitsB, decide_eq_true h0, Bool.true_and, decide_eq_false_iff_not]
  have hp : (0 : Int) < (256 : Int) ^ w := Int.pow_pos (by decide)
  constructor
  · intro h hlt
    exact h (Int.ediv_eq_zero_of_lt h0 hlt)
  · intro h e
    apply h
    have := Int.lt_ediv_add_one_mul_self n hp
    rw [e] at this
    simpa using this
theorem fits_neg {n : Int} {w : Nat} (h : n < 0) : fitsB n w = false := by
  rw [fitsB, decide_eq_false (by omega)]; rfl
abbrev VerT : Ty := .pair .bool (.pair (.int .i64) (.pair (.int .i64) (.int .i64)))
abbrev ToldT : Ty := .pair (.int .i64) VerT
abbrev Told := Int × Bool × Int × Int × Int
abbrev NameT : Ty := .pair (.int .i64) .str
abbrev Name := Int × Bytes
abbrev PolT : Ty := .pair (.int .i64) (.pair (.int .i64) (.pair (.int .i64) (.int .i64)))
abbrev AnsT : Ty := .pair (.int .i64) (.pair (.int .i64) (.pair (.list ToldT) (.pair (.int .i64) (.pair PolT (.pair (.int .i64) (.pair (.int .i64) (.list NameT)))))))
abbrev Ans := Int × Int × List Told × Int × (Int × Int × Int × Int) × Int × Int × List Name
end Go.Proofs.Ytoipgandilhdeaa.An
set_option linter.unusedVariables false
set_option linter.unusedSimpArgs false
namespace Go.Proofs.Ytoipgandilhdeaa.An
open Go Go.RowKit Fw Nu
theorem bad_step {l : List (Int × Nat)} {i : Nat} {x : Int × Nat} {wrong f f' : Bool} (h : l[i]? = some x) (hf : f = (wrong || bads (l.take i)))
    (hc : (f = true ∧ f' = true) ∨ (x.1 < 0 ∧ f' = true) ∨ (f = false ∧ ¬ x.1 < 0 ∧ f' = (x.1.fdiv (2 ^ (min (IntKind.i64.wrap (8 * (x.2 : Int))).toNat IntKind.i64.bits)) != 0))) (hw : x.2 ≤ 7) : f' = (wrong || bads (l.take (i + 1))) := by
  rw [bads_step l i x h, ← Bool.or_assoc, ← hf]
  rcases hc with ⟨h1, h2⟩ | ⟨h1, h2⟩ | ⟨h1, h2, h3⟩
  · rw [h1, h2]; rfl
  · rw [h2, fits_neg h1]; simp
  · rw [h1, h3, Bool.false_or]
    have e : IntKind.i64.wrap (8 * (x.2 : Int)) = 8 * (x.2 : Int) := wr (by omega)
    rw [e, Bool.eq_iff_iff]
    have := shr_ne (n := x.1) hw (by omega)
    simp only [bne_iff_ne, this, Bool.not_eq_true']
/-- One number. -/
theorem oneM (s : Bytes) (wrong : Bool) (n : Int) (hs : s.length ≤ 900000) : Meets Try.prog 57 [.ptr 0 0, .vec 2 2 (fun _ => 0) fun _ => 1]
    (wN s wrong ++ [.cells 109 [.ptr 3 0, .int .i64 fun _ => 1], .cells 3 [.int .i64 fun _ => n]]) (Y := Unit) (fun _ => True) (fun _ => .tup []) (fun _ => wN (s ++ wides [(n, 1)]) (wrong || bads [(n, 1)]) ++ [.none, .cells 3 [.int .i64 fun _ => n]]) := by
  refine Meets.intro hm (fn := Try.f57) Try.func57 rfl (by decide) (Nat.le_of_ble_eq_true rfl) (fun _ => rfl) ?_; intro S hok; (conv => whnf)
  (repeat' ((conv => whnf); first | apply And.intro | exact ⟨by kernel_rfl⟩ | apply DrawN.mk | apply CodeN.step hm rfl | exact trivial | exact rfl | (intro hh; try simp only [bs] at hh))); all_goals (conv => whnf)
  refine LoopN.intro hm (X := Nat × Bytes × Bool) (fun x => x.1 ≤ 1 ∧ x.2.1 = s ++ wides ([(n, 1)].take x.1) ∧ x.2.2 = (wrong || bads ([(n, 1)].take x.1))) (fun x => 1 - x.1)
    (fun x => [(8, .int .i64 fun _ => (x.1 : Int)), (7, .int .i64 fun _ => 1), (6, .vec 2 2 (fun _ => 0) fun _ => 1), (0, .ptr 0 0)])
    (fun x => [.cells 104 [.ptr 0 0, .vec 1 1 (fun _ => 0) (fun _ => x.2.1.length), .bool fun _ => x.2.2], .vect 5 (.int .u8) fun _ => byv x.2.1, .cells 109 [.ptr 3 0, .int .i64 fun _ => 1], .cells 3 [.int .i64 fun _ => n]]) (0, s, wrong) [0, 1, 2, 3] ⟨rfl, rfl, ?_, ?_⟩ ⟨Nat.zero_le _, by simp [wides], by simp [bads]⟩ (fun x hx => ?_)
  · (repeat' ((conv => whnf) <;> first | exact rfl | exact trivial | apply And.intro | exact Nat.zero_add _))
  · (repeat' ((conv => whnf) <;> first | exact rfl | exact trivial | apply And.intro | exact Nat.zero_add _))
  · obtain ⟨i, b, f⟩ := x
    obtain ⟨hi, hb, hf⟩ := hx
    simp only [] at hi hb hf
    have hbl : b.length ≤ 990000 := by
      have h1 : (wides ([(n, 1)].take i)).length ≤ 100 := by
        rw [wides_len]; revert hi; clear hb hf; intro hi
        obtain rfl | rfl : i = 0 ∨ i = 1 := by omega
        all_goals (simp only [List.take, List.map, List.sum_cons, List.sum_nil]; omega)
      rw [hb, List.length_append]; omega
    obtain rfl | rfl : i = 0 ∨ i = 1 := by omega
    · have hx : [(n, 1)][0]? = some (n, 1) := rfl
      (repeat' ((conv => whnf); first | apply And.intro | exact ⟨by kernel_rfl⟩ | apply DrawN.mk | apply CodeN.step hm rfl | exact trivial | exact rfl | (intro hh; try simp only [bs] at hh))); all_goals (conv => whnf)
      all_goals first | (exact Ob.mk (by decide)) | (exact Ob.mk (by simp)) | skip
      rotate_right
      · exact absurd (by decide) hh
      · (refine CallN.q (wideM (IntKind.u64.wrap (n)) 1 (by omega)) [] (fun _ _ => ?_); (repeat' ((conv => whnf); first | apply And.intro | exact ⟨by kernel_rfl⟩ | apply DrawN.mk | apply CodeN.step hm rfl | exact trivial | exact rfl | (intro hh; try simp only [bs] at hh; try exact absurd hh (by decide)))); all_goals (conv => whnf); all_goals try exact ⟨by decide⟩)
        (refine CallN.q (writeN b (wide (IntKind.u64.wrap (n)) 1) ((n).fdiv (2 ^ (min (IntKind.i64.wrap (8 * 1)).toNat IntKind.i64.bits)) != 0) (by rw [wide_len]; omega)) [0, 1] (fun _ _ => ?_); (repeat' ((conv => whnf); first | apply And.intro | exact ⟨by kernel_rfl⟩ | apply DrawN.mk | apply CodeN.step hm rfl | exact trivial | exact rfl | (intro hh; try simp only [bs] at hh; try exact absurd hh (by decide)))); all_goals (conv => whnf); all_goals try exact ⟨by decide⟩)
        refine ⟨(1, b ++ wide (IntKind.u64.wrap (n)) 1, ((n).fdiv (2 ^ (min (IntKind.i64.wrap (8 * 1)).toNat IntKind.i64.bits)) != 0)), [0, 1, 2, 3], ⟨rfl, rfl, ?_, ?_⟩, ⟨by simp only []; omega, ?_, ?_⟩, by simp only []; omega⟩
        · (repeat' ((conv => whnf) <;> first | exact rfl | exact trivial | apply And.intro | exact Nat.zero_add _))
        · (repeat' ((conv => whnf) <;> first | exact rfl | exact trivial | apply And.intro | exact Nat.zero_add _))
        · simp only []; rw [hb]; exact wides_step _ 0 _ hx _
        · exact bad_step hx hf (.inr (.inr ⟨by assumption, by assumption, rfl⟩)) (Nat.le_of_ble_eq_true rfl)
      · (refine CallN.q (wideM (IntKind.u64.wrap (n)) 1 (by omega)) [] (fun _ _ => ?_); (repeat' ((conv => whnf); first | apply And.intro | exact ⟨by kernel_rfl⟩ | apply DrawN.mk | apply CodeN.step hm rfl | exact trivial | exact rfl | (intro hh; try simp only [bs] at hh; try exact absurd hh (by decide)))); all_goals (conv => whnf); all_goals try exact ⟨by decide⟩)
        (refine CallN.q (writeN b (wide (IntKind.u64.wrap (n)) 1) true (by rw [wide_len]; omega)) [0, 1] (fun _ _ => ?_); (repeat' ((conv => whnf); first | apply And.intro | exact ⟨by kernel_rfl⟩ | apply DrawN.mk | apply CodeN.step hm rfl | exact trivial | exact rfl | (intro hh; try simp only [bs] at hh; try exact absurd hh (by decide)))); all_goals (conv => whnf); all_goals try exact ⟨by decide⟩)
        refine ⟨(1, b ++ wide (IntKind.u64.wrap (n)) 1, true), [0, 1, 2, 3], ⟨rfl, rfl, ?_, ?_⟩, ⟨by simp only []; omega, ?_, ?_⟩, by simp only []; omega⟩
        · (repeat' ((conv => whnf) <;> first | exact rfl | exact trivial | apply And.intro | exact Nat.zero_add _))
        · (repeat' ((conv => whnf) <;> first | exact rfl | exact trivial | apply And.intro | exact Nat.zero_add _))
        · simp only []; rw [hb]; exact wides_step _ 0 _ hx _
        · exact bad_step hx hf (.inr (.inl ⟨by assumption, rfl⟩)) (Nat.le_of_ble_eq_true rfl)
      · (refine CallN.q (wideM (IntKind.u64.wrap (n)) 1 (by omega)) [] (fun _ _ => ?_); (repeat' ((conv => whnf); first | apply And.intro | exact ⟨by kernel_rfl⟩ | apply DrawN.mk | apply CodeN.step hm rfl | exact trivial | exact rfl | (intro hh; try simp only [bs] at hh; try exact absurd hh (by decide)))); all_goals (conv => whnf); all_goals try exact ⟨by decide⟩)
        (refine CallN.q (writeN b (wide (IntKind.u64.wrap (n)) 1) true (by rw [wide_len]; omega)) [0, 1] (fun _ _ => ?_); (repeat' ((conv => whnf); first | apply And.intro | exact ⟨by kernel_rfl⟩ | apply DrawN.mk | apply CodeN.step hm rfl | exact trivial | exact rfl | (intro hh; try simp only [bs] at hh; try exact absurd hh (by decide)))); all_goals (conv => whnf); all_goals try exact ⟨by decide⟩)
        refine ⟨(1, b ++ wide (IntKind.u64.wrap (n)) 1, true), [0, 1, 2, 3], ⟨rfl, rfl, ?_, ?_⟩, ⟨by simp only []; omega, ?_, ?_⟩, by simp only []; omega⟩
        · (repeat' ((conv => whnf) <;> first | exact rfl | exact trivial | apply And.intro | exact Nat.zero_add _))
        · (repeat' ((conv => whnf) <;> first | exact rfl | exact trivial | apply And.intro | exact Nat.zero_add _))
        · simp only []; rw [hb]; exact wides_step _ 0 _ hx _
        · exact bad_step hx hf (.inl ⟨by assumption, rfl⟩) (Nat.le_of_ble_eq_true rfl)
    · (repeat' ((conv => whnf); first | apply And.intro | exact ⟨by kernel_rfl⟩ | apply DrawN.mk | apply CodeN.step hm rfl | exact trivial | exact rfl | (intro hh; try simp only [bs] at hh))); all_goals (conv => whnf)
      all_goals first | (exfalso; exact absurd hh (by decide)) | skip
      rw [List.take_of_length_le (by simp)] at hb hf
      (refine RetN.q () [0, 1, 2, 3] ?_ ?_ ?_ <;> (repeat' ((conv => whnf) <;> first | exact rfl | exact trivial | apply And.intro | exact Nat.zero_add _)); all_goals ((conv => whnf); try simp only []))
      all_goals simp only [hb, hf, List.nil_append, Bool.false_or]
/-- A name's book. -/
theorem bookM (s : Bytes) (wrong : Bool) (n : Int) (key : Bytes) (hs : s.length ≤ 900000) : Meets Try.prog 57 [.ptr 0 0, .vec 2 2 (fun _ => 0) fun _ => 1]
    (wN s wrong ++ [.cells 109 [.ptr 3 0, .int .i64 fun _ => 1], .cells 39 [.int .i64 fun _ => n, .str fun _ => key]]) (Y := Unit) (fun _ => True) (fun _ => .tup []) (fun _ => wN (s ++ wides [(n, 1)]) (wrong || bads [(n, 1)]) ++ [.none, .cells 39 [.int .i64 fun _ => n, .str fun _ => key]]) := by
  refine Meets.intro hm (fn := Try.f57) Try.func57 rfl (by decide) (Nat.le_of_ble_eq_true rfl) (fun _ => rfl) ?_; intro S hok; (conv => whnf)
  (repeat' ((conv => whnf); first | apply And.intro | exact ⟨by kernel_rfl⟩ | apply DrawN.mk | apply CodeN.step hm rfl | exact trivial | exact rfl | (intro hh; try simp only [bs] at hh))); all_goals (conv => whnf)
  refine LoopN.intro hm (X := Nat × Bytes × Bool) (fun x => x.1 ≤ 1 ∧ x.2.1 = s ++ wides ([(n, 1)].take x.1) ∧ x.2.2 = (wrong || bads ([(n, 1)].take x.1))) (fun x => 1 - x.1)
    (fun x => [(8, .int .i64 fun _ => (x.1 : Int)), (7, .int .i64 fun _ => 1), (6, .vec 2 2 (fun _ => 0) fun _ => 1), (0, .ptr 0 0)])
    (fun x => [.cells 104 [.ptr 0 0, .vec 1 1 (fun _ => 0) (fun _ => x.2.1.length), .bool fun _ => x.2.2], .vect 5 (.int .u8) fun _ => byv x.2.1, .cells 109 [.ptr 3 0, .int .i64 fun _ => 1], .cells 39 [.int .i64 fun _ => n, .str fun _ => key]]) (0, s, wrong) [0, 1, 2, 3] ⟨rfl, rfl, ?_, ?_⟩ ⟨Nat.zero_le _, by simp [wides], by simp [bads]⟩ (fun x hx => ?_)
  · (repeat' ((conv => whnf) <;> first | exact rfl | exact trivial | apply And.intro | exact Nat.zero_add _))
  · (repeat' ((conv => whnf) <;> first | exact rfl | exact trivial | apply And.intro | exact Nat.zero_add _))
  · obtain ⟨i, b, f⟩ := x
    obtain ⟨hi, hb, hf⟩ := hx
    simp only [] at hi hb hf
    have hbl : b.length ≤ 990000 := by
      have h1 : (wides ([(n, 1)].take i)).length ≤ 100 := by
        rw [wides_len]; revert hi; clear hb hf; intro hi
        obtain rfl | rfl : i = 0 ∨ i = 1 := by omega
        all_goals (simp only [List.take, List.map, List.sum_cons, List.sum_nil]; omega)
      rw [hb, List.length_append]; omega
    obtain rfl | rfl : i = 0 ∨ i = 1 := by omega
    · have hx : [(n, 1)][0]? = some (n, 1) := rfl
      (repeat' ((conv => whnf); first | apply And.intro | exact ⟨by kernel_rfl⟩ | apply DrawN.mk | apply CodeN.step hm rfl | exact trivial | exact rfl | (intro hh; try simp only [bs] at hh))); all_goals (conv => whnf)
      all_goals first | (exact Ob.mk (by decide)) | (exact Ob.mk (by simp)) | skip
      rotate_right
      · exact absurd (by decide) hh
      · (refine CallN.q (wideM (IntKind.u64.wrap (n)) 1 (by omega)) [] (fun _ _ => ?_); (repeat' ((conv => whnf); first | apply And.intro | exact ⟨by kernel_rfl⟩ | apply DrawN.mk | apply CodeN.step hm rfl | exact trivial | exact rfl | (intro hh; try simp only [bs] at hh; try exact absurd hh (by decide)))); all_goals (conv => whnf); all_goals try exact ⟨by decide⟩)
        (refine CallN.q (writeN b (wide (IntKind.u64.wrap (n)) 1) ((n).fdiv (2 ^ (min (IntKind.i64.wrap (8 * 1)).toNat IntKind.i64.bits)) != 0) (by rw [wide_len]; omega)) [0, 1] (fun _ _ => ?_); (repeat' ((conv => whnf); first | apply And.intro | exact ⟨by kernel_rfl⟩ | apply DrawN.mk | apply CodeN.step hm rfl | exact trivial | exact rfl | (intro hh; try simp only [bs] at hh; try exact absurd hh (by decide)))); all_goals (conv => whnf); all_goals try exact ⟨by decide⟩)
        refine ⟨(1, b ++ wide (IntKind.u64.wrap (n)) 1, ((n).fdiv (2 ^ (min (IntKind.i64.wrap (8 * 1)).toNat IntKind.i64.bits)) != 0)), [0, 1, 2, 3], ⟨rfl, rfl, ?_, ?_⟩, ⟨by simp only []; omega, ?_, ?_⟩, by simp only []; omega⟩
        · (repeat' ((conv => whnf) <;> first | exact rfl | exact trivial | apply And.intro | exact Nat.zero_add _))
        · (repeat' ((conv => whnf) <;> first | exact rfl | exact trivial | apply And.intro | exact Nat.zero_add _))
        · simp only []; rw [hb]; exact wides_step _ 0 _ hx _
        · exact bad_step hx hf (.inr (.inr ⟨by assumption, by assumption, rfl⟩)) (Nat.le_of_ble_eq_true rfl)
      · (refine CallN.q (wideM (IntKind.u64.wrap (n)) 1 (by omega)) [] (fun _ _ => ?_); (repeat' ((conv => whnf); first | apply And.intro | exact ⟨by kernel_rfl⟩ | apply DrawN.mk | apply CodeN.step hm rfl | exact trivial | exact rfl | (intro hh; try simp only [bs] at hh; try exact absurd hh (by decide)))); all_goals (conv => whnf); all_goals try exact ⟨by decide⟩)
        (refine CallN.q (writeN b (wide (IntKind.u64.wrap (n)) 1) true (by rw [wide_len]; omega)) [0, 1] (fun _ _ => ?_); (repeat' ((conv => whnf); first | apply And.intro | exact ⟨by kernel_rfl⟩ | apply DrawN.mk | apply CodeN.step hm rfl | exact trivial | exact rfl | (intro hh; try simp only [bs] at hh; try exact absurd hh (by decide)))); all_goals (conv => whnf); all_goals try exact ⟨by decide⟩)
        refine ⟨(1, b ++ wide (IntKind.u64.wrap (n)) 1, true), [0, 1, 2, 3], ⟨rfl, rfl, ?_, ?_⟩, ⟨by simp only []; omega, ?_, ?_⟩, by simp only []; omega⟩
        · (repeat' ((conv => whnf) <;> first | exact rfl | exact trivial | apply And.intro | exact Nat.zero_add _))
        · (repeat' ((conv => whnf) <;> first | exact rfl | exact trivial | apply And.intro | exact Nat.zero_add _))
        · simp only []; rw [hb]; exact wides_step _ 0 _ hx _
        · exact bad_step hx hf (.inr (.inl ⟨by assumption, rfl⟩)) (Nat.le_of_ble_eq_true rfl)
      · (refine CallN.q (wideM (IntKind.u64.wrap (n)) 1 (by omega)) [] (fun _ _ => ?_); (repeat' ((conv => whnf); first | apply And.intro | exact ⟨by kernel_rfl⟩ | apply DrawN.mk | apply CodeN.step hm rfl | exact trivial | exact rfl | (intro hh; try simp only [bs] at hh; try exact absurd hh (by decide)))); all_goals (conv => whnf); all_goals try exact ⟨by decide⟩)
        (refine CallN.q (writeN b (wide (IntKind.u64.wrap (n)) 1) true (by rw [wide_len]; omega)) [0, 1] (fun _ _ => ?_); (repeat' ((conv => whnf); first | apply And.intro | exact ⟨by kernel_rfl⟩ | apply DrawN.mk | apply CodeN.step hm rfl | exact trivial | exact rfl | (intro hh; try simp only [bs] at hh; try exact absurd hh (by decide)))); all_goals (conv => whnf); all_goals try exact ⟨by decide⟩)
        refine ⟨(1, b ++ wide (IntKind.u64.wrap (n)) 1, true), [0, 1, 2, 3], ⟨rfl, rfl, ?_, ?_⟩, ⟨by simp only []; omega, ?_, ?_⟩, by simp only []; omega⟩
        · (repeat' ((conv => whnf) <;> first | exact rfl | exact trivial | apply And.intro | exact Nat.zero_add _))
        · (repeat' ((conv => whnf) <;> first | exact rfl | exact trivial | apply And.intro | exact Nat.zero_add _))
        · simp only []; rw [hb]; exact wides_step _ 0 _ hx _
        · exact bad_step hx hf (.inl ⟨by assumption, rfl⟩) (Nat.le_of_ble_eq_true rfl)
    · (repeat' ((conv => whnf); first | apply And.intro | exact ⟨by kernel_rfl⟩ | apply DrawN.mk | apply CodeN.step hm rfl | exact trivial | exact rfl | (intro hh; try simp only [bs] at hh))); all_goals (conv => whnf)
      all_goals first | (exfalso; exact absurd hh (by decide)) | skip
      rw [List.take_of_length_le (by simp)] at hb hf
      (refine RetN.q () [0, 1, 2, 3] ?_ ?_ ?_ <;> (repeat' ((conv => whnf) <;> first | exact rfl | exact trivial | apply And.intro | exact Nat.zero_add _)); all_goals ((conv => whnf); try simp only []))
      all_goals simp only [hb, hf, List.nil_append, Bool.false_or]
/-- A told thing. -/
theorem toldM (s : Bytes) (wrong : Bool) (c a : Int) (al : Bool) (c0 r1 r2 r3 : Int) (hs : s.length ≤ 900000) : Meets Try.prog 57 [.ptr 0 0, .vec 2 2 (fun _ => 0) fun _ => 5]
    (wN s wrong ++ [.cells 109 [.ptr 4 0, .int .i64 fun _ => 1, .ptr 5 0, .int .i64 fun _ => 1, .ptr 3 2, .int .i64 fun _ => 4, .ptr 3 3, .int .i64 fun _ => 6, .ptr 3 4, .int .i64 fun _ => 6], .cells 53 [.int .i64 fun _ => c0, .bool fun _ => al, .int .i64 fun _ => r1, .int .i64 fun _ => r2, .int .i64 fun _ => r3], .cells 3 [.int .i64 fun _ => c], .cells 3 [.int .i64 fun _ => a]]) (Y := Unit) (fun _ => True) (fun _ => .tup []) (fun _ => wN (s ++ wides [(c, 1), (a, 1), (r1, 4), (r2, 6), (r3, 6)]) (wrong || bads [(c, 1), (a, 1), (r1, 4), (r2, 6), (r3, 6)]) ++ [.none, .cells 53 [.int .i64 fun _ => c0, .bool fun _ => al, .int .i64 fun _ => r1, .int .i64 fun _ => r2, .int .i64 fun _ => r3], .cells 3 [.int .i64 fun _ => c], .cells 3 [.int .i64 fun _ => a]]) := by
  refine Meets.intro hm (fn := Try.f57) Try.func57 rfl (by decide) (Nat.le_of_ble_eq_true rfl) (fun _ => rfl) ?_; intro S hok; (conv => whnf)
  (repeat' ((conv => whnf); first | apply And.intro | exact ⟨by kernel_rfl⟩ | apply DrawN.mk | apply CodeN.step hm rfl | exact trivial | exact rfl | (intro hh; try simp only [bs] at hh))); all_goals (conv => whnf)
  refine LoopN.intro hm (X := Nat × Bytes × Bool) (fun x => x.1 ≤ 5 ∧ x.2.1 = s ++ wides ([(c, 1), (a, 1), (r1, 4), (r2, 6), (r3, 6)].take x.1) ∧ x.2.2 = (wrong || bads ([(c, 1), (a, 1), (r1, 4), (r2, 6), (r3, 6)].take x.1))) (fun x => 5 - x.1)
    (fun x => [(8, .int .i64 fun _ => (x.1 : Int)), (7, .int .i64 fun _ => 5), (6, .vec 2 2 (fun _ => 0) fun _ => 5), (0, .ptr 0 0)])
    (fun x => [.cells 104 [.ptr 0 0, .vec 1 1 (fun _ => 0) (fun _ => x.2.1.length), .bool fun _ => x.2.2], .vect 5 (.int .u8) fun _ => byv x.2.1, .cells 109 [.ptr 4 0, .int .i64 fun _ => 1, .ptr 5 0, .int .i64 fun _ => 1, .ptr 3 2, .int .i64 fun _ => 4, .ptr 3 3, .int .i64 fun _ => 6, .ptr 3 4, .int .i64 fun _ => 6], .cells 53 [.int .i64 fun _ => c0, .bool fun _ => al, .int .i64 fun _ => r1, .int .i64 fun _ => r2, .int .i64 fun _ => r3], .cells 3 [.int .i64 fun _ => c], .cells 3 [.int .i64 fun _ => a]]) (0, s, wrong) [0, 1, 2, 3, 4, 5] ⟨rfl, rfl, ?_, ?_⟩ ⟨Nat.zero_le _, by simp [wides], by simp [bads]⟩ (fun x hx => ?_)
  · (repeat' ((conv => whnf) <;> first | exact rfl | exact trivial | apply And.intro | exact Nat.zero_add _))
  · (repeat' ((conv => whnf) <;> first | exact rfl | exact trivial | apply And.intro | exact Nat.zero_add _))
  · obtain ⟨i, b, f⟩ := x
    obtain ⟨hi, hb, hf⟩ := hx
    simp only [] at hi hb hf
    have hbl : b.length ≤ 990000 := by
      have h1 : (wides ([(c, 1), (a, 1), (r1, 4), (r2, 6), (r3, 6)].take i)).length ≤ 100 := by
        rw [wides_len]; revert hi; clear hb hf; intro hi
        obtain rfl | rfl | rfl | rfl | rfl | rfl : i = 0 ∨ i = 1 ∨ i = 2 ∨ i = 3 ∨ i = 4 ∨ i = 5 := by omega
        all_goals (simp only [List.take, List.map, List.sum_cons, List.sum_nil]; omega)
      rw [hb, List.length_append]; omega
    obtain rfl | rfl | rfl | rfl | rfl | rfl : i = 0 ∨ i = 1 ∨ i = 2 ∨ i = 3 ∨ i = 4 ∨ i = 5 := by omega
    · have hx : [(c, 1), (a, 1), (r1, 4), (r2, 6), (r3, 6)][0]? = some (c, 1) := rfl
      (repeat' ((conv => whnf); first | apply And.intro | exact ⟨by kernel_rfl⟩ | apply DrawN.mk | apply CodeN.step hm rfl | exact trivial | exact rfl | (intro hh; try simp only [bs] at hh))); all_goals (conv => whnf)
      all_goals first | (exact Ob.mk (by decide)) | (exact Ob.mk (by simp)) | skip
      rotate_right
      · exact absurd (by decide) hh
      · (refine CallN.q (wideM (IntKind.u64.wrap (c)) 1 (by omega)) [] (fun _ _ => ?_); (repeat' ((conv => whnf); first | apply And.intro | exact ⟨by kernel_rfl⟩ | apply DrawN.mk | apply CodeN.step hm rfl | exact trivial | exact rfl | (intro hh; try simp only [bs] at hh; try exact absurd hh (by decide)))); all_goals (conv => whnf); all_goals try exact ⟨by decide⟩)
        (refine CallN.q (writeN b (wide (IntKind.u64.wrap (c)) 1) ((c).fdiv (2 ^ (min (IntKind.i64.wrap (8 * 1)).toNat IntKind.i64.bits)) != 0) (by rw [wide_len]; omega)) [0, 1] (fun _ _ => ?_); (repeat' ((conv => whnf); first | apply And.intro | exact ⟨by kernel_rfl⟩ | apply DrawN.mk | apply CodeN.step hm rfl | exact trivial | exact rfl | (intro hh; try simp only [bs] at hh; try exact absurd hh (by decide)))); all_goals (conv => whnf); all_goals try exact ⟨by decide⟩)
        refine ⟨(1, b ++ wide (IntKind.u64.wrap (c)) 1, ((c).fdiv (2 ^ (min (IntKind.i64.wrap (8 * 1)).toNat IntKind.i64.bits)) != 0)), [0, 1, 2, 3, 4, 5], ⟨rfl, rfl, ?_, ?_⟩, ⟨by simp only []; omega, ?_, ?_⟩, by simp only []; omega⟩
        · (repeat' ((conv => whnf) <;> first | exact rfl | exact trivial | apply And.intro | exact Nat.zero_add _))
        · (repeat' ((conv => whnf) <;> first | exact rfl | exact trivial | apply And.intro | exact Nat.zero_add _))
        · simp only []; rw [hb]; exact wides_step _ 0 _ hx _
        · exact bad_step hx hf (.inr (.inr ⟨by assumption, by assumption, rfl⟩)) (Nat.le_of_ble_eq_true rfl)
      · (refine CallN.q (wideM (IntKind.u64.wrap (c)) 1 (by omega)) [] (fun _ _ => ?_); (repeat' ((conv => whnf); first | apply And.intro | exact ⟨by kernel_rfl⟩ | apply DrawN.mk | apply CodeN.step hm rfl | exact trivial | exact rfl | (intro hh; try simp only [bs] at hh; try exact absurd hh (by decide)))); all_goals (conv => whnf); all_goals try exact ⟨by decide⟩)
        (refine CallN.q (writeN b (wide (IntKind.u64.wrap (c)) 1) true (by rw [wide_len]; omega)) [0, 1] (fun _ _ => ?_); (repeat' ((conv => whnf); first | apply And.intro | exact ⟨by kernel_rfl⟩ | apply DrawN.mk | apply CodeN.step hm rfl | exact trivial | exact rfl | (intro hh; try simp only [bs] at hh; try exact absurd hh (by decide)))); all_goals (conv => whnf); all_goals try exact ⟨by decide⟩)
        refine ⟨(1, b ++ wide (IntKind.u64.wrap (c)) 1, true), [0, 1, 2, 3, 4, 5], ⟨rfl, rfl, ?_, ?_⟩, ⟨by simp only []; omega, ?_, ?_⟩, by simp only []; omega⟩
        · (repeat' ((conv => whnf) <;> first | exact rfl | exact trivial | apply And.intro | exact Nat.zero_add _))
        · (repeat' ((conv => whnf) <;> first | exact rfl | exact trivial | apply And.intro | exact Nat.zero_add _))
        · simp only []; rw [hb]; exact wides_step _ 0 _ hx _
        · exact bad_step hx hf (.inr (.inl ⟨by assumption, rfl⟩)) (Nat.le_of_ble_eq_true rfl)
      · (refine CallN.q (wideM (IntKind.u64.wrap (c)) 1 (by omega)) [] (fun _ _ => ?_); (repeat' ((conv => whnf); first | apply And.intro | exact ⟨by kernel_rfl⟩ | apply DrawN.mk | apply CodeN.step hm rfl | exact trivial | exact rfl | (intro hh; try simp only [bs] at hh; try exact absurd hh (by decide)))); all_goals (conv => whnf); all_goals try exact ⟨by decide⟩)
        (refine CallN.q (writeN b (wide (IntKind.u64.wrap (c)) 1) true (by rw [wide_len]; omega)) [0, 1] (fun _ _ => ?_); (repeat' ((conv => whnf); first | apply And.intro | exact ⟨by kernel_rfl⟩ | apply DrawN.mk | apply CodeN.step hm rfl | exact trivial | exact rfl | (intro hh; try simp only [bs] at hh; try exact absurd hh (by decide)))); all_goals (conv => whnf); all_goals try exact ⟨by decide⟩)
        refine ⟨(1, b ++ wide (IntKind.u64.wrap (c)) 1, true), [0, 1, 2, 3, 4, 5], ⟨rfl, rfl, ?_, ?_⟩, ⟨by simp only []; omega, ?_, ?_⟩, by simp only []; omega⟩
        · (repeat' ((conv => whnf) <;> first | exact rfl | exact trivial | apply And.intro | exact Nat.zero_add _))
        · (repeat' ((conv => whnf) <;> first | exact rfl | exact trivial | apply And.intro | exact Nat.zero_add _))
        · simp only []; rw [hb]; exact wides_step _ 0 _ hx _
        · exact bad_step hx hf (.inl ⟨by assumption, rfl⟩) (Nat.le_of_ble_eq_true rfl)
    · have hx : [(c, 1), (a, 1), (r1, 4), (r2, 6), (r3, 6)][1]? = some (a, 1) := rfl
      (repeat' ((conv => whnf); first | apply And.intro | exact ⟨by kernel_rfl⟩ | apply DrawN.mk | apply CodeN.step hm rfl | exact trivial | exact rfl | (intro hh; try simp only [bs] at hh))); all_goals (conv => whnf)
      all_goals first | (exact Ob.mk (by decide)) | (exact Ob.mk (by simp)) | skip
      rotate_right
      · exact absurd (by decide) hh
      · (refine CallN.q (wideM (IntKind.u64.wrap (a)) 1 (by omega)) [] (fun _ _ => ?_); (repeat' ((conv => whnf); first | apply And.intro | exact ⟨by kernel_rfl⟩ | apply DrawN.mk | apply CodeN.step hm rfl | exact trivial | exact rfl | (intro hh; try simp only [bs] at hh; try exact absurd hh (by decide)))); all_goals (conv => whnf); all_goals try exact ⟨by decide⟩)
        (refine CallN.q (writeN b (wide (IntKind.u64.wrap (a)) 1) ((a).fdiv (2 ^ (min (IntKind.i64.wrap (8 * 1)).toNat IntKind.i64.bits)) != 0) (by rw [wide_len]; omega)) [0, 1] (fun _ _ => ?_); (repeat' ((conv => whnf); first | apply And.intro | exact ⟨by kernel_rfl⟩ | apply DrawN.mk | apply CodeN.step hm rfl | exact trivial | exact rfl | (intro hh; try simp only [bs] at hh; try exact absurd hh (by decide)))); all_goals (conv => whnf); all_goals try exact ⟨by decide⟩)
        refine ⟨(2, b ++ wide (IntKind.u64.wrap (a)) 1, ((a).fdiv (2 ^ (min (IntKind.i64.wrap (8 * 1)).toNat IntKind.i64.bits)) != 0)), [0, 1, 2, 3, 4, 5], ⟨rfl, rfl, ?_, ?_⟩, ⟨by simp only []; omega, ?_, ?_⟩, by simp only []; omega⟩
        · (repeat' ((conv => whnf) <;> first | exact rfl | exact trivial | apply And.intro | exact Nat.zero_add _))
        · (repeat' ((conv => whnf) <;> first | exact rfl | exact trivial | apply And.intro | exact Nat.zero_add _))
        · simp only []; rw [hb]; exact wides_step _ 1 _ hx _
        · exact bad_step hx hf (.inr (.inr ⟨by assumption, by assumption, rfl⟩)) (Nat.le_of_ble_eq_true rfl)
      · (refine CallN.q (wideM (IntKind.u64.wrap (a)) 1 (by omega)) [] (fun _ _ => ?_); (repeat' ((conv => whnf); first | apply And.intro | exact ⟨by kernel_rfl⟩ | apply DrawN.mk | apply CodeN.step hm rfl | exact trivial | exact rfl | (intro hh; try simp only [bs] at hh; try exact absurd hh (by decide)))); all_goals (conv => whnf); all_goals try exact ⟨by decide⟩)
        (refine CallN.q (writeN b (wide (IntKind.u64.wrap (a)) 1) true (by rw [wide_len]; omega)) [0, 1] (fun _ _ => ?_); (repeat' ((conv => whnf); first | apply And.intro | exact ⟨by kernel_rfl⟩ | apply DrawN.mk | apply CodeN.step hm rfl | exact trivial | exact rfl | (intro hh; try simp only [bs] at hh; try exact absurd hh (by decide)))); all_goals (conv => whnf); all_goals try exact ⟨by decide⟩)
        refine ⟨(2, b ++ wide (IntKind.u64.wrap (a)) 1, true), [0, 1, 2, 3, 4, 5], ⟨rfl, rfl, ?_, ?_⟩, ⟨by simp only []; omega, ?_, ?_⟩, by simp only []; omega⟩
        · (repeat' ((conv => whnf) <;> first | exact rfl | exact trivial | apply And.intro | exact Nat.zero_add _))
        · (repeat' ((conv => whnf) <;> first | exact rfl | exact trivial | apply And.intro | exact Nat.zero_add _))
        · simp only []; rw [hb]; exact wides_step _ 1 _ hx _
        · exact bad_step hx hf (.inr (.inl ⟨by assumption, rfl⟩)) (Nat.le_of_ble_eq_true rfl)
      · (refine CallN.q (wideM (IntKind.u64.wrap (a)) 1 (by omega)) [] (fun _ _ => ?_); (repeat' ((conv => whnf); first | apply And.intro | exact ⟨by kernel_rfl⟩ | apply DrawN.mk | apply CodeN.step hm rfl | exact trivial | exact rfl | (intro hh; try simp only [bs] at hh; try exact absurd hh (by decide)))); all_goals (conv => whnf); all_goals try exact ⟨by decide⟩)
        (refine CallN.q (writeN b (wide (IntKind.u64.wrap (a)) 1) true (by rw [wide_len]; omega)) [0, 1] (fun _ _ => ?_); (repeat' ((conv => whnf); first | apply And.intro | exact ⟨by kernel_rfl⟩ | apply DrawN.mk | apply CodeN.step hm rfl | exact trivial | exact rfl | (intro hh; try simp only [bs] at hh; try exact absurd hh (by decide)))); all_goals (conv => whnf); all_goals try exact ⟨by decide⟩)
        refine ⟨(2, b ++ wide (IntKind.u64.wrap (a)) 1, true), [0, 1, 2, 3, 4, 5], ⟨rfl, rfl, ?_, ?_⟩, ⟨by simp only []; omega, ?_, ?_⟩, by simp only []; omega⟩
        · (repeat' ((conv => whnf) <;> first | exact rfl | exact trivial | apply And.intro | exact Nat.zero_add _))
        · (repeat' ((conv => whnf) <;> first | exact rfl | exact trivial | apply And.intro | exact Nat.zero_add _))
        · simp only []; rw [hb]; exact wides_step _ 1 _ hx _
        · exact bad_step hx hf (.inl ⟨by assumption, rfl⟩) (Nat.le_of_ble_eq_true rfl)
    · have hx : [(c, 1), (a, 1), (r1, 4), (r2, 6), (r3, 6)][2]? = some (r1, 4) := rfl
      (repeat' ((conv => whnf); first | apply And.intro | exact ⟨by kernel_rfl⟩ | apply DrawN.mk | apply CodeN.step hm rfl | exact trivial | exact rfl | (intro hh; try simp only [bs] at hh))); all_goals (conv => whnf)
      all_goals first | (exact Ob.mk (by decide)) | (exact Ob.mk (by simp)) | skip
      rotate_right
      · exact absurd (by decide) hh
      · (refine CallN.q (wideM (IntKind.u64.wrap (r1)) 4 (by omega)) [] (fun _ _ => ?_); (repeat' ((conv => whnf); first | apply And.intro | exact ⟨by kernel_rfl⟩ | apply DrawN.mk | apply CodeN.step hm rfl | exact trivial | exact rfl | (intro hh; try simp only [bs] at hh; try exact absurd hh (by decide)))); all_goals (conv => whnf); all_goals try exact ⟨by decide⟩)
        (refine CallN.q (writeN b (wide (IntKind.u64.wrap (r1)) 4) ((r1).fdiv (2 ^ (min (IntKind.i64.wrap (8 * 4)).toNat IntKind.i64.bits)) != 0) (by rw [wide_len]; omega)) [0, 1] (fun _ _ => ?_); (repeat' ((conv => whnf); first | apply And.intro | exact ⟨by kernel_rfl⟩ | apply DrawN.mk | apply CodeN.step hm rfl | exact trivial | exact rfl | (intro hh; try simp only [bs] at hh; try exact absurd hh (by decide)))); all_goals (conv => whnf); all_goals try exact ⟨by decide⟩)
        refine ⟨(3, b ++ wide (IntKind.u64.wrap (r1)) 4, ((r1).fdiv (2 ^ (min (IntKind.i64.wrap (8 * 4)).toNat IntKind.i64.bits)) != 0)), [0, 1, 2, 3, 4, 5], ⟨rfl, rfl, ?_, ?_⟩, ⟨by simp only []; omega, ?_, ?_⟩, by simp only []; omega⟩
        · (repeat' ((conv => whnf) <;> first | exact rfl | exact trivial | apply And.intro | exact Nat.zero_add _))
        · (repeat' ((conv => whnf) <;> first | exact rfl | exact trivial | apply And.intro | exact Nat.zero_add _))
        · simp only []; rw [hb]; exact wides_step _ 2 _ hx _
        · exact bad_step hx hf (.inr (.inr ⟨by assumption, by assumption, rfl⟩)) (Nat.le_of_ble_eq_true rfl)
      · (refine CallN.q (wideM (IntKind.u64.wrap (r1)) 4 (by omega)) [] (fun _ _ => ?_); (repeat' ((conv => whnf); first | apply And.intro | exact ⟨by kernel_rfl⟩ | apply DrawN.mk | apply CodeN.step hm rfl | exact trivial | exact rfl | (intro hh; try simp only [bs] at hh; try exact absurd hh (by decide)))); all_goals (conv => whnf); all_goals try exact ⟨by decide⟩)
        (refine CallN.q (writeN b (wide (IntKind.u64.wrap (r1)) 4) true (by rw [wide_len]; omega)) [0, 1] (fun _ _ => ?_); (repeat' ((conv => whnf); first | apply And.intro | exact ⟨by kernel_rfl⟩ | apply DrawN.mk | apply CodeN.step hm rfl | exact trivial | exact rfl | (intro hh; try simp only [bs] at hh; try exact absurd hh (by decide)))); all_goals (conv => whnf); all_goals try exact ⟨by decide⟩)
        refine ⟨(3, b ++ wide (IntKind.u64.wrap (r1)) 4, true), [0, 1, 2, 3, 4, 5], ⟨rfl, rfl, ?_, ?_⟩, ⟨by simp only []; omega, ?_, ?_⟩, by simp only []; omega⟩
        · (repeat' ((conv => whnf) <;> first | exact rfl | exact trivial | apply And.intro | exact Nat.zero_add _))
        · (repeat' ((conv => whnf) <;> first | exact rfl | exact trivial | apply And.intro | exact Nat.zero_add _))
        · simp only []; rw [hb]; exact wides_step _ 2 _ hx _
        · exact bad_step hx hf (.inr (.inl ⟨by assumption, rfl⟩)) (Nat.le_of_ble_eq_true rfl)
      · (refine CallN.q (wideM (IntKind.u64.wrap (r1)) 4 (by omega)) [] (fun _ _ => ?_); (repeat' ((conv => whnf); first | apply And.intro | exact ⟨by kernel_rfl⟩ | apply DrawN.mk | apply CodeN.step hm rfl | exact trivial | exact rfl | (intro hh; try simp only [bs] at hh; try exact absurd hh (by decide)))); all_goals (conv => whnf); all_goals try exact ⟨by decide⟩)
        (refine CallN.q (writeN b (wide (IntKind.u64.wrap (r1)) 4) true (by rw [wide_len]; omega)) [0, 1] (fun _ _ => ?_); (repeat' ((conv => whnf); first | apply And.intro | exact ⟨by kernel_rfl⟩ | apply DrawN.mk | apply CodeN.step hm rfl | exact trivial | exact rfl | (intro hh; try simp only [bs] at hh; try exact absurd hh (by decide)))); all_goals (conv => whnf); all_goals try exact ⟨by decide⟩)
        refine ⟨(3, b ++ wide (IntKind.u64.wrap (r1)) 4, true), [0, 1, 2, 3, 4, 5], ⟨rfl, rfl, ?_, ?_⟩, ⟨by simp only []; omega, ?_, ?_⟩, by simp only []; omega⟩
        · (repeat' ((conv => whnf) <;> first | exact rfl | exact trivial | apply And.intro | exact Nat.zero_add _))
        · (repeat' ((conv => whnf) <;> first | exact rfl | exact trivial | apply And.intro | exact Nat.zero_add _))
        · simp only []; rw [hb]; exact wides_step _ 2 _ hx _
        · exact bad_step hx hf (.inl ⟨by assumption, rfl⟩) (Nat.le_of_ble_eq_true rfl)
    · have hx : [(c, 1), (a, 1), (r1, 4), (r2, 6), (r3, 6)][3]? = some (r2, 6) := rfl
      (repeat' ((conv => whnf); first | apply And.intro | exact ⟨by kernel_rfl⟩ | apply DrawN.mk | apply CodeN.step hm rfl | exact trivial | exact rfl | (intro hh; try simp only [bs] at hh))); all_goals (conv => whnf)
      all_goals first | (exact Ob.mk (by decide)) | (exact Ob.mk (by simp)) | skip
      rotate_right
      · exact absurd (by decide) hh
      · (refine CallN.q (wideM (IntKind.u64.wrap (r2)) 6 (by omega)) [] (fun _ _ => ?_); (repeat' ((conv => whnf); first | apply And.intro | exact ⟨by kernel_rfl⟩ | apply DrawN.mk | apply CodeN.step hm rfl | exact trivial | exact rfl | (intro hh; try simp only [bs] at hh; try exact absurd hh (by decide)))); all_goals (conv => whnf); all_goals try exact ⟨by decide⟩)
        (refine CallN.q (writeN b (wide (IntKind.u64.wrap (r2)) 6) ((r2).fdiv (2 ^ (min (IntKind.i64.wrap (8 * 6)).toNat IntKind.i64.bits)) != 0) (by rw [wide_len]; omega)) [0, 1] (fun _ _ => ?_); (repeat' ((conv => whnf); first | apply And.intro | exact ⟨by kernel_rfl⟩ | apply DrawN.mk | apply CodeN.step hm rfl | exact trivial | exact rfl | (intro hh; try simp only [bs] at hh; try exact absurd hh (by decide)))); all_goals (conv => whnf); all_goals try exact ⟨by decide⟩)
        refine ⟨(4, b ++ wide (IntKind.u64.wrap (r2)) 6, ((r2).fdiv (2 ^ (min (IntKind.i64.wrap (8 * 6)).toNat IntKind.i64.bits)) != 0)), [0, 1, 2, 3, 4, 5], ⟨rfl, rfl, ?_, ?_⟩, ⟨by simp only []; omega, ?_, ?_⟩, by simp only []; omega⟩
        · (repeat' ((conv => whnf) <;> first | exact rfl | exact trivial | apply And.intro | exact Nat.zero_add _))
        · (repeat' ((conv => whnf) <;> first | exact rfl | exact trivial | apply And.intro | exact Nat.zero_add _))
        · simp only []; rw [hb]; exact wides_step _ 3 _ hx _
        · exact bad_step hx hf (.inr (.inr ⟨by assumption, by assumption, rfl⟩)) (Nat.le_of_ble_eq_true rfl)
      · (refine CallN.q (wideM (IntKind.u64.wrap (r2)) 6 (by omega)) [] (fun _ _ => ?_); (repeat' ((conv => whnf); first | apply And.intro | exact ⟨by kernel_rfl⟩ | apply DrawN.mk | apply CodeN.step hm rfl | exact trivial | exact rfl | (intro hh; try simp only [bs] at hh; try exact absurd hh (by decide)))); all_goals (conv => whnf); all_goals try exact ⟨by decide⟩)
        (refine CallN.q (writeN b (wide (IntKind.u64.wrap (r2)) 6) true (by rw [wide_len]; omega)) [0, 1] (fun _ _ => ?_); (repeat' ((conv => whnf); first | apply And.intro | exact ⟨by kernel_rfl⟩ | apply DrawN.mk | apply CodeN.step hm rfl | exact trivial | exact rfl | (intro hh; try simp only [bs] at hh; try exact absurd hh (by decide)))); all_goals (conv => whnf); all_goals try exact ⟨by decide⟩)
        refine ⟨(4, b ++ wide (IntKind.u64.wrap (r2)) 6, true), [0, 1, 2, 3, 4, 5], ⟨rfl, rfl, ?_, ?_⟩, ⟨by simp only []; omega, ?_, ?_⟩, by simp only []; omega⟩
        · (repeat' ((conv => whnf) <;> first | exact rfl | exact trivial | apply And.intro | exact Nat.zero_add _))
        · (repeat' ((conv => whnf) <;> first | exact rfl | exact trivial | apply And.intro | exact Nat.zero_add _))
        · simp only []; rw [hb]; exact wides_step _ 3 _ hx _
        · exact bad_step hx hf (.inr (.inl ⟨by assumption, rfl⟩)) (Nat.le_of_ble_eq_true rfl)
      · (refine CallN.q (wideM (IntKind.u64.wrap (r2)) 6 (by omega)) [] (fun _ _ => ?_); (repeat' ((conv => whnf); first | apply And.intro | exact ⟨by kernel_rfl⟩ | apply DrawN.mk | apply CodeN.step hm rfl | exact trivial | exact rfl | (intro hh; try simp only [bs] at hh; try exact absurd hh (by decide)))); all_goals (conv => whnf); all_goals try exact ⟨by decide⟩)
        (refine CallN.q (writeN b (wide (IntKind.u64.wrap (r2)) 6) true (by rw [wide_len]; omega)) [0, 1] (fun _ _ => ?_); (repeat' ((conv => whnf); first | apply And.intro | exact ⟨by kernel_rfl⟩ | apply DrawN.mk | apply CodeN.step hm rfl | exact trivial | exact rfl | (intro hh; try simp only [bs] at hh; try exact absurd hh (by decide)))); all_goals (conv => whnf); all_goals try exact ⟨by decide⟩)
        refine ⟨(4, b ++ wide (IntKind.u64.wrap (r2)) 6, true), [0, 1, 2, 3, 4, 5], ⟨rfl, rfl, ?_, ?_⟩, ⟨by simp only []; omega, ?_, ?_⟩, by simp only []; omega⟩
        · (repeat' ((conv => whnf) <;> first | exact rfl | exact trivial | apply And.intro | exact Nat.zero_add _))
        · (repeat' ((conv => whnf) <;> first | exact rfl | exact trivial | apply And.intro | exact Nat.zero_add _))
        · simp only []; rw [hb]; exact wides_step _ 3 _ hx _
        · exact bad_step hx hf (.inl ⟨by assumption, rfl⟩) (Nat.le_of_ble_eq_true rfl)
    · have hx : [(c, 1), (a, 1), (r1, 4), (r2, 6), (r3, 6)][4]? = some (r3, 6) := rfl
      (repeat' ((conv => whnf); first | apply And.intro | exact ⟨by kernel_rfl⟩ | apply DrawN.mk | apply CodeN.step hm rfl | exact trivial | exact rfl | (intro hh; try simp only [bs] at hh))); all_goals (conv => whnf)
      all_goals first | (exact Ob.mk (by decide)) | (exact Ob.mk (by simp)) | skip
      rotate_right
      · exact absurd (by decide) hh
      · (refine CallN.q (wideM (IntKind.u64.wrap (r3)) 6 (by omega)) [] (fun _ _ => ?_); (repeat' ((conv => whnf); first | apply And.intro | exact ⟨by kernel_rfl⟩ | apply DrawN.mk | apply CodeN.step hm rfl | exact trivial | exact rfl | (intro hh; try simp only [bs] at hh; try exact absurd hh (by decide)))); all_goals (conv => whnf); all_goals try exact ⟨by decide⟩)
        (refine CallN.q (writeN b (wide (IntKind.u64.wrap (r3)) 6) ((r3).fdiv (2 ^ (min (IntKind.i64.wrap (8 * 6)).toNat IntKind.i64.bits)) != 0) (by rw [wide_len]; omega)) [0, 1] (fun _ _ => ?_); (repeat' ((conv => whnf); first | apply And.intro | exact ⟨by kernel_rfl⟩ | apply DrawN.mk | apply CodeN.step hm rfl | exact trivial | exact rfl | (intro hh; try simp only [bs] at hh; try exact absurd hh (by decide)))); all_goals (conv => whnf); all_goals try exact ⟨by decide⟩)
        refine ⟨(5, b ++ wide (IntKind.u64.wrap (r3)) 6, ((r3).fdiv (2 ^ (min (IntKind.i64.wrap (8 * 6)).toNat IntKind.i64.bits)) != 0)), [0, 1, 2, 3, 4, 5], ⟨rfl, rfl, ?_, ?_⟩, ⟨by simp only []; omega, ?_, ?_⟩, by simp only []; omega⟩
        · (repeat' ((conv => whnf) <;> first | exact rfl | exact trivial | apply And.intro | exact Nat.zero_add _))
        · (repeat' ((conv => whnf) <;> first | exact rfl | exact trivial | apply And.intro | exact Nat.zero_add _))
        · simp only []; rw [hb]; exact wides_step _ 4 _ hx _
        · exact bad_step hx hf (.inr (.inr ⟨by assumption, by assumption, rfl⟩)) (Nat.le_of_ble_eq_true rfl)
      · (refine CallN.q (wideM (IntKind.u64.wrap (r3)) 6 (by omega)) [] (fun _ _ => ?_); (repeat' ((conv => whnf); first | apply And.intro | exact ⟨by kernel_rfl⟩ | apply DrawN.mk | apply CodeN.step hm rfl | exact trivial | exact rfl | (intro hh; try simp only [bs] at hh; try exact absurd hh (by decide)))); all_goals (conv => whnf); all_goals try exact ⟨by decide⟩)
        (refine CallN.q (writeN b (wide (IntKind.u64.wrap (r3)) 6) true (by rw [wide_len]; omega)) [0, 1] (fun _ _ => ?_); (repeat' ((conv => whnf); first | apply And.intro | exact ⟨by kernel_rfl⟩ | apply DrawN.mk | apply CodeN.step hm rfl | exact trivial | exact rfl | (intro hh; try simp only [bs] at hh; try exact absurd hh (by decide)))); all_goals (conv => whnf); all_goals try exact ⟨by decide⟩)
        refine ⟨(5, b ++ wide (IntKind.u64.wrap (r3)) 6, true), [0, 1, 2, 3, 4, 5], ⟨rfl, rfl, ?_, ?_⟩, ⟨by simp only []; omega, ?_, ?_⟩, by simp only []; omega⟩
        · (repeat' ((conv => whnf) <;> first | exact rfl | exact trivial | apply And.intro | exact Nat.zero_add _))
        · (repeat' ((conv => whnf) <;> first | exact rfl | exact trivial | apply And.intro | exact Nat.zero_add _))
        · simp only []; rw [hb]; exact wides_step _ 4 _ hx _
        · exact bad_step hx hf (.inr (.inl ⟨by assumption, rfl⟩)) (Nat.le_of_ble_eq_true rfl)
      · (refine CallN.q (wideM (IntKind.u64.wrap (r3)) 6 (by omega)) [] (fun _ _ => ?_); (repeat' ((conv => whnf); first | apply And.intro | exact ⟨by kernel_rfl⟩ | apply DrawN.mk | apply CodeN.step hm rfl | exact trivial | exact rfl | (intro hh; try simp only [bs] at hh; try exact absurd hh (by decide)))); all_goals (conv => whnf); all_goals try exact ⟨by decide⟩)
        (refine CallN.q (writeN b (wide (IntKind.u64.wrap (r3)) 6) true (by rw [wide_len]; omega)) [0, 1] (fun _ _ => ?_); (repeat' ((conv => whnf); first | apply And.intro | exact ⟨by kernel_rfl⟩ | apply DrawN.mk | apply CodeN.step hm rfl | exact trivial | exact rfl | (intro hh; try simp only [bs] at hh; try exact absurd hh (by decide)))); all_goals (conv => whnf); all_goals try exact ⟨by decide⟩)
        refine ⟨(5, b ++ wide (IntKind.u64.wrap (r3)) 6, true), [0, 1, 2, 3, 4, 5], ⟨rfl, rfl, ?_, ?_⟩, ⟨by simp only []; omega, ?_, ?_⟩, by simp only []; omega⟩
        · (repeat' ((conv => whnf) <;> first | exact rfl | exact trivial | apply And.intro | exact Nat.zero_add _))
        · (repeat' ((conv => whnf) <;> first | exact rfl | exact trivial | apply And.intro | exact Nat.zero_add _))
        · simp only []; rw [hb]; exact wides_step _ 4 _ hx _
        · exact bad_step hx hf (.inl ⟨by assumption, rfl⟩) (Nat.le_of_ble_eq_true rfl)
    · (repeat' ((conv => whnf); first | apply And.intro | exact ⟨by kernel_rfl⟩ | apply DrawN.mk | apply CodeN.step hm rfl | exact trivial | exact rfl | (intro hh; try simp only [bs] at hh))); all_goals (conv => whnf)
      all_goals first | (exfalso; exact absurd hh (by decide)) | skip
      rw [List.take_of_length_le (by simp)] at hb hf
      (refine RetN.q () [0, 1, 2, 3, 4, 5] ?_ ?_ ?_ <;> (repeat' ((conv => whnf) <;> first | exact rfl | exact trivial | apply And.intro | exact Nat.zero_add _)); all_goals ((conv => whnf); try simp only []))
      all_goals simp only [hb, hf, List.nil_append, Bool.false_or]
set_option maxHeartbeats 1000000 in
/-- The numbers ahead of the lists. -/
theorem headM (k c c0 v p1 p2 p3 p4 nw cn : Int) (told : List Told) (names : List Name) : Meets Try.prog 57 [.ptr 0 0, .vec 1 2 (fun _ => 0) fun _ => 9]
    ([.cells 104 [.pnil, .snil, .bool fun _ => false], .cells 109 [.ptr 2 0, .int .i64 fun _ => 1, .ptr 3 0, .int .i64 fun _ => 1, .ptr 2 3, .int .i64 fun _ => 4, .ptr 2 4, .int .i64 fun _ => 1, .ptr 2 5, .int .i64 fun _ => 4, .ptr 2 6, .int .i64 fun _ => 4, .ptr 2 7, .int .i64 fun _ => 1, .ptr 2 8, .int .i64 fun _ => 6, .ptr 2 9, .int .i64 fun _ => 2], .cells 28 [.int .i64 fun _ => k, .int .i64 fun _ => c0, .lst ToldT fun _ => told, .int .i64 fun _ => v, .int .i64 fun _ => p1, .int .i64 fun _ => p2, .int .i64 fun _ => p3, .int .i64 fun _ => p4, .int .i64 fun _ => nw, .int .i64 fun _ => cn, .lst NameT fun _ => names], .cells 3 [.int .i64 fun _ => c]]) (Y := Unit) (fun _ => True) (fun _ => .tup []) (fun _ => [.cells 104 [.ptr 0 0, .vec 4 1 (fun _ => 0) (fun _ => (wides [(k, 1), (c, 1), (v, 4), (p1, 1), (p2, 4), (p3, 4), (p4, 1), (nw, 6), (cn, 2)]).length), .bool fun _ => bads [(k, 1), (c, 1), (v, 4), (p1, 1), (p2, 4), (p3, 4), (p4, 1), (nw, 6), (cn, 2)]], .none, .cells 28 [.int .i64 fun _ => k, .int .i64 fun _ => c0, .lst ToldT fun _ => told, .int .i64 fun _ => v, .int .i64 fun _ => p1, .int .i64 fun _ => p2, .int .i64 fun _ => p3, .int .i64 fun _ => p4, .int .i64 fun _ => nw, .int .i64 fun _ => cn, .lst NameT fun _ => names], .cells 3 [.int .i64 fun _ => c], .vect 5 (.int .u8) fun _ => byv (wides [(k, 1), (c, 1), (v, 4), (p1, 1), (p2, 4), (p3, 4), (p4, 1), (nw, 6), (cn, 2)])]) := by
  refine Meets.intro hm (fn := Try.f57) Try.func57 rfl (by decide) (Nat.le_of_ble_eq_true rfl) (fun _ => rfl) ?_; intro S hok; (conv => whnf)
  (repeat' ((conv => whnf); first | apply And.intro | exact ⟨by kernel_rfl⟩ | apply DrawN.mk | apply CodeN.step hm rfl | exact trivial | exact rfl | (intro hh; try simp only [bs] at hh))); all_goals (conv => whnf)
  refine LoopN.intro hm (X := Nat × Bytes × Bool) (fun x => x.1 ≤ 9 ∧ x.2.1 = ([] : Bytes) ++ wides ([(k, 1), (c, 1), (v, 4), (p1, 1), (p2, 4), (p3, 4), (p4, 1), (nw, 6), (cn, 2)].take x.1) ∧ x.2.2 = (false || bads ([(k, 1), (c, 1), (v, 4), (p1, 1), (p2, 4), (p3, 4), (p4, 1), (nw, 6), (cn, 2)].take x.1))) (fun x => 9 - x.1)
    (fun x => [(8, .int .i64 fun _ => (x.1 : Int)), (7, .int .i64 fun _ => 9), (6, .vec 1 2 (fun _ => 0) fun _ => 9), (0, .ptr 0 0)])
    (fun x => match x.1 with | 0 => [.cells 104 [.pnil, .snil, .bool fun _ => x.2.2], .cells 109 [.ptr 2 0, .int .i64 fun _ => 1, .ptr 3 0, .int .i64 fun _ => 1, .ptr 2 3, .int .i64 fun _ => 4, .ptr 2 4, .int .i64 fun _ => 1, .ptr 2 5, .int .i64 fun _ => 4, .ptr 2 6, .int .i64 fun _ => 4, .ptr 2 7, .int .i64 fun _ => 1, .ptr 2 8, .int .i64 fun _ => 6, .ptr 2 9, .int .i64 fun _ => 2], .cells 28 [.int .i64 fun _ => k, .int .i64 fun _ => c0, .lst ToldT fun _ => told, .int .i64 fun _ => v, .int .i64 fun _ => p1, .int .i64 fun _ => p2, .int .i64 fun _ => p3, .int .i64 fun _ => p4, .int .i64 fun _ => nw, .int .i64 fun _ => cn, .lst NameT fun _ => names], .cells 3 [.int .i64 fun _ => c]] | _ + 1 => [.cells 104 [.ptr 0 0, .vec 4 1 (fun _ => 0) (fun _ => x.2.1.length), .bool fun _ => x.2.2], .cells 109 [.ptr 2 0, .int .i64 fun _ => 1, .ptr 3 0, .int .i64 fun _ => 1, .ptr 2 3, .int .i64 fun _ => 4, .ptr 2 4, .int .i64 fun _ => 1, .ptr 2 5, .int .i64 fun _ => 4, .ptr 2 6, .int .i64 fun _ => 4, .ptr 2 7, .int .i64 fun _ => 1, .ptr 2 8, .int .i64 fun _ => 6, .ptr 2 9, .int .i64 fun _ => 2], .cells 28 [.int .i64 fun _ => k, .int .i64 fun _ => c0, .lst ToldT fun _ => told, .int .i64 fun _ => v, .int .i64 fun _ => p1, .int .i64 fun _ => p2, .int .i64 fun _ => p3, .int .i64 fun _ => p4, .int .i64 fun _ => nw, .int .i64 fun _ => cn, .lst NameT fun _ => names], .cells 3 [.int .i64 fun _ => c], .vect 5 (.int .u8) fun _ => byv x.2.1]) (0, ([] : Bytes), false) [0, 1, 2, 3] ⟨rfl, rfl, ?_, ?_⟩ ⟨Nat.zero_le _, by simp [wides], by simp [bads]⟩ (fun x hx => ?_)
  · (repeat' ((conv => whnf) <;> first | exact rfl | exact trivial | apply And.intro | exact Nat.zero_add _))
  · (repeat' ((conv => whnf) <;> first | exact rfl | exact trivial | apply And.intro | exact Nat.zero_add _))
  · obtain ⟨i, b, f⟩ := x
    obtain ⟨hi, hb, hf⟩ := hx
    simp only [] at hi hb hf
    have hbl : b.length ≤ 990000 := by
      have h1 : (wides ([(k, 1), (c, 1), (v, 4), (p1, 1), (p2, 4), (p3, 4), (p4, 1), (nw, 6), (cn, 2)].take i)).length ≤ 100 := by
        rw [wides_len]; revert hi; clear hb hf; intro hi
        obtain rfl | rfl | rfl | rfl | rfl | rfl | rfl | rfl | rfl | rfl : i = 0 ∨ i = 1 ∨ i = 2 ∨ i = 3 ∨ i = 4 ∨ i = 5 ∨ i = 6 ∨ i = 7 ∨ i = 8 ∨ i = 9 := by omega
        all_goals (simp only [List.take, List.map, List.sum_cons, List.sum_nil]; omega)
      rw [hb, List.length_append]; simp; omega
    obtain rfl | rfl | rfl | rfl | rfl | rfl | rfl | rfl | rfl | rfl : i = 0 ∨ i = 1 ∨ i = 2 ∨ i = 3 ∨ i = 4 ∨ i = 5 ∨ i = 6 ∨ i = 7 ∨ i = 8 ∨ i = 9 := by omega
    · have hx : [(k, 1), (c, 1), (v, 4), (p1, 1), (p2, 4), (p3, 4), (p4, 1), (nw, 6), (cn, 2)][0]? = some (k, 1) := rfl
      (repeat' ((conv => whnf); first | apply And.intro | exact ⟨by kernel_rfl⟩ | apply DrawN.mk | apply CodeN.step hm rfl | exact trivial | exact rfl | (intro hh; try simp only [bs] at hh))); all_goals (conv => whnf)
      all_goals first | (exact Ob.mk (by decide)) | (exact Ob.mk (by simp)) | skip
      rotate_right
      · exact absurd (by decide) hh
      · (refine CallN.q (wideM (IntKind.u64.wrap (k)) 1 (by omega)) [] (fun _ _ => ?_); (repeat' ((conv => whnf); first | apply And.intro | exact ⟨by kernel_rfl⟩ | apply DrawN.mk | apply CodeN.step hm rfl | exact trivial | exact rfl | (intro hh; try simp only [bs] at hh; try exact absurd hh (by decide)))); all_goals (conv => whnf); all_goals try exact ⟨by decide⟩)
        (refine CallN.q (write0 (wide (IntKind.u64.wrap (k)) 1) ((k).fdiv (2 ^ (min (IntKind.i64.wrap (8 * 1)).toNat IntKind.i64.bits)) != 0) (by rw [wide_len]; omega)) [0] (fun _ _ => ?_); (repeat' ((conv => whnf); first | apply And.intro | exact ⟨by kernel_rfl⟩ | apply DrawN.mk | apply CodeN.step hm rfl | exact trivial | exact rfl | (intro hh; try simp only [bs] at hh; try exact absurd hh (by decide)))); all_goals (conv => whnf); all_goals try exact ⟨by decide⟩)
        refine ⟨(1, wide (IntKind.u64.wrap (k)) 1, ((k).fdiv (2 ^ (min (IntKind.i64.wrap (8 * 1)).toNat IntKind.i64.bits)) != 0)), [0, 1, 2, 3, 5], ⟨rfl, rfl, ?_, ?_⟩, ⟨by simp only []; omega, ?_, ?_⟩, by simp only []; omega⟩
        · (repeat' ((conv => whnf) <;> first | exact rfl | exact trivial | apply And.intro | exact Nat.zero_add _))
        · (repeat' ((conv => whnf) <;> first | exact rfl | exact trivial | apply And.intro | exact Nat.zero_add _))
        · simp [wides]
        · exact bad_step hx hf (.inr (.inr ⟨by assumption, by assumption, rfl⟩)) (Nat.le_of_ble_eq_true rfl)
      · (refine CallN.q (wideM (IntKind.u64.wrap (k)) 1 (by omega)) [] (fun _ _ => ?_); (repeat' ((conv => whnf); first | apply And.intro | exact ⟨by kernel_rfl⟩ | apply DrawN.mk | apply CodeN.step hm rfl | exact trivial | exact rfl | (intro hh; try simp only [bs] at hh; try exact absurd hh (by decide)))); all_goals (conv => whnf); all_goals try exact ⟨by decide⟩)
        (refine CallN.q (write0 (wide (IntKind.u64.wrap (k)) 1) true (by rw [wide_len]; omega)) [0] (fun _ _ => ?_); (repeat' ((conv => whnf); first | apply And.intro | exact ⟨by kernel_rfl⟩ | apply DrawN.mk | apply CodeN.step hm rfl | exact trivial | exact rfl | (intro hh; try simp only [bs] at hh; try exact absurd hh (by decide)))); all_goals (conv => whnf); all_goals try exact ⟨by decide⟩)
        refine ⟨(1, wide (IntKind.u64.wrap (k)) 1, true), [0, 1, 2, 3, 5], ⟨rfl, rfl, ?_, ?_⟩, ⟨by simp only []; omega, ?_, ?_⟩, by simp only []; omega⟩
        · (repeat' ((conv => whnf) <;> first | exact rfl | exact trivial | apply And.intro | exact Nat.zero_add _))
        · (repeat' ((conv => whnf) <;> first | exact rfl | exact trivial | apply And.intro | exact Nat.zero_add _))
        · simp [wides]
        · exact bad_step hx hf (.inr (.inl ⟨by assumption, rfl⟩)) (Nat.le_of_ble_eq_true rfl)
      · (refine CallN.q (wideM (IntKind.u64.wrap (k)) 1 (by omega)) [] (fun _ _ => ?_); (repeat' ((conv => whnf); first | apply And.intro | exact ⟨by kernel_rfl⟩ | apply DrawN.mk | apply CodeN.step hm rfl | exact trivial | exact rfl | (intro hh; try simp only [bs] at hh; try exact absurd hh (by decide)))); all_goals (conv => whnf); all_goals try exact ⟨by decide⟩)
        (refine CallN.q (write0 (wide (IntKind.u64.wrap (k)) 1) true (by rw [wide_len]; omega)) [0] (fun _ _ => ?_); (repeat' ((conv => whnf); first | apply And.intro | exact ⟨by kernel_rfl⟩ | apply DrawN.mk | apply CodeN.step hm rfl | exact trivial | exact rfl | (intro hh; try simp only [bs] at hh; try exact absurd hh (by decide)))); all_goals (conv => whnf); all_goals try exact ⟨by decide⟩)
        refine ⟨(1, wide (IntKind.u64.wrap (k)) 1, true), [0, 1, 2, 3, 5], ⟨rfl, rfl, ?_, ?_⟩, ⟨by simp only []; omega, ?_, ?_⟩, by simp only []; omega⟩
        · (repeat' ((conv => whnf) <;> first | exact rfl | exact trivial | apply And.intro | exact Nat.zero_add _))
        · (repeat' ((conv => whnf) <;> first | exact rfl | exact trivial | apply And.intro | exact Nat.zero_add _))
        · simp [wides]
        · exact bad_step hx hf (.inl ⟨by assumption, rfl⟩) (Nat.le_of_ble_eq_true rfl)
    · have hx : [(k, 1), (c, 1), (v, 4), (p1, 1), (p2, 4), (p3, 4), (p4, 1), (nw, 6), (cn, 2)][1]? = some (c, 1) := rfl
      (repeat' ((conv => whnf); first | apply And.intro | exact ⟨by kernel_rfl⟩ | apply DrawN.mk | apply CodeN.step hm rfl | exact trivial | exact rfl | (intro hh; try simp only [bs] at hh))); all_goals (conv => whnf)
      all_goals first | (exact Ob.mk (by decide)) | (exact Ob.mk (by simp)) | skip
      rotate_right
      · exact absurd (by decide) hh
      · (refine CallN.q (wideM (IntKind.u64.wrap (c)) 1 (by omega)) [] (fun _ _ => ?_); (repeat' ((conv => whnf); first | apply And.intro | exact ⟨by kernel_rfl⟩ | apply DrawN.mk | apply CodeN.step hm rfl | exact trivial | exact rfl | (intro hh; try simp only [bs] at hh; try exact absurd hh (by decide)))); all_goals (conv => whnf); all_goals try exact ⟨by decide⟩)
        (refine CallN.q (writeN b (wide (IntKind.u64.wrap (c)) 1) ((c).fdiv (2 ^ (min (IntKind.i64.wrap (8 * 1)).toNat IntKind.i64.bits)) != 0) (by rw [wide_len]; omega)) [0, 4] (fun _ _ => ?_); (repeat' ((conv => whnf); first | apply And.intro | exact ⟨by kernel_rfl⟩ | apply DrawN.mk | apply CodeN.step hm rfl | exact trivial | exact rfl | (intro hh; try simp only [bs] at hh; try exact absurd hh (by decide)))); all_goals (conv => whnf); all_goals try exact ⟨by decide⟩)
        refine ⟨(2, b ++ wide (IntKind.u64.wrap (c)) 1, ((c).fdiv (2 ^ (min (IntKind.i64.wrap (8 * 1)).toNat IntKind.i64.bits)) != 0)), [0, 1, 2, 3, 4], ⟨rfl, rfl, ?_, ?_⟩, ⟨by simp only []; omega, ?_, ?_⟩, by simp only []; omega⟩
        · (repeat' ((conv => whnf) <;> first | exact rfl | exact trivial | apply And.intro | exact Nat.zero_add _))
        · (repeat' ((conv => whnf) <;> first | exact rfl | exact trivial | apply And.intro | exact Nat.zero_add _))
        · simp only []; rw [hb]; exact wides_step _ 1 _ hx _
        · exact bad_step hx hf (.inr (.inr ⟨by assumption, by assumption, rfl⟩)) (Nat.le_of_ble_eq_true rfl)
      · (refine CallN.q (wideM (IntKind.u64.wrap (c)) 1 (by omega)) [] (fun _ _ => ?_); (repeat' ((conv => whnf); first | apply And.intro | exact ⟨by kernel_rfl⟩ | apply DrawN.mk | apply CodeN.step hm rfl | exact trivial | exact rfl | (intro hh; try simp only [bs] at hh; try exact absurd hh (by decide)))); all_goals (conv => whnf); all_goals try exact ⟨by decide⟩)
        (refine CallN.q (writeN b (wide (IntKind.u64.wrap (c)) 1) true (by rw [wide_len]; omega)) [0, 4] (fun _ _ => ?_); (repeat' ((conv => whnf); first | apply And.intro | exact ⟨by kernel_rfl⟩ | apply DrawN.mk | apply CodeN.step hm rfl | exact trivial | exact rfl | (intro hh; try simp only [bs] at hh; try exact absurd hh (by decide)))); all_goals (conv => whnf); all_goals try exact ⟨by decide⟩)
        refine ⟨(2, b ++ wide (IntKind.u64.wrap (c)) 1, true), [0, 1, 2, 3, 4], ⟨rfl, rfl, ?_, ?_⟩, ⟨by simp only []; omega, ?_, ?_⟩, by simp only []; omega⟩
        · (repeat' ((conv => whnf) <;> first | exact rfl | exact trivial | apply And.intro | exact Nat.zero_add _))
        · (repeat' ((conv => whnf) <;> first | exact rfl | exact trivial | apply And.intro | exact Nat.zero_add _))
        · simp only []; rw [hb]; exact wides_step _ 1 _ hx _
        · exact bad_step hx hf (.inr (.inl ⟨by assumption, rfl⟩)) (Nat.le_of_ble_eq_true rfl)
      · (refine CallN.q (wideM (IntKind.u64.wrap (c)) 1 (by omega)) [] (fun _ _ => ?_); (repeat' ((conv => whnf); first | apply And.intro | exact ⟨by kernel_rfl⟩ | apply DrawN.mk | apply CodeN.step hm rfl | exact trivial | exact rfl | (intro hh; try simp only [bs] at hh; try exact absurd hh (by decide)))); all_goals (conv => whnf); all_goals try exact ⟨by decide⟩)
        (refine CallN.q (writeN b (wide (IntKind.u64.wrap (c)) 1) true (by rw [wide_len]; omega)) [0, 4] (fun _ _ => ?_); (repeat' ((conv => whnf); first | apply And.intro | exact ⟨by kernel_rfl⟩ | apply DrawN.mk | apply CodeN.step hm rfl | exact trivial | exact rfl | (intro hh; try simp only [bs] at hh; try exact absurd hh (by decide)))); all_goals (conv => whnf); all_goals try exact ⟨by decide⟩)
        refine ⟨(2, b ++ wide (IntKind.u64.wrap (c)) 1, true), [0, 1, 2, 3, 4], ⟨rfl, rfl, ?_, ?_⟩, ⟨by simp only []; omega, ?_, ?_⟩, by simp only []; omega⟩
        · (repeat' ((conv => whnf) <;> first | exact rfl | exact trivial | apply And.intro | exact Nat.zero_add _))
        · (repeat' ((conv => whnf) <;> first | exact rfl | exact trivial | apply And.intro | exact Nat.zero_add _))
        · simp only []; rw [hb]; exact wides_step _ 1 _ hx _
        · exact bad_step hx hf (.inl ⟨by assumption, rfl⟩) (Nat.le_of_ble_eq_true rfl)
    · have hx : [(k, 1), (c, 1), (v, 4), (p1, 1), (p2, 4), (p3, 4), (p4, 1), (nw, 6), (cn, 2)][2]? = some (v, 4) := rfl
      (repeat' ((conv => whnf); first | apply And.intro | exact ⟨by kernel_rfl⟩ | apply DrawN.mk | apply CodeN.step hm rfl | exact trivial | exact rfl | (intro hh; try simp only [bs] at hh))); all_goals (conv => whnf)
      all_goals first | (exact Ob.mk (by decide)) | (exact Ob.mk (by simp)) | skip
      rotate_right
      · exact absurd (by decide) hh
      · (refine CallN.q (wideM (IntKind.u64.wrap (v)) 4 (by omega)) [] (fun _ _ => ?_); (repeat' ((conv => whnf); first | apply And.intro | exact ⟨by kernel_rfl⟩ | apply DrawN.mk | apply CodeN.step hm rfl | exact trivial | exact rfl | (intro hh; try simp only [bs] at hh; try exact absurd hh (by decide)))); all_goals (conv => whnf); all_goals try exact ⟨by decide⟩)
        (refine CallN.q (writeN b (wide (IntKind.u64.wrap (v)) 4) ((v).fdiv (2 ^ (min (IntKind.i64.wrap (8 * 4)).toNat IntKind.i64.bits)) != 0) (by rw [wide_len]; omega)) [0, 4] (fun _ _ => ?_); (repeat' ((conv => whnf); first | apply And.intro | exact ⟨by kernel_rfl⟩ | apply DrawN.mk | apply CodeN.step hm rfl | exact trivial | exact rfl | (intro hh; try simp only [bs] at hh; try exact absurd hh (by decide)))); all_goals (conv => whnf); all_goals try exact ⟨by decide⟩)
        refine ⟨(3, b ++ wide (IntKind.u64.wrap (v)) 4, ((v).fdiv (2 ^ (min (IntKind.i64.wrap (8 * 4)).toNat IntKind.i64.bits)) != 0)), [0, 1, 2, 3, 4], ⟨rfl, rfl, ?_, ?_⟩, ⟨by simp only []; omega, ?_, ?_⟩, by simp only []; omega⟩
        · (repeat' ((conv => whnf) <;> first | exact rfl | exact trivial | apply And.intro | exact Nat.zero_add _))
        · (repeat' ((conv => whnf) <;> first | exact rfl | exact trivial | apply And.intro | exact Nat.zero_add _))
        · simp only []; rw [hb]; exact wides_step _ 2 _ hx _
        · exact bad_step hx hf (.inr (.inr ⟨by assumption, by assumption, rfl⟩)) (Nat.le_of_ble_eq_true rfl)
      · (refine CallN.q (wideM (IntKind.u64.wrap (v)) 4 (by omega)) [] (fun _ _ => ?_); (repeat' ((conv => whnf); first | apply And.intro | exact ⟨by kernel_rfl⟩ | apply DrawN.mk | apply CodeN.step hm rfl | exact trivial | exact rfl | (intro hh; try simp only [bs] at hh; try exact absurd hh (by decide)))); all_goals (conv => whnf); all_goals try exact ⟨by decide⟩)
        (refine CallN.q (writeN b (wide (IntKind.u64.wrap (v)) 4) true (by rw [wide_len]; omega)) [0, 4] (fun _ _ => ?_); (repeat' ((conv => whnf); first | apply And.intro | exact ⟨by kernel_rfl⟩ | apply DrawN.mk | apply CodeN.step hm rfl | exact trivial | exact rfl | (intro hh; try simp only [bs] at hh; try exact absurd hh (by decide)))); all_goals (conv => whnf); all_goals try exact ⟨by decide⟩)
        refine ⟨(3, b ++ wide (IntKind.u64.wrap (v)) 4, true), [0, 1, 2, 3, 4], ⟨rfl, rfl, ?_, ?_⟩, ⟨by simp only []; omega, ?_, ?_⟩, by simp only []; omega⟩
        · (repeat' ((conv => whnf) <;> first | exact rfl | exact trivial | apply And.intro | exact Nat.zero_add _))
        · (repeat' ((conv => whnf) <;> first | exact rfl | exact trivial | apply And.intro | exact Nat.zero_add _))
        · simp only []; rw [hb]; exact wides_step _ 2 _ hx _
        · exact bad_step hx hf (.inr (.inl ⟨by assumption, rfl⟩)) (Nat.le_of_ble_eq_true rfl)
      · (refine CallN.q (wideM (IntKind.u64.wrap (v)) 4 (by omega)) [] (fun _ _ => ?_); (repeat' ((conv => whnf); first | apply And.intro | exact ⟨by kernel_rfl⟩ | apply DrawN.mk | apply CodeN.step hm rfl | exact trivial | exact rfl | (intro hh; try simp only [bs] at hh; try exact absurd hh (by decide)))); all_goals (conv => whnf); all_goals try exact ⟨by decide⟩)
        (refine CallN.q (writeN b (wide (IntKind.u64.wrap (v)) 4) true (by rw [wide_len]; omega)) [0, 4] (fun _ _ => ?_); (repeat' ((conv => whnf); first | apply And.intro | exact ⟨by kernel_rfl⟩ | apply DrawN.mk | apply CodeN.step hm rfl | exact trivial | exact rfl | (intro hh; try simp only [bs] at hh; try exact absurd hh (by decide)))); all_goals (conv => whnf); all_goals try exact ⟨by decide⟩)
        refine ⟨(3, b ++ wide (IntKind.u64.wrap (v)) 4, true), [0, 1, 2, 3, 4], ⟨rfl, rfl, ?_, ?_⟩, ⟨by simp only []; omega, ?_, ?_⟩, by simp only []; omega⟩
        · (repeat' ((conv => whnf) <;> first | exact rfl | exact trivial | apply And.intro | exact Nat.zero_add _))
        · (repeat' ((conv => whnf) <;> first | exact rfl | exact trivial | apply And.intro | exact Nat.zero_add _))
        · simp only []; rw [hb]; exact wides_step _ 2 _ hx _
        · exact bad_step hx hf (.inl ⟨by assumption, rfl⟩) (Nat.le_of_ble_eq_true rfl)
    · have hx : [(k, 1), (c, 1), (v, 4), (p1, 1), (p2, 4), (p3, 4), (p4, 1), (nw, 6), (cn, 2)][3]? = some (p1, 1) := rfl
      (repeat' ((conv => whnf); first | apply And.intro | exact ⟨by kernel_rfl⟩ | apply DrawN.mk | apply CodeN.step hm rfl | exact trivial | exact rfl | (intro hh; try simp only [bs] at hh))); all_goals (conv => whnf)
      all_goals first | (exact Ob.mk (by decide)) | (exact Ob.mk (by simp)) | skip
      rotate_right
      · exact absurd (by decide) hh
      · (refine CallN.q (wideM (IntKind.u64.wrap (p1)) 1 (by omega)) [] (fun _ _ => ?_); (repeat' ((conv => whnf); first | apply And.intro | exact ⟨by kernel_rfl⟩ | apply DrawN.mk | apply CodeN.step hm rfl | exact trivial | exact rfl | (intro hh; try simp only [bs] at hh; try exact absurd hh (by decide)))); all_goals (conv => whnf); all_goals try exact ⟨by decide⟩)
        (refine CallN.q (writeN b (wide (IntKind.u64.wrap (p1)) 1) ((p1).fdiv (2 ^ (min (IntKind.i64.wrap (8 * 1)).toNat IntKind.i64.bits)) != 0) (by rw [wide_len]; omega)) [0, 4] (fun _ _ => ?_); (repeat' ((conv => whnf); first | apply And.intro | exact ⟨by kernel_rfl⟩ | apply DrawN.mk | apply CodeN.step hm rfl | exact trivial | exact rfl | (intro hh; try simp only [bs] at hh; try exact absurd hh (by decide)))); all_goals (conv => whnf); all_goals try exact ⟨by decide⟩)
        refine ⟨(4, b ++ wide (IntKind.u64.wrap (p1)) 1, ((p1).fdiv (2 ^ (min (IntKind.i64.wrap (8 * 1)).toNat IntKind.i64.bits)) != 0)), [0, 1, 2, 3, 4], ⟨rfl, rfl, ?_, ?_⟩, ⟨by simp only []; omega, ?_, ?_⟩, by simp only []; omega⟩
        · (repeat' ((conv => whnf) <;> first | exact rfl | exact trivial | apply And.intro | exact Nat.zero_add _))
        · (repeat' ((conv => whnf) <;> first | exact rfl | exact trivial | apply And.intro | exact Nat.zero_add _))
        · simp only []; rw [hb]; exact wides_step _ 3 _ hx _
        · exact bad_step hx hf (.inr (.inr ⟨by assumption, by assumption, rfl⟩)) (Nat.le_of_ble_eq_true rfl)
      · (refine CallN.q (wideM (IntKind.u64.wrap (p1)) 1 (by omega)) [] (fun _ _ => ?_); (repeat' ((conv => whnf); first | apply And.intro | exact ⟨by kernel_rfl⟩ | apply DrawN.mk | apply CodeN.step hm rfl | exact trivial | exact rfl | (intro hh; try simp only [bs] at hh; try exact absurd hh (by decide)))); all_goals (conv => whnf); all_goals try exact ⟨by decide⟩)
        (refine CallN.q (writeN b (wide (IntKind.u64.wrap (p1)) 1) true (by rw [wide_len]; omega)) [0, 4] (fun _ _ => ?_); (repeat' ((conv => whnf); first | apply And.intro | exact ⟨by kernel_rfl⟩ | apply DrawN.mk | apply CodeN.step hm rfl | exact trivial | exact rfl | (intro hh; try simp only [bs] at hh; try exact absurd hh (by decide)))); all_goals (conv => whnf); all_goals try exact ⟨by decide⟩)
        refine ⟨(4, b ++ wide (IntKind.u64.wrap (p1)) 1, true), [0, 1, 2, 3, 4], ⟨rfl, rfl, ?_, ?_⟩, ⟨by simp only []; omega, ?_, ?_⟩, by simp only []; omega⟩
        · (repeat' ((conv => whnf) <;> first | exact rfl | exact trivial | apply And.intro | exact Nat.zero_add _))
        · (repeat' ((conv => whnf) <;> first | exact rfl | exact trivial | apply And.intro | exact Nat.zero_add _))
        · simp only []; rw [hb]; exact wides_step _ 3 _ hx _
        · exact bad_step hx hf (.inr (.inl ⟨by assumption, rfl⟩)) (Nat.le_of_ble_eq_true rfl)
      · (refine CallN.q (wideM (IntKind.u64.wrap (p1)) 1 (by omega)) [] (fun _ _ => ?_); (repeat' ((conv => whnf); first | apply And.intro | exact ⟨by kernel_rfl⟩ | apply DrawN.mk | apply CodeN.step hm rfl | exact trivial | exact rfl | (intro hh; try simp only [bs] at hh; try exact absurd hh (by decide)))); all_goals (conv => whnf); all_goals try exact ⟨by decide⟩)
        (refine CallN.q (writeN b (wide (IntKind.u64.wrap (p1)) 1) true (by rw [wide_len]; omega)) [0, 4] (fun _ _ => ?_); (repeat' ((conv => whnf); first | apply And.intro | exact ⟨by kernel_rfl⟩ | apply DrawN.mk | apply CodeN.step hm rfl | exact trivial | exact rfl | (intro hh; try simp only [bs] at hh; try exact absurd hh (by decide)))); all_goals (conv => whnf); all_goals try exact ⟨by decide⟩)
        refine ⟨(4, b ++ wide (IntKind.u64.wrap (p1)) 1, true), [0, 1, 2, 3, 4], ⟨rfl, rfl, ?_, ?_⟩, ⟨by simp only []; omega, ?_, ?_⟩, by simp only []; omega⟩
        · (repeat' ((conv => whnf) <;> first | exact rfl | exact trivial | apply And.intro | exact Nat.zero_add _))
        · (repeat' ((conv => whnf) <;> first | exact rfl | exact trivial | apply And.intro | exact Nat.zero_add _))
        · simp only []; rw [hb]; exact wides_step _ 3 _ hx _
        · exact bad_step hx hf (.inl ⟨by assumption, rfl⟩) (Nat.le_of_ble_eq_true rfl)
    · have hx : [(k, 1), (c, 1), (v, 4), (p1, 1), (p2, 4), (p3, 4), (p4, 1), (nw, 6), (cn, 2)][4]? = some (p2, 4) := rfl
      (repeat' ((conv => whnf); first | apply And.intro | exact ⟨by kernel_rfl⟩ | apply DrawN.mk | apply CodeN.step hm rfl | exact trivial | exact rfl | (intro hh; try simp only [bs] at hh))); all_goals (conv => whnf)
      all_goals first | (exact Ob.mk (by decide)) | (exact Ob.mk (by simp)) | skip
      rotate_right
      · exact absurd (by decide) hh
      · (refine CallN.q (wideM (IntKind.u64.wrap (p2)) 4 (by omega)) [] (fun _ _ => ?_); (repeat' ((conv => whnf); first | apply And.intro | exact ⟨by kernel_rfl⟩ | apply DrawN.mk | apply CodeN.step hm rfl | exact trivial | exact rfl | (intro hh; try simp only [bs] at hh; try exact absurd hh (by decide)))); all_goals (conv => whnf); all_goals try exact ⟨by decide⟩)
        (refine CallN.q (writeN b (wide (IntKind.u64.wrap (p2)) 4) ((p2).fdiv (2 ^ (min (IntKind.i64.wrap (8 * 4)).toNat IntKind.i64.bits)) != 0) (by rw [wide_len]; omega)) [0, 4] (fun _ _ => ?_); (repeat' ((conv => whnf); first | apply And.intro | exact ⟨by kernel_rfl⟩ | apply DrawN.mk | apply CodeN.step hm rfl | exact trivial | exact rfl | (intro hh; try simp only [bs] at hh; try exact absurd hh (by decide)))); all_goals (conv => whnf); all_goals try exact ⟨by decide⟩)
        refine ⟨(5, b ++ wide (IntKind.u64.wrap (p2)) 4, ((p2).fdiv (2 ^ (min (IntKind.i64.wrap (8 * 4)).toNat IntKind.i64.bits)) != 0)), [0, 1, 2, 3, 4], ⟨rfl, rfl, ?_, ?_⟩, ⟨by simp only []; omega, ?_, ?_⟩, by simp only []; omega⟩
        · (repeat' ((conv => whnf) <;> first | exact rfl | exact trivial | apply And.intro | exact Nat.zero_add _))
        · (repeat' ((conv => whnf) <;> first | exact rfl | exact trivial | apply And.intro | exact Nat.zero_add _))
        · simp only []; rw [hb]; exact wides_step _ 4 _ hx _
        · exact bad_step hx hf (.inr (.inr ⟨by assumption, by assumption, rfl⟩)) (Nat.le_of_ble_eq_true rfl)
      · (refine CallN.q (wideM (IntKind.u64.wrap (p2)) 4 (by omega)) [] (fun _ _ => ?_); (repeat' ((conv => whnf); first | apply And.intro | exact ⟨by kernel_rfl⟩ | apply DrawN.mk | apply CodeN.step hm rfl | exact trivial | exact rfl | (intro hh; try simp only [bs] at hh; try exact absurd hh (by decide)))); all_goals (conv => whnf); all_goals try exact ⟨by decide⟩)
        (refine CallN.q (writeN b (wide (IntKind.u64.wrap (p2)) 4) true (by rw [wide_len]; omega)) [0, 4] (fun _ _ => ?_); (repeat' ((conv => whnf); first | apply And.intro | exact ⟨by kernel_rfl⟩ | apply DrawN.mk | apply CodeN.step hm rfl | exact trivial | exact rfl | (intro hh; try simp only [bs] at hh; try exact absurd hh (by decide)))); all_goals (conv => whnf); all_goals try exact ⟨by decide⟩)
        refine ⟨(5, b ++ wide (IntKind.u64.wrap (p2)) 4, true), [0, 1, 2, 3, 4], ⟨rfl, rfl, ?_, ?_⟩, ⟨by simp only []; omega, ?_, ?_⟩, by simp only []; omega⟩
        · (repeat' ((conv => whnf) <;> first | exact rfl | exact trivial | apply And.intro | exact Nat.zero_add _))
        · (repeat' ((conv => whnf) <;> first | exact rfl | exact trivial | apply And.intro | exact Nat.zero_add _))
        · simp only []; rw [hb]; exact wides_step _ 4 _ hx _
        · exact bad_step hx hf (.inr (.inl ⟨by assumption, rfl⟩)) (Nat.le_of_ble_eq_true rfl)
      · (refine CallN.q (wideM (IntKind.u64.wrap (p2)) 4 (by omega)) [] (fun _ _ => ?_); (repeat' ((conv => whnf); first | apply And.intro | exact ⟨by kernel_rfl⟩ | apply DrawN.mk | apply CodeN.step hm rfl | exact trivial | exact rfl | (intro hh; try simp only [bs] at hh; try exact absurd hh (by decide)))); all_goals (conv => whnf); all_goals try exact ⟨by decide⟩)
        (refine CallN.q (writeN b (wide (IntKind.u64.wrap (p2)) 4) true (by rw [wide_len]; omega)) [0, 4] (fun _ _ => ?_); (repeat' ((conv => whnf); first | apply And.intro | exact ⟨by kernel_rfl⟩ | apply DrawN.mk | apply CodeN.step hm rfl | exact trivial | exact rfl | (intro hh; try simp only [bs] at hh; try exact absurd hh (by decide)))); all_goals (conv => whnf); all_goals try exact ⟨by decide⟩)
        refine ⟨(5, b ++ wide (IntKind.u64.wrap (p2)) 4, true), [0, 1, 2, 3, 4], ⟨rfl, rfl, ?_, ?_⟩, ⟨by simp only []; omega, ?_, ?_⟩, by simp only []; omega⟩
        · (repeat' ((conv => whnf) <;> first | exact rfl | exact trivial | apply And.intro | exact Nat.zero_add _))
        · (repeat' ((conv => whnf) <;> first | exact rfl | exact trivial | apply And.intro | exact Nat.zero_add _))
        · simp only []; rw [hb]; exact wides_step _ 4 _ hx _
        · exact bad_step hx hf (.inl ⟨by assumption, rfl⟩) (Nat.le_of_ble_eq_true rfl)
    · have hx : [(k, 1), (c, 1), (v, 4), (p1, 1), (p2, 4), (p3, 4), (p4, 1), (nw, 6), (cn, 2)][5]? = some (p3, 4) := rfl
      (repeat' ((conv => whnf); first | apply And.intro | exact ⟨by kernel_rfl⟩ | apply DrawN.mk | apply CodeN.step hm rfl | exact trivial | exact rfl | (intro hh; try simp only [bs] at hh))); all_goals (conv => whnf)
      all_goals first | (exact Ob.mk (by decide)) | (exact Ob.mk (by simp)) | skip
      rotate_right
      · exact absurd (by decide) hh
      · (refine CallN.q (wideM (IntKind.u64.wrap (p3)) 4 (by omega)) [] (fun _ _ => ?_); (repeat' ((conv => whnf); first | apply And.intro | exact ⟨by kernel_rfl⟩ | apply DrawN.mk | apply CodeN.step hm rfl | exact trivial | exact rfl | (intro hh; try simp only [bs] at hh; try exact absurd hh (by decide)))); all_goals (conv => whnf); all_goals try exact ⟨by decide⟩)
        (refine CallN.q (writeN b (wide (IntKind.u64.wrap (p3)) 4) ((p3).fdiv (2 ^ (min (IntKind.i64.wrap (8 * 4)).toNat IntKind.i64.bits)) != 0) (by rw [wide_len]; omega)) [0, 4] (fun _ _ => ?_); (repeat' ((conv => whnf); first | apply And.intro | exact ⟨by kernel_rfl⟩ | apply DrawN.mk | apply CodeN.step hm rfl | exact trivial | exact rfl | (intro hh; try simp only [bs] at hh; try exact absurd hh (by decide)))); all_goals (conv => whnf); all_goals try exact ⟨by decide⟩)
        refine ⟨(6, b ++ wide (IntKind.u64.wrap (p3)) 4, ((p3).fdiv (2 ^ (min (IntKind.i64.wrap (8 * 4)).toNat IntKind.i64.bits)) != 0)), [0, 1, 2, 3, 4], ⟨rfl, rfl, ?_, ?_⟩, ⟨by simp only []; omega, ?_, ?_⟩, by simp only []; omega⟩
        · (repeat' ((conv => whnf) <;> first | exact rfl | exact trivial | apply And.intro | exact Nat.zero_add _))
        · (repeat' ((conv => whnf) <;> first | exact rfl | exact trivial | apply And.intro | exact Nat.zero_add _))
        · simp only []; rw [hb]; exact wides_step _ 5 _ hx _
        · exact bad_step hx hf (.inr (.inr ⟨by assumption, by assumption, rfl⟩)) (Nat.le_of_ble_eq_true rfl)
      · (refine CallN.q (wideM (IntKind.u64.wrap (p3)) 4 (by omega)) [] (fun _ _ => ?_); (repeat' ((conv => whnf); first | apply And.intro | exact ⟨by kernel_rfl⟩ | apply DrawN.mk | apply CodeN.step hm rfl | exact trivial | exact rfl | (intro hh; try simp only [bs] at hh; try exact absurd hh (by decide)))); all_goals (conv => whnf); all_goals try exact ⟨by decide⟩)
        (refine CallN.q (writeN b (wide (IntKind.u64.wrap (p3)) 4) true (by rw [wide_len]; omega)) [0, 4] (fun _ _ => ?_); (repeat' ((conv => whnf); first | apply And.intro | exact ⟨by kernel_rfl⟩ | apply DrawN.mk | apply CodeN.step hm rfl | exact trivial | exact rfl | (intro hh; try simp only [bs] at hh; try exact absurd hh (by decide)))); all_goals (conv => whnf); all_goals try exact ⟨by decide⟩)
        refine ⟨(6, b ++ wide (IntKind.u64.wrap (p3)) 4, true), [0, 1, 2, 3, 4], ⟨rfl, rfl, ?_, ?_⟩, ⟨by simp only []; omega, ?_, ?_⟩, by simp only []; omega⟩
        · (repeat' ((conv => whnf) <;> first | exact rfl | exact trivial | apply And.intro | exact Nat.zero_add _))
        · (repeat' ((conv => whnf) <;> first | exact rfl | exact trivial | apply And.intro | exact Nat.zero_add _))
        · simp only []; rw [hb]; exact wides_step _ 5 _ hx _
        · exact bad_step hx hf (.inr (.inl ⟨by assumption, rfl⟩)) (Nat.le_of_ble_eq_true rfl)
      · (refine CallN.q (wideM (IntKind.u64.wrap (p3)) 4 (by omega)) [] (fun _ _ => ?_); (repeat' ((conv => whnf); first | apply And.intro | exact ⟨by kernel_rfl⟩ | apply DrawN.mk | apply CodeN.step hm rfl | exact trivial | exact rfl | (intro hh; try simp only [bs] at hh; try exact absurd hh (by decide)))); all_goals (conv => whnf); all_goals try exact ⟨by decide⟩)
        (refine CallN.q (writeN b (wide (IntKind.u64.wrap (p3)) 4) true (by rw [wide_len]; omega)) [0, 4] (fun _ _ => ?_); (repeat' ((conv => whnf); first | apply And.intro | exact ⟨by kernel_rfl⟩ | apply DrawN.mk | apply CodeN.step hm rfl | exact trivial | exact rfl | (intro hh; try simp only [bs] at hh; try exact absurd hh (by decide)))); all_goals (conv => whnf); all_goals try exact ⟨by decide⟩)
        refine ⟨(6, b ++ wide (IntKind.u64.wrap (p3)) 4, true), [0, 1, 2, 3, 4], ⟨rfl, rfl, ?_, ?_⟩, ⟨by simp only []; omega, ?_, ?_⟩, by simp only []; omega⟩
        · (repeat' ((conv => whnf) <;> first | exact rfl | exact trivial | apply And.intro | exact Nat.zero_add _))
        · (repeat' ((conv => whnf) <;> first | exact rfl | exact trivial | apply And.intro | exact Nat.zero_add _))
        · simp only []; rw [hb]; exact wides_step _ 5 _ hx _
        · exact bad_step hx hf (.inl ⟨by assumption, rfl⟩) (Nat.le_of_ble_eq_true rfl)
    · have hx : [(k, 1), (c, 1), (v, 4), (p1, 1), (p2, 4), (p3, 4), (p4, 1), (nw, 6), (cn, 2)][6]? = some (p4, 1) := rfl
      (repeat' ((conv => whnf); first | apply And.intro | exact ⟨by kernel_rfl⟩ | apply DrawN.mk | apply CodeN.step hm rfl | exact trivial | exact rfl | (intro hh; try simp only [bs] at hh))); all_goals (conv => whnf)
      all_goals first | (exact Ob.mk (by decide)) | (exact Ob.mk (by simp)) | skip
      rotate_right
      · exact absurd (by decide) hh
      · (refine CallN.q (wideM (IntKind.u64.wrap (p4)) 1 (by omega)) [] (fun _ _ => ?_); (repeat' ((conv => whnf); first | apply And.intro | exact ⟨by kernel_rfl⟩ | apply DrawN.mk | apply CodeN.step hm rfl | exact trivial | exact rfl | (intro hh; try simp only [bs] at hh; try exact absurd hh (by decide)))); all_goals (conv => whnf); all_goals try exact ⟨by decide⟩)
        (refine CallN.q (writeN b (wide (IntKind.u64.wrap (p4)) 1) ((p4).fdiv (2 ^ (min (IntKind.i64.wrap (8 * 1)).toNat IntKind.i64.bits)) != 0) (by rw [wide_len]; omega)) [0, 4] (fun _ _ => ?_); (repeat' ((conv => whnf); first | apply And.intro | exact ⟨by kernel_rfl⟩ | apply DrawN.mk | apply CodeN.step hm rfl | exact trivial | exact rfl | (intro hh; try simp only [bs] at hh; try exact absurd hh (by decide)))); all_goals (conv => whnf); all_goals try exact ⟨by decide⟩)
        refine ⟨(7, b ++ wide (IntKind.u64.wrap (p4)) 1, ((p4).fdiv (2 ^ (min (IntKind.i64.wrap (8 * 1)).toNat IntKind.i64.bits)) != 0)), [0, 1, 2, 3, 4], ⟨rfl, rfl, ?_, ?_⟩, ⟨by simp only []; omega, ?_, ?_⟩, by simp only []; omega⟩
        · (repeat' ((conv => whnf) <;> first | exact rfl | exact trivial | apply And.intro | exact Nat.zero_add _))
        · (repeat' ((conv => whnf) <;> first | exact rfl | exact trivial | apply And.intro | exact Nat.zero_add _))
        · simp only []; rw [hb]; exact wides_step _ 6 _ hx _
        · exact bad_step hx hf (.inr (.inr ⟨by assumption, by assumption, rfl⟩)) (Nat.le_of_ble_eq_true rfl)
      · (refine CallN.q (wideM (IntKind.u64.wrap (p4)) 1 (by omega)) [] (fun _ _ => ?_); (repeat' ((conv => whnf); first | apply And.intro | exact ⟨by kernel_rfl⟩ | apply DrawN.mk | apply CodeN.step hm rfl | exact trivial | exact rfl | (intro hh; try simp only [bs] at hh; try exact absurd hh (by decide)))); all_goals (conv => whnf); all_goals try exact ⟨by decide⟩)
        (refine CallN.q (writeN b (wide (IntKind.u64.wrap (p4)) 1) true (by rw [wide_len]; omega)) [0, 4] (fun _ _ => ?_); (repeat' ((conv => whnf); first | apply And.intro | exact ⟨by kernel_rfl⟩ | apply DrawN.mk | apply CodeN.step hm rfl | exact trivial | exact rfl | (intro hh; try simp only [bs] at hh; try exact absurd hh (by decide)))); all_goals (conv => whnf); all_goals try exact ⟨by decide⟩)
        refine ⟨(7, b ++ wide (IntKind.u64.wrap (p4)) 1, true), [0, 1, 2, 3, 4], ⟨rfl, rfl, ?_, ?_⟩, ⟨by simp only []; omega, ?_, ?_⟩, by simp only []; omega⟩
        · (repeat' ((conv => whnf) <;> first | exact rfl | exact trivial | apply And.intro | exact Nat.zero_add _))
        · (repeat' ((conv => whnf) <;> first | exact rfl | exact trivial | apply And.intro | exact Nat.zero_add _))
        · simp only []; rw [hb]; exact wides_step _ 6 _ hx _
        · exact bad_step hx hf (.inr (.inl ⟨by assumption, rfl⟩)) (Nat.le_of_ble_eq_true rfl)
      · (refine CallN.q (wideM (IntKind.u64.wrap (p4)) 1 (by omega)) [] (fun _ _ => ?_); (repeat' ((conv => whnf); first | apply And.intro | exact ⟨by kernel_rfl⟩ | apply DrawN.mk | apply CodeN.step hm rfl | exact trivial | exact rfl | (intro hh; try simp only [bs] at hh; try exact absurd hh (by decide)))); all_goals (conv => whnf); all_goals try exact ⟨by decide⟩)
        (refine CallN.q (writeN b (wide (IntKind.u64.wrap (p4)) 1) true (by rw [wide_len]; omega)) [0, 4] (fun _ _ => ?_); (repeat' ((conv => whnf); first | apply And.intro | exact ⟨by kernel_rfl⟩ | apply DrawN.mk | apply CodeN.step hm rfl | exact trivial | exact rfl | (intro hh; try simp only [bs] at hh; try exact absurd hh (by decide)))); all_goals (conv => whnf); all_goals try exact ⟨by decide⟩)
        refine ⟨(7, b ++ wide (IntKind.u64.wrap (p4)) 1, true), [0, 1, 2, 3, 4], ⟨rfl, rfl, ?_, ?_⟩, ⟨by simp only []; omega, ?_, ?_⟩, by simp only []; omega⟩
        · (repeat' ((conv => whnf) <;> first | exact rfl | exact trivial | apply And.intro | exact Nat.zero_add _))
        · (repeat' ((conv => whnf) <;> first | exact rfl | exact trivial | apply And.intro | exact Nat.zero_add _))
        · simp only []; rw [hb]; exact wides_step _ 6 _ hx _
        · exact bad_step hx hf (.inl ⟨by assumption, rfl⟩) (Nat.le_of_ble_eq_true rfl)
    · have hx : [(k, 1), (c, 1), (v, 4), (p1, 1), (p2, 4), (p3, 4), (p4, 1), (nw, 6), (cn, 2)][7]? = some (nw, 6) := rfl
      (repeat' ((conv => whnf); first | apply And.intro | exact ⟨by kernel_rfl⟩ | apply DrawN.mk | apply CodeN.step hm rfl | exact trivial | exact rfl | (intro hh; try simp only [bs] at hh))); all_goals (conv => whnf)
      all_goals first | (exact Ob.mk (by decide)) | (exact Ob.mk (by simp)) | skip
      rotate_right
      · exact absurd (by decide) hh
      · (refine CallN.q (wideM (IntKind.u64.wrap (nw)) 6 (by omega)) [] (fun _ _ => ?_); (repeat' ((conv => whnf); first | apply And.intro | exact ⟨by kernel_rfl⟩ | apply DrawN.mk | apply CodeN.step hm rfl | exact trivial | exact rfl | (intro hh; try simp only [bs] at hh; try exact absurd hh (by decide)))); all_goals (conv => whnf); all_goals try exact ⟨by decide⟩)
        (refine CallN.q (writeN b (wide (IntKind.u64.wrap (nw)) 6) ((nw).fdiv (2 ^ (min (IntKind.i64.wrap (8 * 6)).toNat IntKind.i64.bits)) != 0) (by rw [wide_len]; omega)) [0, 4] (fun _ _ => ?_); (repeat' ((conv => whnf); first | apply And.intro | exact ⟨by kernel_rfl⟩ | apply DrawN.mk | apply CodeN.step hm rfl | exact trivial | exact rfl | (intro hh; try simp only [bs] at hh; try exact absurd hh (by decide)))); all_goals (conv => whnf); all_goals try exact ⟨by decide⟩)
        refine ⟨(8, b ++ wide (IntKind.u64.wrap (nw)) 6, ((nw).fdiv (2 ^ (min (IntKind.i64.wrap (8 * 6)).toNat IntKind.i64.bits)) != 0)), [0, 1, 2, 3, 4], ⟨rfl, rfl, ?_, ?_⟩, ⟨by simp only []; omega, ?_, ?_⟩, by simp only []; omega⟩
        · (repeat' ((conv => whnf) <;> first | exact rfl | exact trivial | apply And.intro | exact Nat.zero_add _))
        · (repeat' ((conv => whnf) <;> first | exact rfl | exact trivial | apply And.intro | exact Nat.zero_add _))
        · simp only []; rw [hb]; exact wides_step _ 7 _ hx _
        · exact bad_step hx hf (.inr (.inr ⟨by assumption, by assumption, rfl⟩)) (Nat.le_of_ble_eq_true rfl)
      · (refine CallN.q (wideM (IntKind.u64.wrap (nw)) 6 (by omega)) [] (fun _ _ => ?_); (repeat' ((conv => whnf); first | apply And.intro | exact ⟨by kernel_rfl⟩ | apply DrawN.mk | apply CodeN.step hm rfl | exact trivial | exact rfl | (intro hh; try simp only [bs] at hh; try exact absurd hh (by decide)))); all_goals (conv => whnf); all_goals try exact ⟨by decide⟩)
        (refine CallN.q (writeN b (wide (IntKind.u64.wrap (nw)) 6) true (by rw [wide_len]; omega)) [0, 4] (fun _ _ => ?_); (repeat' ((conv => whnf); first | apply And.intro | exact ⟨by kernel_rfl⟩ | apply DrawN.mk | apply CodeN.step hm rfl | exact trivial | exact rfl | (intro hh; try simp only [bs] at hh; try exact absurd hh (by decide)))); all_goals (conv => whnf); all_goals try exact ⟨by decide⟩)
        refine ⟨(8, b ++ wide (IntKind.u64.wrap (nw)) 6, true), [0, 1, 2, 3, 4], ⟨rfl, rfl, ?_, ?_⟩, ⟨by simp only []; omega, ?_, ?_⟩, by simp only []; omega⟩
        · (repeat' ((conv => whnf) <;> first | exact rfl | exact trivial | apply And.intro | exact Nat.zero_add _))
        · (repeat' ((conv => whnf) <;> first | exact rfl | exact trivial | apply And.intro | exact Nat.zero_add _))
        · simp only []; rw [hb]; exact wides_step _ 7 _ hx _
        · exact bad_step hx hf (.inr (.inl ⟨by assumption, rfl⟩)) (Nat.le_of_ble_eq_true rfl)
      · (refine CallN.q (wideM (IntKind.u64.wrap (nw)) 6 (by omega)) [] (fun _ _ => ?_); (repeat' ((conv => whnf); first | apply And.intro | exact ⟨by kernel_rfl⟩ | apply DrawN.mk | apply CodeN.step hm rfl | exact trivial | exact rfl | (intro hh; try simp only [bs] at hh; try exact absurd hh (by decide)))); all_goals (conv => whnf); all_goals try exact ⟨by decide⟩)
        (refine CallN.q (writeN b (wide (IntKind.u64.wrap (nw)) 6) true (by rw [wide_len]; omega)) [0, 4] (fun _ _ => ?_); (repeat' ((conv => whnf); first | apply And.intro | exact ⟨by kernel_rfl⟩ | apply DrawN.mk | apply CodeN.step hm rfl | exact trivial | exact rfl | (intro hh; try simp only [bs] at hh; try exact absurd hh (by decide)))); all_goals (conv => whnf); all_goals try exact ⟨by decide⟩)
        refine ⟨(8, b ++ wide (IntKind.u64.wrap (nw)) 6, true), [0, 1, 2, 3, 4], ⟨rfl, rfl, ?_, ?_⟩, ⟨by simp only []; omega, ?_, ?_⟩, by simp only []; omega⟩
        · (repeat' ((conv => whnf) <;> first | exact rfl | exact trivial | apply And.intro | exact Nat.zero_add _))
        · (repeat' ((conv => whnf) <;> first | exact rfl | exact trivial | apply And.intro | exact Nat.zero_add _))
        · simp only []; rw [hb]; exact wides_step _ 7 _ hx _
        · exact bad_step hx hf (.inl ⟨by assumption, rfl⟩) (Nat.le_of_ble_eq_true rfl)
    · have hx : [(k, 1), (c, 1), (v, 4), (p1, 1), (p2, 4), (p3, 4), (p4, 1), (nw, 6), (cn, 2)][8]? = some (cn, 2) := rfl
      (repeat' ((conv => whnf); first | apply And.intro | exact ⟨by kernel_rfl⟩ | apply DrawN.mk | apply CodeN.step hm rfl | exact trivial | exact rfl | (intro hh; try simp only [bs] at hh))); all_goals (conv => whnf)
      all_goals first | (exact Ob.mk (by decide)) | (exact Ob.mk (by simp)) | skip
      rotate_right
      · exact absurd (by decide) hh
      · (refine CallN.q (wideM (IntKind.u64.wrap (cn)) 2 (by omega)) [] (fun _ _ => ?_); (repeat' ((conv => whnf); first | apply And.intro | exact ⟨by kernel_rfl⟩ | apply DrawN.mk | apply CodeN.step hm rfl | exact trivial | exact rfl | (intro hh; try simp only [bs] at hh; try exact absurd hh (by decide)))); all_goals (conv => whnf); all_goals try exact ⟨by decide⟩)
        (refine CallN.q (writeN b (wide (IntKind.u64.wrap (cn)) 2) ((cn).fdiv (2 ^ (min (IntKind.i64.wrap (8 * 2)).toNat IntKind.i64.bits)) != 0) (by rw [wide_len]; omega)) [0, 4] (fun _ _ => ?_); (repeat' ((conv => whnf); first | apply And.intro | exact ⟨by kernel_rfl⟩ | apply DrawN.mk | apply CodeN.step hm rfl | exact trivial | exact rfl | (intro hh; try simp only [bs] at hh; try exact absurd hh (by decide)))); all_goals (conv => whnf); all_goals try exact ⟨by decide⟩)
        refine ⟨(9, b ++ wide (IntKind.u64.wrap (cn)) 2, ((cn).fdiv (2 ^ (min (IntKind.i64.wrap (8 * 2)).toNat IntKind.i64.bits)) != 0)), [0, 1, 2, 3, 4], ⟨rfl, rfl, ?_, ?_⟩, ⟨by simp only []; omega, ?_, ?_⟩, by simp only []; omega⟩
        · (repeat' ((conv => whnf) <;> first | exact rfl | exact trivial | apply And.intro | exact Nat.zero_add _))
        · (repeat' ((conv => whnf) <;> first | exact rfl | exact trivial | apply And.intro | exact Nat.zero_add _))
        · simp only []; rw [hb]; exact wides_step _ 8 _ hx _
        · exact bad_step hx hf (.inr (.inr ⟨by assumption, by assumption, rfl⟩)) (Nat.le_of_ble_eq_true rfl)
      · (refine CallN.q (wideM (IntKind.u64.wrap (cn)) 2 (by omega)) [] (fun _ _ => ?_); (repeat' ((conv => whnf); first | apply And.intro | exact ⟨by kernel_rfl⟩ | apply DrawN.mk | apply CodeN.step hm rfl | exact trivial | exact rfl | (intro hh; try simp only [bs] at hh; try exact absurd hh (by decide)))); all_goals (conv => whnf); all_goals try exact ⟨by decide⟩)
        (refine CallN.q (writeN b (wide (IntKind.u64.wrap (cn)) 2) true (by rw [wide_len]; omega)) [0, 4] (fun _ _ => ?_); (repeat' ((conv => whnf); first | apply And.intro | exact ⟨by kernel_rfl⟩ | apply DrawN.mk | apply CodeN.step hm rfl | exact trivial | exact rfl | (intro hh; try simp only [bs] at hh; try exact absurd hh (by decide)))); all_goals (conv => whnf); all_goals try exact ⟨by decide⟩)
        refine ⟨(9, b ++ wide (IntKind.u64.wrap (cn)) 2, true), [0, 1, 2, 3, 4], ⟨rfl, rfl, ?_, ?_⟩, ⟨by simp only []; omega, ?_, ?_⟩, by simp only []; omega⟩
        · (repeat' ((conv => whnf) <;> first | exact rfl | exact trivial | apply And.intro | exact Nat.zero_add _))
        · (repeat' ((conv => whnf) <;> first | exact rfl | exact trivial | apply And.intro | exact Nat.zero_add _))
        · simp only []; rw [hb]; exact wides_step _ 8 _ hx _
        · exact bad_step hx hf (.inr (.inl ⟨by assumption, rfl⟩)) (Nat.le_of_ble_eq_true rfl)
      · (refine CallN.q (wideM (IntKind.u64.wrap (cn)) 2 (by omega)) [] (fun _ _ => ?_); (repeat' ((conv => whnf); first | apply And.intro | exact ⟨by kernel_rfl⟩ | apply DrawN.mk | apply CodeN.step hm rfl | exact trivial | exact rfl | (intro hh; try simp only [bs] at hh; try exact absurd hh (by decide)))); all_goals (conv => whnf); all_goals try exact ⟨by decide⟩)
        (refine CallN.q (writeN b (wide (IntKind.u64.wrap (cn)) 2) true (by rw [wide_len]; omega)) [0, 4] (fun _ _ => ?_); (repeat' ((conv => whnf); first | apply And.intro | exact ⟨by kernel_rfl⟩ | apply DrawN.mk | apply CodeN.step hm rfl | exact trivial | exact rfl | (intro hh; try simp only [bs] at hh; try exact absurd hh (by decide)))); all_goals (conv => whnf); all_goals try exact ⟨by decide⟩)
        refine ⟨(9, b ++ wide (IntKind.u64.wrap (cn)) 2, true), [0, 1, 2, 3, 4], ⟨rfl, rfl, ?_, ?_⟩, ⟨by simp only []; omega, ?_, ?_⟩, by simp only []; omega⟩
        · (repeat' ((conv => whnf) <;> first | exact rfl | exact trivial | apply And.intro | exact Nat.zero_add _))
        · (repeat' ((conv => whnf) <;> first | exact rfl | exact trivial | apply And.intro | exact Nat.zero_add _))
        · simp only []; rw [hb]; exact wides_step _ 8 _ hx _
        · exact bad_step hx hf (.inl ⟨by assumption, rfl⟩) (Nat.le_of_ble_eq_true rfl)
    · (repeat' ((conv => whnf); first | apply And.intro | exact ⟨by kernel_rfl⟩ | apply DrawN.mk | apply CodeN.step hm rfl | exact trivial | exact rfl | (intro hh; try simp only [bs] at hh))); all_goals (conv => whnf)
      all_goals first | (exfalso; exact absurd hh (by decide)) | skip
      rw [List.take_of_length_le (by simp)] at hb hf
      (refine RetN.q () [0, 1, 2, 3, 4] ?_ ?_ ?_ <;> (repeat' ((conv => whnf) <;> first | exact rfl | exact trivial | apply And.intro | exact Nat.zero_add _)); all_goals ((conv => whnf); try simp only []))
      all_goals simp only [hb, hf, List.nil_append, Bool.false_or]
end Go.Proofs.Ytoipgandilhdeaa.An
set_option linter.unusedVariables false
set_option linter.unusedSimpArgs false
namespace Go.Proofs.Ytoipgandilhdeaa.An
open Go Go.RowKit Fw Nu
def ansAV (a : Ans) : AV := .agg [.int .i64 fun _ => a.1, .int .i64 fun _ => a.2.1, .lst ToldT fun _ => a.2.2.1, .int .i64 fun _ => a.2.2.2.1, .int .i64 fun _ => a.2.2.2.2.1.1, .int .i64 fun _ => a.2.2.2.2.1.2.1, .int .i64 fun _ => a.2.2.2.2.1.2.2.1, .int .i64 fun _ => a.2.2.2.2.1.2.2.2, .int .i64 fun _ => a.2.2.2.2.2.1, .int .i64 fun _ => a.2.2.2.2.2.2.1, .lst NameT fun _ => a.2.2.2.2.2.2.2]
def ansC (a : Ans) : Chunk := .cells 28 [.int .i64 fun _ => a.1, .int .i64 fun _ => a.2.1, .lst ToldT fun _ => a.2.2.1, .int .i64 fun _ => a.2.2.2.1, .int .i64 fun _ => a.2.2.2.2.1.1, .int .i64 fun _ => a.2.2.2.2.1.2.1, .int .i64 fun _ => a.2.2.2.2.1.2.2.1, .int .i64 fun _ => a.2.2.2.2.1.2.2.2, .int .i64 fun _ => a.2.2.2.2.2.1, .int .i64 fun _ => a.2.2.2.2.2.2.1, .lst NameT fun _ => a.2.2.2.2.2.2.2]
theorem headsM (a : Ans) (c : Int) : Meets Try.prog 37 [.ptr 0 0, .ptr 1 0] [ansC a, .cells 3 [.int .i64 fun _ => c]] (Y := Unit) (fun _ => True) (fun _ => .vec 2 2 (fun _ => 0) fun _ => 9)
    (fun _ => [ansC a, .cells 3 [.int .i64 fun _ => c], .cells 109 [.ptr 0 0, .int .i64 fun _ => 1, .ptr 1 0, .int .i64 fun _ => 1, .ptr 0 3, .int .i64 fun _ => 4, .ptr 0 4, .int .i64 fun _ => 1, .ptr 0 5, .int .i64 fun _ => 4, .ptr 0 6, .int .i64 fun _ => 4, .ptr 0 7, .int .i64 fun _ => 1, .ptr 0 8, .int .i64 fun _ => 6, .ptr 0 9, .int .i64 fun _ => 2]]) := by
  refine Meets.intro hm (fn := Try.f37) Try.func37 rfl (by decide) (Nat.le_of_ble_eq_true rfl) (fun _ => rfl) ?_; intro S hok; (conv => whnf)
  (repeat' ((conv => whnf); first | apply And.intro | exact ⟨by kernel_rfl⟩ | apply DrawN.mk | apply CodeN.step hm rfl | exact trivial | exact rfl | (intro hh; try simp only [bs] at hh))); all_goals (conv => whnf)
  (refine RetN.q () [0, 1, 2] ?_ ?_ ?_ <;> (repeat' ((conv => whnf) <;> first | exact rfl | exact trivial | apply And.intro | exact Nat.zero_add _)); all_goals ((conv => whnf); try simp only []))
theorem toldsM (t : Told) (c al : Int) : Meets Try.prog 59 [.ptr 0 0, .ptr 1 0, .ptr 2 0] [.cells 53 [.int .i64 fun _ => t.1, .bool fun _ => t.2.1, .int .i64 fun _ => t.2.2.1, .int .i64 fun _ => t.2.2.2.1, .int .i64 fun _ => t.2.2.2.2], .cells 3 [.int .i64 fun _ => c], .cells 3 [.int .i64 fun _ => al]] (Y := Unit) (fun _ => True) (fun _ => .vec 3 2 (fun _ => 0) fun _ => 5)
    (fun _ => [.cells 53 [.int .i64 fun _ => t.1, .bool fun _ => t.2.1, .int .i64 fun _ => t.2.2.1, .int .i64 fun _ => t.2.2.2.1, .int .i64 fun _ => t.2.2.2.2], .cells 3 [.int .i64 fun _ => c], .cells 3 [.int .i64 fun _ => al], .cells 109 [.ptr 1 0, .int .i64 fun _ => 1, .ptr 2 0, .int .i64 fun _ => 1, .ptr 0 2, .int .i64 fun _ => 4, .ptr 0 3, .int .i64 fun _ => 6, .ptr 0 4, .int .i64 fun _ => 6]]) := by
  refine Meets.intro hm (fn := Try.f59) Try.func59 rfl (by decide) (Nat.le_of_ble_eq_true rfl) (fun _ => rfl) ?_; intro S hok; (conv => whnf)
  (repeat' ((conv => whnf); first | apply And.intro | exact ⟨by kernel_rfl⟩ | apply DrawN.mk | apply CodeN.step hm rfl | exact trivial | exact rfl | (intro hh; try simp only [bs] at hh))); all_goals (conv => whnf)
  (refine RetN.q () [0, 1, 2, 3] ?_ ?_ ?_ <;> (repeat' ((conv => whnf) <;> first | exact rfl | exact trivial | apply And.intro | exact Nat.zero_add _)); all_goals ((conv => whnf); try simp only []))
theorem countM (s : Bytes) (wrong : Bool) (n : Int) (hs : s.length ≤ 900000) : Meets Try.prog 58 [.ptr 0 0, .int .i64 fun _ => n] (wN s wrong) (Y := Unit) (fun _ => True) (fun _ => .tup []) (fun _ => wN (s ++ wides [(n, 1)]) (wrong || decide (32 < n) || bads [(n, 1)])) := by
  refine Meets.intro hm (fn := Try.f58) Try.func58 rfl (by decide) (Nat.le_of_ble_eq_true rfl) (fun _ => rfl) ?_; intro S hok; (conv => whnf)
  (repeat' ((conv => whnf); first | apply And.intro | exact ⟨by kernel_rfl⟩ | apply DrawN.mk | apply CodeN.step hm rfl | exact trivial | exact rfl | (intro hh; try simp only [bs] at hh))); all_goals (conv => whnf)
  · (refine CallN.q (oneM s (decide (32 < n)) n hs) [0, 1, 3, 2] (fun _ _ => ?_); (repeat' ((conv => whnf); first | apply And.intro | exact ⟨by kernel_rfl⟩ | apply DrawN.mk | apply CodeN.step hm rfl | exact trivial | exact rfl | (intro hh; try simp only [bs] at hh; try exact absurd hh (by decide)))); all_goals (conv => whnf); all_goals try exact ⟨by decide⟩)
    (refine RetN.q () [0, 1] ?_ ?_ ?_ <;> (repeat' ((conv => whnf) <;> first | exact rfl | exact trivial | apply And.intro | exact Nat.zero_add _)); all_goals ((conv => whnf); try simp only []))
    rw [hh]; rfl
  · (refine CallN.q (oneM s true n hs) [0, 1, 3, 2] (fun _ _ => ?_); (repeat' ((conv => whnf); first | apply And.intro | exact ⟨by kernel_rfl⟩ | apply DrawN.mk | apply CodeN.step hm rfl | exact trivial | exact rfl | (intro hh; try simp only [bs] at hh; try exact absurd hh (by decide)))); all_goals (conv => whnf); all_goals try exact ⟨by decide⟩)
    (refine RetN.q () [0, 1] ?_ ?_ ?_ <;> (repeat' ((conv => whnf) <;> first | exact rfl | exact trivial | apply And.intro | exact Nat.zero_add _)); all_goals ((conv => whnf); try simp only []))
    rw [hh]; rfl
def ansNums (a : Ans) : List (Int × Nat) := [(a.1, 1), (a.2.1, 1), (a.2.2.2.1, 4), (a.2.2.2.2.1.1, 1), (a.2.2.2.2.1.2.1, 4), (a.2.2.2.2.1.2.2.1, 4), (a.2.2.2.2.1.2.2.2, 1), (a.2.2.2.2.2.1, 6), (a.2.2.2.2.2.2.1, 2)]
def toldNums (t : Told) : List (Int × Nat) := [(t.1, 1), (if t.2.1 then 1 else 0, 1), (t.2.2.1, 4), (t.2.2.2.1, 6), (t.2.2.2.2, 6)]
def toldsB (l : List Told) : Bytes := l.flatMap fun t => wides (toldNums t)
def namesB (l : List Name) : Bytes := l.flatMap fun n => wides [(n.1, 1)] ++ (put n.2).1
def toldsW (l : List Told) : Bool := l.any fun t => bads (toldNums t)
def namesW (l : List Name) : Bool := l.any fun n => bads [(n.1, 1)] || !(put n.2).2
def encA (a : Ans) : Bytes := wides (ansNums a) ++ wides [((a.2.2.1.length : Int), 1)] ++ toldsB a.2.2.1 ++ wides [((a.2.2.2.2.2.2.2.length : Int), 1)] ++ namesB a.2.2.2.2.2.2.2
def wrongA (a : Ans) : Bool := bads (ansNums a) || decide (32 < (a.2.2.1.length : Int)) || bads [((a.2.2.1.length : Int), 1)] || toldsW a.2.2.1 || decide (32 < (a.2.2.2.2.2.2.2.length : Int)) || bads [((a.2.2.2.2.2.2.2.length : Int), 1)] || namesW a.2.2.2.2.2.2.2
structure Sh (a : Ans) : Prop where
  told : a.2.2.1.length ≤ 1000
  names : a.2.2.2.2.2.2.2.length ≤ 1000
  key : ∀ n ∈ a.2.2.2.2.2.2.2, n.2.length ≤ 300
theorem toldsB_len (l : List Told) : (toldsB l).length = 18 * l.length := by
  induction l with
  | nil => rfl
  | cons t r ih => simp only [toldsB, List.flatMap_cons, List.length_append, List.length_cons] at ih ⊢; rw [ih, wides_len]; simp [toldNums]; omega
theorem put_len (s : Bytes) : (put s).1.length ≤ s.length + 1 := by unfold put; split <;> simp
theorem namesB_len {l : List Name} (h : ∀ n ∈ l, n.2.length ≤ 300) : (namesB l).length ≤ 302 * l.length := by
  induction l with
  | nil => simp [namesB]
  | cons t r ih =>
    have h1 := ih fun n hn => h n (List.mem_cons_of_mem _ hn)
    have h2 := h t (List.mem_cons_self ..)
    have h3 := put_len t.2
    have h4 : (wides [(t.1, 1)]).length = 1 := by rw [wides_len]; rfl
    simp only [namesB, List.flatMap_cons, List.length_append, List.length_cons] at h1 ⊢
    omega
theorem toldsB_take {l : List Told} {i : Nat} (h : i < l.length) : toldsB (l.take (i + 1)) = toldsB (l.take i) ++ wides (toldNums (l.getD i (0, false, 0, 0, 0))) := by
  rw [List.take_add_one, List.getElem?_eq_getElem h, toldsB, toldsB, List.flatMap_append, List.getD_eq_getElem?_getD, List.getElem?_eq_getElem h]; simp
theorem namesB_take {l : List Name} {i : Nat} (h : i < l.length) : namesB (l.take (i + 1)) = namesB (l.take i) ++ (wides [((l.getD i (0, [])).1, 1)] ++ (put (l.getD i (0, [])).2).1) := by
  rw [List.take_add_one, List.getElem?_eq_getElem h, namesB, namesB, List.flatMap_append, List.getD_eq_getElem?_getD, List.getElem?_eq_getElem h]; simp
theorem toldsW_take {l : List Told} {i : Nat} (h : i < l.length) : toldsW (l.take (i + 1)) = (toldsW (l.take i) || bads (toldNums (l.getD i (0, false, 0, 0, 0)))) := by
  rw [List.take_add_one, List.getElem?_eq_getElem h, toldsW, toldsW, List.any_append, List.getD_eq_getElem?_getD, List.getElem?_eq_getElem h]; simp
theorem namesW_take {l : List Name} {i : Nat} (h : i < l.length) : namesW (l.take (i + 1)) = (namesW (l.take i) || (bads [((l.getD i (0, [])).1, 1)] || !(put (l.getD i (0, [])).2).2)) := by
  rw [List.take_add_one, List.getElem?_eq_getElem h, namesW, namesW, List.any_append, List.getD_eq_getElem?_getD, List.getElem?_eq_getElem h]; simp
theorem heads_len (a : Ans) : (wides (ansNums a)).length = 24 := by rw [wides_len]; rfl
set_option maxRecDepth 4000 in
theorem writeAM (a : Ans) (hs : Sh a) : Meets Try.prog 31 [ansAV a] [] (Y := Unit) (fun _ => True) (fun _ => .tup [.str fun _ => encA a, .bool fun _ => !wrongA a]) (fun _ => []) := by
  refine Meets.intro hm (fn := Try.f31) Try.func31 rfl (by decide) (Nat.le_of_ble_eq_true rfl) (fun _ => rfl) ?_; intro S hok; (conv => whnf)
  (repeat' ((conv => whnf); first | apply And.intro | exact ⟨by kernel_rfl⟩ | apply DrawN.mk | apply CodeN.step hm rfl | exact trivial | exact rfl | (intro hh; try simp only [bs] at hh))); all_goals (conv => whnf)
  (refine CallN.q (headsM a a.2.1) [0, 2] (fun _ _ => ?_); (repeat' ((conv => whnf); first | apply And.intro | exact ⟨by kernel_rfl⟩ | apply DrawN.mk | apply CodeN.step hm rfl | exact trivial | exact rfl | (intro hh; try simp only [bs] at hh; try exact absurd hh (by decide)))); all_goals (conv => whnf); all_goals try exact ⟨by decide⟩)
  (refine CallN.q (headM a.1 a.2.1 a.2.1 a.2.2.2.1 a.2.2.2.2.1.1 a.2.2.2.2.1.2.1 a.2.2.2.2.1.2.2.1 a.2.2.2.2.1.2.2.2 a.2.2.2.2.2.1 a.2.2.2.2.2.2.1 a.2.2.1 a.2.2.2.2.2.2.2) [1, 3, 0, 2] (fun _ _ => ?_); (repeat' ((conv => whnf); first | apply And.intro | exact ⟨by kernel_rfl⟩ | apply DrawN.mk | apply CodeN.step hm rfl | exact trivial | exact rfl | (intro hh; try simp only [bs] at hh; try exact absurd hh (by decide)))); all_goals (conv => whnf); all_goals try exact ⟨by decide⟩)
  have hl0 := heads_len a
  have h1 := hs.told
  have h2 := hs.names
  have hone : ∀ x : Int, (wides [(x, 1)]).length = 1 := fun x => by rw [wides_len]; rfl
  (refine CallN.q (countM (wides (ansNums a)) (bads (ansNums a)) a.2.2.1.length (by omega)) [1, 4] (fun _ _ => ?_); (repeat' ((conv => whnf); first | apply And.intro | exact ⟨by kernel_rfl⟩ | apply DrawN.mk | apply CodeN.step hm rfl | exact trivial | exact rfl | (intro hh; try simp only [bs] at hh; try exact absurd hh (by decide)))); all_goals (conv => whnf); all_goals try exact ⟨by decide⟩)
  generalize hb1 : wides (ansNums a) ++ wides [((a.2.2.1.length : Int), 1)] = b1
  generalize hf1 : (bads (ansNums a) || decide (32 < (a.2.2.1.length : Int)) || bads [((a.2.2.1.length : Int), 1)]) = f1
  have hb1l : b1.length = 25 := by rw [← hb1, List.length_append, hl0, hone]
  refine LoopN.intro hm (X := Nat × Bytes × Bool) (fun x => x.1 ≤ a.2.2.1.length ∧ x.2.1 = b1 ++ toldsB (a.2.2.1.take x.1) ∧ x.2.2 = (f1 || toldsW (a.2.2.1.take x.1))) (fun x => a.2.2.1.length - x.1)
    (fun x => [(29, .int .i64 fun _ => (x.1 : Int)), (28, .int .i64 fun _ => (a.2.2.1.length : Int)), (27, .lst ToldT fun _ => a.2.2.1), (4, .ptr 1 0), (1, .ptr 0 0)])
    (fun x => [ansC a, .cells 104 [.ptr 1 0, .vec 2 1 (fun _ => 0) (fun _ => x.2.1.length), .bool fun _ => x.2.2], .vect 5 (.int .u8) fun _ => byv x.2.1])
    (0, b1, f1) [0, 1, 4] ⟨rfl, rfl, ?_, ?_⟩ ⟨Nat.zero_le _, by simp [toldsB], by simp [toldsW]⟩ (fun x hx => ?_)
  · (repeat' ((conv => whnf) <;> first | exact rfl | exact trivial | apply And.intro | exact Nat.zero_add _))
  · (repeat' ((conv => whnf) <;> first | exact rfl | exact trivial | apply And.intro | exact Nat.zero_add _))
  · obtain ⟨i, b, f⟩ := x
    obtain ⟨hi, hb, hf⟩ := hx
    simp only [] at hi hb hf
    have hbl : b.length ≤ 18025 := by rw [hb, List.length_append, toldsB_len, List.length_take]; omega
    have htk := toldsB_take (l := a.2.2.1) (i := i)
    have hwk := toldsW_take (l := a.2.2.1) (i := i)
    have hx' : a.2.2.1.getD (i : Int).toNat ToldT.dflt = a.2.2.1.getD i (0, false, 0, 0, 0) := rfl
    generalize a.2.2.1.getD i (0, false, 0, 0, 0) = t at htk hwk hx'
    (repeat' ((conv => whnf); first | apply And.intro | exact ⟨by kernel_rfl⟩ | apply DrawN.mk | apply CodeN.step hm rfl | exact trivial | exact rfl | (intro hh; try simp only [bs] at hh))); all_goals (conv => whnf)
    all_goals (try simp only [hx'] at hh ⊢)
    · (refine Ob.mk ?_; (try simp only [Ty.dflt, Nat.zero_add, Nat.add_zero, Int.toNat_natCast, Int.toNat_zero, Int.toNat_one, List.length_take, List.length_drop, List.length_append, List.length_replicate, List.length_cons, List.length_nil, List.length_set, List.length_map, true_and, and_true]); omega)
    · have hi1 : i < a.2.2.1.length := by omega
      have e : toldNums t = [(t.1, 1), (1, 1), (t.2.2.1, 4), (t.2.2.2.1, 6), (t.2.2.2.2, 6)] := by simp only [toldNums, hh]; rfl
      have htk := htk hi1
      have hwk := hwk hi1
      rw [e] at htk hwk
      (refine CallN.q (toldsM t t.1 1) [3, 4, 5] (fun _ _ => ?_); (repeat' ((conv => whnf); first | apply And.intro | exact ⟨by kernel_rfl⟩ | apply DrawN.mk | apply CodeN.step hm rfl | exact trivial | exact rfl | (intro hh; try simp only [bs] at hh; try exact absurd hh (by decide)))); all_goals (conv => whnf); all_goals try exact ⟨by decide⟩)
      (refine CallN.q (toldM b f t.1 1 t.2.1 t.1 t.2.2.1 t.2.2.2.1 t.2.2.2.2 (by omega)) [1, 2, 6, 3, 4, 5] (fun _ _ => ?_); (repeat' ((conv => whnf); first | apply And.intro | exact ⟨by kernel_rfl⟩ | apply DrawN.mk | apply CodeN.step hm rfl | exact trivial | exact rfl | (intro hh; try simp only [bs] at hh; try exact absurd hh (by decide)))); all_goals (conv => whnf); all_goals try exact ⟨by decide⟩)
      refine ⟨(i + 1, b ++ wides [(t.1, 1), (1, 1), (t.2.2.1, 4), (t.2.2.2.1, 6), (t.2.2.2.2, 6)], f || bads [(t.1, 1), (1, 1), (t.2.2.1, 4), (t.2.2.2.1, 6), (t.2.2.2.2, 6)]), [0, 1, 2], ⟨rfl, rfl, ?_, ?_⟩, ⟨hi1, ?_, ?_⟩, by simp only []; omega⟩
      · (repeat' ((conv => whnf) <;> first | exact rfl | exact trivial | apply And.intro | exact Nat.zero_add _))
      · (repeat' ((conv => whnf) <;> first | exact rfl | exact trivial | apply And.intro | exact Nat.zero_add _)); all_goals ((conv => whnf); try simp only [])
        exact wr2 i hi1 (by omega)
      · simp only []; rw [htk, hb, List.append_assoc]
      · simp only []; rw [hwk, hf, Bool.or_assoc]
    · have hi1 : i < a.2.2.1.length := by omega
      have e : toldNums t = [(t.1, 1), (0, 1), (t.2.2.1, 4), (t.2.2.2.1, 6), (t.2.2.2.2, 6)] := by simp only [toldNums, hh]; rfl
      have htk := htk hi1
      have hwk := hwk hi1
      rw [e] at htk hwk
      (refine CallN.q (toldsM t t.1 0) [3, 4, 5] (fun _ _ => ?_); (repeat' ((conv => whnf); first | apply And.intro | exact ⟨by kernel_rfl⟩ | apply DrawN.mk | apply CodeN.step hm rfl | exact trivial | exact rfl | (intro hh; try simp only [bs] at hh; try exact absurd hh (by decide)))); all_goals (conv => whnf); all_goals try exact ⟨by decide⟩)
      (refine CallN.q (toldM b f t.1 0 t.2.1 t.1 t.2.2.1 t.2.2.2.1 t.2.2.2.2 (by omega)) [1, 2, 6, 3, 4, 5] (fun _ _ => ?_); (repeat' ((conv => whnf); first | apply And.intro | exact ⟨by kernel_rfl⟩ | apply DrawN.mk | apply CodeN.step hm rfl | exact trivial | exact rfl | (intro hh; try simp only [bs] at hh; try exact absurd hh (by decide)))); all_goals (conv => whnf); all_goals try exact ⟨by decide⟩)
      refine ⟨(i + 1, b ++ wides [(t.1, 1), (0, 1), (t.2.2.1, 4), (t.2.2.2.1, 6), (t.2.2.2.2, 6)], f || bads [(t.1, 1), (0, 1), (t.2.2.1, 4), (t.2.2.2.1, 6), (t.2.2.2.2, 6)]), [0, 1, 2], ⟨rfl, rfl, ?_, ?_⟩, ⟨hi1, ?_, ?_⟩, by simp only []; omega⟩
      · (repeat' ((conv => whnf) <;> first | exact rfl | exact trivial | apply And.intro | exact Nat.zero_add _))
      · (repeat' ((conv => whnf) <;> first | exact rfl | exact trivial | apply And.intro | exact Nat.zero_add _)); all_goals ((conv => whnf); try simp only [])
        exact wr2 i hi1 (by omega)
      · simp only []; rw [htk, hb, List.append_assoc]
      · simp only []; rw [hwk, hf, Bool.or_assoc]
    · have ei : i = a.2.2.1.length := by omega
      rw [ei, List.take_length] at hb hf
      clear htk hwk hx'
      (refine CallN.q (countM b f a.2.2.2.2.2.2.2.length (by omega)) [1, 2] (fun _ _ => ?_); (repeat' ((conv => whnf); first | apply And.intro | exact ⟨by kernel_rfl⟩ | apply DrawN.mk | apply CodeN.step hm rfl | exact trivial | exact rfl | (intro hh; try simp only [bs] at hh; try exact absurd hh (by decide)))); all_goals (conv => whnf); all_goals try exact ⟨by decide⟩)
      generalize hb2 : b ++ wides [((a.2.2.2.2.2.2.2.length : Int), 1)] = b2
      generalize hf2 : (f || decide (32 < (a.2.2.2.2.2.2.2.length : Int)) || bads [((a.2.2.2.2.2.2.2.length : Int), 1)]) = f2
      have hb2l : b2.length ≤ 18026 := by rw [← hb2, List.length_append, hone]; omega
      clear hbl
      refine LoopN.intro hm (X := Nat × Bytes × Bool) (fun x => x.1 ≤ a.2.2.2.2.2.2.2.length ∧ x.2.1 = b2 ++ namesB (a.2.2.2.2.2.2.2.take x.1) ∧ x.2.2 = (f2 || namesW (a.2.2.2.2.2.2.2.take x.1))) (fun x => a.2.2.2.2.2.2.2.length - x.1)
        (fun x => [(50, .int .i64 fun _ => (x.1 : Int)), (49, .int .i64 fun _ => (a.2.2.2.2.2.2.2.length : Int)), (48, .lst NameT fun _ => a.2.2.2.2.2.2.2), (4, .ptr 1 0)])
        (fun x => [.none, .cells 104 [.ptr 1 0, .vec 2 1 (fun _ => 0) (fun _ => x.2.1.length), .bool fun _ => x.2.2], .vect 5 (.int .u8) fun _ => byv x.2.1])
        (0, b2, f2) [0, 1, 2] ⟨rfl, rfl, ?_, ?_⟩ ⟨Nat.zero_le _, by simp [namesB], by simp [namesW]⟩ (fun x hx => ?_)
      · (repeat' ((conv => whnf) <;> first | exact rfl | exact trivial | apply And.intro | exact Nat.zero_add _))
      · (repeat' ((conv => whnf) <;> first | exact rfl | exact trivial | apply And.intro | exact Nat.zero_add _))
      · obtain ⟨j, c, h⟩ := x
        obtain ⟨hj, hc, hh'⟩ := hx
        simp only [] at hj hc hh'
        have hkt : ∀ n ∈ a.2.2.2.2.2.2.2.take j, n.2.length ≤ 300 := fun n hn => hs.key n (List.mem_of_mem_take hn)
        have hcl : c.length ≤ 320026 := by
          have := namesB_len hkt
          rw [List.length_take] at this
          rw [hc, List.length_append]; omega
        have htk := namesB_take (l := a.2.2.2.2.2.2.2) (i := j)
        have hwk := namesW_take (l := a.2.2.2.2.2.2.2) (i := j)
        have hkm : j < a.2.2.2.2.2.2.2.length → (a.2.2.2.2.2.2.2.getD j (0, [])).2.length ≤ 300 := fun h => hs.key _ (by rw [List.getD_eq_getElem?_getD, List.getElem?_eq_getElem h]; exact List.getElem_mem h)
        have hx' : a.2.2.2.2.2.2.2.getD (j : Int).toNat NameT.dflt = a.2.2.2.2.2.2.2.getD j (0, []) := rfl
        generalize a.2.2.2.2.2.2.2.getD j (0, []) = n at htk hwk hx' hkm
        clear hh
        (repeat' ((conv => whnf); first | apply And.intro | exact ⟨by kernel_rfl⟩ | apply DrawN.mk | apply CodeN.step hm rfl | exact trivial | exact rfl | (intro hh; try simp only [bs] at hh))); all_goals (conv => whnf)
        all_goals (try simp only [hx'] at hh ⊢)
        · (refine Ob.mk ?_; (try simp only [Ty.dflt, Nat.zero_add, Nat.add_zero, Int.toNat_natCast, Int.toNat_zero, Int.toNat_one, List.length_take, List.length_drop, List.length_append, List.length_replicate, List.length_cons, List.length_nil, List.length_set, List.length_map, true_and, and_true]); omega)
        · have hj1 : j < a.2.2.2.2.2.2.2.length := by omega
          have htk := htk hj1
          have hwk := hwk hj1
          have hkm := hkm hj1
          have hpl := put_len n.2
          (refine CallN.q (bookM c h n.1 n.2 (by omega)) [1, 2, 4, 3] (fun _ _ => ?_); (repeat' ((conv => whnf); first | apply And.intro | exact ⟨by kernel_rfl⟩ | apply DrawN.mk | apply CodeN.step hm rfl | exact trivial | exact rfl | (intro hh; try simp only [bs] at hh; try exact absurd hh (by decide)))); all_goals (conv => whnf); all_goals try exact ⟨by decide⟩)
          (refine CallN.q (putM n.2 (by omega)) [] (fun _ _ => ?_); (repeat' ((conv => whnf); first | apply And.intro | exact ⟨by kernel_rfl⟩ | apply DrawN.mk | apply CodeN.step hm rfl | exact trivial | exact rfl | (intro hh; try simp only [bs] at hh; try exact absurd hh (by decide)))); all_goals (conv => whnf); all_goals try exact ⟨by decide⟩)
          · (refine CallN.q (writeN (c ++ wides [(n.1, 1)]) (put n.2).1 (!(put n.2).2) (by rw [List.length_append, hone]; omega)) [1, 2] (fun _ _ => ?_); (repeat' ((conv => whnf); first | apply And.intro | exact ⟨by kernel_rfl⟩ | apply DrawN.mk | apply CodeN.step hm rfl | exact trivial | exact rfl | (intro hh; try simp only [bs] at hh; try exact absurd hh (by decide)))); all_goals (conv => whnf); all_goals try exact ⟨by decide⟩)
            refine ⟨(j + 1, c ++ wides [(n.1, 1)] ++ (put n.2).1, (!(put n.2).2)), [0, 1, 2], ⟨rfl, rfl, ?_, ?_⟩, ⟨hj1, ?_, ?_⟩, by simp only []; omega⟩
            · (repeat' ((conv => whnf) <;> first | exact rfl | exact trivial | apply And.intro | exact Nat.zero_add _))
            · (repeat' ((conv => whnf) <;> first | exact rfl | exact trivial | apply And.intro | exact Nat.zero_add _)); all_goals ((conv => whnf); try simp only [])
              exact wr2 j hj1 (by omega)
            · simp only []; rw [htk, hc]; simp only [List.append_assoc]
            · simp only []
              rw [hwk, ← Bool.or_assoc, ← hh', ← Bool.or_assoc, hh]; simp
          · (refine CallN.q (writeN (c ++ wides [(n.1, 1)]) (put n.2).1 true (by rw [List.length_append, hone]; omega)) [1, 2] (fun _ _ => ?_); (repeat' ((conv => whnf); first | apply And.intro | exact ⟨by kernel_rfl⟩ | apply DrawN.mk | apply CodeN.step hm rfl | exact trivial | exact rfl | (intro hh; try simp only [bs] at hh; try exact absurd hh (by decide)))); all_goals (conv => whnf); all_goals try exact ⟨by decide⟩)
            refine ⟨(j + 1, c ++ wides [(n.1, 1)] ++ (put n.2).1, true), [0, 1, 2], ⟨rfl, rfl, ?_, ?_⟩, ⟨hj1, ?_, ?_⟩, by simp only []; omega⟩
            · (repeat' ((conv => whnf) <;> first | exact rfl | exact trivial | apply And.intro | exact Nat.zero_add _))
            · (repeat' ((conv => whnf) <;> first | exact rfl | exact trivial | apply And.intro | exact Nat.zero_add _)); all_goals ((conv => whnf); try simp only [])
              exact wr2 j hj1 (by omega)
            · simp only []; rw [htk, hc]; simp only [List.append_assoc]
            · simp only []
              rw [hwk, ← Bool.or_assoc, ← hh', ← Bool.or_assoc, hh]; simp
        · have ej : j = a.2.2.2.2.2.2.2.length := by omega
          rw [ej, List.take_length] at hc hh'
          have hcl2 : 0 < c.length := by
            rw [hc, ← hb2, List.length_append, List.length_append, hone]; omega
          (refine CallN.q (stringN c h (by omega)) [1, 2] (fun _ _ => ?_); (repeat' ((conv => whnf); first | apply And.intro | exact ⟨by kernel_rfl⟩ | apply DrawN.mk | apply CodeN.step hm rfl | exact trivial | exact rfl | (intro hh; try simp only [bs] at hh; try exact absurd hh (by decide)))); all_goals (conv => whnf); all_goals try exact ⟨by decide⟩)
          (refine RetN.q () [] ?_ ?_ ?_ <;> (repeat' ((conv => whnf) <;> first | exact rfl | exact trivial | apply And.intro | exact Nat.zero_add _)); all_goals ((conv => whnf); try simp only []))
          · rw [hc, ← hb2, hb, ← hb1]; rfl
          · rw [hh', ← hf2, hf, ← hf1]; rfl
end Go.Proofs.Ytoipgandilhdeaa.An
set_option linter.unusedVariables false
set_option linter.unusedSimpArgs false
namespace Go.Proofs.Ytoipgandilhdeaa.An
open Go Go.RowKit Fw Nu
theorem wide_succ (n : Int) (w : Nat) : wide n (w + 1) = wide (n / 256) w ++ [UInt8.ofNat (n % 256).toNat] := by
  rw [wide, List.range_succ, List.map_append, wide]
  congr 1
  · apply List.map_congr_left
    intro i hi
    have hi : i < w := by simpa using hi
    simp only [byteAt]
    have e : w + 1 - 1 - i = (w - 1 - i) + 1 := by omega
    rw [e, Int.pow_succ, Int.mul_comm, Int.ediv_ediv, if_neg (fun h => by have := h.1; omega), Int.sub_zero]
  · simp [byteAt]
theorem narrow_wide : ∀ (w : Nat) (n : Int), 0 ≤ n → n < (256 : Int) ^ w → (narrow (wide n w) : Int) = n
  | 0, n, h0, h1 => by simp at h1; simp [wide, narrow]; omega
  | w + 1, n, h0, h1 => by
    rw [wide_succ, narrow_snoc]
    have h2 : n / 256 < (256 : Int) ^ w := by
      rw [Int.pow_succ] at h1
      exact Int.ediv_lt_of_lt_mul (by decide) h1
    have ih := narrow_wide w (n / 256) (by omega) h2
    have e : (UInt8.ofNat (n % 256).toNat).toNat = (n % 256).toNat := by rw [UInt8.toNat_ofNat']; omega
    rw [e]
    omega
theorem wide_narrow_rev : ∀ r : Bytes, wide (narrow r.reverse : Int) r.length = r.reverse
  | [] => rfl
  | b :: r => by
    have ih := wide_narrow_rev r
    have hb := b.toNat_lt
    rw [List.reverse_cons, List.length_cons, wide_succ, narrow_snoc]
    have e1 : ((256 * narrow r.reverse + b.toNat : Nat) : Int) / 256 = narrow r.reverse := by omega
    have e2 : (((256 * narrow r.reverse + b.toNat : Nat) : Int) % 256).toNat = b.toNat := by omega
    rw [e1, e2, ih]
    simp
theorem wide_narrow (s : Bytes) : wide (narrow s : Int) s.length = s := by
  have := wide_narrow_rev s.reverse
  rwa [List.reverse_reverse, List.length_reverse] at this
theorem pow_le8 {w : Nat} (h : w ≤ 8) : (256 : Int) ^ w ≤ 18446744073709551616 := by
  obtain rfl | rfl | rfl | rfl | rfl | rfl | rfl | rfl | rfl : w = 0 ∨ w = 1 ∨ w = 2 ∨ w = 3 ∨ w = 4 ∨ w = 5 ∨ w = 6 ∨ w = 7 ∨ w = 8 := by omega
  all_goals decide
theorem fits_iff {n : Int} {w : Nat} : fitsB n w = true ↔ 0 ≤ n ∧ n < (256 : Int) ^ w := by simp [fitsB]
theorem fits_wrap {n : Int} {w : Nat} (hw : w ≤ 8) (h : fitsB n w = true) : IntKind.u64.wrap n = n := by
  obtain ⟨h0, h1⟩ := fits_iff.1 h
  have := pow_le8 hw
  exact wru64 (by omega)
/-- What stands from a place on. -/
def from_ (s : Bytes) (t : Int) : Bytes := s.drop t.toNat
theorem number_get {s : Bytes} {t : Int} {w : Nat} (hw : w ≤ 8) (h : (number s t w).2.2 = 0) :
    0 ≤ t ∧ (number s t w).2.1 = t + w ∧ t + w ≤ s.length ∧ fitsB (number s t w).1 w = true ∧ from_ s t = wide (IntKind.u64.wrap (number s t w).1) w ++ from_ s (t + w) := by
  by_cases h1 : t < 0 ∨ (s.length : Int) < t
  · rw [n_arg h1] at h; cases h
  · by_cases h2 : (s.length : Int) < t + w
    · rw [n_cut (by omega) h2] at h; cases h
    · have hl : ((s.drop t.toNat).take w).length = w := by rw [List.length_take, List.length_drop]; omega
      rw [n_ok (by omega) (by omega)]
      have hlt := narrow_lt ((s.drop t.toNat).take w)
      rw [hl] at hlt
      have hf : fitsB ((narrow ((s.drop t.toNat).take w) : Nat) : Int) w = true := fits_iff.2 ⟨by omega, by have h3 := Int.ofNat_lt.2 hlt; rwa [Int.natCast_pow] at h3⟩
      refine ⟨by omega, rfl, by omega, hf, ?_⟩
      show from_ s t = wide (IntKind.u64.wrap ((narrow ((s.drop t.toNat).take w) : Nat) : Int)) w ++ from_ s (t + w)
      rw [fits_wrap hw hf]
      have hwn := wide_narrow ((s.drop t.toNat).take w)
      rw [hl] at hwn
      rw [hwn, from_, from_, show (t + (w : Int)).toNat = t.toNat + w by omega, ← List.drop_drop, List.take_append_drop]
theorem number_put {s rest : Bytes} {t n : Int} {w : Nat} (hw : w ≤ 8) (h0 : 0 ≤ t ∧ t ≤ s.length) (hf : fitsB n w = true) (h : from_ s t = wide (IntKind.u64.wrap n) w ++ rest) :
    number s t w = (n, t + w, 0) ∧ from_ s (t + w) = rest ∧ t + w ≤ s.length := by
  have hl : (from_ s t).length = s.length - t.toNat := by rw [from_, List.length_drop]
  rw [h, List.length_append, wide_len] at hl
  have hd : from_ s (t + w) = rest := by
    rw [from_, show (t + (w : Int)).toNat = t.toNat + w by omega, ← List.drop_drop]
    show (from_ s t).drop w = rest
    rw [h, List.drop_append_of_le_length (by rw [wide_len]; exact Nat.le_refl _), List.drop_of_length_le (by rw [wide_len]; exact Nat.le_refl _), List.nil_append]
  refine ⟨?_, hd, by omega⟩
  rw [n_ok h0 (by omega)]
  have e : (s.drop t.toNat).take w = wide n w := by
    show (from_ s t).take w = _
    rw [h, List.take_append_of_le_length (by rw [wide_len]; exact Nat.le_refl _), List.take_of_length_le (by rw [wide_len]; exact Nat.le_refl _), fits_wrap hw hf]
  rw [e, narrow_wide w n (fits_iff.1 hf).1 (fits_iff.1 hf).2]
end Go.Proofs.Ytoipgandilhdeaa.An
set_option linter.unusedVariables false
set_option linter.unusedSimpArgs false
namespace Go.Proofs.Ytoipgandilhdeaa.Wi
open Go Go.RowKit Fw Nu
open An (byv byv_len byv_app byv_back byv_range fitsB fits_iff)
/-- A port that writes: fresh; and with bytes. -/
def w0 (wrong : Bool) : List Chunk := [.cells 121 [.ff, .str fun _ => [], .int .i64 fun _ => 0, .pnil, .snil, .bool fun _ => wrong]]
def wN (s : Bytes) (wrong : Bool) : List Chunk := [.cells 121 [.ff, .str fun _ => [], .int .i64 fun _ => 0, .ptr 0 3, .vec 1 1 (fun _ => 0) (fun _ => s.length), .bool fun _ => wrong], .vect 5 (.int .u8) fun _ => byv s]
theorem check0 (wrong : Bool) : Meets Try.prog 79 [.ptr 0 3] (w0 wrong) (Y := Unit) (fun _ => True) (fun _ => .tup []) (fun _ => [.cells 121 [.ff, .str fun _ => [], .int .i64 fun _ => 0, .ptr 0 3, .snil, .bool fun _ => wrong]]) := by
  refine Meets.intro hm (fn := Try.f79) Try.func79 rfl (by decide) (Nat.le_of_ble_eq_true rfl) (fun _ => rfl) ?_; intro S hok; (conv => whnf)
  (repeat' ((conv => whnf); first | apply And.intro | exact ⟨by kernel_rfl⟩ | apply DrawN.mk | apply CodeN.step hm rfl | exact trivial | exact rfl | (intro hh; try simp only [bs] at hh))); all_goals (conv => whnf)
  · exact ⟨_, rfl, by kernel_rfl, by kernel_rfl, by kernel_rfl, by kernel_rfl⟩
  · (refine RetN.q () [0] ?_ ?_ ?_ <;> (repeat' ((conv => whnf) <;> first | exact rfl | exact trivial | apply And.intro | exact Nat.zero_add _)); all_goals ((conv => whnf); try simp only []))
theorem checkN (s : Bytes) (wrong : Bool) : Meets Try.prog 79 [.ptr 0 3] (wN s wrong) (Y := Unit) (fun _ => True) (fun _ => .tup []) (fun _ => wN s wrong) := by
  refine Meets.intro hm (fn := Try.f79) Try.func79 rfl (by decide) (Nat.le_of_ble_eq_true rfl) (fun _ => rfl) ?_; intro S hok; (conv => whnf)
  (repeat' ((conv => whnf); first | apply And.intro | exact ⟨by kernel_rfl⟩ | apply DrawN.mk | apply CodeN.step hm rfl | exact trivial | exact rfl | (intro hh; try simp only [bs] at hh))); all_goals (conv => whnf)
  (refine RetN.q () [0, 1] ?_ ?_ ?_ <;> (repeat' ((conv => whnf) <;> first | exact rfl | exact trivial | apply And.intro | exact Nat.zero_add _)); all_goals ((conv => whnf); try simp only []))
theorem write0 (t : Bytes) (wrong : Bool) (ht : t.length ≤ 1000000) : Meets Try.prog 61 [.ptr 0 3, .str fun _ => t] (w0 wrong) (Y := Unit) (fun _ => True) (fun _ => .tup [.int .i64 fun _ => t.length, .inil]) (fun _ => wN t wrong) := by
  refine Meets.intro hm (fn := Try.f61) Try.func61 rfl (by decide) (Nat.le_of_ble_eq_true rfl) (fun _ => rfl) ?_; intro S hok; (conv => whnf)
  (repeat' ((conv => whnf); first | apply And.intro | exact ⟨by kernel_rfl⟩ | apply DrawN.mk | apply CodeN.step hm rfl | exact trivial | exact rfl | (intro hh; try simp only [bs] at hh))); all_goals (conv => whnf)
  (refine CallN.q (check0 wrong) [0] (fun _ _ => ?_); (repeat' ((conv => whnf); first | apply And.intro | exact ⟨by kernel_rfl⟩ | apply DrawN.mk | apply CodeN.step hm rfl | exact trivial | exact rfl | (intro hh; try simp only [bs] at hh; try exact absurd hh (by decide)))); all_goals (conv => whnf); all_goals try exact ⟨by decide⟩)
  · exact Ob.mk (by simp only []; omega)
  · (refine RetN.q () [0, 1] ?_ ?_ ?_ <;> (repeat' ((conv => whnf) <;> first | exact rfl | exact trivial | apply And.intro | exact Nat.zero_add _)); all_goals ((conv => whnf); try simp only []))
theorem writeN (s t : Bytes) (wrong : Bool) (ht : s.length + t.length ≤ 1000000) : Meets Try.prog 61 [.ptr 0 3, .str fun _ => t] (wN s wrong) (Y := Unit) (fun _ => True) (fun _ => .tup [.int .i64 fun _ => t.length, .inil]) (fun _ => wN (s ++ t) wrong) := by
  refine Meets.intro hm (fn := Try.f61) Try.func61 rfl (by decide) (Nat.le_of_ble_eq_true rfl) (fun _ => rfl) ?_; intro S hok; (conv => whnf)
  (repeat' ((conv => whnf); first | apply And.intro | exact ⟨by kernel_rfl⟩ | apply DrawN.mk | apply CodeN.step hm rfl | exact trivial | exact rfl | (intro hh; try simp only [bs] at hh))); all_goals (conv => whnf)
  (refine CallN.q (checkN s wrong) [0, 1] (fun _ _ => ?_); (repeat' ((conv => whnf); first | apply And.intro | exact ⟨by kernel_rfl⟩ | apply DrawN.mk | apply CodeN.step hm rfl | exact trivial | exact rfl | (intro hh; try simp only [bs] at hh; try exact absurd hh (by decide)))); all_goals (conv => whnf); all_goals try exact ⟨by decide⟩)
  · exact Ob.mk ⟨rfl, by simp only []; omega⟩
  · (refine RetN.q () [0, 1] ?_ ?_ ?_ <;> (repeat' ((conv => whnf) <;> first | exact rfl | exact trivial | apply And.intro | exact Nat.zero_add _)); all_goals ((conv => whnf); try simp only []))
    all_goals first | (rw [byv_app, ← byv_len s, List.take_length]; rfl) | (rw [List.length_append]) | skip
theorem stringN (s : Bytes) (wrong : Bool) (hs : 0 < s.length ∧ s.length ≤ 1000000) : Meets Try.prog 62 [.ptr 0 3] (wN s wrong) (Y := Unit) (fun _ => True) (fun _ => .str fun _ => s) (fun _ => [.cells 121 [.ff, .str fun _ => [], .int .i64 fun _ => 0, .undef, .undef, .bool fun _ => wrong], .none]) := by
  refine Meets.intro hm (fn := Try.f62) Try.func62 rfl (by decide) (Nat.le_of_ble_eq_true rfl) (fun _ => rfl) ?_; intro S hok; (conv => whnf)
  (repeat' ((conv => whnf); first | apply And.intro | exact ⟨by kernel_rfl⟩ | apply DrawN.mk | apply CodeN.step hm rfl | exact trivial | exact rfl | (intro hh; try simp only [bs] at hh))); all_goals (conv => whnf)
  · exact Ob.mk ⟨rfl, by simp only []; omega⟩
  · exact Ob.mk ⟨rfl, by simp only []; omega, by simp only [byv_len]; omega, by simp only [byv_len]; omega, byv_range s⟩
  · (refine RetN.q () [0, 1] ?_ ?_ ?_ <;> (repeat' ((conv => whnf) <;> first | exact rfl | exact trivial | apply And.intro | exact Nat.zero_add _)); all_goals ((conv => whnf); try simp only []))
    rw [Int.toNat_natCast, ← byv_len s, List.take_length]; exact byv_back s
end Go.Proofs.Ytoipgandilhdeaa.Wi
set_option linter.unusedVariables false
set_option linter.unusedSimpArgs false
namespace Go.Proofs.Ytoipgandilhdeaa.An
open Go Go.RowKit Fw Nu
def encR (a : Ans) : Bytes × Int := if wrongA a then ([], 1) else if 512 < (encA a).length then ([], 8) else (encA a, 0)
theorem encodeM (a : Ans) (hs : Sh a) : Meets Try.prog 15 [ansAV a] [] (Y := Unit) (fun _ => True) (fun _ => .tup [.str fun _ => (encR a).1, .int .i64 fun _ => (encR a).2]) (fun _ => []) := by
  refine Meets.intro hm (fn := Try.f15) Try.func15 rfl (by decide) (Nat.le_of_ble_eq_true rfl) (fun _ => rfl) ?_; intro S hok; (conv => whnf)
  (repeat' ((conv => whnf); first | apply And.intro | exact ⟨by kernel_rfl⟩ | apply DrawN.mk | apply CodeN.step hm rfl | exact trivial | exact rfl | (intro hh; try simp only [bs] at hh))); all_goals (conv => whnf)
  (refine CallN.q (writeAM a hs) [] (fun _ _ => ?_); (repeat' ((conv => whnf); first | apply And.intro | exact ⟨by kernel_rfl⟩ | apply DrawN.mk | apply CodeN.step hm rfl | exact trivial | exact rfl | (intro hh; try simp only [bs] at hh; try exact absurd hh (by decide)))); all_goals (conv => whnf); all_goals try exact ⟨by decide⟩)
  · have he : encR a = ([], 1) := by unfold encR; rw [if_pos hh]
    (refine RetN.q () [] ?_ ?_ ?_ <;> (repeat' ((conv => whnf) <;> first | exact rfl | exact trivial | apply And.intro | exact Nat.zero_add _)); all_goals ((conv => whnf); try simp only []))
    all_goals rw [he]
  · have he : encR a = ([], 8) := by unfold encR; rw [if_neg (by simp [*]), if_pos (by omega)]
    (refine RetN.q () [] ?_ ?_ ?_ <;> (repeat' ((conv => whnf) <;> first | exact rfl | exact trivial | apply And.intro | exact Nat.zero_add _)); all_goals ((conv => whnf); try simp only []))
    all_goals rw [he]
  · have he : encR a = (encA a, 0) := by unfold encR; rw [if_neg (by simp [*]), if_neg (by omega)]
    (refine RetN.q () [] ?_ ?_ ?_ <;> (repeat' ((conv => whnf) <;> first | exact rfl | exact trivial | apply And.intro | exact Nat.zero_add _)); all_goals ((conv => whnf); try simp only []))
    all_goals rw [he]
theorem mayM (a : Ans) (hs : Sh a) : Meets Try.prog 17 [ansAV a] [] (Y := Unit) (fun _ => True) (fun _ => .bool fun _ => !wrongA a) (fun _ => []) := by
  refine Meets.intro hm (fn := Try.f17) Try.func17 rfl (by decide) (Nat.le_of_ble_eq_true rfl) (fun _ => rfl) ?_; intro S hok; (conv => whnf)
  (repeat' ((conv => whnf); first | apply And.intro | exact ⟨by kernel_rfl⟩ | apply DrawN.mk | apply CodeN.step hm rfl | exact trivial | exact rfl | (intro hh; try simp only [bs] at hh))); all_goals (conv => whnf)
  (refine CallN.q (writeAM a hs) [] (fun _ _ => ?_); (repeat' ((conv => whnf); first | apply And.intro | exact ⟨by kernel_rfl⟩ | apply DrawN.mk | apply CodeN.step hm rfl | exact trivial | exact rfl | (intro hh; try simp only [bs] at hh; try exact absurd hh (by decide)))); all_goals (conv => whnf); all_goals try exact ⟨by decide⟩)
  (refine RetN.q () [] ?_ ?_ ?_ <;> (repeat' ((conv => whnf) <;> first | exact rfl | exact trivial | apply And.intro | exact Nat.zero_add _)); all_goals ((conv => whnf); try simp only []))
theorem rFitsM (n : Int) (w : Nat) (hw : w ≤ 7) : Meets Try.prog 49 [.int .i64 fun _ => n, .int .i64 fun _ => (w : Int)] [] (Y := Unit) (fun _ => True) (fun _ => .bool fun _ => fitsB n w) (fun _ => []) := by
  refine Meets.intro hm (fn := Try.f49) Try.func49 rfl (by decide) (Nat.le_of_ble_eq_true rfl) (fun _ => rfl) ?_; intro S hok; (conv => whnf)
  (repeat' ((conv => whnf); first | apply And.intro | exact ⟨by kernel_rfl⟩ | apply DrawN.mk | apply CodeN.step hm rfl | exact trivial | exact rfl | (intro hh; try simp only [bs] at hh))); all_goals (conv => whnf)
  refine LoopN.intro hm (X := Nat) (fun i => i ≤ w) (fun i => w - i)
    (fun i => [(6, .int .i64 fun _ => (i : Int)), (5, .int .i64 fun _ => (256 : Int) ^ i), (0, .int .i64 fun _ => n), (1, .int .i64 fun _ => (w : Int))])
    (fun i => []) 0 [] ⟨rfl, rfl, ?_, ?_⟩ (Nat.zero_le _) (fun i hi => ?_)
  · (repeat' ((conv => whnf) <;> first | exact rfl | exact trivial | apply And.intro | exact Nat.zero_add _))
  · (repeat' ((conv => whnf) <;> first | exact rfl | exact trivial | apply And.intro | exact Nat.zero_add _))
  · have hp : (0 : Int) < (256 : Int) ^ i := Int.pow_pos (by decide)
    have hp6 : i < w → (256 : Int) ^ i ≤ 281474976710656 := fun h => by
      obtain rfl | rfl | rfl | rfl | rfl | rfl | rfl : i = 0 ∨ i = 1 ∨ i = 2 ∨ i = 3 ∨ i = 4 ∨ i = 5 ∨ i = 6 := by omega
      all_goals decide
    (repeat' ((conv => whnf); first | apply And.intro | exact ⟨by kernel_rfl⟩ | apply DrawN.mk | apply CodeN.step hm rfl | exact trivial | exact rfl | (intro hh; try simp only [bs] at hh))); all_goals (conv => whnf)
    · refine ⟨i + 1, [], ⟨rfl, rfl, ?_, ?_⟩, by omega, by omega⟩
      · (repeat' ((conv => whnf) <;> first | exact rfl | exact trivial | apply And.intro | exact Nat.zero_add _))
      · (repeat' ((conv => whnf) <;> first | exact rfl | exact trivial | apply And.intro | exact Nat.zero_add _)); all_goals ((conv => whnf); try simp only [])
        · exact wr2 (n := w) i (by omega) (by omega)
        · have := hp6 (by omega)
          rw [wr (by omega), Int.pow_succ, Int.mul_comm]
    all_goals
      have e : i = w := by omega
      subst e
      (refine RetN.q () [] ?_ ?_ ?_ <;> (repeat' ((conv => whnf) <;> first | exact rfl | exact trivial | apply And.intro | exact Nat.zero_add _)); all_goals ((conv => whnf); try simp only []))
      rw [Bool.eq_iff_iff]
      simp [fitsB, *]
      try omega
theorem fitsM (n : Int) (w : Nat) (hw : w ≤ 7) : Meets Try.prog 35 [.int .i64 fun _ => n, .int .i64 fun _ => (w : Int)] [] (Y := Unit) (fun _ => True) (fun _ => .bool fun _ => fitsB n w) (fun _ => []) := by
  refine Meets.intro hm (fn := Try.f35) Try.func35 rfl (by decide) (Nat.le_of_ble_eq_true rfl) (fun _ => rfl) ?_; intro S hok; (conv => whnf)
  (repeat' ((conv => whnf); first | apply And.intro | exact ⟨by kernel_rfl⟩ | apply DrawN.mk | apply CodeN.step hm rfl | exact trivial | exact rfl | (intro hh; try simp only [bs] at hh))); all_goals (conv => whnf)
  (refine CallN.q (rFitsM n w hw) [] (fun _ _ => ?_); (repeat' ((conv => whnf); first | apply And.intro | exact ⟨by kernel_rfl⟩ | apply DrawN.mk | apply CodeN.step hm rfl | exact trivial | exact rfl | (intro hh; try simp only [bs] at hh; try exact absurd hh (by decide)))); all_goals (conv => whnf); all_goals try exact ⟨by decide⟩)
  (refine RetN.q () [] ?_ ?_ ?_ <;> (repeat' ((conv => whnf) <;> first | exact rfl | exact trivial | apply And.intro | exact Nat.zero_add _)); all_goals ((conv => whnf); try simp only []))
theorem widM (n : Int) (w : Nat) (hw : w ≤ 8) : Meets Try.prog 32 [.int .i64 fun _ => n, .int .i64 fun _ => (w : Int)] [] (Y := Unit) (fun _ => True) (fun _ => .str fun _ => wide (IntKind.u64.wrap n) w) (fun _ => []) := by
  refine Meets.intro hm (fn := Try.f32) Try.func32 rfl (by decide) (Nat.le_of_ble_eq_true rfl) (fun _ => rfl) ?_; intro S hok; (conv => whnf)
  (repeat' ((conv => whnf); first | apply And.intro | exact ⟨by kernel_rfl⟩ | apply DrawN.mk | apply CodeN.step hm rfl | exact trivial | exact rfl | (intro hh; try simp only [bs] at hh))); all_goals (conv => whnf)
  (refine CallN.q (rwideM (IntKind.u64.wrap n) w hw (u64_range n)) [] (fun _ _ => ?_); (repeat' ((conv => whnf); first | apply And.intro | exact ⟨by kernel_rfl⟩ | apply DrawN.mk | apply CodeN.step hm rfl | exact trivial | exact rfl | (intro hh; try simp only [bs] at hh; try exact absurd hh (by decide)))); all_goals (conv => whnf); all_goals try exact ⟨by decide⟩)
  (refine RetN.q () [] ?_ ?_ ?_ <;> (repeat' ((conv => whnf) <;> first | exact rfl | exact trivial | apply And.intro | exact Nat.zero_add _)); all_goals ((conv => whnf); try simp only []))
theorem byteM (n : Int) : Meets Try.prog 46 [.int .i64 fun _ => n] [] (Y := Unit) (fun _ => True) (fun _ => .str fun _ => wide (IntKind.u64.wrap n) 1) (fun _ => []) := by
  refine Meets.intro hm (fn := Try.f46) Try.func46 rfl (by decide) (Nat.le_of_ble_eq_true rfl) (fun _ => rfl) ?_; intro S hok; (conv => whnf)
  (repeat' ((conv => whnf); first | apply And.intro | exact ⟨by kernel_rfl⟩ | apply DrawN.mk | apply CodeN.step hm rfl | exact trivial | exact rfl | (intro hh; try simp only [bs] at hh))); all_goals (conv => whnf)
  (refine CallN.q (rwideM (IntKind.u64.wrap n) 1 (by omega) (u64_range n)) [] (fun _ _ => ?_); (repeat' ((conv => whnf); first | apply And.intro | exact ⟨by kernel_rfl⟩ | apply DrawN.mk | apply CodeN.step hm rfl | exact trivial | exact rfl | (intro hh; try simp only [bs] at hh; try exact absurd hh (by decide)))); all_goals (conv => whnf); all_goals try exact ⟨by decide⟩)
  (refine RetN.q () [] ?_ ?_ ?_ <;> (repeat' ((conv => whnf) <;> first | exact rfl | exact trivial | apply And.intro | exact Nat.zero_add _)); all_goals ((conv => whnf); try simp only []))
theorem fourM (n : Int) : Meets Try.prog 64 [.int .i64 fun _ => n] [] (Y := Unit) (fun _ => True) (fun _ => .str fun _ => wide (IntKind.u64.wrap n) 4) (fun _ => []) := by
  refine Meets.intro hm (fn := Try.f64) Try.func64 rfl (by decide) (Nat.le_of_ble_eq_true rfl) (fun _ => rfl) ?_; intro S hok; (conv => whnf)
  (repeat' ((conv => whnf); first | apply And.intro | exact ⟨by kernel_rfl⟩ | apply DrawN.mk | apply CodeN.step hm rfl | exact trivial | exact rfl | (intro hh; try simp only [bs] at hh))); all_goals (conv => whnf)
  (refine CallN.q (rwideM (IntKind.u64.wrap n) 4 (by omega) (u64_range n)) [] (fun _ _ => ?_); (repeat' ((conv => whnf); first | apply And.intro | exact ⟨by kernel_rfl⟩ | apply DrawN.mk | apply CodeN.step hm rfl | exact trivial | exact rfl | (intro hh; try simp only [bs] at hh; try exact absurd hh (by decide)))); all_goals (conv => whnf); all_goals try exact ⟨by decide⟩)
  (refine RetN.q () [] ?_ ?_ ?_ <;> (repeat' ((conv => whnf) <;> first | exact rfl | exact trivial | apply And.intro | exact Nat.zero_add _)); all_goals ((conv => whnf); try simp only []))
theorem policyM (p : Int × Int × Int × Int) : Meets Try.prog 33 [.agg [.int .i64 fun _ => p.1, .int .i64 fun _ => p.2.1, .int .i64 fun _ => p.2.2.1, .int .i64 fun _ => p.2.2.2]] [] (Y := Unit) (fun _ => True) (fun _ => .str fun _ => wides [(p.1, 1), (p.2.1, 4), (p.2.2.1, 4), (p.2.2.2, 1)]) (fun _ => []) := by
  refine Meets.intro hm (fn := Try.f33) Try.func33 rfl (by decide) (Nat.le_of_ble_eq_true rfl) (fun _ => rfl) ?_; intro S hok; (conv => whnf)
  (repeat' ((conv => whnf); first | apply And.intro | exact ⟨by kernel_rfl⟩ | apply DrawN.mk | apply CodeN.step hm rfl | exact trivial | exact rfl | (intro hh; try simp only [bs] at hh))); all_goals (conv => whnf)
  (refine CallN.q (byteM p.1) [] (fun _ _ => ?_); (repeat' ((conv => whnf); first | apply And.intro | exact ⟨by kernel_rfl⟩ | apply DrawN.mk | apply CodeN.step hm rfl | exact trivial | exact rfl | (intro hh; try simp only [bs] at hh; try exact absurd hh (by decide)))); all_goals (conv => whnf); all_goals try exact ⟨by decide⟩)
  (refine CallN.q (fourM p.2.1) [] (fun _ _ => ?_); (repeat' ((conv => whnf); first | apply And.intro | exact ⟨by kernel_rfl⟩ | apply DrawN.mk | apply CodeN.step hm rfl | exact trivial | exact rfl | (intro hh; try simp only [bs] at hh; try exact absurd hh (by decide)))); all_goals (conv => whnf); all_goals try exact ⟨by decide⟩)
  all_goals first | (exact Ob.mk (by simp only [List.length_append, wide_len]; omega)) | skip
  (refine CallN.q (fourM p.2.2.1) [] (fun _ _ => ?_); (repeat' ((conv => whnf); first | apply And.intro | exact ⟨by kernel_rfl⟩ | apply DrawN.mk | apply CodeN.step hm rfl | exact trivial | exact rfl | (intro hh; try simp only [bs] at hh; try exact absurd hh (by decide)))); all_goals (conv => whnf); all_goals try exact ⟨by decide⟩)
  all_goals first | (exact Ob.mk (by simp only [List.length_append, wide_len]; omega)) | skip
  (refine CallN.q (byteM p.2.2.2) [] (fun _ _ => ?_); (repeat' ((conv => whnf); first | apply And.intro | exact ⟨by kernel_rfl⟩ | apply DrawN.mk | apply CodeN.step hm rfl | exact trivial | exact rfl | (intro hh; try simp only [bs] at hh; try exact absurd hh (by decide)))); all_goals (conv => whnf); all_goals try exact ⟨by decide⟩)
  all_goals first | (exact Ob.mk (by simp only [List.length_append, wide_len]; omega)) | skip
  (refine RetN.q () [] ?_ ?_ ?_ <;> (repeat' ((conv => whnf) <;> first | exact rfl | exact trivial | apply And.intro | exact Nat.zero_add _)); all_goals ((conv => whnf); try simp only []))
  all_goals first | (simp [wides]; done) | skip
theorem bads_cons (n : Int) (w : Nat) (r : List (Int × Nat)) : bads ((n, w) :: r) = (!fitsB n w || bads r) := rfl
theorem bads_nil : bads [] = false := rfl
theorem fits_one {n : Int} (h : 0 ≤ n ∧ n ≤ 32) : fitsB n 1 = true := by
  rw [fitsB, decide_eq_true h.1, decide_eq_true (show n < (256 : Int) ^ 1 by omega)]; rfl
theorem bads_told (t : Told) : bads (toldNums t) = !(fitsB t.1 1 && fitsB t.2.2.1 4 && fitsB t.2.2.2.1 6 && fitsB t.2.2.2.2 6) := by
  have h : fitsB (if t.2.1 then 1 else 0) 1 = true := by cases t.2.1 <;> decide
  simp only [toldNums, bads_cons, bads_nil, h]
  cases fitsB t.1 1 <;> cases fitsB t.2.2.1 4 <;> cases fitsB t.2.2.2.1 6 <;> cases fitsB t.2.2.2.2 6 <;> rfl
theorem bads_book (n : Int) : bads [(n, 1)] = !fitsB n 1 := by simp [bads_cons, bads_nil]
theorem put_ok (s : Bytes) : (put s).2 = decide (s.length ≤ 255) := by unfold put; split <;> simp [*]
set_option maxRecDepth 4000 in
theorem rmayM (a : Ans) (hs : Sh a) : Meets Try.prog 18 [ansAV a] [] (Y := Unit) (fun _ => True) (fun _ => .bool fun _ => !wrongA a) (fun _ => []) := by
  have h1 := hs.told
  have h2 := hs.names
  refine Meets.intro hm (fn := Try.f18) Try.func18 rfl (by decide) (Nat.le_of_ble_eq_true rfl) (fun _ => rfl) ?_; intro S hok; (conv => whnf)
  (repeat' ((conv => whnf); first | apply And.intro | exact ⟨by kernel_rfl⟩ | apply DrawN.mk | apply CodeN.step hm rfl | exact trivial | exact rfl | (intro hh; try simp only [bs] at hh))); all_goals (conv => whnf)
  (refine CallN.q (fitsM a.1 1 (by omega)) [] (fun _ _ => ?_); (repeat' ((conv => whnf); first | apply And.intro | exact ⟨by kernel_rfl⟩ | apply DrawN.mk | apply CodeN.step hm rfl | exact trivial | exact rfl | (intro hh; try simp only [bs] at hh; try exact absurd hh (by decide)))); all_goals (conv => whnf); all_goals try exact ⟨by decide⟩)
  all_goals first
    | ((refine RetN.q () [] ?_ ?_ ?_ <;> (repeat' ((conv => whnf) <;> first | exact rfl | exact trivial | apply And.intro | exact Nat.zero_add _)); all_goals ((conv => whnf); try simp only []))
       simp [wrongA, ansNums, bads_cons, *]; done)
    | skip
  (refine CallN.q (fitsM a.2.1 1 (by omega)) [] (fun _ _ => ?_); (repeat' ((conv => whnf); first | apply And.intro | exact ⟨by kernel_rfl⟩ | apply DrawN.mk | apply CodeN.step hm rfl | exact trivial | exact rfl | (intro hh; try simp only [bs] at hh; try exact absurd hh (by decide)))); all_goals (conv => whnf); all_goals try exact ⟨by decide⟩)
  all_goals first
    | ((refine RetN.q () [] ?_ ?_ ?_ <;> (repeat' ((conv => whnf) <;> first | exact rfl | exact trivial | apply And.intro | exact Nat.zero_add _)); all_goals ((conv => whnf); try simp only []))
       simp [wrongA, ansNums, bads_cons, *]; done)
    | skip
  (refine CallN.q (fitsM a.2.2.2.1 4 (by omega)) [] (fun _ _ => ?_); (repeat' ((conv => whnf); first | apply And.intro | exact ⟨by kernel_rfl⟩ | apply DrawN.mk | apply CodeN.step hm rfl | exact trivial | exact rfl | (intro hh; try simp only [bs] at hh; try exact absurd hh (by decide)))); all_goals (conv => whnf); all_goals try exact ⟨by decide⟩)
  all_goals first
    | ((refine RetN.q () [] ?_ ?_ ?_ <;> (repeat' ((conv => whnf) <;> first | exact rfl | exact trivial | apply And.intro | exact Nat.zero_add _)); all_goals ((conv => whnf); try simp only []))
       simp [wrongA, ansNums, bads_cons, *]; done)
    | skip
  (refine CallN.q (fitsM a.2.2.2.2.1.1 1 (by omega)) [] (fun _ _ => ?_); (repeat' ((conv => whnf); first | apply And.intro | exact ⟨by kernel_rfl⟩ | apply DrawN.mk | apply CodeN.step hm rfl | exact trivial | exact rfl | (intro hh; try simp only [bs] at hh; try exact absurd hh (by decide)))); all_goals (conv => whnf); all_goals try exact ⟨by decide⟩)
  all_goals first
    | ((refine RetN.q () [] ?_ ?_ ?_ <;> (repeat' ((conv => whnf) <;> first | exact rfl | exact trivial | apply And.intro | exact Nat.zero_add _)); all_goals ((conv => whnf); try simp only []))
       simp [wrongA, ansNums, bads_cons, *]; done)
    | skip
  (refine CallN.q (fitsM a.2.2.2.2.1.2.1 4 (by omega)) [] (fun _ _ => ?_); (repeat' ((conv => whnf); first | apply And.intro | exact ⟨by kernel_rfl⟩ | apply DrawN.mk | apply CodeN.step hm rfl | exact trivial | exact rfl | (intro hh; try simp only [bs] at hh; try exact absurd hh (by decide)))); all_goals (conv => whnf); all_goals try exact ⟨by decide⟩)
  all_goals first
    | ((refine RetN.q () [] ?_ ?_ ?_ <;> (repeat' ((conv => whnf) <;> first | exact rfl | exact trivial | apply And.intro | exact Nat.zero_add _)); all_goals ((conv => whnf); try simp only []))
       simp [wrongA, ansNums, bads_cons, *]; done)
    | skip
  (refine CallN.q (fitsM a.2.2.2.2.1.2.2.1 4 (by omega)) [] (fun _ _ => ?_); (repeat' ((conv => whnf); first | apply And.intro | exact ⟨by kernel_rfl⟩ | apply DrawN.mk | apply CodeN.step hm rfl | exact trivial | exact rfl | (intro hh; try simp only [bs] at hh; try exact absurd hh (by decide)))); all_goals (conv => whnf); all_goals try exact ⟨by decide⟩)
  all_goals first
    | ((refine RetN.q () [] ?_ ?_ ?_ <;> (repeat' ((conv => whnf) <;> first | exact rfl | exact trivial | apply And.intro | exact Nat.zero_add _)); all_goals ((conv => whnf); try simp only []))
       simp [wrongA, ansNums, bads_cons, *]; done)
    | skip
  (refine CallN.q (fitsM a.2.2.2.2.1.2.2.2 1 (by omega)) [] (fun _ _ => ?_); (repeat' ((conv => whnf); first | apply And.intro | exact ⟨by kernel_rfl⟩ | apply DrawN.mk | apply CodeN.step hm rfl | exact trivial | exact rfl | (intro hh; try simp only [bs] at hh; try exact absurd hh (by decide)))); all_goals (conv => whnf); all_goals try exact ⟨by decide⟩)
  all_goals first
    | ((refine RetN.q () [] ?_ ?_ ?_ <;> (repeat' ((conv => whnf) <;> first | exact rfl | exact trivial | apply And.intro | exact Nat.zero_add _)); all_goals ((conv => whnf); try simp only []))
       simp [wrongA, ansNums, bads_cons, *]; done)
    | skip
  (refine CallN.q (fitsM a.2.2.2.2.2.1 6 (by omega)) [] (fun _ _ => ?_); (repeat' ((conv => whnf); first | apply And.intro | exact ⟨by kernel_rfl⟩ | apply DrawN.mk | apply CodeN.step hm rfl | exact trivial | exact rfl | (intro hh; try simp only [bs] at hh; try exact absurd hh (by decide)))); all_goals (conv => whnf); all_goals try exact ⟨by decide⟩)
  all_goals first
    | ((refine RetN.q () [] ?_ ?_ ?_ <;> (repeat' ((conv => whnf) <;> first | exact rfl | exact trivial | apply And.intro | exact Nat.zero_add _)); all_goals ((conv => whnf); try simp only []))
       simp [wrongA, ansNums, bads_cons, *]; done)
    | skip
  (refine CallN.q (fitsM a.2.2.2.2.2.2.1 2 (by omega)) [] (fun _ _ => ?_); (repeat' ((conv => whnf); first | apply And.intro | exact ⟨by kernel_rfl⟩ | apply DrawN.mk | apply CodeN.step hm rfl | exact trivial | exact rfl | (intro hh; try simp only [bs] at hh; try exact absurd hh (by decide)))); all_goals (conv => whnf); all_goals try exact ⟨by decide⟩)
  all_goals first
    | ((refine RetN.q () [] ?_ ?_ ?_ <;> (repeat' ((conv => whnf) <;> first | exact rfl | exact trivial | apply And.intro | exact Nat.zero_add _)); all_goals ((conv => whnf); try simp only []))
       simp [wrongA, ansNums, bads_cons, *]; done)
    | skip
  have hwr : wrongA a = (toldsW a.2.2.1 || namesW a.2.2.2.2.2.2.2) := by
    have f1 := fits_one (n := (a.2.2.1.length : Int)) (by omega)
    have f2 := fits_one (n := (a.2.2.2.2.2.2.2.length : Int)) (by omega)
    have d1 : decide (32 < (a.2.2.1.length : Int)) = false := decide_eq_false (by omega)
    have d2 : decide (32 < (a.2.2.2.2.2.2.2.length : Int)) = false := decide_eq_false (by omega)
    simp only [wrongA, ansNums, bads_cons, bads_nil, f1, f2, d1, d2, *]
    simp
  refine LoopN.intro hm (X := Nat) (fun i => i ≤ a.2.2.1.length ∧ toldsW (a.2.2.1.take i) = false) (fun i => a.2.2.1.length - i)
    (fun i => [(4, .int .i64 fun _ => (i : Int)), (1, .ptr 0 0)]) (fun i => [ansC a]) 0 [0] ⟨rfl, rfl, ?_, ?_⟩ ⟨Nat.zero_le _, rfl⟩ (fun i hi => ?_)
  · (repeat' ((conv => whnf) <;> first | exact rfl | exact trivial | apply And.intro | exact Nat.zero_add _))
  · (repeat' ((conv => whnf) <;> first | exact rfl | exact trivial | apply And.intro | exact Nat.zero_add _))
  · obtain ⟨hi, hti⟩ := hi
    have hwk := toldsW_take (l := a.2.2.1) (i := i)
    have hx' : a.2.2.1.getD (i : Int).toNat ToldT.dflt = a.2.2.1.getD i (0, false, 0, 0, 0) := rfl
    have hany : i < a.2.2.1.length → bads (toldNums (a.2.2.1.getD i (0, false, 0, 0, 0))) = true → toldsW a.2.2.1 = true := fun h1 h2 => by
      refine List.any_eq_true.2 ⟨_, ?_, h2⟩
      rw [List.getD_eq_getElem?_getD, List.getElem?_eq_getElem h1]; exact List.getElem_mem h1
    generalize a.2.2.1.getD i (0, false, 0, 0, 0) = t at hwk hx' hany
    (repeat' ((conv => whnf); first | apply And.intro | exact ⟨by kernel_rfl⟩ | apply DrawN.mk | apply CodeN.step hm rfl | exact trivial | exact rfl | (intro hh; try simp only [bs] at hh))); all_goals (conv => whnf)
    all_goals (try simp only [hx'] at hh ⊢)
    · (refine Ob.mk ?_; (try simp only [Ty.dflt, Nat.zero_add, Nat.add_zero, Int.toNat_natCast, Int.toNat_zero, Int.toNat_one, List.length_take, List.length_drop, List.length_append, List.length_replicate, List.length_cons, List.length_nil, List.length_set, List.length_map, true_and, and_true]); omega)
    · (refine Ob.mk ?_; (try simp only [Ty.dflt, Nat.zero_add, Nat.add_zero, Int.toNat_natCast, Int.toNat_zero, Int.toNat_one, List.length_take, List.length_drop, List.length_append, List.length_replicate, List.length_cons, List.length_nil, List.length_set, List.length_map, true_and, and_true]); omega)
    · have hi1 : i < a.2.2.1.length := by omega
      have hany := hany hi1
      have hwk := hwk hi1
      rw [bads_told] at hany hwk
      (refine CallN.q (fitsM t.1 1 (by omega)) [] (fun _ _ => ?_); (repeat' ((conv => whnf); first | apply And.intro | exact ⟨by kernel_rfl⟩ | apply DrawN.mk | apply CodeN.step hm rfl | exact trivial | exact rfl | (intro hh; try simp only [bs] at hh; try exact absurd hh (by decide)))); all_goals (conv => whnf); all_goals try exact ⟨by decide⟩)
      (refine CallN.q (fitsM t.2.2.1 4 (by omega)) [] (fun _ _ => ?_); (repeat' ((conv => whnf); first | apply And.intro | exact ⟨by kernel_rfl⟩ | apply DrawN.mk | apply CodeN.step hm rfl | exact trivial | exact rfl | (intro hh; try simp only [bs] at hh; try exact absurd hh (by decide)))); all_goals (conv => whnf); all_goals try exact ⟨by decide⟩)
      all_goals first
        | ((refine RetN.q () [] ?_ ?_ ?_ <;> (repeat' ((conv => whnf) <;> first | exact rfl | exact trivial | apply And.intro | exact Nat.zero_add _)); all_goals ((conv => whnf); try simp only []))
           rw [hwr, hany (by simp [*])]; rfl)
        | skip
      (refine CallN.q (fitsM t.2.2.2.1 6 (by omega)) [] (fun _ _ => ?_); (repeat' ((conv => whnf); first | apply And.intro | exact ⟨by kernel_rfl⟩ | apply DrawN.mk | apply CodeN.step hm rfl | exact trivial | exact rfl | (intro hh; try simp only [bs] at hh; try exact absurd hh (by decide)))); all_goals (conv => whnf); all_goals try exact ⟨by decide⟩)
      all_goals first
        | ((refine RetN.q () [] ?_ ?_ ?_ <;> (repeat' ((conv => whnf) <;> first | exact rfl | exact trivial | apply And.intro | exact Nat.zero_add _)); all_goals ((conv => whnf); try simp only []))
           rw [hwr, hany (by simp [*])]; rfl)
        | skip
      (refine CallN.q (fitsM t.2.2.2.2 6 (by omega)) [] (fun _ _ => ?_); (repeat' ((conv => whnf); first | apply And.intro | exact ⟨by kernel_rfl⟩ | apply DrawN.mk | apply CodeN.step hm rfl | exact trivial | exact rfl | (intro hh; try simp only [bs] at hh; try exact absurd hh (by decide)))); all_goals (conv => whnf); all_goals try exact ⟨by decide⟩)
      all_goals first
        | ((refine RetN.q () [] ?_ ?_ ?_ <;> (repeat' ((conv => whnf) <;> first | exact rfl | exact trivial | apply And.intro | exact Nat.zero_add _)); all_goals ((conv => whnf); try simp only []))
           rw [hwr, hany (by simp [*])]; rfl)
        | skip
      refine ⟨i + 1, [0], ⟨rfl, rfl, ?_, ?_⟩, ⟨hi1, ?_⟩, by omega⟩
      · (repeat' ((conv => whnf) <;> first | exact rfl | exact trivial | apply And.intro | exact Nat.zero_add _))
      · (repeat' ((conv => whnf) <;> first | exact rfl | exact trivial | apply And.intro | exact Nat.zero_add _)); all_goals ((conv => whnf); try simp only [])
        exact wr2 i hi1 (by omega)
      · rw [hwk, hti]; simp [*]
    · have ei : i = a.2.2.1.length := by omega
      rw [ei, List.take_length] at hti
      rw [hti, Bool.false_or] at hwr
      clear hwk hx' hany hh
      refine LoopN.intro hm (X := Nat) (fun i => i ≤ a.2.2.2.2.2.2.2.length ∧ namesW (a.2.2.2.2.2.2.2.take i) = false) (fun i => a.2.2.2.2.2.2.2.length - i)
        (fun i => [(6, .int .i64 fun _ => (i : Int)), (1, .ptr 0 0)]) (fun i => [ansC a]) 0 [0] ⟨rfl, rfl, ?_, ?_⟩ ⟨Nat.zero_le _, rfl⟩ (fun j hj => ?_)
      · (repeat' ((conv => whnf) <;> first | exact rfl | exact trivial | apply And.intro | exact Nat.zero_add _))
      · (repeat' ((conv => whnf) <;> first | exact rfl | exact trivial | apply And.intro | exact Nat.zero_add _))
      · obtain ⟨hj, htj⟩ := hj
        have hwk := namesW_take (l := a.2.2.2.2.2.2.2) (i := j)
        have hx' : a.2.2.2.2.2.2.2.getD (j : Int).toNat NameT.dflt = a.2.2.2.2.2.2.2.getD j (0, []) := rfl
        have hany : j < a.2.2.2.2.2.2.2.length → (bads [((a.2.2.2.2.2.2.2.getD j (0, [])).1, 1)] || !(put (a.2.2.2.2.2.2.2.getD j (0, [])).2).2) = true → namesW a.2.2.2.2.2.2.2 = true := fun h1 h2 => by
          refine List.any_eq_true.2 ⟨_, ?_, h2⟩
          rw [List.getD_eq_getElem?_getD, List.getElem?_eq_getElem h1]; exact List.getElem_mem h1
        generalize a.2.2.2.2.2.2.2.getD j (0, []) = n at hwk hx' hany
        rw [bads_book, put_ok] at hany hwk
        (repeat' ((conv => whnf); first | apply And.intro | exact ⟨by kernel_rfl⟩ | apply DrawN.mk | apply CodeN.step hm rfl | exact trivial | exact rfl | (intro hh; try simp only [bs] at hh))); all_goals (conv => whnf)
        all_goals (try simp only [hx'] at hh ⊢)
        · (refine Ob.mk ?_; (try simp only [Ty.dflt, Nat.zero_add, Nat.add_zero, Int.toNat_natCast, Int.toNat_zero, Int.toNat_one, List.length_take, List.length_drop, List.length_append, List.length_replicate, List.length_cons, List.length_nil, List.length_set, List.length_map, true_and, and_true]); omega)
        · have hj1 : j < a.2.2.2.2.2.2.2.length := by omega
          have hany := hany hj1
          have hwk := hwk hj1
          (refine CallN.q (fitsM n.1 1 (by omega)) [] (fun _ _ => ?_); (repeat' ((conv => whnf); first | apply And.intro | exact ⟨by kernel_rfl⟩ | apply DrawN.mk | apply CodeN.step hm rfl | exact trivial | exact rfl | (intro hh; try simp only [bs] at hh; try exact absurd hh (by decide)))); all_goals (conv => whnf); all_goals try exact ⟨by decide⟩)
          all_goals (try simp only [hx'] at hh ⊢)
          all_goals first
            | ((refine Ob.mk ?_; (try simp only [Ty.dflt, Nat.zero_add, Nat.add_zero, Int.toNat_natCast, Int.toNat_zero, Int.toNat_one, List.length_take, List.length_drop, List.length_append, List.length_replicate, List.length_cons, List.length_nil, List.length_set, List.length_map, true_and, and_true]); omega))
            | ((refine RetN.q () [] ?_ ?_ ?_ <;> (repeat' ((conv => whnf) <;> first | exact rfl | exact trivial | apply And.intro | exact Nat.zero_add _)); all_goals ((conv => whnf); try simp only []))
               rw [hwr, hany (by simp [*]; try omega)]; rfl)
            | skip
          refine ⟨j + 1, [0], ⟨rfl, rfl, ?_, ?_⟩, ⟨hj1, ?_⟩, by omega⟩
          · (repeat' ((conv => whnf) <;> first | exact rfl | exact trivial | apply And.intro | exact Nat.zero_add _))
          · (repeat' ((conv => whnf) <;> first | exact rfl | exact trivial | apply And.intro | exact Nat.zero_add _)); all_goals ((conv => whnf); try simp only [])
            exact wr2 j hj1 (by omega)
          · rw [hwk, htj]; simp [*]; omega
        · have ej : j = a.2.2.2.2.2.2.2.length := by omega
          rw [ej, List.take_length] at htj
          (refine RetN.q () [] ?_ ?_ ?_ <;> (repeat' ((conv => whnf) <;> first | exact rfl | exact trivial | apply And.intro | exact Nat.zero_add _)); all_goals ((conv => whnf); try simp only []))
          rw [hwr, htj]; rfl
end Go.Proofs.Ytoipgandilhdeaa.An
set_option linter.unusedVariables false
set_option linter.unusedSimpArgs false
namespace Go.Proofs.Ytoipgandilhdeaa.An
open Go Go.RowKit Fw Nu
def readL (s : Bytes) : Int → List Nat → Option (List Int × Int)
  | t, [] => some ([], t)
  | t, w :: r => if (number s t w).2.2 = 0 then (match readL s (number s t w).2.1 r with | some x => some ((number s t w).1 :: x.1, x.2) | none => none) else none
theorem readL_get {s : Bytes} : ∀ (ws : List Nat) (t : Int) (vs : List Int) (t' : Int), (∀ w ∈ ws, w ≤ 8) → 0 ≤ t ∧ t ≤ s.length → readL s t ws = some (vs, t') →
    vs.length = ws.length ∧ t ≤ t' ∧ t' ≤ s.length ∧ bads (vs.zip ws) = false ∧ from_ s t = wides (vs.zip ws) ++ from_ s t'
  | [], t, vs, t', _, h0, h => by
    simp only [readL, Option.some.injEq, Prod.mk.injEq] at h
    obtain ⟨rfl, rfl⟩ := h
    exact ⟨rfl, by omega, h0.2, rfl, rfl⟩
  | w :: r, t, vs, t', hw, h0, h => by
    simp only [readL] at h
    split at h
    · rename_i hn
      split at h
      · rename_i x hx
        simp only [Option.some.injEq, Prod.mk.injEq] at h
        obtain ⟨rfl, rfl⟩ := h
        obtain ⟨g1, g2, g3, g4, g5⟩ := number_get (hw w (List.mem_cons_self ..)) hn
        rw [g2] at hx
        obtain ⟨k1, k2, k3, k4, k5⟩ := readL_get r (t + w) x.1 x.2 (fun v hv => hw v (List.mem_cons_of_mem _ hv)) (by omega) hx
        refine ⟨by simp [k1], by omega, k3, ?_, ?_⟩
        · rw [List.zip_cons_cons, bads_cons, g4, k4]; rfl
        · rw [g5, k5, List.zip_cons_cons]; simp [wides]
      · cases h
    · cases h
theorem readL_put {s : Bytes} : ∀ (l : List (Int × Nat)) (t : Int) (rest : Bytes), (∀ x ∈ l, x.2 ≤ 8) → 0 ≤ t ∧ t ≤ s.length → bads l = false → from_ s t = wides l ++ rest →
    readL s t (l.map (·.2)) = some (l.map (·.1), t + (wides l).length) ∧ from_ s (t + (wides l).length) = rest ∧ t + (wides l).length ≤ s.length
  | [], t, rest, _, h0, _, h => by
    refine ⟨by simp [readL, wides], ?_, by simp [wides]; omega⟩
    simpa [wides] using h
  | x :: r, t, rest, hw, h0, hb, h => by
    obtain ⟨n, w⟩ := x
    rw [bads_cons, Bool.or_eq_false_iff, Bool.not_eq_false'] at hb
    have e : wides ((n, w) :: r) = wide (IntKind.u64.wrap n) w ++ wides r := by simp [wides]
    rw [e, List.append_assoc] at h
    obtain ⟨g1, g2, g3⟩ := number_put (hw (n, w) (List.mem_cons_self ..)) h0 hb.1 h
    obtain ⟨k1, k2, k3⟩ := readL_put r (t + w) rest (fun v hv => hw v (List.mem_cons_of_mem _ hv)) (by omega) hb.2 g2
    have e2 : t + ((wides ((n, w) :: r)).length : Int) = t + w + (wides r).length := by rw [e, List.length_append, wide_len]; omega
    rw [e2]
    refine ⟨?_, k2, k3⟩
    simp only [List.map_cons, readL, g1, if_true, k1]
theorem text_get {s : Bytes} {t : Int} (h : (text s t).2.2 = 0) : 0 ≤ t ∧ t ≤ (text s t).2.1 ∧ (text s t).2.1 ≤ s.length ∧ (put (text s t).1).2 = true ∧ from_ s t = (put (text s t).1).1 ++ from_ s (text s t).2.1 := by
  by_cases h0 : (number s t 1).2.2 = 0
  · obtain ⟨h1, _⟩ := number_one s t
    obtain ⟨g1, g2, g3, g4⟩ := h1 h0
    rw [t_ok h0] at h ⊢
    have hb := UInt8.toNat_lt (s.getD t.toNat 0)
    by_cases hc : (s.length : Int) < t + 1 + (s.getD t.toNat 0).toNat
    · rw [if_pos hc] at h; cases h
    · rw [if_neg hc]
      have hl : ((s.drop (t + 1).toNat).take (s.getD t.toNat 0).toNat).length = (s.getD t.toNat 0).toNat := by rw [List.length_take, List.length_drop]; omega
      have hp : put ((s.drop (t + 1).toNat).take (s.getD t.toNat 0).toNat) = (s.getD t.toNat 0 :: (s.drop (t + 1).toNat).take (s.getD t.toNat 0).toNat, true) := by
        unfold put
        rw [hl, if_pos (by omega)]
        simp
      refine ⟨g1, by show t ≤ t + 1 + _; omega, by show t + 1 + _ ≤ _; omega, by rw [hp], ?_⟩
      rw [hp]
      show from_ s t = s.getD t.toNat 0 :: ((s.drop (t + 1).toNat).take (s.getD t.toNat 0).toNat) ++ from_ s (t + 1 + (s.getD t.toNat 0).toNat)
      have hlt : t.toNat < s.length := by omega
      have e1 : from_ s t = s.getD t.toNat 0 :: s.drop (t + 1).toNat := by
        rw [from_, List.drop_eq_getElem_cons hlt, List.getD_eq_getElem?_getD, List.getElem?_eq_getElem hlt, show (t + 1).toNat = t.toNat + 1 by omega]; rfl
      rw [e1, List.cons_append, from_, show (t + 1 + ((s.getD t.toNat 0).toNat : Int)).toNat = (t + 1).toNat + (s.getD t.toNat 0).toNat by omega, ← List.drop_drop, List.take_append_drop]
  · unfold text at h; rw [if_pos h0] at h; exact absurd h h0
theorem text_put {s rest k : Bytes} {t : Int} (h0 : 0 ≤ t ∧ t ≤ s.length) (hk : (put k).2 = true) (h : from_ s t = (put k).1 ++ rest) :
    text s t = (k, t + (put k).1.length, 0) ∧ from_ s (t + (put k).1.length) = rest ∧ t + (put k).1.length ≤ s.length := by
  have hk' : k.length ≤ 255 := by rw [put_ok] at hk; exact of_decide_eq_true hk
  have hp : put k = (UInt8.ofNat k.length :: k, true) := by unfold put; rw [if_pos hk']
  rw [hp] at h ⊢
  have hl : (from_ s t).length = s.length - t.toNat := by rw [from_, List.length_drop]
  rw [h] at hl
  simp only [List.length_append, List.length_cons] at hl
  have hlt : t.toNat < s.length := by omega
  have e1 : from_ s t = s.getD t.toNat 0 :: s.drop (t + 1).toNat := by
    rw [from_, List.drop_eq_getElem_cons hlt, List.getD_eq_getElem?_getD, List.getElem?_eq_getElem hlt, show (t + 1).toNat = t.toNat + 1 by omega]; rfl
  rw [e1, List.cons_append] at h
  injection h with e2 e3
  have e4 : (s.getD t.toNat 0).toNat = k.length := by rw [e2, UInt8.toNat_ofNat']; omega
  have hn : (number s t 1).2.2 = 0 := by rw [n_ok h0 (by omega)]
  have ht := t_ok hn
  rw [e4, if_neg (by omega), e3, List.take_left'] at ht
  · have e5 : t + (((UInt8.ofNat k.length :: k : Bytes).length : Nat) : Int) = t + 1 + k.length := by rw [List.length_cons]; omega
    rw [e5]
    refine ⟨ht, ?_, by omega⟩
    rw [from_, show (t + 1 + (k.length : Int)).toNat = (t + 1).toNat + k.length by omega, ← List.drop_drop, e3, List.drop_left']
    rfl
  · rfl
def readTold (s : Bytes) (t : Int) : Option (Told × Int) := match readL s t [1, 1, 4, 6, 6] with
  | some ([c, al, r1, r2, r3], t') => if al ≤ 1 then some ((c, decide (al = 1), r1, r2, r3), t') else none
  | _ => none
theorem told_get {s : Bytes} {t t' : Int} {x : Told} (h0 : 0 ≤ t ∧ t ≤ s.length) (h : readTold s t = some (x, t')) : t ≤ t' ∧ t' ≤ s.length ∧ bads (toldNums x) = false ∧ from_ s t = wides (toldNums x) ++ from_ s t' := by
  unfold readTold at h
  split at h
  · rename_i c al r1 r2 r3 t2 hr
    split at h
    · rename_i ha
      simp only [Option.some.injEq, Prod.mk.injEq] at h
      obtain ⟨rfl, rfl⟩ := h
      obtain ⟨k1, k2, k3, k4, k5⟩ := readL_get _ _ _ _ (by simp) h0 hr
      simp only [List.zip_cons_cons, List.zip_nil_right] at k4 k5
      have hal : 0 ≤ al := by
        rw [bads_cons, bads_cons] at k4
        simp only [Bool.or_eq_false_iff, Bool.not_eq_false'] at k4
        exact (fits_iff.1 k4.2.1).1
      have e : toldNums (c, decide (al = 1), r1, r2, r3) = [(c, 1), (al, 1), (r1, 4), (r2, 6), (r3, 6)] := by
        have : (if decide (al = 1) = true then (1 : Int) else 0) = al := by split <;> simp_all <;> omega
        simp only [toldNums, this]
      rw [e]
      exact ⟨k2, k3, k4, k5⟩
    · cases h
  · cases h
theorem told_put {s rest : Bytes} {t : Int} {x : Told} (h0 : 0 ≤ t ∧ t ≤ s.length) (hb : bads (toldNums x) = false) (h : from_ s t = wides (toldNums x) ++ rest) :
    readTold s t = some (x, t + (wides (toldNums x)).length) ∧ from_ s (t + (wides (toldNums x)).length) = rest ∧ t + (wides (toldNums x)).length ≤ s.length := by
  obtain ⟨k1, k2, k3⟩ := readL_put (toldNums x) t rest (by simp [toldNums]) h0 hb h
  refine ⟨?_, k2, k3⟩
  unfold readTold
  have e : (toldNums x).map (·.2) = [1, 1, 4, 6, 6] := rfl
  rw [e] at k1
  rw [k1]
  obtain ⟨c, al, r1, r2, r3⟩ := x
  cases al <;> rfl
def readName (s : Bytes) (t : Int) : Option (Name × Int) := match readL s t [1] with
  | some ([b], t') => if (text s t').2.2 = 0 then some ((b, (text s t').1), (text s t').2.1) else none
  | _ => none
def nameB (x : Name) : Bytes := wides [(x.1, 1)] ++ (put x.2).1
def nameW (x : Name) : Bool := bads [(x.1, 1)] || !(put x.2).2
theorem name_get {s : Bytes} {t t' : Int} {x : Name} (h0 : 0 ≤ t ∧ t ≤ s.length) (h : readName s t = some (x, t')) : t ≤ t' ∧ t' ≤ s.length ∧ nameW x = false ∧ from_ s t = nameB x ++ from_ s t' := by
  unfold readName at h
  split at h
  · rename_i b t2 hr
    split at h
    · rename_i ht
      simp only [Option.some.injEq, Prod.mk.injEq] at h
      obtain ⟨rfl, rfl⟩ := h
      obtain ⟨k1, k2, k3, k4, k5⟩ := readL_get _ _ _ _ (by simp) h0 hr
      obtain ⟨g1, g2, g3, g4, g5⟩ := text_get ht
      simp only [List.zip_cons_cons, List.zip_nil_right] at k4 k5
      refine ⟨by omega, g3, by rw [nameW, k4, g4]; rfl, ?_⟩
      rw [k5, g5, nameB, List.append_assoc]
    · cases h
  · cases h
theorem name_put {s rest : Bytes} {t : Int} {x : Name} (h0 : 0 ≤ t ∧ t ≤ s.length) (hb : nameW x = false) (h : from_ s t = nameB x ++ rest) :
    readName s t = some (x, t + (nameB x).length) ∧ from_ s (t + (nameB x).length) = rest ∧ t + (nameB x).length ≤ s.length := by
  rw [nameW, Bool.or_eq_false_iff, Bool.not_eq_false'] at hb
  rw [nameB, List.append_assoc] at h
  obtain ⟨k1, k2, k3⟩ := readL_put [(x.1, 1)] t _ (by simp) h0 hb.1 h
  have hl : (wides [(x.1, 1)]).length = 1 := by rw [wides_len]; rfl
  rw [hl] at k1 k2 k3
  obtain ⟨g1, g2, g3⟩ := text_put (by omega) hb.2 k2
  have e : t + ((nameB x).length : Int) = t + (1 : Nat) + (put x.2).1.length := by rw [nameB, List.length_append, hl]; omega
  rw [e]
  refine ⟨?_, g2, g3⟩
  unfold readName
  have k1 : readL s t [1] = some ([x.1], t + (1 : Nat)) := k1
  rw [k1]
  simp only [g1, if_true]
def readN {α : Type} (f : Int → Option (α × Int)) : Nat → Int → Option (List α × Int)
  | 0, t => some ([], t)
  | n + 1, t => match readN f n t with
    | some (l, t') => (match f t' with | some (x, t'') => some (l ++ [x], t'') | none => none)
    | none => none
theorem readN_none {α : Type} {f : Int → Option (α × Int)} {t : Int} : ∀ {n m : Nat}, n ≤ m → readN f n t = none → readN f m t = none
  | n, 0, h, e => by rw [show n = 0 by omega] at e; exact e
  | n, m + 1, h, e => by
    by_cases hnm : n = m + 1
    · rw [← hnm]; exact e
    · rw [readN, readN_none (show n ≤ m by omega) e]
theorem readN_get {α : Type} {s : Bytes} {f : Int → Option (α × Int)} {B : α → Bytes} {W : α → Bool}
    (hf : ∀ (t : Int) (x : α) (t' : Int), 0 ≤ t ∧ t ≤ s.length → f t = some (x, t') → t ≤ t' ∧ t' ≤ (s.length : Int) ∧ W x = false ∧ from_ s t = B x ++ from_ s t') :
    ∀ (n : Nat) (t : Int) (l : List α) (t' : Int), 0 ≤ t ∧ t ≤ s.length → readN f n t = some (l, t') → l.length = n ∧ t ≤ t' ∧ t' ≤ s.length ∧ l.any W = false ∧ from_ s t = l.flatMap B ++ from_ s t'
  | 0, t, l, t', h0, h => by
    simp only [readN, Option.some.injEq, Prod.mk.injEq] at h
    obtain ⟨rfl, rfl⟩ := h
    exact ⟨rfl, by omega, h0.2, rfl, rfl⟩
  | n + 1, t, l, t', h0, h => by
    simp only [readN] at h
    split at h
    · rename_i l1 t1 h1
      split at h
      · rename_i x t2 h2
        simp only [Option.some.injEq, Prod.mk.injEq] at h
        obtain ⟨rfl, rfl⟩ := h
        obtain ⟨k1, k2, k3, k4, k5⟩ := readN_get hf n t l1 t1 h0 h1
        obtain ⟨g1, g2, g3, g4⟩ := hf t1 x t2 (by omega) h2
        refine ⟨by simp [k1], by omega, g2, by simp [k4, g3], ?_⟩
        rw [k5, g4]; simp
      · cases h
    · cases h
theorem readN_put {α : Type} {s : Bytes} {f : Int → Option (α × Int)} {B : α → Bytes} {W : α → Bool}
    (hf : ∀ (t : Int) (x : α) (rest : Bytes), 0 ≤ t ∧ t ≤ s.length → W x = false → from_ s t = B x ++ rest → f t = some (x, t + (B x).length) ∧ from_ s (t + (B x).length) = rest ∧ t + (B x).length ≤ (s.length : Int)) (l : List α) (t : Int) (h0 : 0 ≤ t ∧ t ≤ s.length) :
    ∀ (n : Nat) (rest : Bytes), n ≤ l.length → (l.take n).any W = false → from_ s t = (l.take n).flatMap B ++ rest →
    readN f n t = some (l.take n, t + ((l.take n).flatMap B).length) ∧ from_ s (t + ((l.take n).flatMap B).length) = rest ∧ t + ((l.take n).flatMap B).length ≤ s.length
  | 0, rest, _, _, h => by
    refine ⟨by simp [readN], ?_, by simp; omega⟩
    simpa using h
  | n + 1, rest, hn, hw, h => by
    have e : l.take (n + 1) = l.take n ++ [l[n]'(by omega)] := by rw [List.take_add_one, List.getElem?_eq_getElem (by omega)]; rfl
    rw [e] at hw h ⊢
    rw [List.any_append, Bool.or_eq_false_iff] at hw
    rw [List.flatMap_append, List.append_assoc] at h
    obtain ⟨k1, k2, k3⟩ := readN_put hf l t h0 n _ (by omega) hw.1 h
    have hw2 : W (l[n]'(by omega)) = false := by simpa using hw.2
    obtain ⟨g1, g2, g3⟩ := hf (t + ((l.take n).flatMap B).length) (l[n]'(by omega)) rest (by omega) hw2 (by rw [k2]; simp)
    have e2 : t + (((l.take n ++ [l[n]'(by omega)]).flatMap B).length : Int) = t + ((l.take n).flatMap B).length + (B (l[n]'(by omega))).length := by
      rw [List.flatMap_append, List.length_append]; simp; omega
    rw [e2]
    refine ⟨?_, g2, g3⟩
    rw [readN, k1]
    simp only [g1]

def headsW : List Nat := [1, 1, 4, 1, 4, 4, 1, 6, 2]
/-- A count of few things, and the things. -/
def readC {α : Type} (s : Bytes) (f : Int → Option (α × Int)) (t : Int) : Option (List α × Int) := match readL s t [1] with
  | some ([m], t') => if 32 < m then none else readN f m.toNat t'
  | _ => none
def ansOf (vs : List Int) (told : List Told) (names : List Name) : Option Ans := match vs with
  | [k, c, v, p1, p2, p3, p4, nw, cn] => some (k, c, told, v, (p1, p2, p3, p4), nw, cn, names)
  | _ => none
def decP (s : Bytes) : Option Ans := match readL s 0 headsW with
  | some (vs, t1) => (match readC s (readTold s) t1 with
    | some (told, t2) => (match readC s (readName s) t2 with
      | some (names, t3) => if t3 = s.length ∧ s.length ≤ 512 then ansOf vs told names else none
      | none => none)
    | none => none)
  | none => none
theorem readC_get {α : Type} {s : Bytes} {f : Int → Option (α × Int)} {B : α → Bytes} {W : α → Bool}
    (hf : ∀ (t : Int) (x : α) (t' : Int), 0 ≤ t ∧ t ≤ s.length → f t = some (x, t') → t ≤ t' ∧ t' ≤ (s.length : Int) ∧ W x = false ∧ from_ s t = B x ++ from_ s t') {t : Int} {l : List α} {t' : Int} (h0 : 0 ≤ t ∧ t ≤ s.length) (h : readC s f t = some (l, t')) :
    l.length ≤ 32 ∧ t ≤ t' ∧ t' ≤ s.length ∧ l.any W = false ∧ from_ s t = wides [((l.length : Int), 1)] ++ l.flatMap B ++ from_ s t' := by
  unfold readC at h
  split at h
  · rename_i m t1 hr
    split at h
    · cases h
    · rename_i hm
      obtain ⟨k1, k2, k3, k4, k5⟩ := readL_get _ _ _ _ (by simp) h0 hr
      simp only [List.zip_cons_cons, List.zip_nil_right] at k4 k5
      have hm0 : 0 ≤ m := by rw [bads_book, Bool.not_eq_false'] at k4; exact (fits_iff.1 k4).1
      obtain ⟨g1, g2, g3, g4, g5⟩ := readN_get hf m.toNat t1 l t' (by omega) h
      have e : (l.length : Int) = m := by omega
      rw [e]
      exact ⟨by omega, by omega, g3, g4, by rw [k5, g5, List.append_assoc]⟩
  · cases h
theorem readC_put {α : Type} {s : Bytes} {f : Int → Option (α × Int)} {B : α → Bytes} {W : α → Bool}
    (hf : ∀ (t : Int) (x : α) (rest : Bytes), 0 ≤ t ∧ t ≤ s.length → W x = false → from_ s t = B x ++ rest → f t = some (x, t + (B x).length) ∧ from_ s (t + (B x).length) = rest ∧ t + (B x).length ≤ (s.length : Int)) (l : List α) {t : Int} {rest : Bytes} (h0 : 0 ≤ t ∧ t ≤ s.length)
    (hl : l.length ≤ 32) (hw : l.any W = false) (h : from_ s t = wides [((l.length : Int), 1)] ++ l.flatMap B ++ rest) :
    readC s f t = some (l, t + (wides [((l.length : Int), 1)] ++ l.flatMap B).length) ∧ from_ s (t + (wides [((l.length : Int), 1)] ++ l.flatMap B).length) = rest ∧ t + (wides [((l.length : Int), 1)] ++ l.flatMap B).length ≤ s.length := by
  rw [List.append_assoc] at h
  have hb : bads [((l.length : Int), 1)] = false := by rw [bads_book, fits_one (by omega)]; rfl
  obtain ⟨k1, k2, k3⟩ := readL_put [((l.length : Int), 1)] t _ (by simp) h0 hb h
  obtain ⟨g1, g2, g3⟩ := readN_put hf l (t + (wides [((l.length : Int), 1)]).length) (by omega) l.length rest (Nat.le_refl _) (by rw [List.take_length]; exact hw) (by rw [List.take_length]; exact k2)
  rw [List.take_length] at g1 g2 g3
  have e : t + ((wides [((l.length : Int), 1)] ++ l.flatMap B).length : Int) = t + (wides [((l.length : Int), 1)]).length + (l.flatMap B).length := by rw [List.length_append]; omega
  rw [e]
  refine ⟨?_, g2, g3⟩
  unfold readC
  have k1 : readL s t [1] = some ([(l.length : Int)], t + (wides [((l.length : Int), 1)]).length) := k1
  rw [k1]
  simp only []
  rw [if_neg (by omega), Int.toNat_natCast]
  exact g1
theorem dec_get {s : Bytes} {a : Ans} (h : decP s = some a) : wrongA a = false ∧ encA a = s ∧ s.length ≤ 512 := by
  unfold decP at h
  split at h
  · rename_i vs t1 h1
    split at h
    · rename_i told t2 h2
      split at h
      · rename_i names t3 h3
        split at h
        · rename_i hc
          obtain ⟨k1, k2, k3, k4, k5⟩ := readL_get _ _ _ _ (by simp [headsW]) (by omega) h1
          obtain ⟨l1, l2, l3, l4, l5⟩ := readC_get (B := fun t => wides (toldNums t)) (W := fun t => bads (toldNums t)) (fun t x t' h0 h => told_get h0 h) (by omega) h2
          obtain ⟨n1, n2, n3, n4, n5⟩ := readC_get (B := nameB) (W := nameW) (fun t x t' h0 h => name_get h0 h) (by omega) h3
          match vs, h, k1, k4, k5 with
          | [k, c, v, p1, p2, p3, p4, nw, cn], h, _, k4, k5 =>
            simp only [ansOf, Option.some.injEq] at h
            subst h
            have k4 : bads (ansNums (k, c, told, v, (p1, p2, p3, p4), nw, cn, names)) = false := k4
            have k5 : from_ s 0 = wides (ansNums (k, c, told, v, (p1, p2, p3, p4), nw, cn, names)) ++ from_ s t1 := k5
            refine ⟨?_, ?_, hc.2⟩
            · have f1 := fits_one (n := (told.length : Int)) (by omega)
              have f2 := fits_one (n := (names.length : Int)) (by omega)
              have d1 : decide (32 < (told.length : Int)) = false := decide_eq_false (by omega)
              have d2 : decide (32 < (names.length : Int)) = false := decide_eq_false (by omega)
              have l4 : toldsW told = false := l4
              have n4 : namesW names = false := n4
              simp only [wrongA, k4, bads_book, f1, f2, d1, d2, l4, n4]; rfl
            · have e0 : from_ s 0 = s := rfl
              have e1 : from_ s t3 = [] := by rw [hc.1, from_, Int.toNat_natCast, List.drop_length]
              rw [← e0, k5, l5, n5, e1, List.append_nil]
              simp only [encA, toldsB, namesB, List.append_assoc]
              rfl
        · cases h
      · cases h
    · cases h
  · cases h
theorem dec_put {a : Ans} (hw : wrongA a = false) (hl : (encA a).length ≤ 512) : decP (encA a) = some a := by
  obtain ⟨k, c, told, v, ⟨p1, p2, p3, p4⟩, nw, cn, names⟩ := a
  generalize ha : ((k, c, told, v, (p1, p2, p3, p4), nw, cn, names) : Ans) = a at hw hl ⊢
  have hs : ∃ s, s = encA a := ⟨_, rfl⟩
  obtain ⟨s, hs⟩ := hs
  simp only [wrongA, Bool.or_eq_false_iff] at hw
  obtain ⟨⟨⟨⟨⟨⟨w1, w2⟩, w3⟩, w4⟩, w5⟩, w6⟩, w7⟩ := hw
  have t1 : a.2.2.1 = told := by rw [← ha]
  have t2 : a.2.2.2.2.2.2.2 = names := by rw [← ha]
  have w2 := of_decide_eq_false w2
  have w5 := of_decide_eq_false w5
  rw [t1] at w2 w4
  rw [t2] at w5 w7
  have hse : from_ s 0 = wides (ansNums a) ++ (wides [((told.length : Int), 1)] ++ toldsB told ++ (wides [((names.length : Int), 1)] ++ namesB names ++ [])) := by
    show s = _
    rw [hs, encA, t1, t2]; simp
  obtain ⟨k1, k2, k3⟩ := readL_put (ansNums a) 0 _ (by simp [ansNums]) (by omega) w1 hse
  obtain ⟨l1, l2, l3⟩ := readC_put (s := s) (f := readTold s) (B := fun t => wides (toldNums t)) (W := fun t => bads (toldNums t)) (fun t x rest h0 hw h => told_put h0 hw h) told (by omega) (by omega) w4 k2
  obtain ⟨n1, n2, n3⟩ := readC_put (s := s) (f := readName s) (B := nameB) (W := nameW) (fun t x rest h0 hw h => name_put h0 hw h) names (by omega) (by omega) w7 l2
  have k1 : readL s 0 headsW = some ([k, c, v, p1, p2, p3, p4, nw, cn], (0 : Int) + ((wides (ansNums a)).length : Int)) := by rw [← ha] at k1 ⊢; exact k1
  have hsl : s.length = (wides (ansNums a)).length + (wides [((told.length : Int), 1)] ++ toldsB told).length + (wides [((names.length : Int), 1)] ++ namesB names).length := by
    have e0 : from_ s 0 = s := rfl
    rw [← e0, hse]; simp; omega
  rw [← hs]
  unfold decP
  rw [k1]
  simp only []
  rw [l1]
  simp only []
  rw [n1]
  simp only []
  rw [if_pos, ansOf, ha]
  refine ⟨?_, by rw [hs]; exact hl⟩
  rw [hsl]
  show 0 + ((wides (ansNums a)).length : Int) + ((wides [((told.length : Int), 1)] ++ toldsB told).length : Nat) + ((wides [((names.length : Int), 1)] ++ namesB names).length : Nat) = _
  omega
end Go.Proofs.Ytoipgandilhdeaa.An
set_option linter.unusedVariables false
set_option linter.unusedSimpArgs false
namespace Go.Proofs.Ytoipgandilhdeaa.Wi
open Go Go.RowKit Fw Nu
open An (byv byv_len byv_app byv_back byv_range fitsB fits_iff wides bads wides_len fits_neg shr_ne)
abbrev AskT : Ty := .pair (.int .i64) (.pair .str (.int .i64))
abbrev Ask := Int × Bytes × Int
def cmdC (asks : AV) (k : Int) (al : Bool) (b p1 p2 p3 p4 ab : Int) (ak : Bytes) (m : Int) : Chunk :=
  .cells 42 [.int .i64 fun _ => k, .bool fun _ => al, asks, .int .i64 fun _ => b, .int .i64 fun _ => p1, .int .i64 fun _ => p2, .int .i64 fun _ => p3, .int .i64 fun _ => p4, .int .i64 fun _ => ab, .str fun _ => ak, .int .i64 fun _ => m]
abbrev lstA (l : List Ask) : AV := .lst AskT fun _ => l
def prC (s : Bytes) (t : Int) (wrong : Bool) : Chunk := .cells 121 [.tt, .str fun _ => s, .int .i64 fun _ => t, .pnil, .snil, .bool fun _ => wrong]
theorem bad1 {n : Int} {w : Nat} {wrong f : Bool} (hw : w ≤ 7)
    (hc : (wrong = true ∧ f = true) ∨ (n < 0 ∧ f = true) ∨ (wrong = false ∧ ¬ n < 0 ∧ f = (n.fdiv (2 ^ (min (IntKind.i64.wrap (8 * (w : Int))).toNat IntKind.i64.bits)) != 0))) : f = (wrong || bads [(n, w)]) := by
  have e0 : bads [(n, w)] = !fitsB n w := by simp [bads]
  rw [e0]
  rcases hc with ⟨h1, h2⟩ | ⟨h1, h2⟩ | ⟨h1, h2, h3⟩
  · rw [h1, h2]; rfl
  · rw [h2, fits_neg h1]; simp
  · rw [h1, h3, Bool.false_or]
    have e : IntKind.i64.wrap (8 * (w : Int)) = 8 * (w : Int) := wr (by omega)
    rw [e, Bool.eq_iff_iff]
    have := shr_ne (n := n) hw (by omega)
    simp only [bne_iff_ne, this, Bool.not_eq_true']
theorem wides1 (n : Int) (w : Nat) : wides [(n, w)] = wide (IntKind.u64.wrap n) w := by simp [wides]
theorem wides1_len (n : Int) (w : Nat) : (wides [(n, w)]).length = w := by rw [wides1, wide_len]
theorem put_len (s : Bytes) : (put s).1.length ≤ 256 := by unfold put; split <;> simp; omega
/-- What reading a number comes to. -/
structure NumQ (s : Bytes) (t : Int) (w : Nat) (w0 : Bool) (y : Int × Int × Bool) : Prop where
  ok : y.2.2 = false → w0 = false ∧ number s t w = (y.1, y.2.1, 0)
  bad : y.2.2 = true → w0 = true ∨ (number s t w).2.2 ≠ 0
structure TxtQ (s : Bytes) (t : Int) (w0 : Bool) (y : Bytes × Int × Bool) : Prop where
  ok : y.2.2 = false → w0 = false ∧ text s t = (y.1, y.2.1, 0)
  bad : y.2.2 = true → w0 = true ∨ (text s t).2.2 ≠ 0
theorem num_wrap {s : Bytes} {t : Int} {w : Nat} (hw : w ≤ 7) (h : (number s t w).2.2 = 0) : IntKind.i64.wrap (number s t w).1 = (number s t w).1 := by
  have hf := (An.number_get (by omega) h).2.2.2.1
  obtain ⟨h0, h1⟩ := fits_iff.1 hf
  have : (256 : Int) ^ w ≤ 72057594037927936 := by
    obtain rfl | rfl | rfl | rfl | rfl | rfl | rfl | rfl : w = 0 ∨ w = 1 ∨ w = 2 ∨ w = 3 ∨ w = 4 ∨ w = 5 ∨ w = 6 ∨ w = 7 := by omega
    all_goals decide
  exact wr (by omega)
theorem set_same {l : List Ask} {i : Nat} {x : Ask} (hi : i < l.length) (h : l.getD i AskT.dflt = x) : l.set i (x.1, x.2.1, x.2.2) = l := by
  subst h
  rw [List.getD_eq_getElem?_getD, List.getElem?_eq_getElem hi]
  exact List.set_getElem_self hi
theorem num_eq {s : Bytes} {t : Int} {w : Nat} (h : (number s t w).2.2 = 0) : number s t w = ((number s t w).1, (number s t w).2.1, 0) := by
  rw [← h]
theorem txt_eq {s : Bytes} {t : Int} (h : (text s t).2.2 = 0) : text s t = ((text s t).1, (text s t).2.1, 0) := by
  rw [← h]

theorem nWown (s : Bytes) (wrong : Bool) (n : Int) (w : Nat) (hw : w ≤ 4) (hs : s.length ≤ 900000) : Meets Try.prog 69 [.ptr 0 0, .ptr 2 0, .int .i64 fun _ => (w : Int)] (wN s wrong ++ ([.cells 3 [.int .i64 fun _ => n]])) (Y := Unit) (fun _ => True) (fun _ => .tup [])
    (fun _ => wN (s ++ wides [(n, w)]) (wrong || bads [(n, w)]) ++ ([.cells 3 [.int .i64 fun _ => n]])) := by
  have hx : (0 : Nat) = 0 := rfl
  have hsl := hx
  refine Meets.intro hm (fn := Try.f69) Try.func69 rfl (by decide) (Nat.le_of_ble_eq_true rfl) (fun _ => rfl) ?_; intro S hok; (conv => whnf)
  (repeat' ((conv => whnf); first | apply And.intro | exact ⟨by kernel_rfl⟩ | apply DrawN.mk | apply CodeN.step hm rfl | exact trivial | exact rfl | (intro hh; try simp only [bs] at hh))); all_goals (conv => whnf)
  all_goals (try simp only [hx] at hh ⊢)
  all_goals first | (exact Ob.mk (by simp only [IntKind.wrap_i64]; omega)) | ((refine Ob.mk ?_; (try simp only [Ty.dflt, Nat.zero_add, Nat.add_zero, Int.toNat_natCast, Int.toNat_zero, Int.toNat_one, List.length_take, List.length_drop, List.length_append, List.length_replicate, List.length_cons, List.length_nil, List.length_set, List.length_map, true_and, and_true]); omega)) | skip
  all_goals first
    | ((refine CallN.q (wideM (IntKind.u64.wrap (n)) w (by omega)) [] (fun _ _ => ?_); (repeat' ((conv => whnf); first | apply And.intro | exact ⟨by kernel_rfl⟩ | apply DrawN.mk | apply CodeN.step hm rfl | exact trivial | exact rfl | (intro hh; try simp only [bs] at hh; try exact absurd hh (by decide)))); all_goals (conv => whnf); all_goals try exact ⟨by decide⟩)
       (refine CallN.q (writeN s (wide (IntKind.u64.wrap (n)) w) ((n).fdiv (2 ^ (min (IntKind.i64.wrap (8 * (w : Int))).toNat IntKind.i64.bits)) != 0) (by rw [wide_len]; omega)) [0, 1] (fun _ _ => ?_); (repeat' ((conv => whnf); first | apply And.intro | exact ⟨by kernel_rfl⟩ | apply DrawN.mk | apply CodeN.step hm rfl | exact trivial | exact rfl | (intro hh; try simp only [bs] at hh; try exact absurd hh (by decide)))); all_goals (conv => whnf); all_goals try exact ⟨by decide⟩)
       (refine RetN.q () [0, 1, 2] ?_ ?_ ?_ <;> (repeat' ((conv => whnf) <;> first | exact rfl | exact trivial | apply And.intro | exact Nat.zero_add _)); all_goals ((conv => whnf); try simp only []))
       all_goals first | (rw [wides1]; done) | exact bad1 (by omega) (.inr (.inr ⟨by assumption, by assumption, rfl⟩)) | skip
       done)
    | ((refine CallN.q (wideM (IntKind.u64.wrap (n)) w (by omega)) [] (fun _ _ => ?_); (repeat' ((conv => whnf); first | apply And.intro | exact ⟨by kernel_rfl⟩ | apply DrawN.mk | apply CodeN.step hm rfl | exact trivial | exact rfl | (intro hh; try simp only [bs] at hh; try exact absurd hh (by decide)))); all_goals (conv => whnf); all_goals try exact ⟨by decide⟩)
       (refine CallN.q (writeN s (wide (IntKind.u64.wrap (n)) w) true (by rw [wide_len]; omega)) [0, 1] (fun _ _ => ?_); (repeat' ((conv => whnf); first | apply And.intro | exact ⟨by kernel_rfl⟩ | apply DrawN.mk | apply CodeN.step hm rfl | exact trivial | exact rfl | (intro hh; try simp only [bs] at hh; try exact absurd hh (by decide)))); all_goals (conv => whnf); all_goals try exact ⟨by decide⟩)
       (refine RetN.q () [0, 1, 2] ?_ ?_ ?_ <;> (repeat' ((conv => whnf) <;> first | exact rfl | exact trivial | apply And.intro | exact Nat.zero_add _)); all_goals ((conv => whnf); try simp only []))
       all_goals first | (rw [wides1]; done) | exact bad1 (by omega) (.inl ⟨by assumption, rfl⟩) | exact bad1 (by omega) (.inr (.inl ⟨by assumption, rfl⟩)) | skip
       done)
    | skip
theorem nW0 (s : Bytes) (wrong : Bool) (l : List Ask) (k : Int) (al : Bool) (b p1 p2 p3 p4 ab : Int) (ak : Bytes) (m : Int) (w : Nat) (hw : w ≤ 4) (hs : s.length ≤ 900000) : Meets Try.prog 69 [.ptr 0 0, .ptr 2 0, .int .i64 fun _ => (w : Int)] (wN s wrong ++ ([cmdC (lstA l) (k) (al) (b) (p1) (p2) (p3) (p4) (ab) (ak) (m)])) (Y := Unit) (fun _ => True) (fun _ => .tup [])
    (fun _ => wN (s ++ wides [(k, w)]) (wrong || bads [(k, w)]) ++ ([cmdC (lstA l) (k) (al) (b) (p1) (p2) (p3) (p4) (ab) (ak) (m)])) := by
  have hx : (0 : Nat) = 0 := rfl
  refine Meets.intro hm (fn := Try.f69) Try.func69 rfl (by decide) (Nat.le_of_ble_eq_true rfl) (fun _ => rfl) ?_; intro S hok; (conv => whnf)
  (repeat' ((conv => whnf); first | apply And.intro | exact ⟨by kernel_rfl⟩ | apply DrawN.mk | apply CodeN.step hm rfl | exact trivial | exact rfl | (intro hh; try simp only [bs] at hh))); all_goals (conv => whnf)
  all_goals (try simp only [hx] at hh ⊢)
  all_goals first | (exact Ob.mk (by simp only [IntKind.wrap_i64]; omega)) | ((refine Ob.mk ?_; (try simp only [Ty.dflt, Nat.zero_add, Nat.add_zero, Int.toNat_natCast, Int.toNat_zero, Int.toNat_one, List.length_take, List.length_drop, List.length_append, List.length_replicate, List.length_cons, List.length_nil, List.length_set, List.length_map, true_and, and_true]); omega)) | skip
  all_goals first
    | ((refine CallN.q (wideM (IntKind.u64.wrap (k)) w (by omega)) [] (fun _ _ => ?_); (repeat' ((conv => whnf); first | apply And.intro | exact ⟨by kernel_rfl⟩ | apply DrawN.mk | apply CodeN.step hm rfl | exact trivial | exact rfl | (intro hh; try simp only [bs] at hh; try exact absurd hh (by decide)))); all_goals (conv => whnf); all_goals try exact ⟨by decide⟩)
       (refine CallN.q (writeN s (wide (IntKind.u64.wrap (k)) w) ((k).fdiv (2 ^ (min (IntKind.i64.wrap (8 * (w : Int))).toNat IntKind.i64.bits)) != 0) (by rw [wide_len]; omega)) [0, 1] (fun _ _ => ?_); (repeat' ((conv => whnf); first | apply And.intro | exact ⟨by kernel_rfl⟩ | apply DrawN.mk | apply CodeN.step hm rfl | exact trivial | exact rfl | (intro hh; try simp only [bs] at hh; try exact absurd hh (by decide)))); all_goals (conv => whnf); all_goals try exact ⟨by decide⟩)
       (refine RetN.q () [0, 1, 2] ?_ ?_ ?_ <;> (repeat' ((conv => whnf) <;> first | exact rfl | exact trivial | apply And.intro | exact Nat.zero_add _)); all_goals ((conv => whnf); try simp only []))
       all_goals first | (rw [wides1]; done) | exact bad1 (by omega) (.inr (.inr ⟨by assumption, by assumption, rfl⟩)) | skip
       done)
    | ((refine CallN.q (wideM (IntKind.u64.wrap (k)) w (by omega)) [] (fun _ _ => ?_); (repeat' ((conv => whnf); first | apply And.intro | exact ⟨by kernel_rfl⟩ | apply DrawN.mk | apply CodeN.step hm rfl | exact trivial | exact rfl | (intro hh; try simp only [bs] at hh; try exact absurd hh (by decide)))); all_goals (conv => whnf); all_goals try exact ⟨by decide⟩)
       (refine CallN.q (writeN s (wide (IntKind.u64.wrap (k)) w) true (by rw [wide_len]; omega)) [0, 1] (fun _ _ => ?_); (repeat' ((conv => whnf); first | apply And.intro | exact ⟨by kernel_rfl⟩ | apply DrawN.mk | apply CodeN.step hm rfl | exact trivial | exact rfl | (intro hh; try simp only [bs] at hh; try exact absurd hh (by decide)))); all_goals (conv => whnf); all_goals try exact ⟨by decide⟩)
       (refine RetN.q () [0, 1, 2] ?_ ?_ ?_ <;> (repeat' ((conv => whnf) <;> first | exact rfl | exact trivial | apply And.intro | exact Nat.zero_add _)); all_goals ((conv => whnf); try simp only []))
       all_goals first | (rw [wides1]; done) | exact bad1 (by omega) (.inl ⟨by assumption, rfl⟩) | exact bad1 (by omega) (.inr (.inl ⟨by assumption, rfl⟩)) | skip
       done)
    | skip
theorem nW3 (s : Bytes) (wrong : Bool) (l : List Ask) (k : Int) (al : Bool) (b p1 p2 p3 p4 ab : Int) (ak : Bytes) (m : Int) (w : Nat) (hw : w ≤ 4) (hs : s.length ≤ 900000) : Meets Try.prog 69 [.ptr 0 0, .ptr 2 3, .int .i64 fun _ => (w : Int)] (wN s wrong ++ ([cmdC (lstA l) (k) (al) (b) (p1) (p2) (p3) (p4) (ab) (ak) (m)])) (Y := Unit) (fun _ => True) (fun _ => .tup [])
    (fun _ => wN (s ++ wides [(b, w)]) (wrong || bads [(b, w)]) ++ ([cmdC (lstA l) (k) (al) (b) (p1) (p2) (p3) (p4) (ab) (ak) (m)])) := by
  have hx : (0 : Nat) = 0 := rfl
  refine Meets.intro hm (fn := Try.f69) Try.func69 rfl (by decide) (Nat.le_of_ble_eq_true rfl) (fun _ => rfl) ?_; intro S hok; (conv => whnf)
  (repeat' ((conv => whnf); first | apply And.intro | exact ⟨by kernel_rfl⟩ | apply DrawN.mk | apply CodeN.step hm rfl | exact trivial | exact rfl | (intro hh; try simp only [bs] at hh))); all_goals (conv => whnf)
  all_goals (try simp only [hx] at hh ⊢)
  all_goals first | (exact Ob.mk (by simp only [IntKind.wrap_i64]; omega)) | ((refine Ob.mk ?_; (try simp only [Ty.dflt, Nat.zero_add, Nat.add_zero, Int.toNat_natCast, Int.toNat_zero, Int.toNat_one, List.length_take, List.length_drop, List.length_append, List.length_replicate, List.length_cons, List.length_nil, List.length_set, List.length_map, true_and, and_true]); omega)) | skip
  all_goals first
    | ((refine CallN.q (wideM (IntKind.u64.wrap (b)) w (by omega)) [] (fun _ _ => ?_); (repeat' ((conv => whnf); first | apply And.intro | exact ⟨by kernel_rfl⟩ | apply DrawN.mk | apply CodeN.step hm rfl | exact trivial | exact rfl | (intro hh; try simp only [bs] at hh; try exact absurd hh (by decide)))); all_goals (conv => whnf); all_goals try exact ⟨by decide⟩)
       (refine CallN.q (writeN s (wide (IntKind.u64.wrap (b)) w) ((b).fdiv (2 ^ (min (IntKind.i64.wrap (8 * (w : Int))).toNat IntKind.i64.bits)) != 0) (by rw [wide_len]; omega)) [0, 1] (fun _ _ => ?_); (repeat' ((conv => whnf); first | apply And.intro | exact ⟨by kernel_rfl⟩ | apply DrawN.mk | apply CodeN.step hm rfl | exact trivial | exact rfl | (intro hh; try simp only [bs] at hh; try exact absurd hh (by decide)))); all_goals (conv => whnf); all_goals try exact ⟨by decide⟩)
       (refine RetN.q () [0, 1, 2] ?_ ?_ ?_ <;> (repeat' ((conv => whnf) <;> first | exact rfl | exact trivial | apply And.intro | exact Nat.zero_add _)); all_goals ((conv => whnf); try simp only []))
       all_goals first | (rw [wides1]; done) | exact bad1 (by omega) (.inr (.inr ⟨by assumption, by assumption, rfl⟩)) | skip
       done)
    | ((refine CallN.q (wideM (IntKind.u64.wrap (b)) w (by omega)) [] (fun _ _ => ?_); (repeat' ((conv => whnf); first | apply And.intro | exact ⟨by kernel_rfl⟩ | apply DrawN.mk | apply CodeN.step hm rfl | exact trivial | exact rfl | (intro hh; try simp only [bs] at hh; try exact absurd hh (by decide)))); all_goals (conv => whnf); all_goals try exact ⟨by decide⟩)
       (refine CallN.q (writeN s (wide (IntKind.u64.wrap (b)) w) true (by rw [wide_len]; omega)) [0, 1] (fun _ _ => ?_); (repeat' ((conv => whnf); first | apply And.intro | exact ⟨by kernel_rfl⟩ | apply DrawN.mk | apply CodeN.step hm rfl | exact trivial | exact rfl | (intro hh; try simp only [bs] at hh; try exact absurd hh (by decide)))); all_goals (conv => whnf); all_goals try exact ⟨by decide⟩)
       (refine RetN.q () [0, 1, 2] ?_ ?_ ?_ <;> (repeat' ((conv => whnf) <;> first | exact rfl | exact trivial | apply And.intro | exact Nat.zero_add _)); all_goals ((conv => whnf); try simp only []))
       all_goals first | (rw [wides1]; done) | exact bad1 (by omega) (.inl ⟨by assumption, rfl⟩) | exact bad1 (by omega) (.inr (.inl ⟨by assumption, rfl⟩)) | skip
       done)
    | skip
theorem nW4 (s : Bytes) (wrong : Bool) (l : List Ask) (k : Int) (al : Bool) (b p1 p2 p3 p4 ab : Int) (ak : Bytes) (m : Int) (w : Nat) (hw : w ≤ 4) (hs : s.length ≤ 900000) : Meets Try.prog 69 [.ptr 0 0, .ptr 2 4, .int .i64 fun _ => (w : Int)] (wN s wrong ++ ([cmdC (lstA l) (k) (al) (b) (p1) (p2) (p3) (p4) (ab) (ak) (m)])) (Y := Unit) (fun _ => True) (fun _ => .tup [])
    (fun _ => wN (s ++ wides [(p1, w)]) (wrong || bads [(p1, w)]) ++ ([cmdC (lstA l) (k) (al) (b) (p1) (p2) (p3) (p4) (ab) (ak) (m)])) := by
  have hx : (0 : Nat) = 0 := rfl
  refine Meets.intro hm (fn := Try.f69) Try.func69 rfl (by decide) (Nat.le_of_ble_eq_true rfl) (fun _ => rfl) ?_; intro S hok; (conv => whnf)
  (repeat' ((conv => whnf); first | apply And.intro | exact ⟨by kernel_rfl⟩ | apply DrawN.mk | apply CodeN.step hm rfl | exact trivial | exact rfl | (intro hh; try simp only [bs] at hh))); all_goals (conv => whnf)
  all_goals (try simp only [hx] at hh ⊢)
  all_goals first | (exact Ob.mk (by simp only [IntKind.wrap_i64]; omega)) | ((refine Ob.mk ?_; (try simp only [Ty.dflt, Nat.zero_add, Nat.add_zero, Int.toNat_natCast, Int.toNat_zero, Int.toNat_one, List.length_take, List.length_drop, List.length_append, List.length_replicate, List.length_cons, List.length_nil, List.length_set, List.length_map, true_and, and_true]); omega)) | skip
  all_goals first
    | ((refine CallN.q (wideM (IntKind.u64.wrap (p1)) w (by omega)) [] (fun _ _ => ?_); (repeat' ((conv => whnf); first | apply And.intro | exact ⟨by kernel_rfl⟩ | apply DrawN.mk | apply CodeN.step hm rfl | exact trivial | exact rfl | (intro hh; try simp only [bs] at hh; try exact absurd hh (by decide)))); all_goals (conv => whnf); all_goals try exact ⟨by decide⟩)
       (refine CallN.q (writeN s (wide (IntKind.u64.wrap (p1)) w) ((p1).fdiv (2 ^ (min (IntKind.i64.wrap (8 * (w : Int))).toNat IntKind.i64.bits)) != 0) (by rw [wide_len]; omega)) [0, 1] (fun _ _ => ?_); (repeat' ((conv => whnf); first | apply And.intro | exact ⟨by kernel_rfl⟩ | apply DrawN.mk | apply CodeN.step hm rfl | exact trivial | exact rfl | (intro hh; try simp only [bs] at hh; try exact absurd hh (by decide)))); all_goals (conv => whnf); all_goals try exact ⟨by decide⟩)
       (refine RetN.q () [0, 1, 2] ?_ ?_ ?_ <;> (repeat' ((conv => whnf) <;> first | exact rfl | exact trivial | apply And.intro | exact Nat.zero_add _)); all_goals ((conv => whnf); try simp only []))
       all_goals first | (rw [wides1]; done) | exact bad1 (by omega) (.inr (.inr ⟨by assumption, by assumption, rfl⟩)) | skip
       done)
    | ((refine CallN.q (wideM (IntKind.u64.wrap (p1)) w (by omega)) [] (fun _ _ => ?_); (repeat' ((conv => whnf); first | apply And.intro | exact ⟨by kernel_rfl⟩ | apply DrawN.mk | apply CodeN.step hm rfl | exact trivial | exact rfl | (intro hh; try simp only [bs] at hh; try exact absurd hh (by decide)))); all_goals (conv => whnf); all_goals try exact ⟨by decide⟩)
       (refine CallN.q (writeN s (wide (IntKind.u64.wrap (p1)) w) true (by rw [wide_len]; omega)) [0, 1] (fun _ _ => ?_); (repeat' ((conv => whnf); first | apply And.intro | exact ⟨by kernel_rfl⟩ | apply DrawN.mk | apply CodeN.step hm rfl | exact trivial | exact rfl | (intro hh; try simp only [bs] at hh; try exact absurd hh (by decide)))); all_goals (conv => whnf); all_goals try exact ⟨by decide⟩)
       (refine RetN.q () [0, 1, 2] ?_ ?_ ?_ <;> (repeat' ((conv => whnf) <;> first | exact rfl | exact trivial | apply And.intro | exact Nat.zero_add _)); all_goals ((conv => whnf); try simp only []))
       all_goals first | (rw [wides1]; done) | exact bad1 (by omega) (.inl ⟨by assumption, rfl⟩) | exact bad1 (by omega) (.inr (.inl ⟨by assumption, rfl⟩)) | skip
       done)
    | skip
theorem nW5 (s : Bytes) (wrong : Bool) (l : List Ask) (k : Int) (al : Bool) (b p1 p2 p3 p4 ab : Int) (ak : Bytes) (m : Int) (w : Nat) (hw : w ≤ 4) (hs : s.length ≤ 900000) : Meets Try.prog 69 [.ptr 0 0, .ptr 2 5, .int .i64 fun _ => (w : Int)] (wN s wrong ++ ([cmdC (lstA l) (k) (al) (b) (p1) (p2) (p3) (p4) (ab) (ak) (m)])) (Y := Unit) (fun _ => True) (fun _ => .tup [])
    (fun _ => wN (s ++ wides [(p2, w)]) (wrong || bads [(p2, w)]) ++ ([cmdC (lstA l) (k) (al) (b) (p1) (p2) (p3) (p4) (ab) (ak) (m)])) := by
  have hx : (0 : Nat) = 0 := rfl
  refine Meets.intro hm (fn := Try.f69) Try.func69 rfl (by decide) (Nat.le_of_ble_eq_true rfl) (fun _ => rfl) ?_; intro S hok; (conv => whnf)
  (repeat' ((conv => whnf); first | apply And.intro | exact ⟨by kernel_rfl⟩ | apply DrawN.mk | apply CodeN.step hm rfl | exact trivial | exact rfl | (intro hh; try simp only [bs] at hh))); all_goals (conv => whnf)
  all_goals (try simp only [hx] at hh ⊢)
  all_goals first | (exact Ob.mk (by simp only [IntKind.wrap_i64]; omega)) | ((refine Ob.mk ?_; (try simp only [Ty.dflt, Nat.zero_add, Nat.add_zero, Int.toNat_natCast, Int.toNat_zero, Int.toNat_one, List.length_take, List.length_drop, List.length_append, List.length_replicate, List.length_cons, List.length_nil, List.length_set, List.length_map, true_and, and_true]); omega)) | skip
  all_goals first
    | ((refine CallN.q (wideM (IntKind.u64.wrap (p2)) w (by omega)) [] (fun _ _ => ?_); (repeat' ((conv => whnf); first | apply And.intro | exact ⟨by kernel_rfl⟩ | apply DrawN.mk | apply CodeN.step hm rfl | exact trivial | exact rfl | (intro hh; try simp only [bs] at hh; try exact absurd hh (by decide)))); all_goals (conv => whnf); all_goals try exact ⟨by decide⟩)
       (refine CallN.q (writeN s (wide (IntKind.u64.wrap (p2)) w) ((p2).fdiv (2 ^ (min (IntKind.i64.wrap (8 * (w : Int))).toNat IntKind.i64.bits)) != 0) (by rw [wide_len]; omega)) [0, 1] (fun _ _ => ?_); (repeat' ((conv => whnf); first | apply And.intro | exact ⟨by kernel_rfl⟩ | apply DrawN.mk | apply CodeN.step hm rfl | exact trivial | exact rfl | (intro hh; try simp only [bs] at hh; try exact absurd hh (by decide)))); all_goals (conv => whnf); all_goals try exact ⟨by decide⟩)
       (refine RetN.q () [0, 1, 2] ?_ ?_ ?_ <;> (repeat' ((conv => whnf) <;> first | exact rfl | exact trivial | apply And.intro | exact Nat.zero_add _)); all_goals ((conv => whnf); try simp only []))
       all_goals first | (rw [wides1]; done) | exact bad1 (by omega) (.inr (.inr ⟨by assumption, by assumption, rfl⟩)) | skip
       done)
    | ((refine CallN.q (wideM (IntKind.u64.wrap (p2)) w (by omega)) [] (fun _ _ => ?_); (repeat' ((conv => whnf); first | apply And.intro | exact ⟨by kernel_rfl⟩ | apply DrawN.mk | apply CodeN.step hm rfl | exact trivial | exact rfl | (intro hh; try simp only [bs] at hh; try exact absurd hh (by decide)))); all_goals (conv => whnf); all_goals try exact ⟨by decide⟩)
       (refine CallN.q (writeN s (wide (IntKind.u64.wrap (p2)) w) true (by rw [wide_len]; omega)) [0, 1] (fun _ _ => ?_); (repeat' ((conv => whnf); first | apply And.intro | exact ⟨by kernel_rfl⟩ | apply DrawN.mk | apply CodeN.step hm rfl | exact trivial | exact rfl | (intro hh; try simp only [bs] at hh; try exact absurd hh (by decide)))); all_goals (conv => whnf); all_goals try exact ⟨by decide⟩)
       (refine RetN.q () [0, 1, 2] ?_ ?_ ?_ <;> (repeat' ((conv => whnf) <;> first | exact rfl | exact trivial | apply And.intro | exact Nat.zero_add _)); all_goals ((conv => whnf); try simp only []))
       all_goals first | (rw [wides1]; done) | exact bad1 (by omega) (.inl ⟨by assumption, rfl⟩) | exact bad1 (by omega) (.inr (.inl ⟨by assumption, rfl⟩)) | skip
       done)
    | skip
theorem nW6 (s : Bytes) (wrong : Bool) (l : List Ask) (k : Int) (al : Bool) (b p1 p2 p3 p4 ab : Int) (ak : Bytes) (m : Int) (w : Nat) (hw : w ≤ 4) (hs : s.length ≤ 900000) : Meets Try.prog 69 [.ptr 0 0, .ptr 2 6, .int .i64 fun _ => (w : Int)] (wN s wrong ++ ([cmdC (lstA l) (k) (al) (b) (p1) (p2) (p3) (p4) (ab) (ak) (m)])) (Y := Unit) (fun _ => True) (fun _ => .tup [])
    (fun _ => wN (s ++ wides [(p3, w)]) (wrong || bads [(p3, w)]) ++ ([cmdC (lstA l) (k) (al) (b) (p1) (p2) (p3) (p4) (ab) (ak) (m)])) := by
  have hx : (0 : Nat) = 0 := rfl
  refine Meets.intro hm (fn := Try.f69) Try.func69 rfl (by decide) (Nat.le_of_ble_eq_true rfl) (fun _ => rfl) ?_; intro S hok; (conv => whnf)
  (repeat' ((conv => whnf); first | apply And.intro | exact ⟨by kernel_rfl⟩ | apply DrawN.mk | apply CodeN.step hm rfl | exact trivial | exact rfl | (intro hh; try simp only [bs] at hh))); all_goals (conv => whnf)
  all_goals (try simp only [hx] at hh ⊢)
  all_goals first | (exact Ob.mk (by simp only [IntKind.wrap_i64]; omega)) | ((refine Ob.mk ?_; (try simp only [Ty.dflt, Nat.zero_add, Nat.add_zero, Int.toNat_natCast, Int.toNat_zero, Int.toNat_one, List.length_take, List.length_drop, List.length_append, List.length_replicate, List.length_cons, List.length_nil, List.length_set, List.length_map, true_and, and_true]); omega)) | skip
  all_goals first
    | ((refine CallN.q (wideM (IntKind.u64.wrap (p3)) w (by omega)) [] (fun _ _ => ?_); (repeat' ((conv => whnf); first | apply And.intro | exact ⟨by kernel_rfl⟩ | apply DrawN.mk | apply CodeN.step hm rfl | exact trivial | exact rfl | (intro hh; try simp only [bs] at hh; try exact absurd hh (by decide)))); all_goals (conv => whnf); all_goals try exact ⟨by decide⟩)
       (refine CallN.q (writeN s (wide (IntKind.u64.wrap (p3)) w) ((p3).fdiv (2 ^ (min (IntKind.i64.wrap (8 * (w : Int))).toNat IntKind.i64.bits)) != 0) (by rw [wide_len]; omega)) [0, 1] (fun _ _ => ?_); (repeat' ((conv => whnf); first | apply And.intro | exact ⟨by kernel_rfl⟩ | apply DrawN.mk | apply CodeN.step hm rfl | exact trivial | exact rfl | (intro hh; try simp only [bs] at hh; try exact absurd hh (by decide)))); all_goals (conv => whnf); all_goals try exact ⟨by decide⟩)
       (refine RetN.q () [0, 1, 2] ?_ ?_ ?_ <;> (repeat' ((conv => whnf) <;> first | exact rfl | exact trivial | apply And.intro | exact Nat.zero_add _)); all_goals ((conv => whnf); try simp only []))
       all_goals first | (rw [wides1]; done) | exact bad1 (by omega) (.inr (.inr ⟨by assumption, by assumption, rfl⟩)) | skip
       done)
    | ((refine CallN.q (wideM (IntKind.u64.wrap (p3)) w (by omega)) [] (fun _ _ => ?_); (repeat' ((conv => whnf); first | apply And.intro | exact ⟨by kernel_rfl⟩ | apply DrawN.mk | apply CodeN.step hm rfl | exact trivial | exact rfl | (intro hh; try simp only [bs] at hh; try exact absurd hh (by decide)))); all_goals (conv => whnf); all_goals try exact ⟨by decide⟩)
       (refine CallN.q (writeN s (wide (IntKind.u64.wrap (p3)) w) true (by rw [wide_len]; omega)) [0, 1] (fun _ _ => ?_); (repeat' ((conv => whnf); first | apply And.intro | exact ⟨by kernel_rfl⟩ | apply DrawN.mk | apply CodeN.step hm rfl | exact trivial | exact rfl | (intro hh; try simp only [bs] at hh; try exact absurd hh (by decide)))); all_goals (conv => whnf); all_goals try exact ⟨by decide⟩)
       (refine RetN.q () [0, 1, 2] ?_ ?_ ?_ <;> (repeat' ((conv => whnf) <;> first | exact rfl | exact trivial | apply And.intro | exact Nat.zero_add _)); all_goals ((conv => whnf); try simp only []))
       all_goals first | (rw [wides1]; done) | exact bad1 (by omega) (.inl ⟨by assumption, rfl⟩) | exact bad1 (by omega) (.inr (.inl ⟨by assumption, rfl⟩)) | skip
       done)
    | skip
theorem nW7 (s : Bytes) (wrong : Bool) (l : List Ask) (k : Int) (al : Bool) (b p1 p2 p3 p4 ab : Int) (ak : Bytes) (m : Int) (w : Nat) (hw : w ≤ 4) (hs : s.length ≤ 900000) : Meets Try.prog 69 [.ptr 0 0, .ptr 2 7, .int .i64 fun _ => (w : Int)] (wN s wrong ++ ([cmdC (lstA l) (k) (al) (b) (p1) (p2) (p3) (p4) (ab) (ak) (m)])) (Y := Unit) (fun _ => True) (fun _ => .tup [])
    (fun _ => wN (s ++ wides [(p4, w)]) (wrong || bads [(p4, w)]) ++ ([cmdC (lstA l) (k) (al) (b) (p1) (p2) (p3) (p4) (ab) (ak) (m)])) := by
  have hx : (0 : Nat) = 0 := rfl
  refine Meets.intro hm (fn := Try.f69) Try.func69 rfl (by decide) (Nat.le_of_ble_eq_true rfl) (fun _ => rfl) ?_; intro S hok; (conv => whnf)
  (repeat' ((conv => whnf); first | apply And.intro | exact ⟨by kernel_rfl⟩ | apply DrawN.mk | apply CodeN.step hm rfl | exact trivial | exact rfl | (intro hh; try simp only [bs] at hh))); all_goals (conv => whnf)
  all_goals (try simp only [hx] at hh ⊢)
  all_goals first | (exact Ob.mk (by simp only [IntKind.wrap_i64]; omega)) | ((refine Ob.mk ?_; (try simp only [Ty.dflt, Nat.zero_add, Nat.add_zero, Int.toNat_natCast, Int.toNat_zero, Int.toNat_one, List.length_take, List.length_drop, List.length_append, List.length_replicate, List.length_cons, List.length_nil, List.length_set, List.length_map, true_and, and_true]); omega)) | skip
  all_goals first
    | ((refine CallN.q (wideM (IntKind.u64.wrap (p4)) w (by omega)) [] (fun _ _ => ?_); (repeat' ((conv => whnf); first | apply And.intro | exact ⟨by kernel_rfl⟩ | apply DrawN.mk | apply CodeN.step hm rfl | exact trivial | exact rfl | (intro hh; try simp only [bs] at hh; try exact absurd hh (by decide)))); all_goals (conv => whnf); all_goals try exact ⟨by decide⟩)
       (refine CallN.q (writeN s (wide (IntKind.u64.wrap (p4)) w) ((p4).fdiv (2 ^ (min (IntKind.i64.wrap (8 * (w : Int))).toNat IntKind.i64.bits)) != 0) (by rw [wide_len]; omega)) [0, 1] (fun _ _ => ?_); (repeat' ((conv => whnf); first | apply And.intro | exact ⟨by kernel_rfl⟩ | apply DrawN.mk | apply CodeN.step hm rfl | exact trivial | exact rfl | (intro hh; try simp only [bs] at hh; try exact absurd hh (by decide)))); all_goals (conv => whnf); all_goals try exact ⟨by decide⟩)
       (refine RetN.q () [0, 1, 2] ?_ ?_ ?_ <;> (repeat' ((conv => whnf) <;> first | exact rfl | exact trivial | apply And.intro | exact Nat.zero_add _)); all_goals ((conv => whnf); try simp only []))
       all_goals first | (rw [wides1]; done) | exact bad1 (by omega) (.inr (.inr ⟨by assumption, by assumption, rfl⟩)) | skip
       done)
    | ((refine CallN.q (wideM (IntKind.u64.wrap (p4)) w (by omega)) [] (fun _ _ => ?_); (repeat' ((conv => whnf); first | apply And.intro | exact ⟨by kernel_rfl⟩ | apply DrawN.mk | apply CodeN.step hm rfl | exact trivial | exact rfl | (intro hh; try simp only [bs] at hh; try exact absurd hh (by decide)))); all_goals (conv => whnf); all_goals try exact ⟨by decide⟩)
       (refine CallN.q (writeN s (wide (IntKind.u64.wrap (p4)) w) true (by rw [wide_len]; omega)) [0, 1] (fun _ _ => ?_); (repeat' ((conv => whnf); first | apply And.intro | exact ⟨by kernel_rfl⟩ | apply DrawN.mk | apply CodeN.step hm rfl | exact trivial | exact rfl | (intro hh; try simp only [bs] at hh; try exact absurd hh (by decide)))); all_goals (conv => whnf); all_goals try exact ⟨by decide⟩)
       (refine RetN.q () [0, 1, 2] ?_ ?_ ?_ <;> (repeat' ((conv => whnf) <;> first | exact rfl | exact trivial | apply And.intro | exact Nat.zero_add _)); all_goals ((conv => whnf); try simp only []))
       all_goals first | (rw [wides1]; done) | exact bad1 (by omega) (.inl ⟨by assumption, rfl⟩) | exact bad1 (by omega) (.inr (.inl ⟨by assumption, rfl⟩)) | skip
       done)
    | skip
theorem nW8 (s : Bytes) (wrong : Bool) (l : List Ask) (k : Int) (al : Bool) (b p1 p2 p3 p4 ab : Int) (ak : Bytes) (m : Int) (w : Nat) (hw : w ≤ 4) (hs : s.length ≤ 900000) : Meets Try.prog 69 [.ptr 0 0, .ptr 2 8, .int .i64 fun _ => (w : Int)] (wN s wrong ++ ([cmdC (lstA l) (k) (al) (b) (p1) (p2) (p3) (p4) (ab) (ak) (m)])) (Y := Unit) (fun _ => True) (fun _ => .tup [])
    (fun _ => wN (s ++ wides [(ab, w)]) (wrong || bads [(ab, w)]) ++ ([cmdC (lstA l) (k) (al) (b) (p1) (p2) (p3) (p4) (ab) (ak) (m)])) := by
  have hx : (0 : Nat) = 0 := rfl
  refine Meets.intro hm (fn := Try.f69) Try.func69 rfl (by decide) (Nat.le_of_ble_eq_true rfl) (fun _ => rfl) ?_; intro S hok; (conv => whnf)
  (repeat' ((conv => whnf); first | apply And.intro | exact ⟨by kernel_rfl⟩ | apply DrawN.mk | apply CodeN.step hm rfl | exact trivial | exact rfl | (intro hh; try simp only [bs] at hh))); all_goals (conv => whnf)
  all_goals (try simp only [hx] at hh ⊢)
  all_goals first | (exact Ob.mk (by simp only [IntKind.wrap_i64]; omega)) | ((refine Ob.mk ?_; (try simp only [Ty.dflt, Nat.zero_add, Nat.add_zero, Int.toNat_natCast, Int.toNat_zero, Int.toNat_one, List.length_take, List.length_drop, List.length_append, List.length_replicate, List.length_cons, List.length_nil, List.length_set, List.length_map, true_and, and_true]); omega)) | skip
  all_goals first
    | ((refine CallN.q (wideM (IntKind.u64.wrap (ab)) w (by omega)) [] (fun _ _ => ?_); (repeat' ((conv => whnf); first | apply And.intro | exact ⟨by kernel_rfl⟩ | apply DrawN.mk | apply CodeN.step hm rfl | exact trivial | exact rfl | (intro hh; try simp only [bs] at hh; try exact absurd hh (by decide)))); all_goals (conv => whnf); all_goals try exact ⟨by decide⟩)
       (refine CallN.q (writeN s (wide (IntKind.u64.wrap (ab)) w) ((ab).fdiv (2 ^ (min (IntKind.i64.wrap (8 * (w : Int))).toNat IntKind.i64.bits)) != 0) (by rw [wide_len]; omega)) [0, 1] (fun _ _ => ?_); (repeat' ((conv => whnf); first | apply And.intro | exact ⟨by kernel_rfl⟩ | apply DrawN.mk | apply CodeN.step hm rfl | exact trivial | exact rfl | (intro hh; try simp only [bs] at hh; try exact absurd hh (by decide)))); all_goals (conv => whnf); all_goals try exact ⟨by decide⟩)
       (refine RetN.q () [0, 1, 2] ?_ ?_ ?_ <;> (repeat' ((conv => whnf) <;> first | exact rfl | exact trivial | apply And.intro | exact Nat.zero_add _)); all_goals ((conv => whnf); try simp only []))
       all_goals first | (rw [wides1]; done) | exact bad1 (by omega) (.inr (.inr ⟨by assumption, by assumption, rfl⟩)) | skip
       done)
    | ((refine CallN.q (wideM (IntKind.u64.wrap (ab)) w (by omega)) [] (fun _ _ => ?_); (repeat' ((conv => whnf); first | apply And.intro | exact ⟨by kernel_rfl⟩ | apply DrawN.mk | apply CodeN.step hm rfl | exact trivial | exact rfl | (intro hh; try simp only [bs] at hh; try exact absurd hh (by decide)))); all_goals (conv => whnf); all_goals try exact ⟨by decide⟩)
       (refine CallN.q (writeN s (wide (IntKind.u64.wrap (ab)) w) true (by rw [wide_len]; omega)) [0, 1] (fun _ _ => ?_); (repeat' ((conv => whnf); first | apply And.intro | exact ⟨by kernel_rfl⟩ | apply DrawN.mk | apply CodeN.step hm rfl | exact trivial | exact rfl | (intro hh; try simp only [bs] at hh; try exact absurd hh (by decide)))); all_goals (conv => whnf); all_goals try exact ⟨by decide⟩)
       (refine RetN.q () [0, 1, 2] ?_ ?_ ?_ <;> (repeat' ((conv => whnf) <;> first | exact rfl | exact trivial | apply And.intro | exact Nat.zero_add _)); all_goals ((conv => whnf); try simp only []))
       all_goals first | (rw [wides1]; done) | exact bad1 (by omega) (.inl ⟨by assumption, rfl⟩) | exact bad1 (by omega) (.inr (.inl ⟨by assumption, rfl⟩)) | skip
       done)
    | skip
theorem nW10 (s : Bytes) (wrong : Bool) (l : List Ask) (k : Int) (al : Bool) (b p1 p2 p3 p4 ab : Int) (ak : Bytes) (m : Int) (w : Nat) (hw : w ≤ 4) (hs : s.length ≤ 900000) : Meets Try.prog 69 [.ptr 0 0, .ptr 2 10, .int .i64 fun _ => (w : Int)] (wN s wrong ++ ([cmdC (lstA l) (k) (al) (b) (p1) (p2) (p3) (p4) (ab) (ak) (m)])) (Y := Unit) (fun _ => True) (fun _ => .tup [])
    (fun _ => wN (s ++ wides [(m, w)]) (wrong || bads [(m, w)]) ++ ([cmdC (lstA l) (k) (al) (b) (p1) (p2) (p3) (p4) (ab) (ak) (m)])) := by
  have hx : (0 : Nat) = 0 := rfl
  refine Meets.intro hm (fn := Try.f69) Try.func69 rfl (by decide) (Nat.le_of_ble_eq_true rfl) (fun _ => rfl) ?_; intro S hok; (conv => whnf)
  (repeat' ((conv => whnf); first | apply And.intro | exact ⟨by kernel_rfl⟩ | apply DrawN.mk | apply CodeN.step hm rfl | exact trivial | exact rfl | (intro hh; try simp only [bs] at hh))); all_goals (conv => whnf)
  all_goals (try simp only [hx] at hh ⊢)
  all_goals first | (exact Ob.mk (by simp only [IntKind.wrap_i64]; omega)) | ((refine Ob.mk ?_; (try simp only [Ty.dflt, Nat.zero_add, Nat.add_zero, Int.toNat_natCast, Int.toNat_zero, Int.toNat_one, List.length_take, List.length_drop, List.length_append, List.length_replicate, List.length_cons, List.length_nil, List.length_set, List.length_map, true_and, and_true]); omega)) | skip
  all_goals first
    | ((refine CallN.q (wideM (IntKind.u64.wrap (m)) w (by omega)) [] (fun _ _ => ?_); (repeat' ((conv => whnf); first | apply And.intro | exact ⟨by kernel_rfl⟩ | apply DrawN.mk | apply CodeN.step hm rfl | exact trivial | exact rfl | (intro hh; try simp only [bs] at hh; try exact absurd hh (by decide)))); all_goals (conv => whnf); all_goals try exact ⟨by decide⟩)
       (refine CallN.q (writeN s (wide (IntKind.u64.wrap (m)) w) ((m).fdiv (2 ^ (min (IntKind.i64.wrap (8 * (w : Int))).toNat IntKind.i64.bits)) != 0) (by rw [wide_len]; omega)) [0, 1] (fun _ _ => ?_); (repeat' ((conv => whnf); first | apply And.intro | exact ⟨by kernel_rfl⟩ | apply DrawN.mk | apply CodeN.step hm rfl | exact trivial | exact rfl | (intro hh; try simp only [bs] at hh; try exact absurd hh (by decide)))); all_goals (conv => whnf); all_goals try exact ⟨by decide⟩)
       (refine RetN.q () [0, 1, 2] ?_ ?_ ?_ <;> (repeat' ((conv => whnf) <;> first | exact rfl | exact trivial | apply And.intro | exact Nat.zero_add _)); all_goals ((conv => whnf); try simp only []))
       all_goals first | (rw [wides1]; done) | exact bad1 (by omega) (.inr (.inr ⟨by assumption, by assumption, rfl⟩)) | skip
       done)
    | ((refine CallN.q (wideM (IntKind.u64.wrap (m)) w (by omega)) [] (fun _ _ => ?_); (repeat' ((conv => whnf); first | apply And.intro | exact ⟨by kernel_rfl⟩ | apply DrawN.mk | apply CodeN.step hm rfl | exact trivial | exact rfl | (intro hh; try simp only [bs] at hh; try exact absurd hh (by decide)))); all_goals (conv => whnf); all_goals try exact ⟨by decide⟩)
       (refine CallN.q (writeN s (wide (IntKind.u64.wrap (m)) w) true (by rw [wide_len]; omega)) [0, 1] (fun _ _ => ?_); (repeat' ((conv => whnf); first | apply And.intro | exact ⟨by kernel_rfl⟩ | apply DrawN.mk | apply CodeN.step hm rfl | exact trivial | exact rfl | (intro hh; try simp only [bs] at hh; try exact absurd hh (by decide)))); all_goals (conv => whnf); all_goals try exact ⟨by decide⟩)
       (refine RetN.q () [0, 1, 2] ?_ ?_ ?_ <;> (repeat' ((conv => whnf) <;> first | exact rfl | exact trivial | apply And.intro | exact Nat.zero_add _)); all_goals ((conv => whnf); try simp only []))
       all_goals first | (rw [wides1]; done) | exact bad1 (by omega) (.inl ⟨by assumption, rfl⟩) | exact bad1 (by omega) (.inr (.inl ⟨by assumption, rfl⟩)) | skip
       done)
    | skip
theorem nWel0 (s : Bytes) (wrong : Bool) (x : Ask) (w : Nat) (hw : w ≤ 4) (hs : s.length ≤ 900000) : Meets Try.prog 69 [.ptr 0 0, .iptr AskT (fun _ => x) 0, .int .i64 fun _ => (w : Int)] (wN s wrong ++ ([])) (Y := Unit) (fun _ => True) (fun _ => .tup [])
    (fun _ => wN (s ++ wides [(x.1, w)]) (wrong || bads [(x.1, w)]) ++ ([])) := by
  have hx : (0 : Nat) = 0 := rfl
  refine Meets.intro hm (fn := Try.f69) Try.func69 rfl (by decide) (Nat.le_of_ble_eq_true rfl) (fun _ => rfl) ?_; intro S hok; (conv => whnf)
  (repeat' ((conv => whnf); first | apply And.intro | exact ⟨by kernel_rfl⟩ | apply DrawN.mk | apply CodeN.step hm rfl | exact trivial | exact rfl | (intro hh; try simp only [bs] at hh))); all_goals (conv => whnf)
  all_goals (try simp only [hx] at hh ⊢)
  all_goals first | (exact Ob.mk (by simp only [IntKind.wrap_i64]; omega)) | ((refine Ob.mk ?_; (try simp only [Ty.dflt, Nat.zero_add, Nat.add_zero, Int.toNat_natCast, Int.toNat_zero, Int.toNat_one, List.length_take, List.length_drop, List.length_append, List.length_replicate, List.length_cons, List.length_nil, List.length_set, List.length_map, true_and, and_true]); omega)) | skip
  all_goals first
    | ((refine CallN.q (wideM (IntKind.u64.wrap (x.1)) w (by omega)) [] (fun _ _ => ?_); (repeat' ((conv => whnf); first | apply And.intro | exact ⟨by kernel_rfl⟩ | apply DrawN.mk | apply CodeN.step hm rfl | exact trivial | exact rfl | (intro hh; try simp only [bs] at hh; try exact absurd hh (by decide)))); all_goals (conv => whnf); all_goals try exact ⟨by decide⟩)
       (refine CallN.q (writeN s (wide (IntKind.u64.wrap (x.1)) w) ((x.1).fdiv (2 ^ (min (IntKind.i64.wrap (8 * (w : Int))).toNat IntKind.i64.bits)) != 0) (by rw [wide_len]; omega)) [0, 1] (fun _ _ => ?_); (repeat' ((conv => whnf); first | apply And.intro | exact ⟨by kernel_rfl⟩ | apply DrawN.mk | apply CodeN.step hm rfl | exact trivial | exact rfl | (intro hh; try simp only [bs] at hh; try exact absurd hh (by decide)))); all_goals (conv => whnf); all_goals try exact ⟨by decide⟩)
       (refine RetN.q () [0, 1] ?_ ?_ ?_ <;> (repeat' ((conv => whnf) <;> first | exact rfl | exact trivial | apply And.intro | exact Nat.zero_add _)); all_goals ((conv => whnf); try simp only []))
       all_goals first | (rw [wides1]; done) | exact bad1 (by omega) (.inr (.inr ⟨by assumption, by assumption, rfl⟩)) | skip
       done)
    | ((refine CallN.q (wideM (IntKind.u64.wrap (x.1)) w (by omega)) [] (fun _ _ => ?_); (repeat' ((conv => whnf); first | apply And.intro | exact ⟨by kernel_rfl⟩ | apply DrawN.mk | apply CodeN.step hm rfl | exact trivial | exact rfl | (intro hh; try simp only [bs] at hh; try exact absurd hh (by decide)))); all_goals (conv => whnf); all_goals try exact ⟨by decide⟩)
       (refine CallN.q (writeN s (wide (IntKind.u64.wrap (x.1)) w) true (by rw [wide_len]; omega)) [0, 1] (fun _ _ => ?_); (repeat' ((conv => whnf); first | apply And.intro | exact ⟨by kernel_rfl⟩ | apply DrawN.mk | apply CodeN.step hm rfl | exact trivial | exact rfl | (intro hh; try simp only [bs] at hh; try exact absurd hh (by decide)))); all_goals (conv => whnf); all_goals try exact ⟨by decide⟩)
       (refine RetN.q () [0, 1] ?_ ?_ ?_ <;> (repeat' ((conv => whnf) <;> first | exact rfl | exact trivial | apply And.intro | exact Nat.zero_add _)); all_goals ((conv => whnf); try simp only []))
       all_goals first | (rw [wides1]; done) | exact bad1 (by omega) (.inl ⟨by assumption, rfl⟩) | exact bad1 (by omega) (.inr (.inl ⟨by assumption, rfl⟩)) | skip
       done)
    | skip
theorem nWel2 (s : Bytes) (wrong : Bool) (x : Ask) (w : Nat) (hw : w ≤ 4) (hs : s.length ≤ 900000) : Meets Try.prog 69 [.ptr 0 0, .iptr AskT (fun _ => x) 2, .int .i64 fun _ => (w : Int)] (wN s wrong ++ ([])) (Y := Unit) (fun _ => True) (fun _ => .tup [])
    (fun _ => wN (s ++ wides [(x.2.2, w)]) (wrong || bads [(x.2.2, w)]) ++ ([])) := by
  have hx : (0 : Nat) = 0 := rfl
  refine Meets.intro hm (fn := Try.f69) Try.func69 rfl (by decide) (Nat.le_of_ble_eq_true rfl) (fun _ => rfl) ?_; intro S hok; (conv => whnf)
  (repeat' ((conv => whnf); first | apply And.intro | exact ⟨by kernel_rfl⟩ | apply DrawN.mk | apply CodeN.step hm rfl | exact trivial | exact rfl | (intro hh; try simp only [bs] at hh))); all_goals (conv => whnf)
  all_goals (try simp only [hx] at hh ⊢)
  all_goals first | (exact Ob.mk (by simp only [IntKind.wrap_i64]; omega)) | ((refine Ob.mk ?_; (try simp only [Ty.dflt, Nat.zero_add, Nat.add_zero, Int.toNat_natCast, Int.toNat_zero, Int.toNat_one, List.length_take, List.length_drop, List.length_append, List.length_replicate, List.length_cons, List.length_nil, List.length_set, List.length_map, true_and, and_true]); omega)) | skip
  all_goals first
    | ((refine CallN.q (wideM (IntKind.u64.wrap (x.2.2)) w (by omega)) [] (fun _ _ => ?_); (repeat' ((conv => whnf); first | apply And.intro | exact ⟨by kernel_rfl⟩ | apply DrawN.mk | apply CodeN.step hm rfl | exact trivial | exact rfl | (intro hh; try simp only [bs] at hh; try exact absurd hh (by decide)))); all_goals (conv => whnf); all_goals try exact ⟨by decide⟩)
       (refine CallN.q (writeN s (wide (IntKind.u64.wrap (x.2.2)) w) ((x.2.2).fdiv (2 ^ (min (IntKind.i64.wrap (8 * (w : Int))).toNat IntKind.i64.bits)) != 0) (by rw [wide_len]; omega)) [0, 1] (fun _ _ => ?_); (repeat' ((conv => whnf); first | apply And.intro | exact ⟨by kernel_rfl⟩ | apply DrawN.mk | apply CodeN.step hm rfl | exact trivial | exact rfl | (intro hh; try simp only [bs] at hh; try exact absurd hh (by decide)))); all_goals (conv => whnf); all_goals try exact ⟨by decide⟩)
       (refine RetN.q () [0, 1] ?_ ?_ ?_ <;> (repeat' ((conv => whnf) <;> first | exact rfl | exact trivial | apply And.intro | exact Nat.zero_add _)); all_goals ((conv => whnf); try simp only []))
       all_goals first | (rw [wides1]; done) | exact bad1 (by omega) (.inr (.inr ⟨by assumption, by assumption, rfl⟩)) | skip
       done)
    | ((refine CallN.q (wideM (IntKind.u64.wrap (x.2.2)) w (by omega)) [] (fun _ _ => ?_); (repeat' ((conv => whnf); first | apply And.intro | exact ⟨by kernel_rfl⟩ | apply DrawN.mk | apply CodeN.step hm rfl | exact trivial | exact rfl | (intro hh; try simp only [bs] at hh; try exact absurd hh (by decide)))); all_goals (conv => whnf); all_goals try exact ⟨by decide⟩)
       (refine CallN.q (writeN s (wide (IntKind.u64.wrap (x.2.2)) w) true (by rw [wide_len]; omega)) [0, 1] (fun _ _ => ?_); (repeat' ((conv => whnf); first | apply And.intro | exact ⟨by kernel_rfl⟩ | apply DrawN.mk | apply CodeN.step hm rfl | exact trivial | exact rfl | (intro hh; try simp only [bs] at hh; try exact absurd hh (by decide)))); all_goals (conv => whnf); all_goals try exact ⟨by decide⟩)
       (refine RetN.q () [0, 1] ?_ ?_ ?_ <;> (repeat' ((conv => whnf) <;> first | exact rfl | exact trivial | apply And.intro | exact Nat.zero_add _)); all_goals ((conv => whnf); try simp only []))
       all_goals first | (rw [wides1]; done) | exact bad1 (by omega) (.inl ⟨by assumption, rfl⟩) | exact bad1 (by omega) (.inr (.inl ⟨by assumption, rfl⟩)) | skip
       done)
    | skip
end Go.Proofs.Ytoipgandilhdeaa.Wi
