/- The law AnswerReads holds at every input that its statement lets in; part 3 of its proof. -/
import Derived.Test.YtoipgandilhdeaaMAnswerReads1
import Derived.Test.YtoipgandilhdeaaProg
set_option linter.unusedVariables false
set_option linter.unusedSimpArgs false
namespace Go.Proofs.Ytoipgandilhdeaa.Nu
open Go Go.RowKit Fw
theorem hm : Try.prog.follows .mixedOrders = true := by kernel_rfl
theorem wr2 {n : Nat} (i : Nat) (h : i < n) (hn : n ≤ 1000000000) : IntKind.i64.wrap ((i : Int) + 1) = ((i + 1 : Nat) : Int) := by rw [wr (by omega)]; omega
/-- The first i of w bytes. -/
def wideTo (n : Int) (w i : Nat) : List Int := (List.range w).map fun j => if j < i then byteAt n w j else 0
theorem wideTo_set (n : Int) (w i : Nat) (h : i < w) : (wideTo n w i).set i (byteAt n w i) = wideTo n w (i + 1) := by
  apply List.ext_getElem
  · simp [wideTo]
  · intro j h1 h2
    rw [List.getElem_set]
    simp only [wideTo, List.getElem_map, List.getElem_range]
    by_cases e : i = j
    · subst e; simp
    · rw [if_neg e]
      by_cases hj : j < i
      · rw [if_pos hj, if_pos (by omega)]
      · rw [if_neg hj, if_neg (by omega)]
theorem wideTo_all (n : Int) (w : Nat) : (wideTo n w w).map (fun z => UInt8.ofNat z.toNat) = wide n w := by
  simp only [wideTo, wide, List.map_map]
  apply List.map_congr_left
  intro j hj
  have : j < w := by simpa using hj
  simp [this]
theorem wideTo_zero (n : Int) (w : Nat) : wideTo n w 0 = List.replicate w 0 := by
  apply List.ext_getElem <;> simp [wideTo]
/-- The last k of w bytes. -/
def wideFrom (n : Int) (w k : Nat) : List Int := (List.range w).map fun j => if w - k ≤ j then byteAt n w j else 0
theorem wideFrom_zero (n : Int) (w : Nat) : wideFrom n w 0 = List.replicate w 0 := by
  apply List.ext_getElem
  · simp [wideFrom]
  · intro j h1 h2
    have : j < w := by simpa [wideFrom] using h1
    simp only [wideFrom, List.getElem_map, List.getElem_range, List.getElem_replicate]
    rw [if_neg (by omega)]
theorem wideFrom_set (n : Int) (w k : Nat) (h : k < w) : (wideFrom n w k).set (w - 1 - k) (n / (256 : Int) ^ k % 256) = wideFrom n w (k + 1) := by
  apply List.ext_getElem
  · simp [wideFrom]
  · intro j h1 h2
    have hjw : j < w := by simpa [wideFrom] using h2
    rw [List.getElem_set]
    simp only [wideFrom, List.getElem_map, List.getElem_range]
    by_cases e : w - 1 - k = j
    · subst e
      rw [if_pos rfl, if_pos (by omega), byteAt, show w - 1 - (w - 1 - k) = k by omega]
    · rw [if_neg e]
      by_cases hj : w - k ≤ j
      · rw [if_pos hj, if_pos (by omega)]
      · rw [if_neg hj, if_neg (by omega)]
theorem wideFrom_all (n : Int) (w : Nat) : wideFrom n w w = wideTo n w w := by
  simp only [wideFrom, wideTo]
  apply List.map_congr_left
  intro j hj
  have : j < w := by simpa using hj
  rw [if_pos (by omega), if_pos this]
theorem wideM (n : Int) (w : Nat) (hw : w ≤ 8) : Meets Try.prog 78 [.int .u64 fun _ => n, .int .i64 fun _ => (w : Int)] [] (Y := Unit) (fun _ => True) (fun _ => .str fun _ => wide n w) (fun _ => []) := by
  refine Meets.intro hm (fn := Try.f78) Try.func78 rfl (by decide) (Nat.le_of_ble_eq_true rfl) (fun _ => rfl) ?_; intro S hok; (conv => whnf)
  (repeat' ((conv => whnf); first | refine And.intro ?_ ?_ | exact Cl.mk (by kernel_rfl) | exact Ck.mk (by kernel_rfl) | refine DrawN.mk ?_ | refine CodeN.step hm rfl ?_ | exact trivial | exact rfl | (intro hh; try simp only [decide_eq_true_eq, decide_eq_false_iff_not, beq_iff_eq, beq_eq_false_iff_ne, bne_iff_ne, bne_eq_false_iff_eq, Bool.not_eq_true', Bool.not_eq_false', Bool.not_true, Bool.not_false] at hh))); all_goals (conv => whnf)
  · exfalso; omega
  · refine Ob.mk ?_
    have e : ((Try.t5.bytes : Nat) : Int) = 1 := rfl
    simp only [e]; omega
  · refine LoopN.intro hm (X := Nat) (fun i => i ≤ w) (fun i => w - i)
      (fun i => [(17, .int .i64 fun _ => (i : Int)), (16, .int .i64 fun _ => (w : Int)), (5, .vec 0 1 (fun _ => 0) fun _ => w), (0, .int .u64 fun _ => n), (1, .int .i64 fun _ => (w : Int))])
      (fun i => [.vect 5 (.int .u8) fun _ => wideTo n w i]) 0 [0] ⟨rfl, rfl, ?_, ?_⟩ (Nat.zero_le _) (fun i hi => ?_)
    · (repeat' (first | exact rfl | exact trivial | refine And.intro ?_ ?_ | ((conv => whnf); first | exact rfl | exact trivial | refine And.intro ?_ ?_)))
      all_goals ((conv => whnf); first | exact (wideTo_zero n w).symm | skip)
    · (repeat' (first | exact rfl | exact trivial | refine And.intro ?_ ?_ | ((conv => whnf); first | exact rfl | exact trivial | refine And.intro ?_ ?_)))
    · (repeat' ((conv => whnf); first | refine And.intro ?_ ?_ | exact Cl.mk (by kernel_rfl) | exact Ck.mk (by kernel_rfl) | refine DrawN.mk ?_ | refine CodeN.step hm rfl ?_ | exact trivial | exact rfl | (intro hh; try simp only [decide_eq_true_eq, decide_eq_false_iff_not, beq_iff_eq, beq_eq_false_iff_ne, bne_iff_ne, bne_eq_false_iff_eq, Bool.not_eq_true', Bool.not_eq_false', Bool.not_true, Bool.not_false] at hh))); all_goals (conv => whnf)
      · refine Ob.mk ?_
        have e1 : IntKind.i64.wrap ((w : Int) - 1) = (w : Int) - 1 := wr (by omega)
        have e2 : IntKind.i64.wrap ((w : Int) - 1 - i) = (w : Int) - 1 - i := wr (by omega)
        have e3 : IntKind.i64.wrap (8 * ((w : Int) - 1 - i)) = 8 * ((w : Int) - 1 - i) := wr (by omega)
        simp only [e1, e2, e3]; omega
      · (refine Ob.mk ?_; (try simp only [Ty.dflt, Nat.zero_add, Nat.add_zero, Int.toNat_natCast, Int.toNat_zero, Int.toNat_one, List.length_take, List.length_drop, List.length_append, List.length_replicate, List.length_cons, List.length_nil, List.length_set, List.length_map, true_and, and_true]); omega)
      · have hi1 : i < w := by omega
        have e1 : IntKind.i64.wrap ((w : Int) - 1) = (w : Int) - 1 := wr (by omega)
        have e2 : IntKind.i64.wrap ((w : Int) - 1 - i) = (w : Int) - 1 - i := wr (by omega)
        have e3 : IntKind.i64.wrap (8 * ((w : Int) - 1 - i)) = ((8 * (w - 1 - i) : Nat) : Int) := by rw [wr (by omega)]; omega
        have hb : IntKind.u8.wrap (n.fdiv (2 ^ (min (IntKind.i64.wrap (8 * (IntKind.i64.wrap (IntKind.i64.wrap ((w : Int) - 1) - i)))).toNat IntKind.u64.bits))) = byteAt n w i := by
          rw [e1, e2, e3, wru8]
          exact congrArg (· % 256) (shr_byte n (w - 1 - i) (by omega))
        have hset : (wideTo n w i).set (0 + (i : Int).toNat) (byteAt n w i) = wideTo n w (i + 1) := by
          rw [Nat.zero_add]; exact wideTo_set n w i hi1
        rw [← hb] at hset
        refine ⟨i + 1, [0], ⟨rfl, rfl, ?_, ?_⟩, hi1, by omega⟩
        · (repeat' (first | exact rfl | exact trivial | refine And.intro ?_ ?_ | ((conv => whnf); first | exact rfl | exact trivial | refine And.intro ?_ ?_)))
          all_goals ((conv => whnf); first | exact hset | skip)
        · (repeat' (first | exact rfl | exact trivial | refine And.intro ?_ ?_ | ((conv => whnf); first | exact rfl | exact trivial | refine And.intro ?_ ?_))); all_goals (conv => whnf); all_goals (try simp only [])
          exact wr2 i hi1 (by omega)
      · have e : i = w := by omega
        subst e
        (refine RetN.intro () [] rfl rfl ?_ ?_ ?_; ((repeat' (first | exact rfl | exact trivial | refine And.intro ?_ ?_ | ((conv => whnf); first | exact rfl | exact trivial | refine And.intro ?_ ?_)))); ((repeat' (first | exact rfl | exact trivial | refine And.intro ?_ ?_ | ((conv => whnf); first | exact rfl | exact trivial | refine And.intro ?_ ?_))); all_goals (conv => whnf); all_goals (try simp only [])))
        rw [List.drop_zero, List.take_of_length_le (by simp [wideTo])]
        exact wideTo_all n i
  · exfalso; omega
theorem rwideM (n : Int) (w : Nat) (hw : w ≤ 8) (hn : 0 ≤ n ∧ n < 18446744073709551616) : Meets Try.prog 63 [.int .u64 fun _ => n, .int .i64 fun _ => (w : Int)] [] (Y := Unit) (fun _ => True) (fun _ => .str fun _ => wide n w) (fun _ => []) := by
  refine Meets.intro hm (fn := Try.f63) Try.func63 rfl (by decide) (Nat.le_of_ble_eq_true rfl) (fun _ => rfl) ?_; intro S hok; (conv => whnf)
  (repeat' ((conv => whnf); first | refine And.intro ?_ ?_ | exact Cl.mk (by kernel_rfl) | exact Ck.mk (by kernel_rfl) | refine DrawN.mk ?_ | refine CodeN.step hm rfl ?_ | exact trivial | exact rfl | (intro hh; try simp only [decide_eq_true_eq, decide_eq_false_iff_not, beq_iff_eq, beq_eq_false_iff_ne, bne_iff_ne, bne_eq_false_iff_eq, Bool.not_eq_true', Bool.not_eq_false', Bool.not_true, Bool.not_false] at hh))); all_goals (conv => whnf)
  · exfalso; omega
  · refine Ob.mk ?_
    have e : ((Try.t5.bytes : Nat) : Int) = 1 := rfl
    simp only [e]; omega
  · refine LoopN.intro hm (X := Nat) (fun k => k ≤ w) (fun k => w - k)
      (fun k => [(6, .int .i64 fun _ => (w : Int) - 1 - k), (5, .vec 0 1 (fun _ => 0) fun _ => w), (0, .int .u64 fun _ => n / (256 : Int) ^ k)])
      (fun k => [.vect 5 (.int .u8) fun _ => wideFrom n w k]) 0 [0] ⟨rfl, rfl, ?_, ?_⟩ (Nat.zero_le _) (fun k hk => ?_)
    · (repeat' (first | exact rfl | exact trivial | refine And.intro ?_ ?_ | ((conv => whnf); first | exact rfl | exact trivial | refine And.intro ?_ ?_)))
      all_goals ((conv => whnf); first | exact (wideFrom_zero n w).symm | skip)
    · (repeat' (first | exact rfl | exact trivial | refine And.intro ?_ ?_ | ((conv => whnf); first | exact rfl | exact trivial | refine And.intro ?_ ?_))); all_goals (conv => whnf); all_goals (try simp only [])
      all_goals first | (rw [wr (by omega)]; simp; done) | (simp; done) | skip
    · have hp : (0 : Int) < (256 : Int) ^ k := Int.pow_pos (by decide)
      have hq0 : 0 ≤ n / (256 : Int) ^ k := Int.ediv_nonneg hn.1 (Int.le_of_lt hp)
      have hq1 : n / (256 : Int) ^ k ≤ n := Int.ediv_le_self _ hn.1
      (repeat' ((conv => whnf); first | refine And.intro ?_ ?_ | exact Cl.mk (by kernel_rfl) | exact Ck.mk (by kernel_rfl) | refine DrawN.mk ?_ | refine CodeN.step hm rfl ?_ | exact trivial | exact rfl | (intro hh; try simp only [decide_eq_true_eq, decide_eq_false_iff_not, beq_iff_eq, beq_eq_false_iff_ne, bne_iff_ne, bne_eq_false_iff_eq, Bool.not_eq_true', Bool.not_eq_false', Bool.not_true, Bool.not_false] at hh))); all_goals (conv => whnf)
      · exact Ob.mk (by decide)
      · (refine Ob.mk ?_; (try simp only [Ty.dflt, Nat.zero_add, Nat.add_zero, Int.toNat_natCast, Int.toNat_zero, Int.toNat_one, List.length_take, List.length_drop, List.length_append, List.length_replicate, List.length_cons, List.length_nil, List.length_set, List.length_map, true_and, and_true]); omega)
      · exact Ob.mk (by decide)
      · have hk1 : k < w := by omega
        have e1 : IntKind.u8.wrap ((n / (256 : Int) ^ k).tmod 256) = n / (256 : Int) ^ k % 256 := by
          rw [wru8, Int.tmod_eq_emod_of_nonneg hq0]; omega
        have e2 : IntKind.u64.wrap ((n / (256 : Int) ^ k).tdiv 256) = n / (256 : Int) ^ (k + 1) := by
          rw [Int.tdiv_eq_ediv_of_nonneg hq0, wru64 (by omega), Int.pow_succ, Int.ediv_ediv, if_neg (fun h => by have := h.1; omega), Int.sub_zero]
        have hset : (wideFrom n w k).set (0 + ((w : Int) - 1 - k).toNat) (n / (256 : Int) ^ k % 256) = wideFrom n w (k + 1) := by
          rw [Nat.zero_add, show ((w : Int) - 1 - k).toNat = w - 1 - k by omega]; exact wideFrom_set n w k hk1
        rw [← e1] at hset
        refine ⟨k + 1, [0], ⟨rfl, rfl, ?_, ?_⟩, hk1, by omega⟩
        · (repeat' (first | exact rfl | exact trivial | refine And.intro ?_ ?_ | ((conv => whnf); first | exact rfl | exact trivial | refine And.intro ?_ ?_)))
          all_goals ((conv => whnf); first | exact hset | skip)
        · (repeat' (first | exact rfl | exact trivial | refine And.intro ?_ ?_ | ((conv => whnf); first | exact rfl | exact trivial | refine And.intro ?_ ?_))); all_goals (conv => whnf); all_goals (try simp only [])
          · rw [wr (by omega)]; omega
          · exact e2
      · have e : k = w := by omega
        subst e
        (refine RetN.intro () [] rfl rfl ?_ ?_ ?_; ((repeat' (first | exact rfl | exact trivial | refine And.intro ?_ ?_ | ((conv => whnf); first | exact rfl | exact trivial | refine And.intro ?_ ?_)))); ((repeat' (first | exact rfl | exact trivial | refine And.intro ?_ ?_ | ((conv => whnf); first | exact rfl | exact trivial | refine And.intro ?_ ?_))); all_goals (conv => whnf); all_goals (try simp only [])))
        rw [List.drop_zero, List.take_of_length_le (by simp [wideFrom]), wideFrom_all]
        exact wideTo_all n k
  · exfalso; omega
theorem narrowM (s : Bytes) (hs : s.length ≤ 8) : Meets Try.prog 80 [.str fun _ => s] [] (Y := Unit) (fun _ => True) (fun _ => .tup [.int .u64 fun _ => narrow s, .tt]) (fun _ => []) := by
  refine Meets.intro hm (fn := Try.f80) Try.func80 rfl (by decide) (Nat.le_of_ble_eq_true rfl) (fun _ => rfl) ?_; intro S hok; (conv => whnf)
  (repeat' ((conv => whnf); first | refine And.intro ?_ ?_ | exact Cl.mk (by kernel_rfl) | exact Ck.mk (by kernel_rfl) | refine DrawN.mk ?_ | refine CodeN.step hm rfl ?_ | exact trivial | exact rfl | (intro hh; try simp only [decide_eq_true_eq, decide_eq_false_iff_not, beq_iff_eq, beq_eq_false_iff_ne, bne_iff_ne, bne_eq_false_iff_eq, Bool.not_eq_true', Bool.not_eq_false', Bool.not_true, Bool.not_false] at hh))); all_goals (conv => whnf)
  · exfalso; omega
  · exact Ob.mk (by simp only []; omega)
  · refine LoopN.intro hm (X := Nat) (fun i => i ≤ s.length) (fun i => s.length - i)
      (fun i => [(13, .int .i64 fun _ => (i : Int)), (12, .int .i64 fun _ => (s.length : Int)), (11, .lst (.int .u8) fun _ => s.map fun b => (b.toNat : Int)), (4, .int .u64 fun _ => (narrow (s.take i) : Int))])
      (fun i => []) 0 [] ⟨rfl, rfl, ?_, ?_⟩ (Nat.zero_le _) (fun i hi => ?_)
    · (repeat' (first | exact rfl | exact trivial | refine And.intro ?_ ?_ | ((conv => whnf); first | exact rfl | exact trivial | refine And.intro ?_ ?_)))
    · (repeat' (first | exact rfl | exact trivial | refine And.intro ?_ ?_ | ((conv => whnf); first | exact rfl | exact trivial | refine And.intro ?_ ?_))); all_goals (conv => whnf); all_goals (try simp only [])
      all_goals first | (simp; done) | rfl | skip
    · (repeat' ((conv => whnf); first | refine And.intro ?_ ?_ | exact Cl.mk (by kernel_rfl) | exact Ck.mk (by kernel_rfl) | refine DrawN.mk ?_ | refine CodeN.step hm rfl ?_ | exact trivial | exact rfl | (intro hh; try simp only [decide_eq_true_eq, decide_eq_false_iff_not, beq_iff_eq, beq_eq_false_iff_ne, bne_iff_ne, bne_eq_false_iff_eq, Bool.not_eq_true', Bool.not_eq_false', Bool.not_true, Bool.not_false] at hh))); all_goals (conv => whnf)
      · (refine Ob.mk ?_; (try simp only [Ty.dflt, Nat.zero_add, Nat.add_zero, Int.toNat_natCast, Int.toNat_zero, Int.toNat_one, List.length_take, List.length_drop, List.length_append, List.length_replicate, List.length_cons, List.length_nil, List.length_set, List.length_map, true_and, and_true]); omega)
      · exact Ob.mk (by decide)
      · have hi1 : i < s.length := by omega
        have hb : (s.getD i 0).toNat < 256 := UInt8.toNat_lt _
        have hlt := narrow_lt8 (s := s.take i ++ [s.getD i 0]) (by simp; omega)
        rw [narrow_snoc] at hlt
        have hst : s.take (i + 1) = s.take i ++ [s.getD i 0] := by
          rw [List.take_add_one, List.getElem?_eq_getElem hi1, List.getD_eq_getElem?_getD, List.getElem?_eq_getElem hi1]; rfl
        have hg : (s.map fun b => (b.toNat : Int)).getD (i : Int).toNat (Ty.dflt (.int .u8)) = (((s.getD i 0).toNat : Nat) : Int) := by
          rw [Int.toNat_natCast, List.getD_eq_getElem?_getD, List.getD_eq_getElem?_getD, List.getElem?_map, List.getElem?_eq_getElem hi1]; rfl
        have e1 : IntKind.u64.wrap ((narrow (s.take i) : Int) * 2 ^ (min (8 : Int).toNat IntKind.u64.bits)) = ((256 * narrow (s.take i) : Nat) : Int) := by
          have : (2 : Int) ^ (min (8 : Int).toNat IntKind.u64.bits) = 256 := by decide
          rw [this, wru64 (by omega)]; omega
        have e2 : IntKind.u64.wrap (((s.getD i 0).toNat : Nat) : Int) = (((s.getD i 0).toNat : Nat) : Int) := wru64 (by omega)
        have e3 := or_byte (a := narrow (s.take i)) (b := (s.getD i 0).toNat) (by omega) hb
        refine ⟨i + 1, [], ⟨rfl, rfl, ?_, ?_⟩, hi1, by omega⟩
        · (repeat' (first | exact rfl | exact trivial | refine And.intro ?_ ?_ | ((conv => whnf); first | exact rfl | exact trivial | refine And.intro ?_ ?_)))
        · (repeat' (first | exact rfl | exact trivial | refine And.intro ?_ ?_ | ((conv => whnf); first | exact rfl | exact trivial | refine And.intro ?_ ?_))); all_goals (conv => whnf); all_goals (try simp only [])
          · exact wr2 i hi1 (by omega)
          · rw [hg, e1, e2, e3, hst, narrow_snoc]
      · have e : i = s.length := by omega
        subst e
        (refine RetN.intro () [] rfl rfl ?_ ?_ ?_; ((repeat' (first | exact rfl | exact trivial | refine And.intro ?_ ?_ | ((conv => whnf); first | exact rfl | exact trivial | refine And.intro ?_ ?_)))); ((repeat' (first | exact rfl | exact trivial | refine And.intro ?_ ?_ | ((conv => whnf); first | exact rfl | exact trivial | refine And.intro ?_ ?_))); all_goals (conv => whnf); all_goals (try simp only [])))
        rw [List.take_length]
theorem rnarrowM (s : Bytes) (hs : s.length ≤ 8) : Meets Try.prog 81 [.str fun _ => s] [] (Y := Unit) (fun _ => True) (fun _ => .tup [.int .u64 fun _ => narrow s, .tt]) (fun _ => []) := by
  refine Meets.intro hm (fn := Try.f81) Try.func81 rfl (by decide) (Nat.le_of_ble_eq_true rfl) (fun _ => rfl) ?_; intro S hok; (conv => whnf)
  (repeat' ((conv => whnf); first | refine And.intro ?_ ?_ | exact Cl.mk (by kernel_rfl) | exact Ck.mk (by kernel_rfl) | refine DrawN.mk ?_ | refine CodeN.step hm rfl ?_ | exact trivial | exact rfl | (intro hh; try simp only [decide_eq_true_eq, decide_eq_false_iff_not, beq_iff_eq, beq_eq_false_iff_ne, bne_iff_ne, bne_eq_false_iff_eq, Bool.not_eq_true', Bool.not_eq_false', Bool.not_true, Bool.not_false] at hh))); all_goals (conv => whnf)
  · exfalso; omega
  · refine LoopN.intro hm (X := Nat) (fun i => i ≤ s.length) (fun i => s.length - i)
      (fun i => [(5, .int .i64 fun _ => (i : Int)), (0, .str fun _ => s), (4, .int .u64 fun _ => (narrow (s.take i) : Int))])
      (fun i => []) 0 [] ⟨rfl, rfl, ?_, ?_⟩ (Nat.zero_le _) (fun i hi => ?_)
    · (repeat' (first | exact rfl | exact trivial | refine And.intro ?_ ?_ | ((conv => whnf); first | exact rfl | exact trivial | refine And.intro ?_ ?_)))
    · (repeat' (first | exact rfl | exact trivial | refine And.intro ?_ ?_ | ((conv => whnf); first | exact rfl | exact trivial | refine And.intro ?_ ?_)))
    · (repeat' ((conv => whnf); first | refine And.intro ?_ ?_ | exact Cl.mk (by kernel_rfl) | exact Ck.mk (by kernel_rfl) | refine DrawN.mk ?_ | refine CodeN.step hm rfl ?_ | exact trivial | exact rfl | (intro hh; try simp only [decide_eq_true_eq, decide_eq_false_iff_not, beq_iff_eq, beq_eq_false_iff_ne, bne_iff_ne, bne_eq_false_iff_eq, Bool.not_eq_true', Bool.not_eq_false', Bool.not_true, Bool.not_false] at hh))); all_goals (conv => whnf)
      · (refine Ob.mk ?_; (try simp only [Ty.dflt, Nat.zero_add, Nat.add_zero, Int.toNat_natCast, Int.toNat_zero, Int.toNat_one, List.length_take, List.length_drop, List.length_append, List.length_replicate, List.length_cons, List.length_nil, List.length_set, List.length_map, true_and, and_true]); omega)
      · have hi1 : i < s.length := by omega
        have hb : (s.getD i 0).toNat < 256 := UInt8.toNat_lt _
        have hlt := narrow_lt8 (s := s.take i ++ [s.getD i 0]) (by simp; omega)
        rw [narrow_snoc] at hlt
        have hst : s.take (i + 1) = s.take i ++ [s.getD i 0] := by
          rw [List.take_add_one, List.getElem?_eq_getElem hi1, List.getD_eq_getElem?_getD, List.getElem?_eq_getElem hi1]; rfl
        have hg : s.getD (i : Int).toNat 0 = s.getD i 0 := rfl
        have e1 : IntKind.u64.wrap (256 * (narrow (s.take i) : Int)) = ((256 * narrow (s.take i) : Nat) : Int) := by
          rw [wru64 (by omega)]; omega
        have e2 : IntKind.u64.wrap (((s.getD i 0).toNat : Nat) : Int) = (((s.getD i 0).toNat : Nat) : Int) := wru64 (by omega)
        refine ⟨i + 1, [], ⟨rfl, rfl, ?_, ?_⟩, hi1, by omega⟩
        · (repeat' (first | exact rfl | exact trivial | refine And.intro ?_ ?_ | ((conv => whnf); first | exact rfl | exact trivial | refine And.intro ?_ ?_)))
        · (repeat' (first | exact rfl | exact trivial | refine And.intro ?_ ?_ | ((conv => whnf); first | exact rfl | exact trivial | refine And.intro ?_ ?_))); all_goals (conv => whnf); all_goals (try simp only [])
          · exact wr2 i hi1 (by omega)
          · rw [hg, e1, e2, wru64 (by omega), hst, narrow_snoc]; omega
      · have e : i = s.length := by omega
        subst e
        (refine RetN.intro () [] rfl rfl ?_ ?_ ?_; ((repeat' (first | exact rfl | exact trivial | refine And.intro ?_ ?_ | ((conv => whnf); first | exact rfl | exact trivial | refine And.intro ?_ ?_)))); ((repeat' (first | exact rfl | exact trivial | refine And.intro ?_ ?_ | ((conv => whnf); first | exact rfl | exact trivial | refine And.intro ?_ ?_))); all_goals (conv => whnf); all_goals (try simp only [])))
        rw [List.take_length]
end Go.Proofs.Ytoipgandilhdeaa.Nu
set_option linter.unusedVariables false
set_option linter.unusedSimpArgs false
namespace Go.Proofs.Ytoipgandilhdeaa.Nu
open Go Go.RowKit Fw
def numAV (r : Int × Int × Int) : AV := .tup [.int .u64 fun _ => r.1, .int .i64 fun _ => r.2.1, .int .i64 fun _ => r.2.2]
def txtAV (r : Bytes × Int × Int) : AV := .tup [.str fun _ => r.1, .int .i64 fun _ => r.2.1, .int .i64 fun _ => r.2.2]
theorem n_arg {s : Bytes} {t : Int} {w : Nat} (h : t < 0 ∨ (s.length : Int) < t) : number s t w = (0, 0, 1) := by unfold number; rw [if_pos h]
theorem n_cut {s : Bytes} {t : Int} {w : Nat} (h0 : 0 ≤ t ∧ t ≤ s.length) (h : (s.length : Int) < t + w) : number s t w = (0, 0, 2) := by unfold number; rw [if_neg (by omega), if_pos h]
theorem n_ok {s : Bytes} {t : Int} {w : Nat} (h0 : 0 ≤ t ∧ t ≤ s.length) (h : t + w ≤ (s.length : Int)) : number s t w = (((narrow ((s.drop t.toNat).take w) : Nat) : Int), t + w, 0) := by unfold number; rw [if_neg (by omega), if_neg (by omega)]
theorem numberM (s : Bytes) (t : Int) (w : Nat) (hw : w ≤ 8) (hs : s.length ≤ 1000000) : Meets Try.prog 65 [.str fun _ => s, .int .i64 fun _ => t, .int .i64 fun _ => (w : Int)] [] (Y := Unit) (fun _ => True) (fun _ => numAV (number s t w)) (fun _ => []) := by
  refine Meets.intro hm (fn := Try.f65) Try.func65 rfl (by decide) (Nat.le_of_ble_eq_true rfl) (fun _ => rfl) ?_; intro S hok; (conv => whnf)
  (repeat' ((conv => whnf); first | refine And.intro ?_ ?_ | exact Cl.mk (by kernel_rfl) | exact Ck.mk (by kernel_rfl) | refine DrawN.mk ?_ | refine CodeN.step hm rfl ?_ | exact trivial | exact rfl | (intro hh; try simp only [decide_eq_true_eq, decide_eq_false_iff_not, beq_iff_eq, beq_eq_false_iff_ne, bne_iff_ne, bne_eq_false_iff_eq, Bool.not_eq_true', Bool.not_eq_false', Bool.not_true, Bool.not_false] at hh))); all_goals (conv => whnf)
  · have hn : number s t w = (0, 0, 1) := n_arg (by omega)
    (refine RetN.intro () [] rfl rfl ?_ ?_ ?_; ((repeat' (first | exact rfl | exact trivial | refine And.intro ?_ ?_ | ((conv => whnf); first | exact rfl | exact trivial | refine And.intro ?_ ?_)))); ((repeat' (first | exact rfl | exact trivial | refine And.intro ?_ ?_ | ((conv => whnf); first | exact rfl | exact trivial | refine And.intro ?_ ?_))); all_goals (conv => whnf); all_goals (try simp only [])))
    all_goals rw [hn]
  · exact Ob.mk (by simp only []; omega)
  · have hd : ((s.drop t.toNat).take w).length = (s.drop t.toNat).length - ((s.drop t.toNat).length - w) := by simp; omega
    rw [Int.toNat_natCast, List.take_length, List.length_drop] at hh
    have hn : number s t w = (0, 0, 2) := n_cut (by omega) (by omega)
    (refine RetN.intro () [] rfl rfl ?_ ?_ ?_; ((repeat' (first | exact rfl | exact trivial | refine And.intro ?_ ?_ | ((conv => whnf); first | exact rfl | exact trivial | refine And.intro ?_ ?_)))); ((repeat' (first | exact rfl | exact trivial | refine And.intro ?_ ?_ | ((conv => whnf); first | exact rfl | exact trivial | refine And.intro ?_ ?_))); all_goals (conv => whnf); all_goals (try simp only [])))
    all_goals rw [hn]
  · rw [Int.toNat_natCast, List.take_length, List.length_drop] at hh
    refine Ob.mk ?_
    simp only [Int.toNat_natCast, List.take_length, List.length_drop]; omega
  · rw [Int.toNat_natCast, List.take_length, List.length_drop] at hh
    have hn : number s t w = (((narrow ((s.drop t.toNat).take w) : Nat) : Int), t + w, 0) := n_ok (by omega) (by omega)
    have e : List.drop (Int.toNat 0) (List.take ((w : Nat) : Int).toNat (List.drop t.toNat (List.take (((s.length : Nat) : Int)).toNat s))) = (s.drop t.toNat).take w := by
      rw [Int.toNat_natCast, Int.toNat_natCast, List.take_length]; rfl
    simp only [e]
    (refine CallN.intro (narrowM ((s.drop t.toNat).take w) (by rw [List.length_take]; omega)) [] rfl rfl ?_ ?_ ?_; ((repeat' (first | exact rfl | exact trivial | refine And.intro ?_ ?_ | ((conv => whnf); first | exact rfl | exact trivial | refine And.intro ?_ ?_)))); ((repeat' (first | exact rfl | exact trivial | refine And.intro ?_ ?_ | ((conv => whnf); first | exact rfl | exact trivial | refine And.intro ?_ ?_)))); (intro y hy; clear y hy; (repeat' ((conv => whnf); first | refine And.intro ?_ ?_ | exact Cl.mk (by kernel_rfl) | exact Ck.mk (by kernel_rfl) | refine DrawN.mk ?_ | refine CodeN.step hm rfl ?_ | exact trivial | exact rfl | (intro hh; try simp only [decide_eq_true_eq, decide_eq_false_iff_not, beq_iff_eq, beq_eq_false_iff_ne, bne_iff_ne, bne_eq_false_iff_eq, Bool.not_eq_true', Bool.not_eq_false', Bool.not_true, Bool.not_false] at hh; try exact absurd hh (by decide)))); all_goals (conv => whnf); (all_goals first | (exact Ob.mk (by decide)) | skip)))
    (refine RetN.intro () [] rfl rfl ?_ ?_ ?_; ((repeat' (first | exact rfl | exact trivial | refine And.intro ?_ ?_ | ((conv => whnf); first | exact rfl | exact trivial | refine And.intro ?_ ?_)))); ((repeat' (first | exact rfl | exact trivial | refine And.intro ?_ ?_ | ((conv => whnf); first | exact rfl | exact trivial | refine And.intro ?_ ?_))); all_goals (conv => whnf); all_goals (try simp only [])))
    all_goals rw [hn]
    exact wr (by omega)
  · have hn : number s t w = (0, 0, 1) := n_arg (by omega)
    (refine RetN.intro () [] rfl rfl ?_ ?_ ?_; ((repeat' (first | exact rfl | exact trivial | refine And.intro ?_ ?_ | ((conv => whnf); first | exact rfl | exact trivial | refine And.intro ?_ ?_)))); ((repeat' (first | exact rfl | exact trivial | refine And.intro ?_ ?_ | ((conv => whnf); first | exact rfl | exact trivial | refine And.intro ?_ ?_))); all_goals (conv => whnf); all_goals (try simp only [])))
    all_goals rw [hn]
  · exfalso; omega
  · exfalso; omega
theorem rnumberM (s : Bytes) (t : Int) (w : Nat) (hw : w ≤ 8) (hs : s.length ≤ 1000000) : Meets Try.prog 67 [.str fun _ => s, .int .i64 fun _ => t, .int .i64 fun _ => (w : Int)] [] (Y := Unit) (fun _ => True) (fun _ => numAV (number s t w)) (fun _ => []) := by
  refine Meets.intro hm (fn := Try.f67) Try.func67 rfl (by decide) (Nat.le_of_ble_eq_true rfl) (fun _ => rfl) ?_; intro S hok; (conv => whnf)
  (repeat' ((conv => whnf); first | refine And.intro ?_ ?_ | exact Cl.mk (by kernel_rfl) | exact Ck.mk (by kernel_rfl) | refine DrawN.mk ?_ | refine CodeN.step hm rfl ?_ | exact trivial | exact rfl | (intro hh; try simp only [decide_eq_true_eq, decide_eq_false_iff_not, beq_iff_eq, beq_eq_false_iff_ne, bne_iff_ne, bne_eq_false_iff_eq, Bool.not_eq_true', Bool.not_eq_false', Bool.not_true, Bool.not_false] at hh))); all_goals (conv => whnf)
  · have hn : number s t w = (0, 0, 1) := n_arg (by omega)
    (refine RetN.intro () [] rfl rfl ?_ ?_ ?_; ((repeat' (first | exact rfl | exact trivial | refine And.intro ?_ ?_ | ((conv => whnf); first | exact rfl | exact trivial | refine And.intro ?_ ?_)))); ((repeat' (first | exact rfl | exact trivial | refine And.intro ?_ ?_ | ((conv => whnf); first | exact rfl | exact trivial | refine And.intro ?_ ?_))); all_goals (conv => whnf); all_goals (try simp only [])))
    all_goals rw [hn]
  · rw [wr (by omega)] at hh
    have hn : number s t w = (0, 0, 2) := n_cut (by omega) (by omega)
    (refine RetN.intro () [] rfl rfl ?_ ?_ ?_; ((repeat' (first | exact rfl | exact trivial | refine And.intro ?_ ?_ | ((conv => whnf); first | exact rfl | exact trivial | refine And.intro ?_ ?_)))); ((repeat' (first | exact rfl | exact trivial | refine And.intro ?_ ?_ | ((conv => whnf); first | exact rfl | exact trivial | refine And.intro ?_ ?_))); all_goals (conv => whnf); all_goals (try simp only [])))
    all_goals rw [hn]
  · rw [wr (by omega)] at hh
    have e : IntKind.i64.wrap (t + w) = t + w := wr (by omega)
    exact Ob.mk (by simp only [e]; omega)
  · rw [wr (by omega)] at hh
    have hn : number s t w = (((narrow ((s.drop t.toNat).take w) : Nat) : Int), t + w, 0) := n_ok (by omega) (by omega)
    have e : IntKind.i64.wrap (t + w) = t + w := wr (by omega)
    have e2 : List.drop t.toNat (List.take (t + w).toNat s) = (s.drop t.toNat).take w := by
      rw [List.drop_take]; congr 1; omega
    simp only [e, e2]
    (refine CallN.intro (rnarrowM ((s.drop t.toNat).take w) (by rw [List.length_take]; omega)) [] rfl rfl ?_ ?_ ?_; ((repeat' (first | exact rfl | exact trivial | refine And.intro ?_ ?_ | ((conv => whnf); first | exact rfl | exact trivial | refine And.intro ?_ ?_)))); ((repeat' (first | exact rfl | exact trivial | refine And.intro ?_ ?_ | ((conv => whnf); first | exact rfl | exact trivial | refine And.intro ?_ ?_)))); (intro y hy; clear y hy; (repeat' ((conv => whnf); first | refine And.intro ?_ ?_ | exact Cl.mk (by kernel_rfl) | exact Ck.mk (by kernel_rfl) | refine DrawN.mk ?_ | refine CodeN.step hm rfl ?_ | exact trivial | exact rfl | (intro hh; try simp only [decide_eq_true_eq, decide_eq_false_iff_not, beq_iff_eq, beq_eq_false_iff_ne, bne_iff_ne, bne_eq_false_iff_eq, Bool.not_eq_true', Bool.not_eq_false', Bool.not_true, Bool.not_false] at hh; try exact absurd hh (by decide)))); all_goals (conv => whnf); (all_goals first | (exact Ob.mk (by decide)) | skip)))
    (refine RetN.intro () [] rfl rfl ?_ ?_ ?_; ((repeat' (first | exact rfl | exact trivial | refine And.intro ?_ ?_ | ((conv => whnf); first | exact rfl | exact trivial | refine And.intro ?_ ?_)))); ((repeat' (first | exact rfl | exact trivial | refine And.intro ?_ ?_ | ((conv => whnf); first | exact rfl | exact trivial | refine And.intro ?_ ?_))); all_goals (conv => whnf); all_goals (try simp only [])))
    all_goals rw [hn]
    exact e
  · have hn : number s t w = (0, 0, 1) := n_arg (by omega)
    (refine RetN.intro () [] rfl rfl ?_ ?_ ?_; ((repeat' (first | exact rfl | exact trivial | refine And.intro ?_ ?_ | ((conv => whnf); first | exact rfl | exact trivial | refine And.intro ?_ ?_)))); ((repeat' (first | exact rfl | exact trivial | refine And.intro ?_ ?_ | ((conv => whnf); first | exact rfl | exact trivial | refine And.intro ?_ ?_))); all_goals (conv => whnf); all_goals (try simp only [])))
    all_goals rw [hn]
  · exfalso; omega
  · exfalso; omega
theorem putM (s : Bytes) (hs : s.length ≤ 1000000) : Meets Try.prog 60 [.str fun _ => s] [] (Y := Unit) (fun _ => True) (fun _ => .tup [.str fun _ => (put s).1, .bool fun _ => (put s).2]) (fun _ => []) := by
  refine Meets.intro hm (fn := Try.f60) Try.func60 rfl (by decide) (Nat.le_of_ble_eq_true rfl) (fun _ => rfl) ?_; intro S hok; (conv => whnf)
  (repeat' ((conv => whnf); first | refine And.intro ?_ ?_ | exact Cl.mk (by kernel_rfl) | exact Ck.mk (by kernel_rfl) | refine DrawN.mk ?_ | refine CodeN.step hm rfl ?_ | exact trivial | exact rfl | (intro hh; try simp only [decide_eq_true_eq, decide_eq_false_iff_not, beq_iff_eq, beq_eq_false_iff_ne, bne_iff_ne, bne_eq_false_iff_eq, Bool.not_eq_true', Bool.not_eq_false', Bool.not_true, Bool.not_false] at hh))); all_goals (conv => whnf)
  · have hp : put s = ([], false) := by unfold put; rw [if_neg (by omega)]
    (refine RetN.intro () [] rfl rfl ?_ ?_ ?_; ((repeat' (first | exact rfl | exact trivial | refine And.intro ?_ ?_ | ((conv => whnf); first | exact rfl | exact trivial | refine And.intro ?_ ?_)))); ((repeat' (first | exact rfl | exact trivial | refine And.intro ?_ ?_ | ((conv => whnf); first | exact rfl | exact trivial | refine And.intro ?_ ?_))); all_goals (conv => whnf); all_goals (try simp only [])))
    all_goals rw [hp]
  · exact Ob.mk (by simp; omega)
  · have hp : put s = (UInt8.ofNat s.length :: s, true) := by unfold put; rw [if_pos (by omega)]
    have e : IntKind.u8.wrap (s.length : Int) = (s.length : Int) := by rw [wru8]; omega
    (refine RetN.intro () [] rfl rfl ?_ ?_ ?_; ((repeat' (first | exact rfl | exact trivial | refine And.intro ?_ ?_ | ((conv => whnf); first | exact rfl | exact trivial | refine And.intro ?_ ?_)))); ((repeat' (first | exact rfl | exact trivial | refine And.intro ?_ ?_ | ((conv => whnf); first | exact rfl | exact trivial | refine And.intro ?_ ?_))); all_goals (conv => whnf); all_goals (try simp only [])))
    all_goals rw [hp]
    simp only [e]
    rfl
theorem rputM (s : Bytes) (hs : s.length ≤ 1000000) : Meets Try.prog 34 [.str fun _ => s] [] (Y := Unit) (fun _ => True) (fun _ => .tup [.str fun _ => (put s).1, .bool fun _ => (put s).2]) (fun _ => []) := by
  refine Meets.intro hm (fn := Try.f34) Try.func34 rfl (by decide) (Nat.le_of_ble_eq_true rfl) (fun _ => rfl) ?_; intro S hok; (conv => whnf)
  (repeat' ((conv => whnf); first | refine And.intro ?_ ?_ | exact Cl.mk (by kernel_rfl) | exact Ck.mk (by kernel_rfl) | refine DrawN.mk ?_ | refine CodeN.step hm rfl ?_ | exact trivial | exact rfl | (intro hh; try simp only [decide_eq_true_eq, decide_eq_false_iff_not, beq_iff_eq, beq_eq_false_iff_ne, bne_iff_ne, bne_eq_false_iff_eq, Bool.not_eq_true', Bool.not_eq_false', Bool.not_true, Bool.not_false] at hh))); all_goals (conv => whnf)
  · have hp : put s = ([], false) := by unfold put; rw [if_neg (by omega)]
    (refine RetN.intro () [] rfl rfl ?_ ?_ ?_; ((repeat' (first | exact rfl | exact trivial | refine And.intro ?_ ?_ | ((conv => whnf); first | exact rfl | exact trivial | refine And.intro ?_ ?_)))); ((repeat' (first | exact rfl | exact trivial | refine And.intro ?_ ?_ | ((conv => whnf); first | exact rfl | exact trivial | refine And.intro ?_ ?_))); all_goals (conv => whnf); all_goals (try simp only [])))
    all_goals rw [hp]
  · exact Ob.mk (by simp; omega)
  · have hp : put s = (UInt8.ofNat s.length :: s, true) := by unfold put; rw [if_pos (by omega)]
    have e : IntKind.u8.wrap (s.length : Int) = (s.length : Int) := by rw [wru8]; omega
    (refine RetN.intro () [] rfl rfl ?_ ?_ ?_; ((repeat' (first | exact rfl | exact trivial | refine And.intro ?_ ?_ | ((conv => whnf); first | exact rfl | exact trivial | refine And.intro ?_ ?_)))); ((repeat' (first | exact rfl | exact trivial | refine And.intro ?_ ?_ | ((conv => whnf); first | exact rfl | exact trivial | refine And.intro ?_ ?_))); all_goals (conv => whnf); all_goals (try simp only [])))
    all_goals rw [hp]
    simp only [e]
    rfl
theorem narrow_one (s : Bytes) (t : Nat) (h : t < s.length) : narrow ((s.drop t).take 1) = (s.getD t 0).toNat := by
  have e : (s.drop t).take 1 = [s.getD t 0] := by
    rw [List.drop_eq_getElem_cons h, List.getD_eq_getElem?_getD, List.getElem?_eq_getElem h]; rfl
  rw [e]; simp [narrow]
theorem number_one (s : Bytes) (t : Int) : ((number s t 1).2.2 = 0 → 0 ≤ t ∧ t + 1 ≤ s.length ∧ (number s t 1).2.1 = t + 1 ∧ (number s t 1).1 = (s.getD t.toNat 0).toNat) ∧ 0 ≤ (number s t 1).1 ∧ (number s t 1).1 < 256 := by
  by_cases h1 : t < 0 ∨ (s.length : Int) < t
  · rw [n_arg h1]; simp
  · by_cases h2 : (s.length : Int) < t + (1 : Nat)
    · rw [n_cut (by omega) h2]; simp
    · have h1' : 0 ≤ t ∧ t ≤ s.length := by omega
      have h2' : t + ((1 : Nat) : Int) ≤ s.length := by omega
      rw [n_ok h1' h2', narrow_one s t.toNat (by omega)]
      have := UInt8.toNat_lt (s.getD t.toNat 0)
      refine ⟨fun _ => ⟨by omega, by omega, rfl, rfl⟩, Int.natCast_nonneg _, ?_⟩
      show (((s.getD t.toNat 0).toNat : Nat) : Int) < 256
      omega
theorem t_ok {s : Bytes} {t : Int} (h : (number s t 1).2.2 = 0) : text s t = if (s.length : Int) < t + 1 + (s.getD t.toNat 0).toNat then ([], 0, 2) else ((s.drop (t + 1).toNat).take (s.getD t.toNat 0).toNat, t + 1 + (s.getD t.toNat 0).toNat, 0) := by
  obtain ⟨h1, _⟩ := number_one s t
  obtain ⟨_, _, _, h5⟩ := h1 h
  unfold text
  rw [if_neg (by omega), h5]; rfl
theorem textM (s : Bytes) (t : Int) (hs : s.length ≤ 1000000) : Meets Try.prog 66 [.str fun _ => s, .int .i64 fun _ => t] [] (Y := Unit) (fun _ => True) (fun _ => txtAV (text s t)) (fun _ => []) := by
  refine Meets.intro hm (fn := Try.f66) Try.func66 rfl (by decide) (Nat.le_of_ble_eq_true rfl) (fun _ => rfl) ?_; intro S hok; (conv => whnf)
  (repeat' ((conv => whnf); first | refine And.intro ?_ ?_ | exact Cl.mk (by kernel_rfl) | exact Ck.mk (by kernel_rfl) | refine DrawN.mk ?_ | refine CodeN.step hm rfl ?_ | exact trivial | exact rfl | (intro hh; try simp only [decide_eq_true_eq, decide_eq_false_iff_not, beq_iff_eq, beq_eq_false_iff_ne, bne_iff_ne, bne_eq_false_iff_eq, Bool.not_eq_true', Bool.not_eq_false', Bool.not_true, Bool.not_false] at hh))); all_goals (conv => whnf)
  obtain ⟨h1, h2, h3⟩ := number_one s t
  (refine CallN.intro (numberM s t 1 (by omega) hs) [] rfl rfl ?_ ?_ ?_; ((repeat' (first | exact rfl | exact trivial | refine And.intro ?_ ?_ | ((conv => whnf); first | exact rfl | exact trivial | refine And.intro ?_ ?_)))); ((repeat' (first | exact rfl | exact trivial | refine And.intro ?_ ?_ | ((conv => whnf); first | exact rfl | exact trivial | refine And.intro ?_ ?_)))); (intro y hy; clear y hy; (repeat' ((conv => whnf); first | refine And.intro ?_ ?_ | exact Cl.mk (by kernel_rfl) | exact Ck.mk (by kernel_rfl) | refine DrawN.mk ?_ | refine CodeN.step hm rfl ?_ | exact trivial | exact rfl | (intro hh; try simp only [decide_eq_true_eq, decide_eq_false_iff_not, beq_iff_eq, beq_eq_false_iff_ne, bne_iff_ne, bne_eq_false_iff_eq, Bool.not_eq_true', Bool.not_eq_false', Bool.not_true, Bool.not_false] at hh; try exact absurd hh (by decide)))); all_goals (conv => whnf); (all_goals first | (exact Ob.mk (by decide)) | skip)))
  · have ht : text s t = ([], 0, (number s t 1).2.2) := by unfold text; rw [if_pos hh]
    (refine RetN.intro () [] rfl rfl ?_ ?_ ?_; ((repeat' (first | exact rfl | exact trivial | refine And.intro ?_ ?_ | ((conv => whnf); first | exact rfl | exact trivial | refine And.intro ?_ ?_)))); ((repeat' (first | exact rfl | exact trivial | refine And.intro ?_ ?_ | ((conv => whnf); first | exact rfl | exact trivial | refine And.intro ?_ ?_))); all_goals (conv => whnf); all_goals (try simp only [])))
    all_goals rw [ht]
  all_goals
    have h0 : (number s t 1).2.2 = 0 := by assumption
    obtain ⟨g1, g2, g3, g4⟩ := h1 h0
    have e1 : IntKind.i64.wrap (number s t 1).1 = ((s.getD t.toNat 0).toNat : Int) := by rw [g4]; exact wr (by omega)
    have e2 : IntKind.i64.wrap (t + 1 + ((s.getD t.toNat 0).toNat : Int)) = t + 1 + ((s.getD t.toNat 0).toNat : Int) := wr (by omega)
    have ht := t_ok h0
    simp only [g3, e1, e2] at hh ⊢
  · rw [if_pos hh] at ht
    (refine RetN.intro () [] rfl rfl ?_ ?_ ?_; ((repeat' (first | exact rfl | exact trivial | refine And.intro ?_ ?_ | ((conv => whnf); first | exact rfl | exact trivial | refine And.intro ?_ ?_)))); ((repeat' (first | exact rfl | exact trivial | refine And.intro ?_ ?_ | ((conv => whnf); first | exact rfl | exact trivial | refine And.intro ?_ ?_))); all_goals (conv => whnf); all_goals (try simp only [])))
    all_goals rw [ht]
  · exact Ob.mk (by try simp only []
                    omega)
  · rw [if_neg hh] at ht
    (refine RetN.intro () [] rfl rfl ?_ ?_ ?_; ((repeat' (first | exact rfl | exact trivial | refine And.intro ?_ ?_ | ((conv => whnf); first | exact rfl | exact trivial | refine And.intro ?_ ?_)))); ((repeat' (first | exact rfl | exact trivial | refine And.intro ?_ ?_ | ((conv => whnf); first | exact rfl | exact trivial | refine And.intro ?_ ?_))); all_goals (conv => whnf); all_goals (try simp only [])))
    all_goals rw [ht]
    rw [List.drop_take]; congr 1; omega
theorem rtextM (s : Bytes) (t : Int) (hs : s.length ≤ 1000000) : Meets Try.prog 44 [.str fun _ => s, .int .i64 fun _ => t] [] (Y := Unit) (fun _ => True) (fun _ => txtAV (text s t)) (fun _ => []) := by
  refine Meets.intro hm (fn := Try.f44) Try.func44 rfl (by decide) (Nat.le_of_ble_eq_true rfl) (fun _ => rfl) ?_; intro S hok; (conv => whnf)
  (repeat' ((conv => whnf); first | refine And.intro ?_ ?_ | exact Cl.mk (by kernel_rfl) | exact Ck.mk (by kernel_rfl) | refine DrawN.mk ?_ | refine CodeN.step hm rfl ?_ | exact trivial | exact rfl | (intro hh; try simp only [decide_eq_true_eq, decide_eq_false_iff_not, beq_iff_eq, beq_eq_false_iff_ne, bne_iff_ne, bne_eq_false_iff_eq, Bool.not_eq_true', Bool.not_eq_false', Bool.not_true, Bool.not_false] at hh))); all_goals (conv => whnf)
  · have ht : text s t = ([], 0, 1) := by unfold text; rw [n_arg (by omega)]; rfl
    (refine RetN.intro () [] rfl rfl ?_ ?_ ?_; ((repeat' (first | exact rfl | exact trivial | refine And.intro ?_ ?_ | ((conv => whnf); first | exact rfl | exact trivial | refine And.intro ?_ ?_)))); ((repeat' (first | exact rfl | exact trivial | refine And.intro ?_ ?_ | ((conv => whnf); first | exact rfl | exact trivial | refine And.intro ?_ ?_))); all_goals (conv => whnf); all_goals (try simp only [])))
    all_goals rw [ht]
  · (refine Ob.mk ?_; (try simp only [Ty.dflt, Nat.zero_add, Nat.add_zero, Int.toNat_natCast, Int.toNat_zero, Int.toNat_one, List.length_take, List.length_drop, List.length_append, List.length_replicate, List.length_cons, List.length_nil, List.length_set, List.length_map, true_and, and_true]); omega)
  all_goals first
    | (have ht : text s t = ([], 0, 1) := by unfold text; rw [n_arg (by omega)]; rfl
       (refine RetN.intro () [] rfl rfl ?_ ?_ ?_; ((repeat' (first | exact rfl | exact trivial | refine And.intro ?_ ?_ | ((conv => whnf); first | exact rfl | exact trivial | refine And.intro ?_ ?_)))); ((repeat' (first | exact rfl | exact trivial | refine And.intro ?_ ?_ | ((conv => whnf); first | exact rfl | exact trivial | refine And.intro ?_ ?_))); all_goals (conv => whnf); all_goals (try simp only [])))
       all_goals rw [ht]
       done)
    | (have ht : text s t = ([], 0, 2) := by unfold text; rw [n_cut (by omega) (by omega)]; rfl
       (refine RetN.intro () [] rfl rfl ?_ ?_ ?_; ((repeat' (first | exact rfl | exact trivial | refine And.intro ?_ ?_ | ((conv => whnf); first | exact rfl | exact trivial | refine And.intro ?_ ?_)))); ((repeat' (first | exact rfl | exact trivial | refine And.intro ?_ ?_ | ((conv => whnf); first | exact rfl | exact trivial | refine And.intro ?_ ?_))); all_goals (conv => whnf); all_goals (try simp only [])))
       all_goals rw [ht]
       done)
    | ((refine Ob.mk ?_; (try simp only [Ty.dflt, Nat.zero_add, Nat.add_zero, Int.toNat_natCast, Int.toNat_zero, Int.toNat_one, List.length_take, List.length_drop, List.length_append, List.length_replicate, List.length_cons, List.length_nil, List.length_set, List.length_map, true_and, and_true]); omega))
    | skip
  all_goals
    have hb := UInt8.toNat_lt (s.getD t.toNat 0)
    have hne : t ≠ (s.length : Int) := by assumption
    have h0 : (number s t 1).2.2 = 0 := by rw [n_ok (by omega) (by omega)]
    have ht := t_ok h0
    have e1 : IntKind.i64.wrap ((s.getD t.toNat 0).toNat : Int) = ((s.getD t.toNat 0).toNat : Int) := wr (by omega)
    have e2 : IntKind.i64.wrap (t + 1) = t + 1 := wr (by omega)
    have e3 : IntKind.i64.wrap (t + 1 + ((s.getD t.toNat 0).toNat : Int)) = t + 1 + ((s.getD t.toNat 0).toNat : Int) := wr (by omega)
    have e4 : IntKind.i64.wrap ((s.length : Int) - t) = (s.length : Int) - t := wr (by omega)
    have e5 : IntKind.i64.wrap ((s.length : Int) - t - 1) = (s.length : Int) - t - 1 := wr (by omega)
    simp only [e1, e2, e3, e4, e5] at hh ⊢
  · rw [if_pos (by omega)] at ht
    (refine RetN.intro () [] rfl rfl ?_ ?_ ?_; ((repeat' (first | exact rfl | exact trivial | refine And.intro ?_ ?_ | ((conv => whnf); first | exact rfl | exact trivial | refine And.intro ?_ ?_)))); ((repeat' (first | exact rfl | exact trivial | refine And.intro ?_ ?_ | ((conv => whnf); first | exact rfl | exact trivial | refine And.intro ?_ ?_))); all_goals (conv => whnf); all_goals (try simp only [])))
    all_goals rw [ht]
  · exact Ob.mk (by try simp only []
                    omega)
  · rw [if_neg (by omega)] at ht
    (refine RetN.intro () [] rfl rfl ?_ ?_ ?_; ((repeat' (first | exact rfl | exact trivial | refine And.intro ?_ ?_ | ((conv => whnf); first | exact rfl | exact trivial | refine And.intro ?_ ?_)))); ((repeat' (first | exact rfl | exact trivial | refine And.intro ?_ ?_ | ((conv => whnf); first | exact rfl | exact trivial | refine And.intro ?_ ?_))); all_goals (conv => whnf); all_goals (try simp only [])))
    all_goals rw [ht]
    rw [List.drop_take]; congr 1; omega
end Go.Proofs.Ytoipgandilhdeaa.Nu
set_option linter.unusedVariables false
set_option linter.unusedSimpArgs false
namespace Go.Proofs.Ytoipgandilhdeaa.An
open Go Go.RowKit Fw Nu
def byv (s : Bytes) : List Int := s.map fun b => (b.toNat : Int)
theorem byv_len (s : Bytes) : (byv s).length = s.length := by simp [byv]
theorem byv_app (a b : Bytes) : byv (a ++ b) = byv a ++ byv b := by simp [byv]
theorem byv_back (s : Bytes) : (byv s).map (fun z => UInt8.ofNat z.toNat) = s := by
  rw [byv, List.map_map]
  conv => rhs; rw [← List.map_id s]
  apply List.map_congr_left
  intro b _
  simp
theorem byv_range (s : Bytes) : ∀ z ∈ byv s, 0 ≤ z ∧ z < 256 := by
  intro z hz
  obtain ⟨b, _, rfl⟩ := List.mem_map.1 hz
  have := b.toNat_lt
  omega
/-- A writer: fresh; and with bytes. -/
def w0 (wrong : Bool) : List Chunk := [.cells 104 [.pnil, .snil, .bool fun _ => wrong]]
def wN (s : Bytes) (wrong : Bool) : List Chunk := [.cells 104 [.ptr 0 0, .vec 1 1 (fun _ => 0) (fun _ => s.length), .bool fun _ => wrong], .vect 5 (.int .u8) fun _ => byv s]
theorem check0 (wrong : Bool) : Meets Try.prog 79 [.ptr 0 0] (w0 wrong) (Y := Unit) (fun _ => True) (fun _ => .tup []) (fun _ => [.cells 104 [.ptr 0 0, .snil, .bool fun _ => wrong]]) := by
  refine Meets.intro hm (fn := Try.f79) Try.func79 rfl (by decide) (Nat.le_of_ble_eq_true rfl) (fun _ => rfl) ?_; intro S hok; (conv => whnf)
  (repeat' ((conv => whnf); first | refine And.intro ?_ ?_ | exact Cl.mk (by kernel_rfl) | exact Ck.mk (by kernel_rfl) | refine DrawN.mk ?_ | refine CodeN.step hm rfl ?_ | exact trivial | exact rfl | (intro hh; try simp only [decide_eq_true_eq, decide_eq_false_iff_not, beq_iff_eq, beq_eq_false_iff_ne, bne_iff_ne, bne_eq_false_iff_eq, Bool.not_eq_true', Bool.not_eq_false', Bool.not_true, Bool.not_false] at hh))); all_goals (conv => whnf)
  · exact ⟨_, rfl, by kernel_rfl, by kernel_rfl, by kernel_rfl, by kernel_rfl⟩
  · (refine RetN.intro () [0] rfl rfl ?_ ?_ ?_; ((repeat' (first | exact rfl | exact trivial | refine And.intro ?_ ?_ | ((conv => whnf); first | exact rfl | exact trivial | refine And.intro ?_ ?_)))); ((repeat' (first | exact rfl | exact trivial | refine And.intro ?_ ?_ | ((conv => whnf); first | exact rfl | exact trivial | refine And.intro ?_ ?_))); all_goals (conv => whnf); all_goals (try simp only [])))
theorem checkN (s : Bytes) (wrong : Bool) : Meets Try.prog 79 [.ptr 0 0] (wN s wrong) (Y := Unit) (fun _ => True) (fun _ => .tup []) (fun _ => wN s wrong) := by
  refine Meets.intro hm (fn := Try.f79) Try.func79 rfl (by decide) (Nat.le_of_ble_eq_true rfl) (fun _ => rfl) ?_; intro S hok; (conv => whnf)
  (repeat' ((conv => whnf); first | refine And.intro ?_ ?_ | exact Cl.mk (by kernel_rfl) | exact Ck.mk (by kernel_rfl) | refine DrawN.mk ?_ | refine CodeN.step hm rfl ?_ | exact trivial | exact rfl | (intro hh; try simp only [decide_eq_true_eq, decide_eq_false_iff_not, beq_iff_eq, beq_eq_false_iff_ne, bne_iff_ne, bne_eq_false_iff_eq, Bool.not_eq_true', Bool.not_eq_false', Bool.not_true, Bool.not_false] at hh))); all_goals (conv => whnf)
  (refine RetN.intro () [0, 1] rfl rfl ?_ ?_ ?_; ((repeat' (first | exact rfl | exact trivial | refine And.intro ?_ ?_ | ((conv => whnf); first | exact rfl | exact trivial | refine And.intro ?_ ?_)))); ((repeat' (first | exact rfl | exact trivial | refine And.intro ?_ ?_ | ((conv => whnf); first | exact rfl | exact trivial | refine And.intro ?_ ?_))); all_goals (conv => whnf); all_goals (try simp only [])))
theorem write0 (t : Bytes) (wrong : Bool) (ht : t.length ≤ 1000000) : Meets Try.prog 61 [.ptr 0 0, .str fun _ => t] (w0 wrong) (Y := Unit) (fun _ => True) (fun _ => .tup [.int .i64 fun _ => t.length, .inil]) (fun _ => wN t wrong) := by
  refine Meets.intro hm (fn := Try.f61) Try.func61 rfl (by decide) (Nat.le_of_ble_eq_true rfl) (fun _ => rfl) ?_; intro S hok; (conv => whnf)
  (repeat' ((conv => whnf); first | refine And.intro ?_ ?_ | exact Cl.mk (by kernel_rfl) | exact Ck.mk (by kernel_rfl) | refine DrawN.mk ?_ | refine CodeN.step hm rfl ?_ | exact trivial | exact rfl | (intro hh; try simp only [decide_eq_true_eq, decide_eq_false_iff_not, beq_iff_eq, beq_eq_false_iff_ne, bne_iff_ne, bne_eq_false_iff_eq, Bool.not_eq_true', Bool.not_eq_false', Bool.not_true, Bool.not_false] at hh))); all_goals (conv => whnf)
  (refine CallN.intro (check0 wrong) [0] rfl rfl ?_ ?_ ?_; ((repeat' (first | exact rfl | exact trivial | refine And.intro ?_ ?_ | ((conv => whnf); first | exact rfl | exact trivial | refine And.intro ?_ ?_)))); ((repeat' (first | exact rfl | exact trivial | refine And.intro ?_ ?_ | ((conv => whnf); first | exact rfl | exact trivial | refine And.intro ?_ ?_)))); (intro y hy; clear y hy; (repeat' ((conv => whnf); first | refine And.intro ?_ ?_ | exact Cl.mk (by kernel_rfl) | exact Ck.mk (by kernel_rfl) | refine DrawN.mk ?_ | refine CodeN.step hm rfl ?_ | exact trivial | exact rfl | (intro hh; try simp only [decide_eq_true_eq, decide_eq_false_iff_not, beq_iff_eq, beq_eq_false_iff_ne, bne_iff_ne, bne_eq_false_iff_eq, Bool.not_eq_true', Bool.not_eq_false', Bool.not_true, Bool.not_false] at hh; try exact absurd hh (by decide)))); all_goals (conv => whnf); (all_goals first | (exact Ob.mk (by decide)) | skip)))
  · exact Ob.mk (by simp only []; omega)
  · (refine RetN.intro () [0, 1] rfl rfl ?_ ?_ ?_; ((repeat' (first | exact rfl | exact trivial | refine And.intro ?_ ?_ | ((conv => whnf); first | exact rfl | exact trivial | refine And.intro ?_ ?_)))); ((repeat' (first | exact rfl | exact trivial | refine And.intro ?_ ?_ | ((conv => whnf); first | exact rfl | exact trivial | refine And.intro ?_ ?_))); all_goals (conv => whnf); all_goals (try simp only [])))
theorem writeN (s t : Bytes) (wrong : Bool) (ht : s.length + t.length ≤ 1000000) : Meets Try.prog 61 [.ptr 0 0, .str fun _ => t] (wN s wrong) (Y := Unit) (fun _ => True) (fun _ => .tup [.int .i64 fun _ => t.length, .inil]) (fun _ => wN (s ++ t) wrong) := by
  refine Meets.intro hm (fn := Try.f61) Try.func61 rfl (by decide) (Nat.le_of_ble_eq_true rfl) (fun _ => rfl) ?_; intro S hok; (conv => whnf)
  (repeat' ((conv => whnf); first | refine And.intro ?_ ?_ | exact Cl.mk (by kernel_rfl) | exact Ck.mk (by kernel_rfl) | refine DrawN.mk ?_ | refine CodeN.step hm rfl ?_ | exact trivial | exact rfl | (intro hh; try simp only [decide_eq_true_eq, decide_eq_false_iff_not, beq_iff_eq, beq_eq_false_iff_ne, bne_iff_ne, bne_eq_false_iff_eq, Bool.not_eq_true', Bool.not_eq_false', Bool.not_true, Bool.not_false] at hh))); all_goals (conv => whnf)
  (refine CallN.intro (checkN s wrong) [0, 1] rfl rfl ?_ ?_ ?_; ((repeat' (first | exact rfl | exact trivial | refine And.intro ?_ ?_ | ((conv => whnf); first | exact rfl | exact trivial | refine And.intro ?_ ?_)))); ((repeat' (first | exact rfl | exact trivial | refine And.intro ?_ ?_ | ((conv => whnf); first | exact rfl | exact trivial | refine And.intro ?_ ?_)))); (intro y hy; clear y hy; (repeat' ((conv => whnf); first | refine And.intro ?_ ?_ | exact Cl.mk (by kernel_rfl) | exact Ck.mk (by kernel_rfl) | refine DrawN.mk ?_ | refine CodeN.step hm rfl ?_ | exact trivial | exact rfl | (intro hh; try simp only [decide_eq_true_eq, decide_eq_false_iff_not, beq_iff_eq, beq_eq_false_iff_ne, bne_iff_ne, bne_eq_false_iff_eq, Bool.not_eq_true', Bool.not_eq_false', Bool.not_true, Bool.not_false] at hh; try exact absurd hh (by decide)))); all_goals (conv => whnf); (all_goals first | (exact Ob.mk (by decide)) | skip)))
  · exact Ob.mk ⟨rfl, by simp only []; omega⟩
  · (refine RetN.intro () [0, 1] rfl rfl ?_ ?_ ?_; ((repeat' (first | exact rfl | exact trivial | refine And.intro ?_ ?_ | ((conv => whnf); first | exact rfl | exact trivial | refine And.intro ?_ ?_)))); ((repeat' (first | exact rfl | exact trivial | refine And.intro ?_ ?_ | ((conv => whnf); first | exact rfl | exact trivial | refine And.intro ?_ ?_))); all_goals (conv => whnf); all_goals (try simp only [])))
    all_goals first | (rw [byv_app, ← byv_len s, List.take_length]; rfl) | (rw [List.length_append]) | skip
theorem stringN (s : Bytes) (wrong : Bool) (hs : 0 < s.length ∧ s.length ≤ 1000000) : Meets Try.prog 62 [.ptr 0 0] (wN s wrong) (Y := Unit) (fun _ => True) (fun _ => .str fun _ => s) (fun _ => [.cells 104 [.undef, .undef, .bool fun _ => wrong], .none]) := by
  refine Meets.intro hm (fn := Try.f62) Try.func62 rfl (by decide) (Nat.le_of_ble_eq_true rfl) (fun _ => rfl) ?_; intro S hok; (conv => whnf)
  (repeat' ((conv => whnf); first | refine And.intro ?_ ?_ | exact Cl.mk (by kernel_rfl) | exact Ck.mk (by kernel_rfl) | refine DrawN.mk ?_ | refine CodeN.step hm rfl ?_ | exact trivial | exact rfl | (intro hh; try simp only [decide_eq_true_eq, decide_eq_false_iff_not, beq_iff_eq, beq_eq_false_iff_ne, bne_iff_ne, bne_eq_false_iff_eq, Bool.not_eq_true', Bool.not_eq_false', Bool.not_true, Bool.not_false] at hh))); all_goals (conv => whnf)
  · exact Ob.mk ⟨rfl, by simp only []; omega⟩
  · exact Ob.mk ⟨rfl, by simp only []; omega, by simp only [byv_len]; omega, by simp only [byv_len]; omega, byv_range s⟩
  · (refine RetN.intro () [0, 1] rfl rfl ?_ ?_ ?_; ((repeat' (first | exact rfl | exact trivial | refine And.intro ?_ ?_ | ((conv => whnf); first | exact rfl | exact trivial | refine And.intro ?_ ?_)))); ((repeat' (first | exact rfl | exact trivial | refine And.intro ?_ ?_ | ((conv => whnf); first | exact rfl | exact trivial | refine And.intro ?_ ?_))); all_goals (conv => whnf); all_goals (try simp only [])))
    rw [Int.toNat_natCast, ← byv_len s, List.take_length]; exact byv_back s
end Go.Proofs.Ytoipgandilhdeaa.An
set_option linter.unusedVariables false
set_option linter.unusedSimpArgs false
namespace Go.Proofs.Ytoipgandilhdeaa.An
open Go Go.RowKit Fw Nu
def fitsB (n : Int) (w : Nat) : Bool := decide (0 ≤ n) && decide (n < (256 : Int) ^ w)
/-- Numbers, each with its width: their bytes, and whether one does not fit. -/
def wides (l : List (Int × Nat)) : Bytes := l.flatMap fun x => wide (IntKind.u64.wrap x.1) x.2
def bads (l : List (Int × Nat)) : Bool := l.any fun x => !fitsB x.1 x.2
theorem wides_step (l : List (Int × Nat)) (i : Nat) (x : Int × Nat) (h : l[i]? = some x) (s : Bytes) : s ++ wides (l.take i) ++ wide (IntKind.u64.wrap x.1) x.2 = s ++ wides (l.take (i + 1)) := by
  rw [List.take_add_one, h, wides, wides, List.flatMap_append, List.append_assoc]
  simp
theorem bads_step (l : List (Int × Nat)) (i : Nat) (x : Int × Nat) (h : l[i]? = some x) : bads (l.take (i + 1)) = (bads (l.take i) || !fitsB x.1 x.2) := by
  rw [List.take_add_one, h, bads, bads, List.any_append]
  simp
theorem wides_len (l : List (Int × Nat)) : (wides l).length = (l.map (·.2)).sum := by
  induction l with
  | nil => rfl
  | cons x r ih => simp only [wides, List.flatMap_cons, List.length_append, wide_len, List.map_cons, List.sum_cons] at ih ⊢; rw [ih]
theorem shr_ne {n : Int} {w : Nat} (hw : w ≤ 7) (h0 : 0 ≤ n) : (n.fdiv (2 ^ (min (8 * (w : Int)).toNat IntKind.i64.bits)) ≠ 0) ↔ fitsB n w = false := by
  have e : min (8 * (w : Int)).toNat IntKind.i64.bits = 8 * w := by
    have : IntKind.i64.bits = 64 := rfl
    omega
  rw [e, Int.fdiv_eq_ediv_of_nonneg _ (Int.le_of_lt (Int.pow_pos (by decide))), Int.pow_mul]
  have e2 : ((2 : Int) ^ 8) = 256 := by decide
  rw [e2, fitsB, decide_eq_true h0, Bool.true_and, decide_eq_false_iff_not]
  have hp : (0 : Int) < (256 : Int) ^ w := Int.pow_pos (by decide)
  constructor
  · intro h hlt
    exact h (Int.ediv_eq_zero_of_lt h0 hlt)
  · intro h e
    apply h
    have := Int.lt_ediv_add_one_mul_self n hp
    rw [e] at this
    simpa using this
theorem fits_neg {n : Int} {w : Nat} (h : n < 0) : fitsB n w = false := by
  rw [fitsB, decide_eq_false (by omega)]; rfl
abbrev VerT : Ty := .pair .bool (.pair (.int .i64) (.pair (.int .i64) (.int .i64)))
abbrev ToldT : Ty := .pair (.int .i64) VerT
abbrev Told := Int × Bool × Int × Int × Int
abbrev NameT : Ty := .pair (.int .i64) .str
abbrev Name := Int × Bytes
abbrev PolT : Ty := .pair (.int .i64) (.pair (.int .i64) (.pair (.int .i64) (.int .i64)))
abbrev AnsT : Ty := .pair (.int .i64) (.pair (.int .i64) (.pair (.list ToldT) (.pair (.int .i64) (.pair PolT (.pair (.int .i64) (.pair (.int .i64) (.list NameT)))))))
abbrev Ans := Int × Int × List Told × Int × (Int × Int × Int × Int) × Int × Int × List Name
end Go.Proofs.Ytoipgandilhdeaa.An
set_option linter.unusedVariables false
set_option linter.unusedSimpArgs false
namespace Go.Proofs.Ytoipgandilhdeaa.An
open Go Go.RowKit Fw Nu
theorem bad_step {l : List (Int × Nat)} {i : Nat} {x : Int × Nat} {wrong f f' : Bool} (h : l[i]? = some x) (hf : f = (wrong || bads (l.take i)))
    (hc : (f = true ∧ f' = true) ∨ (x.1 < 0 ∧ f' = true) ∨ (f = false ∧ ¬ x.1 < 0 ∧ f' = (x.1.fdiv (2 ^ (min (IntKind.i64.wrap (8 * (x.2 : Int))).toNat IntKind.i64.bits)) != 0))) (hw : x.2 ≤ 7) : f' = (wrong || bads (l.take (i + 1))) := by
  rw [bads_step l i x h, ← Bool.or_assoc, ← hf]
  rcases hc with ⟨h1, h2⟩ | ⟨h1, h2⟩ | ⟨h1, h2, h3⟩
  · rw [h1, h2]; rfl
  · rw [h2, fits_neg h1]; simp
  · rw [h1, h3, Bool.false_or]
    have e : IntKind.i64.wrap (8 * (x.2 : Int)) = 8 * (x.2 : Int) := wr (by omega)
    rw [e, Bool.eq_iff_iff]
    have := shr_ne (n := x.1) hw (by omega)
    simp only [bne_iff_ne, this, Bool.not_eq_true']
/-- One number. -/
theorem oneM (s : Bytes) (wrong : Bool) (n : Int) (hs : s.length ≤ 900000) : Meets Try.prog 57 [.ptr 0 0, .vec 2 2 (fun _ => 0) fun _ => 1]
    (wN s wrong ++ [.cells 109 [.ptr 3 0, .int .i64 fun _ => 1], .cells 3 [.int .i64 fun _ => n]]) (Y := Unit) (fun _ => True) (fun _ => .tup []) (fun _ => wN (s ++ wides [(n, 1)]) (wrong || bads [(n, 1)]) ++ [.none, .cells 3 [.int .i64 fun _ => n]]) := by
  refine Meets.intro hm (fn := Try.f57) Try.func57 rfl (by decide) (Nat.le_of_ble_eq_true rfl) (fun _ => rfl) ?_; intro S hok; (conv => whnf)
  (repeat' ((conv => whnf); first | refine And.intro ?_ ?_ | exact Cl.mk (by kernel_rfl) | exact Ck.mk (by kernel_rfl) | refine DrawN.mk ?_ | refine CodeN.step hm rfl ?_ | exact trivial | exact rfl | (intro hh; try simp only [decide_eq_true_eq, decide_eq_false_iff_not, beq_iff_eq, beq_eq_false_iff_ne, bne_iff_ne, bne_eq_false_iff_eq, Bool.not_eq_true', Bool.not_eq_false', Bool.not_true, Bool.not_false] at hh))); all_goals (conv => whnf)
  refine LoopN.intro hm (X := Nat × Bytes × Bool) (fun x => x.1 ≤ 1 ∧ x.2.1 = s ++ wides ([(n, 1)].take x.1) ∧ x.2.2 = (wrong || bads ([(n, 1)].take x.1))) (fun x => 1 - x.1)
    (fun x => [(8, .int .i64 fun _ => (x.1 : Int)), (7, .int .i64 fun _ => 1), (6, .vec 2 2 (fun _ => 0) fun _ => 1), (0, .ptr 0 0)])
    (fun x => [.cells 104 [.ptr 0 0, .vec 1 1 (fun _ => 0) (fun _ => x.2.1.length), .bool fun _ => x.2.2], .vect 5 (.int .u8) fun _ => byv x.2.1, .cells 109 [.ptr 3 0, .int .i64 fun _ => 1], .cells 3 [.int .i64 fun _ => n]]) (0, s, wrong) [0, 1, 2, 3] ⟨rfl, rfl, ?_, ?_⟩ ⟨Nat.zero_le _, by simp [wides], by simp [bads]⟩ (fun x hx => ?_)
  · (repeat' (first | exact rfl | exact trivial | refine And.intro ?_ ?_ | ((conv => whnf); first | exact rfl | exact trivial | refine And.intro ?_ ?_)))
  · (repeat' (first | exact rfl | exact trivial | refine And.intro ?_ ?_ | ((conv => whnf); first | exact rfl | exact trivial | refine And.intro ?_ ?_)))
  · obtain ⟨i, b, f⟩ := x
    obtain ⟨hi, hb, hf⟩ := hx
    simp only [] at hi hb hf
    have hbl : b.length ≤ 990000 := by
      have h1 : (wides ([(n, 1)].take i)).length ≤ 100 := by
        rw [wides_len]; revert hi; clear hb hf; intro hi
        obtain rfl | rfl : i = 0 ∨ i = 1 := by omega
        all_goals (simp only [List.take, List.map, List.sum_cons, List.sum_nil]; omega)
      rw [hb, List.length_append]; omega
    obtain rfl | rfl : i = 0 ∨ i = 1 := by omega
    · have hx : [(n, 1)][0]? = some (n, 1) := rfl
      (repeat' ((conv => whnf); first | refine And.intro ?_ ?_ | exact Cl.mk (by kernel_rfl) | exact Ck.mk (by kernel_rfl) | refine DrawN.mk ?_ | refine CodeN.step hm rfl ?_ | exact trivial | exact rfl | (intro hh; try simp only [decide_eq_true_eq, decide_eq_false_iff_not, beq_iff_eq, beq_eq_false_iff_ne, bne_iff_ne, bne_eq_false_iff_eq, Bool.not_eq_true', Bool.not_eq_false', Bool.not_true, Bool.not_false] at hh))); all_goals (conv => whnf)
      all_goals first | (exact Ob.mk (by decide)) | (exact Ob.mk (by simp)) | skip
      rotate_right
      · exact absurd (by decide) hh
      · (refine CallN.intro (wideM (IntKind.u64.wrap (n)) 1 (by omega)) [] rfl rfl ?_ ?_ ?_; ((repeat' (first | exact rfl | exact trivial | refine And.intro ?_ ?_ | ((conv => whnf); first | exact rfl | exact trivial | refine And.intro ?_ ?_)))); ((repeat' (first | exact rfl | exact trivial | refine And.intro ?_ ?_ | ((conv => whnf); first | exact rfl | exact trivial | refine And.intro ?_ ?_)))); (intro y hy; clear y hy; (repeat' ((conv => whnf); first | refine And.intro ?_ ?_ | exact Cl.mk (by kernel_rfl) | exact Ck.mk (by kernel_rfl) | refine DrawN.mk ?_ | refine CodeN.step hm rfl ?_ | exact trivial | exact rfl | (intro hh; try simp only [decide_eq_true_eq, decide_eq_false_iff_not, beq_iff_eq, beq_eq_false_iff_ne, bne_iff_ne, bne_eq_false_iff_eq, Bool.not_eq_true', Bool.not_eq_false', Bool.not_true, Bool.not_false] at hh; try exact absurd hh (by decide)))); all_goals (conv => whnf); (all_goals first | (exact Ob.mk (by decide)) | skip)))
        (refine CallN.intro (writeN b (wide (IntKind.u64.wrap (n)) 1) ((n).fdiv (2 ^ (min (IntKind.i64.wrap (8 * 1)).toNat IntKind.i64.bits)) != 0) (by rw [wide_len]; omega)) [0, 1] rfl rfl ?_ ?_ ?_; ((repeat' (first | exact rfl | exact trivial | refine And.intro ?_ ?_ | ((conv => whnf); first | exact rfl | exact trivial | refine And.intro ?_ ?_)))); ((repeat' (first | exact rfl | exact trivial | refine And.intro ?_ ?_ | ((conv => whnf); first | exact rfl | exact trivial | refine And.intro ?_ ?_)))); (intro y hy; clear y hy; (repeat' ((conv => whnf); first | refine And.intro ?_ ?_ | exact Cl.mk (by kernel_rfl) | exact Ck.mk (by kernel_rfl) | refine DrawN.mk ?_ | refine CodeN.step hm rfl ?_ | exact trivial | exact rfl | (intro hh; try simp only [decide_eq_true_eq, decide_eq_false_iff_not, beq_iff_eq, beq_eq_false_iff_ne, bne_iff_ne, bne_eq_false_iff_eq, Bool.not_eq_true', Bool.not_eq_false', Bool.not_true, Bool.not_false] at hh; try exact absurd hh (by decide)))); all_goals (conv => whnf); (all_goals first | (exact Ob.mk (by decide)) | skip)))
        refine ⟨(1, b ++ wide (IntKind.u64.wrap (n)) 1, ((n).fdiv (2 ^ (min (IntKind.i64.wrap (8 * 1)).toNat IntKind.i64.bits)) != 0)), [0, 1, 2, 3], ⟨rfl, rfl, ?_, ?_⟩, ⟨by simp only []; omega, ?_, ?_⟩, by simp only []; omega⟩
        · (repeat' (first | exact rfl | exact trivial | refine And.intro ?_ ?_ | ((conv => whnf); first | exact rfl | exact trivial | refine And.intro ?_ ?_)))
        · (repeat' (first | exact rfl | exact trivial | refine And.intro ?_ ?_ | ((conv => whnf); first | exact rfl | exact trivial | refine And.intro ?_ ?_)))
        · simp only []; rw [hb]; exact wides_step _ 0 _ hx _
        · exact bad_step hx hf (.inr (.inr ⟨by assumption, by assumption, rfl⟩)) (Nat.le_of_ble_eq_true rfl)
      · (refine CallN.intro (wideM (IntKind.u64.wrap (n)) 1 (by omega)) [] rfl rfl ?_ ?_ ?_; ((repeat' (first | exact rfl | exact trivial | refine And.intro ?_ ?_ | ((conv => whnf); first | exact rfl | exact trivial | refine And.intro ?_ ?_)))); ((repeat' (first | exact rfl | exact trivial | refine And.intro ?_ ?_ | ((conv => whnf); first | exact rfl | exact trivial | refine And.intro ?_ ?_)))); (intro y hy; clear y hy; (repeat' ((conv => whnf); first | refine And.intro ?_ ?_ | exact Cl.mk (by kernel_rfl) | exact Ck.mk (by kernel_rfl) | refine DrawN.mk ?_ | refine CodeN.step hm rfl ?_ | exact trivial | exact rfl | (intro hh; try simp only [decide_eq_true_eq, decide_eq_false_iff_not, beq_iff_eq, beq_eq_false_iff_ne, bne_iff_ne, bne_eq_false_iff_eq, Bool.not_eq_true', Bool.not_eq_false', Bool.not_true, Bool.not_false] at hh; try exact absurd hh (by decide)))); all_goals (conv => whnf); (all_goals first | (exact Ob.mk (by decide)) | skip)))
        (refine CallN.intro (writeN b (wide (IntKind.u64.wrap (n)) 1) true (by rw [wide_len]; omega)) [0, 1] rfl rfl ?_ ?_ ?_; ((repeat' (first | exact rfl | exact trivial | refine And.intro ?_ ?_ | ((conv => whnf); first | exact rfl | exact trivial | refine And.intro ?_ ?_)))); ((repeat' (first | exact rfl | exact trivial | refine And.intro ?_ ?_ | ((conv => whnf); first | exact rfl | exact trivial | refine And.intro ?_ ?_)))); (intro y hy; clear y hy; (repeat' ((conv => whnf); first | refine And.intro ?_ ?_ | exact Cl.mk (by kernel_rfl) | exact Ck.mk (by kernel_rfl) | refine DrawN.mk ?_ | refine CodeN.step hm rfl ?_ | exact trivial | exact rfl | (intro hh; try simp only [decide_eq_true_eq, decide_eq_false_iff_not, beq_iff_eq, beq_eq_false_iff_ne, bne_iff_ne, bne_eq_false_iff_eq, Bool.not_eq_true', Bool.not_eq_false', Bool.not_true, Bool.not_false] at hh; try exact absurd hh (by decide)))); all_goals (conv => whnf); (all_goals first | (exact Ob.mk (by decide)) | skip)))
        refine ⟨(1, b ++ wide (IntKind.u64.wrap (n)) 1, true), [0, 1, 2, 3], ⟨rfl, rfl, ?_, ?_⟩, ⟨by simp only []; omega, ?_, ?_⟩, by simp only []; omega⟩
        · (repeat' (first | exact rfl | exact trivial | refine And.intro ?_ ?_ | ((conv => whnf); first | exact rfl | exact trivial | refine And.intro ?_ ?_)))
        · (repeat' (first | exact rfl | exact trivial | refine And.intro ?_ ?_ | ((conv => whnf); first | exact rfl | exact trivial | refine And.intro ?_ ?_)))
        · simp only []; rw [hb]; exact wides_step _ 0 _ hx _
        · exact bad_step hx hf (.inr (.inl ⟨by assumption, rfl⟩)) (Nat.le_of_ble_eq_true rfl)
      · (refine CallN.intro (wideM (IntKind.u64.wrap (n)) 1 (by omega)) [] rfl rfl ?_ ?_ ?_; ((repeat' (first | exact rfl | exact trivial | refine And.intro ?_ ?_ | ((conv => whnf); first | exact rfl | exact trivial | refine And.intro ?_ ?_)))); ((repeat' (first | exact rfl | exact trivial | refine And.intro ?_ ?_ | ((conv => whnf); first | exact rfl | exact trivial | refine And.intro ?_ ?_)))); (intro y hy; clear y hy; (repeat' ((conv => whnf); first | refine And.intro ?_ ?_ | exact Cl.mk (by kernel_rfl) | exact Ck.mk (by kernel_rfl) | refine DrawN.mk ?_ | refine CodeN.step hm rfl ?_ | exact trivial | exact rfl | (intro hh; try simp only [decide_eq_true_eq, decide_eq_false_iff_not, beq_iff_eq, beq_eq_false_iff_ne, bne_iff_ne, bne_eq_false_iff_eq, Bool.not_eq_true', Bool.not_eq_false', Bool.not_true, Bool.not_false] at hh; try exact absurd hh (by decide)))); all_goals (conv => whnf); (all_goals first | (exact Ob.mk (by decide)) | skip)))
        (refine CallN.intro (writeN b (wide (IntKind.u64.wrap (n)) 1) true (by rw [wide_len]; omega)) [0, 1] rfl rfl ?_ ?_ ?_; ((repeat' (first | exact rfl | exact trivial | refine And.intro ?_ ?_ | ((conv => whnf); first | exact rfl | exact trivial | refine And.intro ?_ ?_)))); ((repeat' (first | exact rfl | exact trivial | refine And.intro ?_ ?_ | ((conv => whnf); first | exact rfl | exact trivial | refine And.intro ?_ ?_)))); (intro y hy; clear y hy; (repeat' ((conv => whnf); first | refine And.intro ?_ ?_ | exact Cl.mk (by kernel_rfl) | exact Ck.mk (by kernel_rfl) | refine DrawN.mk ?_ | refine CodeN.step hm rfl ?_ | exact trivial | exact rfl | (intro hh; try simp only [decide_eq_true_eq, decide_eq_false_iff_not, beq_iff_eq, beq_eq_false_iff_ne, bne_iff_ne, bne_eq_false_iff_eq, Bool.not_eq_true', Bool.not_eq_false', Bool.not_true, Bool.not_false] at hh; try exact absurd hh (by decide)))); all_goals (conv => whnf); (all_goals first | (exact Ob.mk (by decide)) | skip)))
        refine ⟨(1, b ++ wide (IntKind.u64.wrap (n)) 1, true), [0, 1, 2, 3], ⟨rfl, rfl, ?_, ?_⟩, ⟨by simp only []; omega, ?_, ?_⟩, by simp only []; omega⟩
        · (repeat' (first | exact rfl | exact trivial | refine And.intro ?_ ?_ | ((conv => whnf); first | exact rfl | exact trivial | refine And.intro ?_ ?_)))
        · (repeat' (first | exact rfl | exact trivial | refine And.intro ?_ ?_ | ((conv => whnf); first | exact rfl | exact trivial | refine And.intro ?_ ?_)))
        · simp only []; rw [hb]; exact wides_step _ 0 _ hx _
        · exact bad_step hx hf (.inl ⟨by assumption, rfl⟩) (Nat.le_of_ble_eq_true rfl)
    · (repeat' ((conv => whnf); first | refine And.intro ?_ ?_ | exact Cl.mk (by kernel_rfl) | exact Ck.mk (by kernel_rfl) | refine DrawN.mk ?_ | refine CodeN.step hm rfl ?_ | exact trivial | exact rfl | (intro hh; try simp only [decide_eq_true_eq, decide_eq_false_iff_not, beq_iff_eq, beq_eq_false_iff_ne, bne_iff_ne, bne_eq_false_iff_eq, Bool.not_eq_true', Bool.not_eq_false', Bool.not_true, Bool.not_false] at hh))); all_goals (conv => whnf)
      all_goals first | (exfalso; exact absurd hh (by decide)) | skip
      rw [List.take_of_length_le (by simp)] at hb hf
      (refine RetN.intro () [0, 1, 2, 3] rfl rfl ?_ ?_ ?_; ((repeat' (first | exact rfl | exact trivial | refine And.intro ?_ ?_ | ((conv => whnf); first | exact rfl | exact trivial | refine And.intro ?_ ?_)))); ((repeat' (first | exact rfl | exact trivial | refine And.intro ?_ ?_ | ((conv => whnf); first | exact rfl | exact trivial | refine And.intro ?_ ?_))); all_goals (conv => whnf); all_goals (try simp only [])))
      all_goals simp only [hb, hf, List.nil_append, Bool.false_or]
/-- A name's book. -/
theorem bookM (s : Bytes) (wrong : Bool) (n : Int) (key : Bytes) (hs : s.length ≤ 900000) : Meets Try.prog 57 [.ptr 0 0, .vec 2 2 (fun _ => 0) fun _ => 1]
    (wN s wrong ++ [.cells 109 [.ptr 3 0, .int .i64 fun _ => 1], .cells 39 [.int .i64 fun _ => n, .str fun _ => key]]) (Y := Unit) (fun _ => True) (fun _ => .tup []) (fun _ => wN (s ++ wides [(n, 1)]) (wrong || bads [(n, 1)]) ++ [.none, .cells 39 [.int .i64 fun _ => n, .str fun _ => key]]) := by
  refine Meets.intro hm (fn := Try.f57) Try.func57 rfl (by decide) (Nat.le_of_ble_eq_true rfl) (fun _ => rfl) ?_; intro S hok; (conv => whnf)
  (repeat' ((conv => whnf); first | refine And.intro ?_ ?_ | exact Cl.mk (by kernel_rfl) | exact Ck.mk (by kernel_rfl) | refine DrawN.mk ?_ | refine CodeN.step hm rfl ?_ | exact trivial | exact rfl | (intro hh; try simp only [decide_eq_true_eq, decide_eq_false_iff_not, beq_iff_eq, beq_eq_false_iff_ne, bne_iff_ne, bne_eq_false_iff_eq, Bool.not_eq_true', Bool.not_eq_false', Bool.not_true, Bool.not_false] at hh))); all_goals (conv => whnf)
  refine LoopN.intro hm (X := Nat × Bytes × Bool) (fun x => x.1 ≤ 1 ∧ x.2.1 = s ++ wides ([(n, 1)].take x.1) ∧ x.2.2 = (wrong || bads ([(n, 1)].take x.1))) (fun x => 1 - x.1)
    (fun x => [(8, .int .i64 fun _ => (x.1 : Int)), (7, .int .i64 fun _ => 1), (6, .vec 2 2 (fun _ => 0) fun _ => 1), (0, .ptr 0 0)])
    (fun x => [.cells 104 [.ptr 0 0, .vec 1 1 (fun _ => 0) (fun _ => x.2.1.length), .bool fun _ => x.2.2], .vect 5 (.int .u8) fun _ => byv x.2.1, .cells 109 [.ptr 3 0, .int .i64 fun _ => 1], .cells 39 [.int .i64 fun _ => n, .str fun _ => key]]) (0, s, wrong) [0, 1, 2, 3] ⟨rfl, rfl, ?_, ?_⟩ ⟨Nat.zero_le _, by simp [wides], by simp [bads]⟩ (fun x hx => ?_)
  · (repeat' (first | exact rfl | exact trivial | refine And.intro ?_ ?_ | ((conv => whnf); first | exact rfl | exact trivial | refine And.intro ?_ ?_)))
  · (repeat' (first | exact rfl | exact trivial | refine And.intro ?_ ?_ | ((conv => whnf); first | exact rfl | exact trivial | refine And.intro ?_ ?_)))
  · obtain ⟨i, b, f⟩ := x
    obtain ⟨hi, hb, hf⟩ := hx
    simp only [] at hi hb hf
    have hbl : b.length ≤ 990000 := by
      have h1 : (wides ([(n, 1)].take i)).length ≤ 100 := by
        rw [wides_len]; revert hi; clear hb hf; intro hi
        obtain rfl | rfl : i = 0 ∨ i = 1 := by omega
        all_goals (simp only [List.take, List.map, List.sum_cons, List.sum_nil]; omega)
      rw [hb, List.length_append]; omega
    obtain rfl | rfl : i = 0 ∨ i = 1 := by omega
    · have hx : [(n, 1)][0]? = some (n, 1) := rfl
      (repeat' ((conv => whnf); first | refine And.intro ?_ ?_ | exact Cl.mk (by kernel_rfl) | exact Ck.mk (by kernel_rfl) | refine DrawN.mk ?_ | refine CodeN.step hm rfl ?_ | exact trivial | exact rfl | (intro hh; try simp only [decide_eq_true_eq, decide_eq_false_iff_not, beq_iff_eq, beq_eq_false_iff_ne, bne_iff_ne, bne_eq_false_iff_eq, Bool.not_eq_true', Bool.not_eq_false', Bool.not_true, Bool.not_false] at hh))); all_goals (conv => whnf)
      all_goals first | (exact Ob.mk (by decide)) | (exact Ob.mk (by simp)) | skip
      rotate_right
      · exact absurd (by decide) hh
      · (refine CallN.intro (wideM (IntKind.u64.wrap (n)) 1 (by omega)) [] rfl rfl ?_ ?_ ?_; ((repeat' (first | exact rfl | exact trivial | refine And.intro ?_ ?_ | ((conv => whnf); first | exact rfl | exact trivial | refine And.intro ?_ ?_)))); ((repeat' (first | exact rfl | exact trivial | refine And.intro ?_ ?_ | ((conv => whnf); first | exact rfl | exact trivial | refine And.intro ?_ ?_)))); (intro y hy; clear y hy; (repeat' ((conv => whnf); first | refine And.intro ?_ ?_ | exact Cl.mk (by kernel_rfl) | exact Ck.mk (by kernel_rfl) | refine DrawN.mk ?_ | refine CodeN.step hm rfl ?_ | exact trivial | exact rfl | (intro hh; try simp only [decide_eq_true_eq, decide_eq_false_iff_not, beq_iff_eq, beq_eq_false_iff_ne, bne_iff_ne, bne_eq_false_iff_eq, Bool.not_eq_true', Bool.not_eq_false', Bool.not_true, Bool.not_false] at hh; try exact absurd hh (by decide)))); all_goals (conv => whnf); (all_goals first | (exact Ob.mk (by decide)) | skip)))
        (refine CallN.intro (writeN b (wide (IntKind.u64.wrap (n)) 1) ((n).fdiv (2 ^ (min (IntKind.i64.wrap (8 * 1)).toNat IntKind.i64.bits)) != 0) (by rw [wide_len]; omega)) [0, 1] rfl rfl ?_ ?_ ?_; ((repeat' (first | exact rfl | exact trivial | refine And.intro ?_ ?_ | ((conv => whnf); first | exact rfl | exact trivial | refine And.intro ?_ ?_)))); ((repeat' (first | exact rfl | exact trivial | refine And.intro ?_ ?_ | ((conv => whnf); first | exact rfl | exact trivial | refine And.intro ?_ ?_)))); (intro y hy; clear y hy; (repeat' ((conv => whnf); first | refine And.intro ?_ ?_ | exact Cl.mk (by kernel_rfl) | exact Ck.mk (by kernel_rfl) | refine DrawN.mk ?_ | refine CodeN.step hm rfl ?_ | exact trivial | exact rfl | (intro hh; try simp only [decide_eq_true_eq, decide_eq_false_iff_not, beq_iff_eq, beq_eq_false_iff_ne, bne_iff_ne, bne_eq_false_iff_eq, Bool.not_eq_true', Bool.not_eq_false', Bool.not_true, Bool.not_false] at hh; try exact absurd hh (by decide)))); all_goals (conv => whnf); (all_goals first | (exact Ob.mk (by decide)) | skip)))
        refine ⟨(1, b ++ wide (IntKind.u64.wrap (n)) 1, ((n).fdiv (2 ^ (min (IntKind.i64.wrap (8 * 1)).toNat IntKind.i64.bits)) != 0)), [0, 1, 2, 3], ⟨rfl, rfl, ?_, ?_⟩, ⟨by simp only []; omega, ?_, ?_⟩, by simp only []; omega⟩
        · (repeat' (first | exact rfl | exact trivial | refine And.intro ?_ ?_ | ((conv => whnf); first | exact rfl | exact trivial | refine And.intro ?_ ?_)))
        · (repeat' (first | exact rfl | exact trivial | refine And.intro ?_ ?_ | ((conv => whnf); first | exact rfl | exact trivial | refine And.intro ?_ ?_)))
        · simp only []; rw [hb]; exact wides_step _ 0 _ hx _
        · exact bad_step hx hf (.inr (.inr ⟨by assumption, by assumption, rfl⟩)) (Nat.le_of_ble_eq_true rfl)
      · (refine CallN.intro (wideM (IntKind.u64.wrap (n)) 1 (by omega)) [] rfl rfl ?_ ?_ ?_; ((repeat' (first | exact rfl | exact trivial | refine And.intro ?_ ?_ | ((conv => whnf); first | exact rfl | exact trivial | refine And.intro ?_ ?_)))); ((repeat' (first | exact rfl | exact trivial | refine And.intro ?_ ?_ | ((conv => whnf); first | exact rfl | exact trivial | refine And.intro ?_ ?_)))); (intro y hy; clear y hy; (repeat' ((conv => whnf); first | refine And.intro ?_ ?_ | exact Cl.mk (by kernel_rfl) | exact Ck.mk (by kernel_rfl) | refine DrawN.mk ?_ | refine CodeN.step hm rfl ?_ | exact trivial | exact rfl | (intro hh; try simp only [decide_eq_true_eq, decide_eq_false_iff_not, beq_iff_eq, beq_eq_false_iff_ne, bne_iff_ne, bne_eq_false_iff_eq, Bool.not_eq_true', Bool.not_eq_false', Bool.not_true, Bool.not_false] at hh; try exact absurd hh (by decide)))); all_goals (conv => whnf); (all_goals first | (exact Ob.mk (by decide)) | skip)))
        (refine CallN.intro (writeN b (wide (IntKind.u64.wrap (n)) 1) true (by rw [wide_len]; omega)) [0, 1] rfl rfl ?_ ?_ ?_; ((repeat' (first | exact rfl | exact trivial | refine And.intro ?_ ?_ | ((conv => whnf); first | exact rfl | exact trivial | refine And.intro ?_ ?_)))); ((repeat' (first | exact rfl | exact trivial | refine And.intro ?_ ?_ | ((conv => whnf); first | exact rfl | exact trivial | refine And.intro ?_ ?_)))); (intro y hy; clear y hy; (repeat' ((conv => whnf); first | refine And.intro ?_ ?_ | exact Cl.mk (by kernel_rfl) | exact Ck.mk (by kernel_rfl) | refine DrawN.mk ?_ | refine CodeN.step hm rfl ?_ | exact trivial | exact rfl | (intro hh; try simp only [decide_eq_true_eq, decide_eq_false_iff_not, beq_iff_eq, beq_eq_false_iff_ne, bne_iff_ne, bne_eq_false_iff_eq, Bool.not_eq_true', Bool.not_eq_false', Bool.not_true, Bool.not_false] at hh; try exact absurd hh (by decide)))); all_goals (conv => whnf); (all_goals first | (exact Ob.mk (by decide)) | skip)))
        refine ⟨(1, b ++ wide (IntKind.u64.wrap (n)) 1, true), [0, 1, 2, 3], ⟨rfl, rfl, ?_, ?_⟩, ⟨by simp only []; omega, ?_, ?_⟩, by simp only []; omega⟩
        · (repeat' (first | exact rfl | exact trivial | refine And.intro ?_ ?_ | ((conv => whnf); first | exact rfl | exact trivial | refine And.intro ?_ ?_)))
        · (repeat' (first | exact rfl | exact trivial | refine And.intro ?_ ?_ | ((conv => whnf); first | exact rfl | exact trivial | refine And.intro ?_ ?_)))
        · simp only []; rw [hb]; exact wides_step _ 0 _ hx _
        · exact bad_step hx hf (.inr (.inl ⟨by assumption, rfl⟩)) (Nat.le_of_ble_eq_true rfl)
      · (refine CallN.intro (wideM (IntKind.u64.wrap (n)) 1 (by omega)) [] rfl rfl ?_ ?_ ?_; ((repeat' (first | exact rfl | exact trivial | refine And.intro ?_ ?_ | ((conv => whnf); first | exact rfl | exact trivial | refine And.intro ?_ ?_)))); ((repeat' (first | exact rfl | exact trivial | refine And.intro ?_ ?_ | ((conv => whnf); first | exact rfl | exact trivial | refine And.intro ?_ ?_)))); (intro y hy; clear y hy; (repeat' ((conv => whnf); first | refine And.intro ?_ ?_ | exact Cl.mk (by kernel_rfl) | exact Ck.mk (by kernel_rfl) | refine DrawN.mk ?_ | refine CodeN.step hm rfl ?_ | exact trivial | exact rfl | (intro hh; try simp only [decide_eq_true_eq, decide_eq_false_iff_not, beq_iff_eq, beq_eq_false_iff_ne, bne_iff_ne, bne_eq_false_iff_eq, Bool.not_eq_true', Bool.not_eq_false', Bool.not_true, Bool.not_false] at hh; try exact absurd hh (by decide)))); all_goals (conv => whnf); (all_goals first | (exact Ob.mk (by decide)) | skip)))
        (refine CallN.intro (writeN b (wide (IntKind.u64.wrap (n)) 1) true (by rw [wide_len]; omega)) [0, 1] rfl rfl ?_ ?_ ?_; ((repeat' (first | exact rfl | exact trivial | refine And.intro ?_ ?_ | ((conv => whnf); first | exact rfl | exact trivial | refine And.intro ?_ ?_)))); ((repeat' (first | exact rfl | exact trivial | refine And.intro ?_ ?_ | ((conv => whnf); first | exact rfl | exact trivial | refine And.intro ?_ ?_)))); (intro y hy; clear y hy; (repeat' ((conv => whnf); first | refine And.intro ?_ ?_ | exact Cl.mk (by kernel_rfl) | exact Ck.mk (by kernel_rfl) | refine DrawN.mk ?_ | refine CodeN.step hm rfl ?_ | exact trivial | exact rfl | (intro hh; try simp only [decide_eq_true_eq, decide_eq_false_iff_not, beq_iff_eq, beq_eq_false_iff_ne, bne_iff_ne, bne_eq_false_iff_eq, Bool.not_eq_true', Bool.not_eq_false', Bool.not_true, Bool.not_false] at hh; try exact absurd hh (by decide)))); all_goals (conv => whnf); (all_goals first | (exact Ob.mk (by decide)) | skip)))
        refine ⟨(1, b ++ wide (IntKind.u64.wrap (n)) 1, true), [0, 1, 2, 3], ⟨rfl, rfl, ?_, ?_⟩, ⟨by simp only []; omega, ?_, ?_⟩, by simp only []; omega⟩
        · (repeat' (first | exact rfl | exact trivial | refine And.intro ?_ ?_ | ((conv => whnf); first | exact rfl | exact trivial | refine And.intro ?_ ?_)))
        · (repeat' (first | exact rfl | exact trivial | refine And.intro ?_ ?_ | ((conv => whnf); first | exact rfl | exact trivial | refine And.intro ?_ ?_)))
        · simp only []; rw [hb]; exact wides_step _ 0 _ hx _
        · exact bad_step hx hf (.inl ⟨by assumption, rfl⟩) (Nat.le_of_ble_eq_true rfl)
    · (repeat' ((conv => whnf); first | refine And.intro ?_ ?_ | exact Cl.mk (by kernel_rfl) | exact Ck.mk (by kernel_rfl) | refine DrawN.mk ?_ | refine CodeN.step hm rfl ?_ | exact trivial | exact rfl | (intro hh; try simp only [decide_eq_true_eq, decide_eq_false_iff_not, beq_iff_eq, beq_eq_false_iff_ne, bne_iff_ne, bne_eq_false_iff_eq, Bool.not_eq_true', Bool.not_eq_false', Bool.not_true, Bool.not_false] at hh))); all_goals (conv => whnf)
      all_goals first | (exfalso; exact absurd hh (by decide)) | skip
      rw [List.take_of_length_le (by simp)] at hb hf
      (refine RetN.intro () [0, 1, 2, 3] rfl rfl ?_ ?_ ?_; ((repeat' (first | exact rfl | exact trivial | refine And.intro ?_ ?_ | ((conv => whnf); first | exact rfl | exact trivial | refine And.intro ?_ ?_)))); ((repeat' (first | exact rfl | exact trivial | refine And.intro ?_ ?_ | ((conv => whnf); first | exact rfl | exact trivial | refine And.intro ?_ ?_))); all_goals (conv => whnf); all_goals (try simp only [])))
      all_goals simp only [hb, hf, List.nil_append, Bool.false_or]
/-- A told thing. -/
theorem toldM (s : Bytes) (wrong : Bool) (c a : Int) (al : Bool) (c0 r1 r2 r3 : Int) (hs : s.length ≤ 900000) : Meets Try.prog 57 [.ptr 0 0, .vec 2 2 (fun _ => 0) fun _ => 5]
    (wN s wrong ++ [.cells 109 [.ptr 4 0, .int .i64 fun _ => 1, .ptr 5 0, .int .i64 fun _ => 1, .ptr 3 2, .int .i64 fun _ => 4, .ptr 3 3, .int .i64 fun _ => 6, .ptr 3 4, .int .i64 fun _ => 6], .cells 53 [.int .i64 fun _ => c0, .bool fun _ => al, .int .i64 fun _ => r1, .int .i64 fun _ => r2, .int .i64 fun _ => r3], .cells 3 [.int .i64 fun _ => c], .cells 3 [.int .i64 fun _ => a]]) (Y := Unit) (fun _ => True) (fun _ => .tup []) (fun _ => wN (s ++ wides [(c, 1), (a, 1), (r1, 4), (r2, 6), (r3, 6)]) (wrong || bads [(c, 1), (a, 1), (r1, 4), (r2, 6), (r3, 6)]) ++ [.none, .cells 53 [.int .i64 fun _ => c0, .bool fun _ => al, .int .i64 fun _ => r1, .int .i64 fun _ => r2, .int .i64 fun _ => r3], .cells 3 [.int .i64 fun _ => c], .cells 3 [.int .i64 fun _ => a]]) := by
  refine Meets.intro hm (fn := Try.f57) Try.func57 rfl (by decide) (Nat.le_of_ble_eq_true rfl) (fun _ => rfl) ?_; intro S hok; (conv => whnf)
  (repeat' ((conv => whnf); first | refine And.intro ?_ ?_ | exact Cl.mk (by kernel_rfl) | exact Ck.mk (by kernel_rfl) | refine DrawN.mk ?_ | refine CodeN.step hm rfl ?_ | exact trivial | exact rfl | (intro hh; try simp only [decide_eq_true_eq, decide_eq_false_iff_not, beq_iff_eq, beq_eq_false_iff_ne, bne_iff_ne, bne_eq_false_iff_eq, Bool.not_eq_true', Bool.not_eq_false', Bool.not_true, Bool.not_false] at hh))); all_goals (conv => whnf)
  refine LoopN.intro hm (X := Nat × Bytes × Bool) (fun x => x.1 ≤ 5 ∧ x.2.1 = s ++ wides ([(c, 1), (a, 1), (r1, 4), (r2, 6), (r3, 6)].take x.1) ∧ x.2.2 = (wrong || bads ([(c, 1), (a, 1), (r1, 4), (r2, 6), (r3, 6)].take x.1))) (fun x => 5 - x.1)
    (fun x => [(8, .int .i64 fun _ => (x.1 : Int)), (7, .int .i64 fun _ => 5), (6, .vec 2 2 (fun _ => 0) fun _ => 5), (0, .ptr 0 0)])
    (fun x => [.cells 104 [.ptr 0 0, .vec 1 1 (fun _ => 0) (fun _ => x.2.1.length), .bool fun _ => x.2.2], .vect 5 (.int .u8) fun _ => byv x.2.1, .cells 109 [.ptr 4 0, .int .i64 fun _ => 1, .ptr 5 0, .int .i64 fun _ => 1, .ptr 3 2, .int .i64 fun _ => 4, .ptr 3 3, .int .i64 fun _ => 6, .ptr 3 4, .int .i64 fun _ => 6], .cells 53 [.int .i64 fun _ => c0, .bool fun _ => al, .int .i64 fun _ => r1, .int .i64 fun _ => r2, .int .i64 fun _ => r3], .cells 3 [.int .i64 fun _ => c], .cells 3 [.int .i64 fun _ => a]]) (0, s, wrong) [0, 1, 2, 3, 4, 5] ⟨rfl, rfl, ?_, ?_⟩ ⟨Nat.zero_le _, by simp [wides], by simp [bads]⟩ (fun x hx => ?_)
  · (repeat' (first | exact rfl | exact trivial | refine And.intro ?_ ?_ | ((conv => whnf); first | exact rfl | exact trivial | refine And.intro ?_ ?_)))
  · (repeat' (first | exact rfl | exact trivial | refine And.intro ?_ ?_ | ((conv => whnf); first | exact rfl | exact trivial | refine And.intro ?_ ?_)))
  · obtain ⟨i, b, f⟩ := x
    obtain ⟨hi, hb, hf⟩ := hx
    simp only [] at hi hb hf
    have hbl : b.length ≤ 990000 := by
      have h1 : (wides ([(c, 1), (a, 1), (r1, 4), (r2, 6), (r3, 6)].take i)).length ≤ 100 := by
        rw [wides_len]; revert hi; clear hb hf; intro hi
        obtain rfl | rfl | rfl | rfl | rfl | rfl : i = 0 ∨ i = 1 ∨ i = 2 ∨ i = 3 ∨ i = 4 ∨ i = 5 := by omega
        all_goals (simp only [List.take, List.map, List.sum_cons, List.sum_nil]; omega)
      rw [hb, List.length_append]; omega
    obtain rfl | rfl | rfl | rfl | rfl | rfl : i = 0 ∨ i = 1 ∨ i = 2 ∨ i = 3 ∨ i = 4 ∨ i = 5 := by omega
    · have hx : [(c, 1), (a, 1), (r1, 4), (r2, 6), (r3, 6)][0]? = some (c, 1) := rfl
      (repeat' ((conv => whnf); first | refine And.intro ?_ ?_ | exact Cl.mk (by kernel_rfl) | exact Ck.mk (by kernel_rfl) | refine DrawN.mk ?_ | refine CodeN.step hm rfl ?_ | exact trivial | exact rfl | (intro hh; try simp only [decide_eq_true_eq, decide_eq_false_iff_not, beq_iff_eq, beq_eq_false_iff_ne, bne_iff_ne, bne_eq_false_iff_eq, Bool.not_eq_true', Bool.not_eq_false', Bool.not_true, Bool.not_false] at hh))); all_goals (conv => whnf)
      all_goals first | (exact Ob.mk (by decide)) | (exact Ob.mk (by simp)) | skip
      rotate_right
      · exact absurd (by decide) hh
      · (refine CallN.intro (wideM (IntKind.u64.wrap (c)) 1 (by omega)) [] rfl rfl ?_ ?_ ?_; ((repeat' (first | exact rfl | exact trivial | refine And.intro ?_ ?_ | ((conv => whnf); first | exact rfl | exact trivial | refine And.intro ?_ ?_)))); ((repeat' (first | exact rfl | exact trivial | refine And.intro ?_ ?_ | ((conv => whnf); first | exact rfl | exact trivial | refine And.intro ?_ ?_)))); (intro y hy; clear y hy; (repeat' ((conv => whnf); first | refine And.intro ?_ ?_ | exact Cl.mk (by kernel_rfl) | exact Ck.mk (by kernel_rfl) | refine DrawN.mk ?_ | refine CodeN.step hm rfl ?_ | exact trivial | exact rfl | (intro hh; try simp only [decide_eq_true_eq, decide_eq_false_iff_not, beq_iff_eq, beq_eq_false_iff_ne, bne_iff_ne, bne_eq_false_iff_eq, Bool.not_eq_true', Bool.not_eq_false', Bool.not_true, Bool.not_false] at hh; try exact absurd hh (by decide)))); all_goals (conv => whnf); (all_goals first | (exact Ob.mk (by decide)) | skip)))
        (refine CallN.intro (writeN b (wide (IntKind.u64.wrap (c)) 1) ((c).fdiv (2 ^ (min (IntKind.i64.wrap (8 * 1)).toNat IntKind.i64.bits)) != 0) (by rw [wide_len]; omega)) [0, 1] rfl rfl ?_ ?_ ?_; ((repeat' (first | exact rfl | exact trivial | refine And.intro ?_ ?_ | ((conv => whnf); first | exact rfl | exact trivial | refine And.intro ?_ ?_)))); ((repeat' (first | exact rfl | exact trivial | refine And.intro ?_ ?_ | ((conv => whnf); first | exact rfl | exact trivial | refine And.intro ?_ ?_)))); (intro y hy; clear y hy; (repeat' ((conv => whnf); first | refine And.intro ?_ ?_ | exact Cl.mk (by kernel_rfl) | exact Ck.mk (by kernel_rfl) | refine DrawN.mk ?_ | refine CodeN.step hm rfl ?_ | exact trivial | exact rfl | (intro hh; try simp only [decide_eq_true_eq, decide_eq_false_iff_not, beq_iff_eq, beq_eq_false_iff_ne, bne_iff_ne, bne_eq_false_iff_eq, Bool.not_eq_true', Bool.not_eq_false', Bool.not_true, Bool.not_false] at hh; try exact absurd hh (by decide)))); all_goals (conv => whnf); (all_goals first | (exact Ob.mk (by decide)) | skip)))
        refine ⟨(1, b ++ wide (IntKind.u64.wrap (c)) 1, ((c).fdiv (2 ^ (min (IntKind.i64.wrap (8 * 1)).toNat IntKind.i64.bits)) != 0)), [0, 1, 2, 3, 4, 5], ⟨rfl, rfl, ?_, ?_⟩, ⟨by simp only []; omega, ?_, ?_⟩, by simp only []; omega⟩
        · (repeat' (first | exact rfl | exact trivial | refine And.intro ?_ ?_ | ((conv => whnf); first | exact rfl | exact trivial | refine And.intro ?_ ?_)))
        · (repeat' (first | exact rfl | exact trivial | refine And.intro ?_ ?_ | ((conv => whnf); first | exact rfl | exact trivial | refine And.intro ?_ ?_)))
        · simp only []; rw [hb]; exact wides_step _ 0 _ hx _
        · exact bad_step hx hf (.inr (.inr ⟨by assumption, by assumption, rfl⟩)) (Nat.le_of_ble_eq_true rfl)
      · (refine CallN.intro (wideM (IntKind.u64.wrap (c)) 1 (by omega)) [] rfl rfl ?_ ?_ ?_; ((repeat' (first | exact rfl | exact trivial | refine And.intro ?_ ?_ | ((conv => whnf); first | exact rfl | exact trivial | refine And.intro ?_ ?_)))); ((repeat' (first | exact rfl | exact trivial | refine And.intro ?_ ?_ | ((conv => whnf); first | exact rfl | exact trivial | refine And.intro ?_ ?_)))); (intro y hy; clear y hy; (repeat' ((conv => whnf); first | refine And.intro ?_ ?_ | exact Cl.mk (by kernel_rfl) | exact Ck.mk (by kernel_rfl) | refine DrawN.mk ?_ | refine CodeN.step hm rfl ?_ | exact trivial | exact rfl | (intro hh; try simp only [decide_eq_true_eq, decide_eq_false_iff_not, beq_iff_eq, beq_eq_false_iff_ne, bne_iff_ne, bne_eq_false_iff_eq, Bool.not_eq_true', Bool.not_eq_false', Bool.not_true, Bool.not_false] at hh; try exact absurd hh (by decide)))); all_goals (conv => whnf); (all_goals first | (exact Ob.mk (by decide)) | skip)))
        (refine CallN.intro (writeN b (wide (IntKind.u64.wrap (c)) 1) true (by rw [wide_len]; omega)) [0, 1] rfl rfl ?_ ?_ ?_; ((repeat' (first | exact rfl | exact trivial | refine And.intro ?_ ?_ | ((conv => whnf); first | exact rfl | exact trivial | refine And.intro ?_ ?_)))); ((repeat' (first | exact rfl | exact trivial | refine And.intro ?_ ?_ | ((conv => whnf); first | exact rfl | exact trivial | refine And.intro ?_ ?_)))); (intro y hy; clear y hy; (repeat' ((conv => whnf); first | refine And.intro ?_ ?_ | exact Cl.mk (by kernel_rfl) | exact Ck.mk (by kernel_rfl) | refine DrawN.mk ?_ | refine CodeN.step hm rfl ?_ | exact trivial | exact rfl | (intro hh; try simp only [decide_eq_true_eq, decide_eq_false_iff_not, beq_iff_eq, beq_eq_false_iff_ne, bne_iff_ne, bne_eq_false_iff_eq, Bool.not_eq_true', Bool.not_eq_false', Bool.not_true, Bool.not_false] at hh; try exact absurd hh (by decide)))); all_goals (conv => whnf); (all_goals first | (exact Ob.mk (by decide)) | skip)))
        refine ⟨(1, b ++ wide (IntKind.u64.wrap (c)) 1, true), [0, 1, 2, 3, 4, 5], ⟨rfl, rfl, ?_, ?_⟩, ⟨by simp only []; omega, ?_, ?_⟩, by simp only []; omega⟩
        · (repeat' (first | exact rfl | exact trivial | refine And.intro ?_ ?_ | ((conv => whnf); first | exact rfl | exact trivial | refine And.intro ?_ ?_)))
        · (repeat' (first | exact rfl | exact trivial | refine And.intro ?_ ?_ | ((conv => whnf); first | exact rfl | exact trivial | refine And.intro ?_ ?_)))
        · simp only []; rw [hb]; exact wides_step _ 0 _ hx _
        · exact bad_step hx hf (.inr (.inl ⟨by assumption, rfl⟩)) (Nat.le_of_ble_eq_true rfl)
      · (refine CallN.intro (wideM (IntKind.u64.wrap (c)) 1 (by omega)) [] rfl rfl ?_ ?_ ?_; ((repeat' (first | exact rfl | exact trivial | refine And.intro ?_ ?_ | ((conv => whnf); first | exact rfl | exact trivial | refine And.intro ?_ ?_)))); ((repeat' (first | exact rfl | exact trivial | refine And.intro ?_ ?_ | ((conv => whnf); first | exact rfl | exact trivial | refine And.intro ?_ ?_)))); (intro y hy; clear y hy; (repeat' ((conv => whnf); first | refine And.intro ?_ ?_ | exact Cl.mk (by kernel_rfl) | exact Ck.mk (by kernel_rfl) | refine DrawN.mk ?_ | refine CodeN.step hm rfl ?_ | exact trivial | exact rfl | (intro hh; try simp only [decide_eq_true_eq, decide_eq_false_iff_not, beq_iff_eq, beq_eq_false_iff_ne, bne_iff_ne, bne_eq_false_iff_eq, Bool.not_eq_true', Bool.not_eq_false', Bool.not_true, Bool.not_false] at hh; try exact absurd hh (by decide)))); all_goals (conv => whnf); (all_goals first | (exact Ob.mk (by decide)) | skip)))
        (refine CallN.intro (writeN b (wide (IntKind.u64.wrap (c)) 1) true (by rw [wide_len]; omega)) [0, 1] rfl rfl ?_ ?_ ?_; ((repeat' (first | exact rfl | exact trivial | refine And.intro ?_ ?_ | ((conv => whnf); first | exact rfl | exact trivial | refine And.intro ?_ ?_)))); ((repeat' (first | exact rfl | exact trivial | refine And.intro ?_ ?_ | ((conv => whnf); first | exact rfl | exact trivial | refine And.intro ?_ ?_)))); (intro y hy; clear y hy; (repeat' ((conv => whnf); first | refine And.intro ?_ ?_ | exact Cl.mk (by kernel_rfl) | exact Ck.mk (by kernel_rfl) | refine DrawN.mk ?_ | refine CodeN.step hm rfl ?_ | exact trivial | exact rfl | (intro hh; try simp only [decide_eq_true_eq, decide_eq_false_iff_not, beq_iff_eq, beq_eq_false_iff_ne, bne_iff_ne, bne_eq_false_iff_eq, Bool.not_eq_true', Bool.not_eq_false', Bool.not_true, Bool.not_false] at hh; try exact absurd hh (by decide)))); all_goals (conv => whnf); (all_goals first | (exact Ob.mk (by decide)) | skip)))
        refine ⟨(1, b ++ wide (IntKind.u64.wrap (c)) 1, true), [0, 1, 2, 3, 4, 5], ⟨rfl, rfl, ?_, ?_⟩, ⟨by simp only []; omega, ?_, ?_⟩, by simp only []; omega⟩
        · (repeat' (first | exact rfl | exact trivial | refine And.intro ?_ ?_ | ((conv => whnf); first | exact rfl | exact trivial | refine And.intro ?_ ?_)))
        · (repeat' (first | exact rfl | exact trivial | refine And.intro ?_ ?_ | ((conv => whnf); first | exact rfl | exact trivial | refine And.intro ?_ ?_)))
        · simp only []; rw [hb]; exact wides_step _ 0 _ hx _
        · exact bad_step hx hf (.inl ⟨by assumption, rfl⟩) (Nat.le_of_ble_eq_true rfl)
    · have hx : [(c, 1), (a, 1), (r1, 4), (r2, 6), (r3, 6)][1]? = some (a, 1) := rfl
      (repeat' ((conv => whnf); first | refine And.intro ?_ ?_ | exact Cl.mk (by kernel_rfl) | exact Ck.mk (by kernel_rfl) | refine DrawN.mk ?_ | refine CodeN.step hm rfl ?_ | exact trivial | exact rfl | (intro hh; try simp only [decide_eq_true_eq, decide_eq_false_iff_not, beq_iff_eq, beq_eq_false_iff_ne, bne_iff_ne, bne_eq_false_iff_eq, Bool.not_eq_true', Bool.not_eq_false', Bool.not_true, Bool.not_false] at hh))); all_goals (conv => whnf)
      all_goals first | (exact Ob.mk (by decide)) | (exact Ob.mk (by simp)) | skip
      rotate_right
      · exact absurd (by decide) hh
      · (refine CallN.intro (wideM (IntKind.u64.wrap (a)) 1 (by omega)) [] rfl rfl ?_ ?_ ?_; ((repeat' (first | exact rfl | exact trivial | refine And.intro ?_ ?_ | ((conv => whnf); first | exact rfl | exact trivial | refine And.intro ?_ ?_)))); ((repeat' (first | exact rfl | exact trivial | refine And.intro ?_ ?_ | ((conv => whnf); first | exact rfl | exact trivial | refine And.intro ?_ ?_)))); (intro y hy; clear y hy; (repeat' ((conv => whnf); first | refine And.intro ?_ ?_ | exact Cl.mk (by kernel_rfl) | exact Ck.mk (by kernel_rfl) | refine DrawN.mk ?_ | refine CodeN.step hm rfl ?_ | exact trivial | exact rfl | (intro hh; try simp only [decide_eq_true_eq, decide_eq_false_iff_not, beq_iff_eq, beq_eq_false_iff_ne, bne_iff_ne, bne_eq_false_iff_eq, Bool.not_eq_true', Bool.not_eq_false', Bool.not_true, Bool.not_false] at hh; try exact absurd hh (by decide)))); all_goals (conv => whnf); (all_goals first | (exact Ob.mk (by decide)) | skip)))
        (refine CallN.intro (writeN b (wide (IntKind.u64.wrap (a)) 1) ((a).fdiv (2 ^ (min (IntKind.i64.wrap (8 * 1)).toNat IntKind.i64.bits)) != 0) (by rw [wide_len]; omega)) [0, 1] rfl rfl ?_ ?_ ?_; ((repeat' (first | exact rfl | exact trivial | refine And.intro ?_ ?_ | ((conv => whnf); first | exact rfl | exact trivial | refine And.intro ?_ ?_)))); ((repeat' (first | exact rfl | exact trivial | refine And.intro ?_ ?_ | ((conv => whnf); first | exact rfl | exact trivial | refine And.intro ?_ ?_)))); (intro y hy; clear y hy; (repeat' ((conv => whnf); first | refine And.intro ?_ ?_ | exact Cl.mk (by kernel_rfl) | exact Ck.mk (by kernel_rfl) | refine DrawN.mk ?_ | refine CodeN.step hm rfl ?_ | exact trivial | exact rfl | (intro hh; try simp only [decide_eq_true_eq, decide_eq_false_iff_not, beq_iff_eq, beq_eq_false_iff_ne, bne_iff_ne, bne_eq_false_iff_eq, Bool.not_eq_true', Bool.not_eq_false', Bool.not_true, Bool.not_false] at hh; try exact absurd hh (by decide)))); all_goals (conv => whnf); (all_goals first | (exact Ob.mk (by decide)) | skip)))
        refine ⟨(2, b ++ wide (IntKind.u64.wrap (a)) 1, ((a).fdiv (2 ^ (min (IntKind.i64.wrap (8 * 1)).toNat IntKind.i64.bits)) != 0)), [0, 1, 2, 3, 4, 5], ⟨rfl, rfl, ?_, ?_⟩, ⟨by simp only []; omega, ?_, ?_⟩, by simp only []; omega⟩
        · (repeat' (first | exact rfl | exact trivial | refine And.intro ?_ ?_ | ((conv => whnf); first | exact rfl | exact trivial | refine And.intro ?_ ?_)))
        · (repeat' (first | exact rfl | exact trivial | refine And.intro ?_ ?_ | ((conv => whnf); first | exact rfl | exact trivial | refine And.intro ?_ ?_)))
        · simp only []; rw [hb]; exact wides_step _ 1 _ hx _
        · exact bad_step hx hf (.inr (.inr ⟨by assumption, by assumption, rfl⟩)) (Nat.le_of_ble_eq_true rfl)
      · (refine CallN.intro (wideM (IntKind.u64.wrap (a)) 1 (by omega)) [] rfl rfl ?_ ?_ ?_; ((repeat' (first | exact rfl | exact trivial | refine And.intro ?_ ?_ | ((conv => whnf); first | exact rfl | exact trivial | refine And.intro ?_ ?_)))); ((repeat' (first | exact rfl | exact trivial | refine And.intro ?_ ?_ | ((conv => whnf); first | exact rfl | exact trivial | refine And.intro ?_ ?_)))); (intro y hy; clear y hy; (repeat' ((conv => whnf); first | refine And.intro ?_ ?_ | exact Cl.mk (by kernel_rfl) | exact Ck.mk (by kernel_rfl) | refine DrawN.mk ?_ | refine CodeN.step hm rfl ?_ | exact trivial | exact rfl | (intro hh; try simp only [decide_eq_true_eq, decide_eq_false_iff_not, beq_iff_eq, beq_eq_false_iff_ne, bne_iff_ne, bne_eq_false_iff_eq, Bool.not_eq_true', Bool.not_eq_false', Bool.not_true, Bool.not_false] at hh; try exact absurd hh (by decide)))); all_goals (conv => whnf); (all_goals first | (exact Ob.mk (by decide)) | skip)))
        (refine CallN.intro (writeN b (wide (IntKind.u64.wrap (a)) 1) true (by rw [wide_len]; omega)) [0, 1] rfl rfl ?_ ?_ ?_; ((repeat' (first | exact rfl | exact trivial | refine And.intro ?_ ?_ | ((conv => whnf); first | exact rfl | exact trivial | refine And.intro ?_ ?_)))); ((repeat' (first | exact rfl | exact trivial | refine And.intro ?_ ?_ | ((conv => whnf); first | exact rfl | exact trivial | refine And.intro ?_ ?_)))); (intro y hy; clear y hy; (repeat' ((conv => whnf); first | refine And.intro ?_ ?_ | exact Cl.mk (by kernel_rfl) | exact Ck.mk (by kernel_rfl) | refine DrawN.mk ?_ | refine CodeN.step hm rfl ?_ | exact trivial | exact rfl | (intro hh; try simp only [decide_eq_true_eq, decide_eq_false_iff_not, beq_iff_eq, beq_eq_false_iff_ne, bne_iff_ne, bne_eq_false_iff_eq, Bool.not_eq_true', Bool.not_eq_false', Bool.not_true, Bool.not_false] at hh; try exact absurd hh (by decide)))); all_goals (conv => whnf); (all_goals first | (exact Ob.mk (by decide)) | skip)))
        refine ⟨(2, b ++ wide (IntKind.u64.wrap (a)) 1, true), [0, 1, 2, 3, 4, 5], ⟨rfl, rfl, ?_, ?_⟩, ⟨by simp only []; omega, ?_, ?_⟩, by simp only []; omega⟩
        · (repeat' (first | exact rfl | exact trivial | refine And.intro ?_ ?_ | ((conv => whnf); first | exact rfl | exact trivial | refine And.intro ?_ ?_)))
        · (repeat' (first | exact rfl | exact trivial | refine And.intro ?_ ?_ | ((conv => whnf); first | exact rfl | exact trivial | refine And.intro ?_ ?_)))
        · simp only []; rw [hb]; exact wides_step _ 1 _ hx _
        · exact bad_step hx hf (.inr (.inl ⟨by assumption, rfl⟩)) (Nat.le_of_ble_eq_true rfl)
      · (refine CallN.intro (wideM (IntKind.u64.wrap (a)) 1 (by omega)) [] rfl rfl ?_ ?_ ?_; ((repeat' (first | exact rfl | exact trivial | refine And.intro ?_ ?_ | ((conv => whnf); first | exact rfl | exact trivial | refine And.intro ?_ ?_)))); ((repeat' (first | exact rfl | exact trivial | refine And.intro ?_ ?_ | ((conv => whnf); first | exact rfl | exact trivial | refine And.intro ?_ ?_)))); (intro y hy; clear y hy; (repeat' ((conv => whnf); first | refine And.intro ?_ ?_ | exact Cl.mk (by kernel_rfl) | exact Ck.mk (by kernel_rfl) | refine DrawN.mk ?_ | refine CodeN.step hm rfl ?_ | exact trivial | exact rfl | (intro hh; try simp only [decide_eq_true_eq, decide_eq_false_iff_not, beq_iff_eq, beq_eq_false_iff_ne, bne_iff_ne, bne_eq_false_iff_eq, Bool.not_eq_true', Bool.not_eq_false', Bool.not_true, Bool.not_false] at hh; try exact absurd hh (by decide)))); all_goals (conv => whnf); (all_goals first | (exact Ob.mk (by decide)) | skip)))
        (refine CallN.intro (writeN b (wide (IntKind.u64.wrap (a)) 1) true (by rw [wide_len]; omega)) [0, 1] rfl rfl ?_ ?_ ?_; ((repeat' (first | exact rfl | exact trivial | refine And.intro ?_ ?_ | ((conv => whnf); first | exact rfl | exact trivial | refine And.intro ?_ ?_)))); ((repeat' (first | exact rfl | exact trivial | refine And.intro ?_ ?_ | ((conv => whnf); first | exact rfl | exact trivial | refine And.intro ?_ ?_)))); (intro y hy; clear y hy; (repeat' ((conv => whnf); first | refine And.intro ?_ ?_ | exact Cl.mk (by kernel_rfl) | exact Ck.mk (by kernel_rfl) | refine DrawN.mk ?_ | refine CodeN.step hm rfl ?_ | exact trivial | exact rfl | (intro hh; try simp only [decide_eq_true_eq, decide_eq_false_iff_not, beq_iff_eq, beq_eq_false_iff_ne, bne_iff_ne, bne_eq_false_iff_eq, Bool.not_eq_true', Bool.not_eq_false', Bool.not_true, Bool.not_false] at hh; try exact absurd hh (by decide)))); all_goals (conv => whnf); (all_goals first | (exact Ob.mk (by decide)) | skip)))
        refine ⟨(2, b ++ wide (IntKind.u64.wrap (a)) 1, true), [0, 1, 2, 3, 4, 5], ⟨rfl, rfl, ?_, ?_⟩, ⟨by simp only []; omega, ?_, ?_⟩, by simp only []; omega⟩
        · (repeat' (first | exact rfl | exact trivial | refine And.intro ?_ ?_ | ((conv => whnf); first | exact rfl | exact trivial | refine And.intro ?_ ?_)))
        · (repeat' (first | exact rfl | exact trivial | refine And.intro ?_ ?_ | ((conv => whnf); first | exact rfl | exact trivial | refine And.intro ?_ ?_)))
        · simp only []; rw [hb]; exact wides_step _ 1 _ hx _
        · exact bad_step hx hf (.inl ⟨by assumption, rfl⟩) (Nat.le_of_ble_eq_true rfl)
    · have hx : [(c, 1), (a, 1), (r1, 4), (r2, 6), (r3, 6)][2]? = some (r1, 4) := rfl
      (repeat' ((conv => whnf); first | refine And.intro ?_ ?_ | exact Cl.mk (by kernel_rfl) | exact Ck.mk (by kernel_rfl) | refine DrawN.mk ?_ | refine CodeN.step hm rfl ?_ | exact trivial | exact rfl | (intro hh; try simp only [decide_eq_true_eq, decide_eq_false_iff_not, beq_iff_eq, beq_eq_false_iff_ne, bne_iff_ne, bne_eq_false_iff_eq, Bool.not_eq_true', Bool.not_eq_false', Bool.not_true, Bool.not_false] at hh))); all_goals (conv => whnf)
      all_goals first | (exact Ob.mk (by decide)) | (exact Ob.mk (by simp)) | skip
      rotate_right
      · exact absurd (by decide) hh
      · (refine CallN.intro (wideM (IntKind.u64.wrap (r1)) 4 (by omega)) [] rfl rfl ?_ ?_ ?_; ((repeat' (first | exact rfl | exact trivial | refine And.intro ?_ ?_ | ((conv => whnf); first | exact rfl | exact trivial | refine And.intro ?_ ?_)))); ((repeat' (first | exact rfl | exact trivial | refine And.intro ?_ ?_ | ((conv => whnf); first | exact rfl | exact trivial | refine And.intro ?_ ?_)))); (intro y hy; clear y hy; (repeat' ((conv => whnf); first | refine And.intro ?_ ?_ | exact Cl.mk (by kernel_rfl) | exact Ck.mk (by kernel_rfl) | refine DrawN.mk ?_ | refine CodeN.step hm rfl ?_ | exact trivial | exact rfl | (intro hh; try simp only [decide_eq_true_eq, decide_eq_false_iff_not, beq_iff_eq, beq_eq_false_iff_ne, bne_iff_ne, bne_eq_false_iff_eq, Bool.not_eq_true', Bool.not_eq_false', Bool.not_true, Bool.not_false] at hh; try exact absurd hh (by decide)))); all_goals (conv => whnf); (all_goals first | (exact Ob.mk (by decide)) | skip)))
        (refine CallN.intro (writeN b (wide (IntKind.u64.wrap (r1)) 4) ((r1).fdiv (2 ^ (min (IntKind.i64.wrap (8 * 4)).toNat IntKind.i64.bits)) != 0) (by rw [wide_len]; omega)) [0, 1] rfl rfl ?_ ?_ ?_; ((repeat' (first | exact rfl | exact trivial | refine And.intro ?_ ?_ | ((conv => whnf); first | exact rfl | exact trivial | refine And.intro ?_ ?_)))); ((repeat' (first | exact rfl | exact trivial | refine And.intro ?_ ?_ | ((conv => whnf); first | exact rfl | exact trivial | refine And.intro ?_ ?_)))); (intro y hy; clear y hy; (repeat' ((conv => whnf); first | refine And.intro ?_ ?_ | exact Cl.mk (by kernel_rfl) | exact Ck.mk (by kernel_rfl) | refine DrawN.mk ?_ | refine CodeN.step hm rfl ?_ | exact trivial | exact rfl | (intro hh; try simp only [decide_eq_true_eq, decide_eq_false_iff_not, beq_iff_eq, beq_eq_false_iff_ne, bne_iff_ne, bne_eq_false_iff_eq, Bool.not_eq_true', Bool.not_eq_false', Bool.not_true, Bool.not_false] at hh; try exact absurd hh (by decide)))); all_goals (conv => whnf); (all_goals first | (exact Ob.mk (by decide)) | skip)))
        refine ⟨(3, b ++ wide (IntKind.u64.wrap (r1)) 4, ((r1).fdiv (2 ^ (min (IntKind.i64.wrap (8 * 4)).toNat IntKind.i64.bits)) != 0)), [0, 1, 2, 3, 4, 5], ⟨rfl, rfl, ?_, ?_⟩, ⟨by simp only []; omega, ?_, ?_⟩, by simp only []; omega⟩
        · (repeat' (first | exact rfl | exact trivial | refine And.intro ?_ ?_ | ((conv => whnf); first | exact rfl | exact trivial | refine And.intro ?_ ?_)))
        · (repeat' (first | exact rfl | exact trivial | refine And.intro ?_ ?_ | ((conv => whnf); first | exact rfl | exact trivial | refine And.intro ?_ ?_)))
        · simp only []; rw [hb]; exact wides_step _ 2 _ hx _
        · exact bad_step hx hf (.inr (.inr ⟨by assumption, by assumption, rfl⟩)) (Nat.le_of_ble_eq_true rfl)
      · (refine CallN.intro (wideM (IntKind.u64.wrap (r1)) 4 (by omega)) [] rfl rfl ?_ ?_ ?_; ((repeat' (first | exact rfl | exact trivial | refine And.intro ?_ ?_ | ((conv => whnf); first | exact rfl | exact trivial | refine And.intro ?_ ?_)))); ((repeat' (first | exact rfl | exact trivial | refine And.intro ?_ ?_ | ((conv => whnf); first | exact rfl | exact trivial | refine And.intro ?_ ?_)))); (intro y hy; clear y hy; (repeat' ((conv => whnf); first | refine And.intro ?_ ?_ | exact Cl.mk (by kernel_rfl) | exact Ck.mk (by kernel_rfl) | refine DrawN.mk ?_ | refine CodeN.step hm rfl ?_ | exact trivial | exact rfl | (intro hh; try simp only [decide_eq_true_eq, decide_eq_false_iff_not, beq_iff_eq, beq_eq_false_iff_ne, bne_iff_ne, bne_eq_false_iff_eq, Bool.not_eq_true', Bool.not_eq_false', Bool.not_true, Bool.not_false] at hh; try exact absurd hh (by decide)))); all_goals (conv => whnf); (all_goals first | (exact Ob.mk (by decide)) | skip)))
        (refine CallN.intro (writeN b (wide (IntKind.u64.wrap (r1)) 4) true (by rw [wide_len]; omega)) [0, 1] rfl rfl ?_ ?_ ?_; ((repeat' (first | exact rfl | exact trivial | refine And.intro ?_ ?_ | ((conv => whnf); first | exact rfl | exact trivial | refine And.intro ?_ ?_)))); ((repeat' (first | exact rfl | exact trivial | refine And.intro ?_ ?_ | ((conv => whnf); first | exact rfl | exact trivial | refine And.intro ?_ ?_)))); (intro y hy; clear y hy; (repeat' ((conv => whnf); first | refine And.intro ?_ ?_ | exact Cl.mk (by kernel_rfl) | exact Ck.mk (by kernel_rfl) | refine DrawN.mk ?_ | refine CodeN.step hm rfl ?_ | exact trivial | exact rfl | (intro hh; try simp only [decide_eq_true_eq, decide_eq_false_iff_not, beq_iff_eq, beq_eq_false_iff_ne, bne_iff_ne, bne_eq_false_iff_eq, Bool.not_eq_true', Bool.not_eq_false', Bool.not_true, Bool.not_false] at hh; try exact absurd hh (by decide)))); all_goals (conv => whnf); (all_goals first | (exact Ob.mk (by decide)) | skip)))
        refine ⟨(3, b ++ wide (IntKind.u64.wrap (r1)) 4, true), [0, 1, 2, 3, 4, 5], ⟨rfl, rfl, ?_, ?_⟩, ⟨by simp only []; omega, ?_, ?_⟩, by simp only []; omega⟩
        · (repeat' (first | exact rfl | exact trivial | refine And.intro ?_ ?_ | ((conv => whnf); first | exact rfl | exact trivial | refine And.intro ?_ ?_)))
        · (repeat' (first | exact rfl | exact trivial | refine And.intro ?_ ?_ | ((conv => whnf); first | exact rfl | exact trivial | refine And.intro ?_ ?_)))
        · simp only []; rw [hb]; exact wides_step _ 2 _ hx _
        · exact bad_step hx hf (.inr (.inl ⟨by assumption, rfl⟩)) (Nat.le_of_ble_eq_true rfl)
      · (refine CallN.intro (wideM (IntKind.u64.wrap (r1)) 4 (by omega)) [] rfl rfl ?_ ?_ ?_; ((repeat' (first | exact rfl | exact trivial | refine And.intro ?_ ?_ | ((conv => whnf); first | exact rfl | exact trivial | refine And.intro ?_ ?_)))); ((repeat' (first | exact rfl | exact trivial | refine And.intro ?_ ?_ | ((conv => whnf); first | exact rfl | exact trivial | refine And.intro ?_ ?_)))); (intro y hy; clear y hy; (repeat' ((conv => whnf); first | refine And.intro ?_ ?_ | exact Cl.mk (by kernel_rfl) | exact Ck.mk (by kernel_rfl) | refine DrawN.mk ?_ | refine CodeN.step hm rfl ?_ | exact trivial | exact rfl | (intro hh; try simp only [decide_eq_true_eq, decide_eq_false_iff_not, beq_iff_eq, beq_eq_false_iff_ne, bne_iff_ne, bne_eq_false_iff_eq, Bool.not_eq_true', Bool.not_eq_false', Bool.not_true, Bool.not_false] at hh; try exact absurd hh (by decide)))); all_goals (conv => whnf); (all_goals first | (exact Ob.mk (by decide)) | skip)))
        (refine CallN.intro (writeN b (wide (IntKind.u64.wrap (r1)) 4) true (by rw [wide_len]; omega)) [0, 1] rfl rfl ?_ ?_ ?_; ((repeat' (first | exact rfl | exact trivial | refine And.intro ?_ ?_ | ((conv => whnf); first | exact rfl | exact trivial | refine And.intro ?_ ?_)))); ((repeat' (first | exact rfl | exact trivial | refine And.intro ?_ ?_ | ((conv => whnf); first | exact rfl | exact trivial | refine And.intro ?_ ?_)))); (intro y hy; clear y hy; (repeat' ((conv => whnf); first | refine And.intro ?_ ?_ | exact Cl.mk (by kernel_rfl) | exact Ck.mk (by kernel_rfl) | refine DrawN.mk ?_ | refine CodeN.step hm rfl ?_ | exact trivial | exact rfl | (intro hh; try simp only [decide_eq_true_eq, decide_eq_false_iff_not, beq_iff_eq, beq_eq_false_iff_ne, bne_iff_ne, bne_eq_false_iff_eq, Bool.not_eq_true', Bool.not_eq_false', Bool.not_true, Bool.not_false] at hh; try exact absurd hh (by decide)))); all_goals (conv => whnf); (all_goals first | (exact Ob.mk (by decide)) | skip)))
        refine ⟨(3, b ++ wide (IntKind.u64.wrap (r1)) 4, true), [0, 1, 2, 3, 4, 5], ⟨rfl, rfl, ?_, ?_⟩, ⟨by simp only []; omega, ?_, ?_⟩, by simp only []; omega⟩
        · (repeat' (first | exact rfl | exact trivial | refine And.intro ?_ ?_ | ((conv => whnf); first | exact rfl | exact trivial | refine And.intro ?_ ?_)))
        · (repeat' (first | exact rfl | exact trivial | refine And.intro ?_ ?_ | ((conv => whnf); first | exact rfl | exact trivial | refine And.intro ?_ ?_)))
        · simp only []; rw [hb]; exact wides_step _ 2 _ hx _
        · exact bad_step hx hf (.inl ⟨by assumption, rfl⟩) (Nat.le_of_ble_eq_true rfl)
    · have hx : [(c, 1), (a, 1), (r1, 4), (r2, 6), (r3, 6)][3]? = some (r2, 6) := rfl
      (repeat' ((conv => whnf); first | refine And.intro ?_ ?_ | exact Cl.mk (by kernel_rfl) | exact Ck.mk (by kernel_rfl) | refine DrawN.mk ?_ | refine CodeN.step hm rfl ?_ | exact trivial | exact rfl | (intro hh; try simp only [decide_eq_true_eq, decide_eq_false_iff_not, beq_iff_eq, beq_eq_false_iff_ne, bne_iff_ne, bne_eq_false_iff_eq, Bool.not_eq_true', Bool.not_eq_false', Bool.not_true, Bool.not_false] at hh))); all_goals (conv => whnf)
      all_goals first | (exact Ob.mk (by decide)) | (exact Ob.mk (by simp)) | skip
      rotate_right
      · exact absurd (by decide) hh
      · (refine CallN.intro (wideM (IntKind.u64.wrap (r2)) 6 (by omega)) [] rfl rfl ?_ ?_ ?_; ((repeat' (first | exact rfl | exact trivial | refine And.intro ?_ ?_ | ((conv => whnf); first | exact rfl | exact trivial | refine And.intro ?_ ?_)))); ((repeat' (first | exact rfl | exact trivial | refine And.intro ?_ ?_ | ((conv => whnf); first | exact rfl | exact trivial | refine And.intro ?_ ?_)))); (intro y hy; clear y hy; (repeat' ((conv => whnf); first | refine And.intro ?_ ?_ | exact Cl.mk (by kernel_rfl) | exact Ck.mk (by kernel_rfl) | refine DrawN.mk ?_ | refine CodeN.step hm rfl ?_ | exact trivial | exact rfl | (intro hh; try simp only [decide_eq_true_eq, decide_eq_false_iff_not, beq_iff_eq, beq_eq_false_iff_ne, bne_iff_ne, bne_eq_false_iff_eq, Bool.not_eq_true', Bool.not_eq_false', Bool.not_true, Bool.not_false] at hh; try exact absurd hh (by decide)))); all_goals (conv => whnf); (all_goals first | (exact Ob.mk (by decide)) | skip)))
        (refine CallN.intro (writeN b (wide (IntKind.u64.wrap (r2)) 6) ((r2).fdiv (2 ^ (min (IntKind.i64.wrap (8 * 6)).toNat IntKind.i64.bits)) != 0) (by rw [wide_len]; omega)) [0, 1] rfl rfl ?_ ?_ ?_; ((repeat' (first | exact rfl | exact trivial | refine And.intro ?_ ?_ | ((conv => whnf); first | exact rfl | exact trivial | refine And.intro ?_ ?_)))); ((repeat' (first | exact rfl | exact trivial | refine And.intro ?_ ?_ | ((conv => whnf); first | exact rfl | exact trivial | refine And.intro ?_ ?_)))); (intro y hy; clear y hy; (repeat' ((conv => whnf); first | refine And.intro ?_ ?_ | exact Cl.mk (by kernel_rfl) | exact Ck.mk (by kernel_rfl) | refine DrawN.mk ?_ | refine CodeN.step hm rfl ?_ | exact trivial | exact rfl | (intro hh; try simp only [decide_eq_true_eq, decide_eq_false_iff_not, beq_iff_eq, beq_eq_false_iff_ne, bne_iff_ne, bne_eq_false_iff_eq, Bool.not_eq_true', Bool.not_eq_false', Bool.not_true, Bool.not_false] at hh; try exact absurd hh (by decide)))); all_goals (conv => whnf); (all_goals first | (exact Ob.mk (by decide)) | skip)))
        refine ⟨(4, b ++ wide (IntKind.u64.wrap (r2)) 6, ((r2).fdiv (2 ^ (min (IntKind.i64.wrap (8 * 6)).toNat IntKind.i64.bits)) != 0)), [0, 1, 2, 3, 4, 5], ⟨rfl, rfl, ?_, ?_⟩, ⟨by simp only []; omega, ?_, ?_⟩, by simp only []; omega⟩
        · (repeat' (first | exact rfl | exact trivial | refine And.intro ?_ ?_ | ((conv => whnf); first | exact rfl | exact trivial | refine And.intro ?_ ?_)))
        · (repeat' (first | exact rfl | exact trivial | refine And.intro ?_ ?_ | ((conv => whnf); first | exact rfl | exact trivial | refine And.intro ?_ ?_)))
        · simp only []; rw [hb]; exact wides_step _ 3 _ hx _
        · exact bad_step hx hf (.inr (.inr ⟨by assumption, by assumption, rfl⟩)) (Nat.le_of_ble_eq_true rfl)
      · (refine CallN.intro (wideM (IntKind.u64.wrap (r2)) 6 (by omega)) [] rfl rfl ?_ ?_ ?_; ((repeat' (first | exact rfl | exact trivial | refine And.intro ?_ ?_ | ((conv => whnf); first | exact rfl | exact trivial | refine And.intro ?_ ?_)))); ((repeat' (first | exact rfl | exact trivial | refine And.intro ?_ ?_ | ((conv => whnf); first | exact rfl | exact trivial | refine And.intro ?_ ?_)))); (intro y hy; clear y hy; (repeat' ((conv => whnf); first | refine And.intro ?_ ?_ | exact Cl.mk (by kernel_rfl) | exact Ck.mk (by kernel_rfl) | refine DrawN.mk ?_ | refine CodeN.step hm rfl ?_ | exact trivial | exact rfl | (intro hh; try simp only [decide_eq_true_eq, decide_eq_false_iff_not, beq_iff_eq, beq_eq_false_iff_ne, bne_iff_ne, bne_eq_false_iff_eq, Bool.not_eq_true', Bool.not_eq_false', Bool.not_true, Bool.not_false] at hh; try exact absurd hh (by decide)))); all_goals (conv => whnf); (all_goals first | (exact Ob.mk (by decide)) | skip)))
        (refine CallN.intro (writeN b (wide (IntKind.u64.wrap (r2)) 6) true (by rw [wide_len]; omega)) [0, 1] rfl rfl ?_ ?_ ?_; ((repeat' (first | exact rfl | exact trivial | refine And.intro ?_ ?_ | ((conv => whnf); first | exact rfl | exact trivial | refine And.intro ?_ ?_)))); ((repeat' (first | exact rfl | exact trivial | refine And.intro ?_ ?_ | ((conv => whnf); first | exact rfl | exact trivial | refine And.intro ?_ ?_)))); (intro y hy; clear y hy; (repeat' ((conv => whnf); first | refine And.intro ?_ ?_ | exact Cl.mk (by kernel_rfl) | exact Ck.mk (by kernel_rfl) | refine DrawN.mk ?_ | refine CodeN.step hm rfl ?_ | exact trivial | exact rfl | (intro hh; try simp only [decide_eq_true_eq, decide_eq_false_iff_not, beq_iff_eq, beq_eq_false_iff_ne, bne_iff_ne, bne_eq_false_iff_eq, Bool.not_eq_true', Bool.not_eq_false', Bool.not_true, Bool.not_false] at hh; try exact absurd hh (by decide)))); all_goals (conv => whnf); (all_goals first | (exact Ob.mk (by decide)) | skip)))
        refine ⟨(4, b ++ wide (IntKind.u64.wrap (r2)) 6, true), [0, 1, 2, 3, 4, 5], ⟨rfl, rfl, ?_, ?_⟩, ⟨by simp only []; omega, ?_, ?_⟩, by simp only []; omega⟩
        · (repeat' (first | exact rfl | exact trivial | refine And.intro ?_ ?_ | ((conv => whnf); first | exact rfl | exact trivial | refine And.intro ?_ ?_)))
        · (repeat' (first | exact rfl | exact trivial | refine And.intro ?_ ?_ | ((conv => whnf); first | exact rfl | exact trivial | refine And.intro ?_ ?_)))
        · simp only []; rw [hb]; exact wides_step _ 3 _ hx _
        · exact bad_step hx hf (.inr (.inl ⟨by assumption, rfl⟩)) (Nat.le_of_ble_eq_true rfl)
      · (refine CallN.intro (wideM (IntKind.u64.wrap (r2)) 6 (by omega)) [] rfl rfl ?_ ?_ ?_; ((repeat' (first | exact rfl | exact trivial | refine And.intro ?_ ?_ | ((conv => whnf); first | exact rfl | exact trivial | refine And.intro ?_ ?_)))); ((repeat' (first | exact rfl | exact trivial | refine And.intro ?_ ?_ | ((conv => whnf); first | exact rfl | exact trivial | refine And.intro ?_ ?_)))); (intro y hy; clear y hy; (repeat' ((conv => whnf); first | refine And.intro ?_ ?_ | exact Cl.mk (by kernel_rfl) | exact Ck.mk (by kernel_rfl) | refine DrawN.mk ?_ | refine CodeN.step hm rfl ?_ | exact trivial | exact rfl | (intro hh; try simp only [decide_eq_true_eq, decide_eq_false_iff_not, beq_iff_eq, beq_eq_false_iff_ne, bne_iff_ne, bne_eq_false_iff_eq, Bool.not_eq_true', Bool.not_eq_false', Bool.not_true, Bool.not_false] at hh; try exact absurd hh (by decide)))); all_goals (conv => whnf); (all_goals first | (exact Ob.mk (by decide)) | skip)))
        (refine CallN.intro (writeN b (wide (IntKind.u64.wrap (r2)) 6) true (by rw [wide_len]; omega)) [0, 1] rfl rfl ?_ ?_ ?_; ((repeat' (first | exact rfl | exact trivial | refine And.intro ?_ ?_ | ((conv => whnf); first | exact rfl | exact trivial | refine And.intro ?_ ?_)))); ((repeat' (first | exact rfl | exact trivial | refine And.intro ?_ ?_ | ((conv => whnf); first | exact rfl | exact trivial | refine And.intro ?_ ?_)))); (intro y hy; clear y hy; (repeat' ((conv => whnf); first | refine And.intro ?_ ?_ | exact Cl.mk (by kernel_rfl) | exact Ck.mk (by kernel_rfl) | refine DrawN.mk ?_ | refine CodeN.step hm rfl ?_ | exact trivial | exact rfl | (intro hh; try simp only [decide_eq_true_eq, decide_eq_false_iff_not, beq_iff_eq, beq_eq_false_iff_ne, bne_iff_ne, bne_eq_false_iff_eq, Bool.not_eq_true', Bool.not_eq_false', Bool.not_true, Bool.not_false] at hh; try exact absurd hh (by decide)))); all_goals (conv => whnf); (all_goals first | (exact Ob.mk (by decide)) | skip)))
        refine ⟨(4, b ++ wide (IntKind.u64.wrap (r2)) 6, true), [0, 1, 2, 3, 4, 5], ⟨rfl, rfl, ?_, ?_⟩, ⟨by simp only []; omega, ?_, ?_⟩, by simp only []; omega⟩
        · (repeat' (first | exact rfl | exact trivial | refine And.intro ?_ ?_ | ((conv => whnf); first | exact rfl | exact trivial | refine And.intro ?_ ?_)))
        · (repeat' (first | exact rfl | exact trivial | refine And.intro ?_ ?_ | ((conv => whnf); first | exact rfl | exact trivial | refine And.intro ?_ ?_)))
        · simp only []; rw [hb]; exact wides_step _ 3 _ hx _
        · exact bad_step hx hf (.inl ⟨by assumption, rfl⟩) (Nat.le_of_ble_eq_true rfl)
    · have hx : [(c, 1), (a, 1), (r1, 4), (r2, 6), (r3, 6)][4]? = some (r3, 6) := rfl
      (repeat' ((conv => whnf); first | refine And.intro ?_ ?_ | exact Cl.mk (by kernel_rfl) | exact Ck.mk (by kernel_rfl) | refine DrawN.mk ?_ | refine CodeN.step hm rfl ?_ | exact trivial | exact rfl | (intro hh; try simp only [decide_eq_true_eq, decide_eq_false_iff_not, beq_iff_eq, beq_eq_false_iff_ne, bne_iff_ne, bne_eq_false_iff_eq, Bool.not_eq_true', Bool.not_eq_false', Bool.not_true, Bool.not_false] at hh))); all_goals (conv => whnf)
      all_goals first | (exact Ob.mk (by decide)) | (exact Ob.mk (by simp)) | skip
      rotate_right
      · exact absurd (by decide) hh
      · (refine CallN.intro (wideM (IntKind.u64.wrap (r3)) 6 (by omega)) [] rfl rfl ?_ ?_ ?_; ((repeat' (first | exact rfl | exact trivial | refine And.intro ?_ ?_ | ((conv => whnf); first | exact rfl | exact trivial | refine And.intro ?_ ?_)))); ((repeat' (first | exact rfl | exact trivial | refine And.intro ?_ ?_ | ((conv => whnf); first | exact rfl | exact trivial | refine And.intro ?_ ?_)))); (intro y hy; clear y hy; (repeat' ((conv => whnf); first | refine And.intro ?_ ?_ | exact Cl.mk (by kernel_rfl) | exact Ck.mk (by kernel_rfl) | refine DrawN.mk ?_ | refine CodeN.step hm rfl ?_ | exact trivial | exact rfl | (intro hh; try simp only [decide_eq_true_eq, decide_eq_false_iff_not, beq_iff_eq, beq_eq_false_iff_ne, bne_iff_ne, bne_eq_false_iff_eq, Bool.not_eq_true', Bool.not_eq_false', Bool.not_true, Bool.not_false] at hh; try exact absurd hh (by decide)))); all_goals (conv => whnf); (all_goals first | (exact Ob.mk (by decide)) | skip)))
        (refine CallN.intro (writeN b (wide (IntKind.u64.wrap (r3)) 6) ((r3).fdiv (2 ^ (min (IntKind.i64.wrap (8 * 6)).toNat IntKind.i64.bits)) != 0) (by rw [wide_len]; omega)) [0, 1] rfl rfl ?_ ?_ ?_; ((repeat' (first | exact rfl | exact trivial | refine And.intro ?_ ?_ | ((conv => whnf); first | exact rfl | exact trivial | refine And.intro ?_ ?_)))); ((repeat' (first | exact rfl | exact trivial | refine And.intro ?_ ?_ | ((conv => whnf); first | exact rfl | exact trivial | refine And.intro ?_ ?_)))); (intro y hy; clear y hy; (repeat' ((conv => whnf); first | refine And.intro ?_ ?_ | exact Cl.mk (by kernel_rfl) | exact Ck.mk (by kernel_rfl) | refine DrawN.mk ?_ | refine CodeN.step hm rfl ?_ | exact trivial | exact rfl | (intro hh; try simp only [decide_eq_true_eq, decide_eq_false_iff_not, beq_iff_eq, beq_eq_false_iff_ne, bne_iff_ne, bne_eq_false_iff_eq, Bool.not_eq_true', Bool.not_eq_false', Bool.not_true, Bool.not_false] at hh; try exact absurd hh (by decide)))); all_goals (conv => whnf); (all_goals first | (exact Ob.mk (by decide)) | skip)))
        refine ⟨(5, b ++ wide (IntKind.u64.wrap (r3)) 6, ((r3).fdiv (2 ^ (min (IntKind.i64.wrap (8 * 6)).toNat IntKind.i64.bits)) != 0)), [0, 1, 2, 3, 4, 5], ⟨rfl, rfl, ?_, ?_⟩, ⟨by simp only []; omega, ?_, ?_⟩, by simp only []; omega⟩
        · (repeat' (first | exact rfl | exact trivial | refine And.intro ?_ ?_ | ((conv => whnf); first | exact rfl | exact trivial | refine And.intro ?_ ?_)))
        · (repeat' (first | exact rfl | exact trivial | refine And.intro ?_ ?_ | ((conv => whnf); first | exact rfl | exact trivial | refine And.intro ?_ ?_)))
        · simp only []; rw [hb]; exact wides_step _ 4 _ hx _
        · exact bad_step hx hf (.inr (.inr ⟨by assumption, by assumption, rfl⟩)) (Nat.le_of_ble_eq_true rfl)
      · (refine CallN.intro (wideM (IntKind.u64.wrap (r3)) 6 (by omega)) [] rfl rfl ?_ ?_ ?_; ((repeat' (first | exact rfl | exact trivial | refine And.intro ?_ ?_ | ((conv => whnf); first | exact rfl | exact trivial | refine And.intro ?_ ?_)))); ((repeat' (first | exact rfl | exact trivial | refine And.intro ?_ ?_ | ((conv => whnf); first | exact rfl | exact trivial | refine And.intro ?_ ?_)))); (intro y hy; clear y hy; (repeat' ((conv => whnf); first | refine And.intro ?_ ?_ | exact Cl.mk (by kernel_rfl) | exact Ck.mk (by kernel_rfl) | refine DrawN.mk ?_ | refine CodeN.step hm rfl ?_ | exact trivial | exact rfl | (intro hh; try simp only [decide_eq_true_eq, decide_eq_false_iff_not, beq_iff_eq, beq_eq_false_iff_ne, bne_iff_ne, bne_eq_false_iff_eq, Bool.not_eq_true', Bool.not_eq_false', Bool.not_true, Bool.not_false] at hh; try exact absurd hh (by decide)))); all_goals (conv => whnf); (all_goals first | (exact Ob.mk (by decide)) | skip)))
        (refine CallN.intro (writeN b (wide (IntKind.u64.wrap (r3)) 6) true (by rw [wide_len]; omega)) [0, 1] rfl rfl ?_ ?_ ?_; ((repeat' (first | exact rfl | exact trivial | refine And.intro ?_ ?_ | ((conv => whnf); first | exact rfl | exact trivial | refine And.intro ?_ ?_)))); ((repeat' (first | exact rfl | exact trivial | refine And.intro ?_ ?_ | ((conv => whnf); first | exact rfl | exact trivial | refine And.intro ?_ ?_)))); (intro y hy; clear y hy; (repeat' ((conv => whnf); first | refine And.intro ?_ ?_ | exact Cl.mk (by kernel_rfl) | exact Ck.mk (by kernel_rfl) | refine DrawN.mk ?_ | refine CodeN.step hm rfl ?_ | exact trivial | exact rfl | (intro hh; try simp only [decide_eq_true_eq, decide_eq_false_iff_not, beq_iff_eq, beq_eq_false_iff_ne, bne_iff_ne, bne_eq_false_iff_eq, Bool.not_eq_true', Bool.not_eq_false', Bool.not_true, Bool.not_false] at hh; try exact absurd hh (by decide)))); all_goals (conv => whnf); (all_goals first | (exact Ob.mk (by decide)) | skip)))
        refine ⟨(5, b ++ wide (IntKind.u64.wrap (r3)) 6, true), [0, 1, 2, 3, 4, 5], ⟨rfl, rfl, ?_, ?_⟩, ⟨by simp only []; omega, ?_, ?_⟩, by simp only []; omega⟩
        · (repeat' (first | exact rfl | exact trivial | refine And.intro ?_ ?_ | ((conv => whnf); first | exact rfl | exact trivial | refine And.intro ?_ ?_)))
        · (repeat' (first | exact rfl | exact trivial | refine And.intro ?_ ?_ | ((conv => whnf); first | exact rfl | exact trivial | refine And.intro ?_ ?_)))
        · simp only []; rw [hb]; exact wides_step _ 4 _ hx _
        · exact bad_step hx hf (.inr (.inl ⟨by assumption, rfl⟩)) (Nat.le_of_ble_eq_true rfl)
      · (refine CallN.intro (wideM (IntKind.u64.wrap (r3)) 6 (by omega)) [] rfl rfl ?_ ?_ ?_; ((repeat' (first | exact rfl | exact trivial | refine And.intro ?_ ?_ | ((conv => whnf); first | exact rfl | exact trivial | refine And.intro ?_ ?_)))); ((repeat' (first | exact rfl | exact trivial | refine And.intro ?_ ?_ | ((conv => whnf); first | exact rfl | exact trivial | refine And.intro ?_ ?_)))); (intro y hy; clear y hy; (repeat' ((conv => whnf); first | refine And.intro ?_ ?_ | exact Cl.mk (by kernel_rfl) | exact Ck.mk (by kernel_rfl) | refine DrawN.mk ?_ | refine CodeN.step hm rfl ?_ | exact trivial | exact rfl | (intro hh; try simp only [decide_eq_true_eq, decide_eq_false_iff_not, beq_iff_eq, beq_eq_false_iff_ne, bne_iff_ne, bne_eq_false_iff_eq, Bool.not_eq_true', Bool.not_eq_false', Bool.not_true, Bool.not_false] at hh; try exact absurd hh (by decide)))); all_goals (conv => whnf); (all_goals first | (exact Ob.mk (by decide)) | skip)))
        (refine CallN.intro (writeN b (wide (IntKind.u64.wrap (r3)) 6) true (by rw [wide_len]; omega)) [0, 1] rfl rfl ?_ ?_ ?_; ((repeat' (first | exact rfl | exact trivial | refine And.intro ?_ ?_ | ((conv => whnf); first | exact rfl | exact trivial | refine And.intro ?_ ?_)))); ((repeat' (first | exact rfl | exact trivial | refine And.intro ?_ ?_ | ((conv => whnf); first | exact rfl | exact trivial | refine And.intro ?_ ?_)))); (intro y hy; clear y hy; (repeat' ((conv => whnf); first | refine And.intro ?_ ?_ | exact Cl.mk (by kernel_rfl) | exact Ck.mk (by kernel_rfl) | refine DrawN.mk ?_ | refine CodeN.step hm rfl ?_ | exact trivial | exact rfl | (intro hh; try simp only [decide_eq_true_eq, decide_eq_false_iff_not, beq_iff_eq, beq_eq_false_iff_ne, bne_iff_ne, bne_eq_false_iff_eq, Bool.not_eq_true', Bool.not_eq_false', Bool.not_true, Bool.not_false] at hh; try exact absurd hh (by decide)))); all_goals (conv => whnf); (all_goals first | (exact Ob.mk (by decide)) | skip)))
        refine ⟨(5, b ++ wide (IntKind.u64.wrap (r3)) 6, true), [0, 1, 2, 3, 4, 5], ⟨rfl, rfl, ?_, ?_⟩, ⟨by simp only []; omega, ?_, ?_⟩, by simp only []; omega⟩
        · (repeat' (first | exact rfl | exact trivial | refine And.intro ?_ ?_ | ((conv => whnf); first | exact rfl | exact trivial | refine And.intro ?_ ?_)))
        · (repeat' (first | exact rfl | exact trivial | refine And.intro ?_ ?_ | ((conv => whnf); first | exact rfl | exact trivial | refine And.intro ?_ ?_)))
        · simp only []; rw [hb]; exact wides_step _ 4 _ hx _
        · exact bad_step hx hf (.inl ⟨by assumption, rfl⟩) (Nat.le_of_ble_eq_true rfl)
    · (repeat' ((conv => whnf); first | refine And.intro ?_ ?_ | exact Cl.mk (by kernel_rfl) | exact Ck.mk (by kernel_rfl) | refine DrawN.mk ?_ | refine CodeN.step hm rfl ?_ | exact trivial | exact rfl | (intro hh; try simp only [decide_eq_true_eq, decide_eq_false_iff_not, beq_iff_eq, beq_eq_false_iff_ne, bne_iff_ne, bne_eq_false_iff_eq, Bool.not_eq_true', Bool.not_eq_false', Bool.not_true, Bool.not_false] at hh))); all_goals (conv => whnf)
      all_goals first | (exfalso; exact absurd hh (by decide)) | skip
      rw [List.take_of_length_le (by simp)] at hb hf
      (refine RetN.intro () [0, 1, 2, 3, 4, 5] rfl rfl ?_ ?_ ?_; ((repeat' (first | exact rfl | exact trivial | refine And.intro ?_ ?_ | ((conv => whnf); first | exact rfl | exact trivial | refine And.intro ?_ ?_)))); ((repeat' (first | exact rfl | exact trivial | refine And.intro ?_ ?_ | ((conv => whnf); first | exact rfl | exact trivial | refine And.intro ?_ ?_))); all_goals (conv => whnf); all_goals (try simp only [])))
      all_goals simp only [hb, hf, List.nil_append, Bool.false_or]
/-- The numbers ahead of the lists. -/
theorem headM (k c c0 v p1 p2 p3 p4 nw cn : Int) (told : List Told) (names : List Name) : Meets Try.prog 57 [.ptr 0 0, .vec 1 2 (fun _ => 0) fun _ => 9]
    ([.cells 104 [.pnil, .snil, .bool fun _ => false], .cells 109 [.ptr 2 0, .int .i64 fun _ => 1, .ptr 3 0, .int .i64 fun _ => 1, .ptr 2 3, .int .i64 fun _ => 4, .ptr 2 4, .int .i64 fun _ => 1, .ptr 2 5, .int .i64 fun _ => 4, .ptr 2 6, .int .i64 fun _ => 4, .ptr 2 7, .int .i64 fun _ => 1, .ptr 2 8, .int .i64 fun _ => 6, .ptr 2 9, .int .i64 fun _ => 2], .cells 28 [.int .i64 fun _ => k, .int .i64 fun _ => c0, .lst ToldT fun _ => told, .int .i64 fun _ => v, .int .i64 fun _ => p1, .int .i64 fun _ => p2, .int .i64 fun _ => p3, .int .i64 fun _ => p4, .int .i64 fun _ => nw, .int .i64 fun _ => cn, .lst NameT fun _ => names], .cells 3 [.int .i64 fun _ => c]]) (Y := Unit) (fun _ => True) (fun _ => .tup []) (fun _ => [.cells 104 [.ptr 0 0, .vec 4 1 (fun _ => 0) (fun _ => (wides [(k, 1), (c, 1), (v, 4), (p1, 1), (p2, 4), (p3, 4), (p4, 1), (nw, 6), (cn, 2)]).length), .bool fun _ => bads [(k, 1), (c, 1), (v, 4), (p1, 1), (p2, 4), (p3, 4), (p4, 1), (nw, 6), (cn, 2)]], .none, .cells 28 [.int .i64 fun _ => k, .int .i64 fun _ => c0, .lst ToldT fun _ => told, .int .i64 fun _ => v, .int .i64 fun _ => p1, .int .i64 fun _ => p2, .int .i64 fun _ => p3, .int .i64 fun _ => p4, .int .i64 fun _ => nw, .int .i64 fun _ => cn, .lst NameT fun _ => names], .cells 3 [.int .i64 fun _ => c], .vect 5 (.int .u8) fun _ => byv (wides [(k, 1), (c, 1), (v, 4), (p1, 1), (p2, 4), (p3, 4), (p4, 1), (nw, 6), (cn, 2)])]) := by
  refine Meets.intro hm (fn := Try.f57) Try.func57 rfl (by decide) (Nat.le_of_ble_eq_true rfl) (fun _ => rfl) ?_; intro S hok; (conv => whnf)
  (repeat' ((conv => whnf); first | refine And.intro ?_ ?_ | exact Cl.mk (by kernel_rfl) | exact Ck.mk (by kernel_rfl) | refine DrawN.mk ?_ | refine CodeN.step hm rfl ?_ | exact trivial | exact rfl | (intro hh; try simp only [decide_eq_true_eq, decide_eq_false_iff_not, beq_iff_eq, beq_eq_false_iff_ne, bne_iff_ne, bne_eq_false_iff_eq, Bool.not_eq_true', Bool.not_eq_false', Bool.not_true, Bool.not_false] at hh))); all_goals (conv => whnf)
  refine LoopN.intro hm (X := Nat × Bytes × Bool) (fun x => x.1 ≤ 9 ∧ x.2.1 = ([] : Bytes) ++ wides ([(k, 1), (c, 1), (v, 4), (p1, 1), (p2, 4), (p3, 4), (p4, 1), (nw, 6), (cn, 2)].take x.1) ∧ x.2.2 = (false || bads ([(k, 1), (c, 1), (v, 4), (p1, 1), (p2, 4), (p3, 4), (p4, 1), (nw, 6), (cn, 2)].take x.1))) (fun x => 9 - x.1)
    (fun x => [(8, .int .i64 fun _ => (x.1 : Int)), (7, .int .i64 fun _ => 9), (6, .vec 1 2 (fun _ => 0) fun _ => 9), (0, .ptr 0 0)])
    (fun x => match x.1 with | 0 => [.cells 104 [.pnil, .snil, .bool fun _ => x.2.2], .cells 109 [.ptr 2 0, .int .i64 fun _ => 1, .ptr 3 0, .int .i64 fun _ => 1, .ptr 2 3, .int .i64 fun _ => 4, .ptr 2 4, .int .i64 fun _ => 1, .ptr 2 5, .int .i64 fun _ => 4, .ptr 2 6, .int .i64 fun _ => 4, .ptr 2 7, .int .i64 fun _ => 1, .ptr 2 8, .int .i64 fun _ => 6, .ptr 2 9, .int .i64 fun _ => 2], .cells 28 [.int .i64 fun _ => k, .int .i64 fun _ => c0, .lst ToldT fun _ => told, .int .i64 fun _ => v, .int .i64 fun _ => p1, .int .i64 fun _ => p2, .int .i64 fun _ => p3, .int .i64 fun _ => p4, .int .i64 fun _ => nw, .int .i64 fun _ => cn, .lst NameT fun _ => names], .cells 3 [.int .i64 fun _ => c]] | _ + 1 => [.cells 104 [.ptr 0 0, .vec 4 1 (fun _ => 0) (fun _ => x.2.1.length), .bool fun _ => x.2.2], .cells 109 [.ptr 2 0, .int .i64 fun _ => 1, .ptr 3 0, .int .i64 fun _ => 1, .ptr 2 3, .int .i64 fun _ => 4, .ptr 2 4, .int .i64 fun _ => 1, .ptr 2 5, .int .i64 fun _ => 4, .ptr 2 6, .int .i64 fun _ => 4, .ptr 2 7, .int .i64 fun _ => 1, .ptr 2 8, .int .i64 fun _ => 6, .ptr 2 9, .int .i64 fun _ => 2], .cells 28 [.int .i64 fun _ => k, .int .i64 fun _ => c0, .lst ToldT fun _ => told, .int .i64 fun _ => v, .int .i64 fun _ => p1, .int .i64 fun _ => p2, .int .i64 fun _ => p3, .int .i64 fun _ => p4, .int .i64 fun _ => nw, .int .i64 fun _ => cn, .lst NameT fun _ => names], .cells 3 [.int .i64 fun _ => c], .vect 5 (.int .u8) fun _ => byv x.2.1]) (0, ([] : Bytes), false) [0, 1, 2, 3] ⟨rfl, rfl, ?_, ?_⟩ ⟨Nat.zero_le _, by simp [wides], by simp [bads]⟩ (fun x hx => ?_)
  · (repeat' (first | exact rfl | exact trivial | refine And.intro ?_ ?_ | ((conv => whnf); first | exact rfl | exact trivial | refine And.intro ?_ ?_)))
  · (repeat' (first | exact rfl | exact trivial | refine And.intro ?_ ?_ | ((conv => whnf); first | exact rfl | exact trivial | refine And.intro ?_ ?_)))
  · obtain ⟨i, b, f⟩ := x
    obtain ⟨hi, hb, hf⟩ := hx
    simp only [] at hi hb hf
    have hbl : b.length ≤ 990000 := by
      have h1 : (wides ([(k, 1), (c, 1), (v, 4), (p1, 1), (p2, 4), (p3, 4), (p4, 1), (nw, 6), (cn, 2)].take i)).length ≤ 100 := by
        rw [wides_len]; revert hi; clear hb hf; intro hi
        obtain rfl | rfl | rfl | rfl | rfl | rfl | rfl | rfl | rfl | rfl : i = 0 ∨ i = 1 ∨ i = 2 ∨ i = 3 ∨ i = 4 ∨ i = 5 ∨ i = 6 ∨ i = 7 ∨ i = 8 ∨ i = 9 := by omega
        all_goals (simp only [List.take, List.map, List.sum_cons, List.sum_nil]; omega)
      rw [hb, List.length_append]; simp; omega
    obtain rfl | rfl | rfl | rfl | rfl | rfl | rfl | rfl | rfl | rfl : i = 0 ∨ i = 1 ∨ i = 2 ∨ i = 3 ∨ i = 4 ∨ i = 5 ∨ i = 6 ∨ i = 7 ∨ i = 8 ∨ i = 9 := by omega
    · have hx : [(k, 1), (c, 1), (v, 4), (p1, 1), (p2, 4), (p3, 4), (p4, 1), (nw, 6), (cn, 2)][0]? = some (k, 1) := rfl
      (repeat' ((conv => whnf); first | refine And.intro ?_ ?_ | exact Cl.mk (by kernel_rfl) | exact Ck.mk (by kernel_rfl) | refine DrawN.mk ?_ | refine CodeN.step hm rfl ?_ | exact trivial | exact rfl | (intro hh; try simp only [decide_eq_true_eq, decide_eq_false_iff_not, beq_iff_eq, beq_eq_false_iff_ne, bne_iff_ne, bne_eq_false_iff_eq, Bool.not_eq_true', Bool.not_eq_false', Bool.not_true, Bool.not_false] at hh))); all_goals (conv => whnf)
      all_goals first | (exact Ob.mk (by decide)) | (exact Ob.mk (by simp)) | skip
      rotate_right
      · exact absurd (by decide) hh
      · (refine CallN.intro (wideM (IntKind.u64.wrap (k)) 1 (by omega)) [] rfl rfl ?_ ?_ ?_; ((repeat' (first | exact rfl | exact trivial | refine And.intro ?_ ?_ | ((conv => whnf); first | exact rfl | exact trivial | refine And.intro ?_ ?_)))); ((repeat' (first | exact rfl | exact trivial | refine And.intro ?_ ?_ | ((conv => whnf); first | exact rfl | exact trivial | refine And.intro ?_ ?_)))); (intro y hy; clear y hy; (repeat' ((conv => whnf); first | refine And.intro ?_ ?_ | exact Cl.mk (by kernel_rfl) | exact Ck.mk (by kernel_rfl) | refine DrawN.mk ?_ | refine CodeN.step hm rfl ?_ | exact trivial | exact rfl | (intro hh; try simp only [decide_eq_true_eq, decide_eq_false_iff_not, beq_iff_eq, beq_eq_false_iff_ne, bne_iff_ne, bne_eq_false_iff_eq, Bool.not_eq_true', Bool.not_eq_false', Bool.not_true, Bool.not_false] at hh; try exact absurd hh (by decide)))); all_goals (conv => whnf); (all_goals first | (exact Ob.mk (by decide)) | skip)))
        (refine CallN.intro (write0 (wide (IntKind.u64.wrap (k)) 1) ((k).fdiv (2 ^ (min (IntKind.i64.wrap (8 * 1)).toNat IntKind.i64.bits)) != 0) (by rw [wide_len]; omega)) [0] rfl rfl ?_ ?_ ?_; ((repeat' (first | exact rfl | exact trivial | refine And.intro ?_ ?_ | ((conv => whnf); first | exact rfl | exact trivial | refine And.intro ?_ ?_)))); ((repeat' (first | exact rfl | exact trivial | refine And.intro ?_ ?_ | ((conv => whnf); first | exact rfl | exact trivial | refine And.intro ?_ ?_)))); (intro y hy; clear y hy; (repeat' ((conv => whnf); first | refine And.intro ?_ ?_ | exact Cl.mk (by kernel_rfl) | exact Ck.mk (by kernel_rfl) | refine DrawN.mk ?_ | refine CodeN.step hm rfl ?_ | exact trivial | exact rfl | (intro hh; try simp only [decide_eq_true_eq, decide_eq_false_iff_not, beq_iff_eq, beq_eq_false_iff_ne, bne_iff_ne, bne_eq_false_iff_eq, Bool.not_eq_true', Bool.not_eq_false', Bool.not_true, Bool.not_false] at hh; try exact absurd hh (by decide)))); all_goals (conv => whnf); (all_goals first | (exact Ob.mk (by decide)) | skip)))
        refine ⟨(1, wide (IntKind.u64.wrap (k)) 1, ((k).fdiv (2 ^ (min (IntKind.i64.wrap (8 * 1)).toNat IntKind.i64.bits)) != 0)), [0, 1, 2, 3, 5], ⟨rfl, rfl, ?_, ?_⟩, ⟨by simp only []; omega, ?_, ?_⟩, by simp only []; omega⟩
        · (repeat' (first | exact rfl | exact trivial | refine And.intro ?_ ?_ | ((conv => whnf); first | exact rfl | exact trivial | refine And.intro ?_ ?_)))
        · (repeat' (first | exact rfl | exact trivial | refine And.intro ?_ ?_ | ((conv => whnf); first | exact rfl | exact trivial | refine And.intro ?_ ?_)))
        · simp [wides]
        · exact bad_step hx hf (.inr (.inr ⟨by assumption, by assumption, rfl⟩)) (Nat.le_of_ble_eq_true rfl)
      · (refine CallN.intro (wideM (IntKind.u64.wrap (k)) 1 (by omega)) [] rfl rfl ?_ ?_ ?_; ((repeat' (first | exact rfl | exact trivial | refine And.intro ?_ ?_ | ((conv => whnf); first | exact rfl | exact trivial | refine And.intro ?_ ?_)))); ((repeat' (first | exact rfl | exact trivial | refine And.intro ?_ ?_ | ((conv => whnf); first | exact rfl | exact trivial | refine And.intro ?_ ?_)))); (intro y hy; clear y hy; (repeat' ((conv => whnf); first | refine And.intro ?_ ?_ | exact Cl.mk (by kernel_rfl) | exact Ck.mk (by kernel_rfl) | refine DrawN.mk ?_ | refine CodeN.step hm rfl ?_ | exact trivial | exact rfl | (intro hh; try simp only [decide_eq_true_eq, decide_eq_false_iff_not, beq_iff_eq, beq_eq_false_iff_ne, bne_iff_ne, bne_eq_false_iff_eq, Bool.not_eq_true', Bool.not_eq_false', Bool.not_true, Bool.not_false] at hh; try exact absurd hh (by decide)))); all_goals (conv => whnf); (all_goals first | (exact Ob.mk (by decide)) | skip)))
        (refine CallN.intro (write0 (wide (IntKind.u64.wrap (k)) 1) true (by rw [wide_len]; omega)) [0] rfl rfl ?_ ?_ ?_; ((repeat' (first | exact rfl | exact trivial | refine And.intro ?_ ?_ | ((conv => whnf); first | exact rfl | exact trivial | refine And.intro ?_ ?_)))); ((repeat' (first | exact rfl | exact trivial | refine And.intro ?_ ?_ | ((conv => whnf); first | exact rfl | exact trivial | refine And.intro ?_ ?_)))); (intro y hy; clear y hy; (repeat' ((conv => whnf); first | refine And.intro ?_ ?_ | exact Cl.mk (by kernel_rfl) | exact Ck.mk (by kernel_rfl) | refine DrawN.mk ?_ | refine CodeN.step hm rfl ?_ | exact trivial | exact rfl | (intro hh; try simp only [decide_eq_true_eq, decide_eq_false_iff_not, beq_iff_eq, beq_eq_false_iff_ne, bne_iff_ne, bne_eq_false_iff_eq, Bool.not_eq_true', Bool.not_eq_false', Bool.not_true, Bool.not_false] at hh; try exact absurd hh (by decide)))); all_goals (conv => whnf); (all_goals first | (exact Ob.mk (by decide)) | skip)))
        refine ⟨(1, wide (IntKind.u64.wrap (k)) 1, true), [0, 1, 2, 3, 5], ⟨rfl, rfl, ?_, ?_⟩, ⟨by simp only []; omega, ?_, ?_⟩, by simp only []; omega⟩
        · (repeat' (first | exact rfl | exact trivial | refine And.intro ?_ ?_ | ((conv => whnf); first | exact rfl | exact trivial | refine And.intro ?_ ?_)))
        · (repeat' (first | exact rfl | exact trivial | refine And.intro ?_ ?_ | ((conv => whnf); first | exact rfl | exact trivial | refine And.intro ?_ ?_)))
        · simp [wides]
        · exact bad_step hx hf (.inr (.inl ⟨by assumption, rfl⟩)) (Nat.le_of_ble_eq_true rfl)
      · (refine CallN.intro (wideM (IntKind.u64.wrap (k)) 1 (by omega)) [] rfl rfl ?_ ?_ ?_; ((repeat' (first | exact rfl | exact trivial | refine And.intro ?_ ?_ | ((conv => whnf); first | exact rfl | exact trivial | refine And.intro ?_ ?_)))); ((repeat' (first | exact rfl | exact trivial | refine And.intro ?_ ?_ | ((conv => whnf); first | exact rfl | exact trivial | refine And.intro ?_ ?_)))); (intro y hy; clear y hy; (repeat' ((conv => whnf); first | refine And.intro ?_ ?_ | exact Cl.mk (by kernel_rfl) | exact Ck.mk (by kernel_rfl) | refine DrawN.mk ?_ | refine CodeN.step hm rfl ?_ | exact trivial | exact rfl | (intro hh; try simp only [decide_eq_true_eq, decide_eq_false_iff_not, beq_iff_eq, beq_eq_false_iff_ne, bne_iff_ne, bne_eq_false_iff_eq, Bool.not_eq_true', Bool.not_eq_false', Bool.not_true, Bool.not_false] at hh; try exact absurd hh (by decide)))); all_goals (conv => whnf); (all_goals first | (exact Ob.mk (by decide)) | skip)))
        (refine CallN.intro (write0 (wide (IntKind.u64.wrap (k)) 1) true (by rw [wide_len]; omega)) [0] rfl rfl ?_ ?_ ?_; ((repeat' (first | exact rfl | exact trivial | refine And.intro ?_ ?_ | ((conv => whnf); first | exact rfl | exact trivial | refine And.intro ?_ ?_)))); ((repeat' (first | exact rfl | exact trivial | refine And.intro ?_ ?_ | ((conv => whnf); first | exact rfl | exact trivial | refine And.intro ?_ ?_)))); (intro y hy; clear y hy; (repeat' ((conv => whnf); first | refine And.intro ?_ ?_ | exact Cl.mk (by kernel_rfl) | exact Ck.mk (by kernel_rfl) | refine DrawN.mk ?_ | refine CodeN.step hm rfl ?_ | exact trivial | exact rfl | (intro hh; try simp only [decide_eq_true_eq, decide_eq_false_iff_not, beq_iff_eq, beq_eq_false_iff_ne, bne_iff_ne, bne_eq_false_iff_eq, Bool.not_eq_true', Bool.not_eq_false', Bool.not_true, Bool.not_false] at hh; try exact absurd hh (by decide)))); all_goals (conv => whnf); (all_goals first | (exact Ob.mk (by decide)) | skip)))
        refine ⟨(1, wide (IntKind.u64.wrap (k)) 1, true), [0, 1, 2, 3, 5], ⟨rfl, rfl, ?_, ?_⟩, ⟨by simp only []; omega, ?_, ?_⟩, by simp only []; omega⟩
        · (repeat' (first | exact rfl | exact trivial | refine And.intro ?_ ?_ | ((conv => whnf); first | exact rfl | exact trivial | refine And.intro ?_ ?_)))
        · (repeat' (first | exact rfl | exact trivial | refine And.intro ?_ ?_ | ((conv => whnf); first | exact rfl | exact trivial | refine And.intro ?_ ?_)))
        · simp [wides]
        · exact bad_step hx hf (.inl ⟨by assumption, rfl⟩) (Nat.le_of_ble_eq_true rfl)
    · have hx : [(k, 1), (c, 1), (v, 4), (p1, 1), (p2, 4), (p3, 4), (p4, 1), (nw, 6), (cn, 2)][1]? = some (c, 1) := rfl
      (repeat' ((conv => whnf); first | refine And.intro ?_ ?_ | exact Cl.mk (by kernel_rfl) | exact Ck.mk (by kernel_rfl) | refine DrawN.mk ?_ | refine CodeN.step hm rfl ?_ | exact trivial | exact rfl | (intro hh; try simp only [decide_eq_true_eq, decide_eq_false_iff_not, beq_iff_eq, beq_eq_false_iff_ne, bne_iff_ne, bne_eq_false_iff_eq, Bool.not_eq_true', Bool.not_eq_false', Bool.not_true, Bool.not_false] at hh))); all_goals (conv => whnf)
      all_goals first | (exact Ob.mk (by decide)) | (exact Ob.mk (by simp)) | skip
      rotate_right
      · exact absurd (by decide) hh
      · (refine CallN.intro (wideM (IntKind.u64.wrap (c)) 1 (by omega)) [] rfl rfl ?_ ?_ ?_; ((repeat' (first | exact rfl | exact trivial | refine And.intro ?_ ?_ | ((conv => whnf); first | exact rfl | exact trivial | refine And.intro ?_ ?_)))); ((repeat' (first | exact rfl | exact trivial | refine And.intro ?_ ?_ | ((conv => whnf); first | exact rfl | exact trivial | refine And.intro ?_ ?_)))); (intro y hy; clear y hy; (repeat' ((conv => whnf); first | refine And.intro ?_ ?_ | exact Cl.mk (by kernel_rfl) | exact Ck.mk (by kernel_rfl) | refine DrawN.mk ?_ | refine CodeN.step hm rfl ?_ | exact trivial | exact rfl | (intro hh; try simp only [decide_eq_true_eq, decide_eq_false_iff_not, beq_iff_eq, beq_eq_false_iff_ne, bne_iff_ne, bne_eq_false_iff_eq, Bool.not_eq_true', Bool.not_eq_false', Bool.not_true, Bool.not_false] at hh; try exact absurd hh (by decide)))); all_goals (conv => whnf); (all_goals first | (exact Ob.mk (by decide)) | skip)))
        (refine CallN.intro (writeN b (wide (IntKind.u64.wrap (c)) 1) ((c).fdiv (2 ^ (min (IntKind.i64.wrap (8 * 1)).toNat IntKind.i64.bits)) != 0) (by rw [wide_len]; omega)) [0, 4] rfl rfl ?_ ?_ ?_; ((repeat' (first | exact rfl | exact trivial | refine And.intro ?_ ?_ | ((conv => whnf); first | exact rfl | exact trivial | refine And.intro ?_ ?_)))); ((repeat' (first | exact rfl | exact trivial | refine And.intro ?_ ?_ | ((conv => whnf); first | exact rfl | exact trivial | refine And.intro ?_ ?_)))); (intro y hy; clear y hy; (repeat' ((conv => whnf); first | refine And.intro ?_ ?_ | exact Cl.mk (by kernel_rfl) | exact Ck.mk (by kernel_rfl) | refine DrawN.mk ?_ | refine CodeN.step hm rfl ?_ | exact trivial | exact rfl | (intro hh; try simp only [decide_eq_true_eq, decide_eq_false_iff_not, beq_iff_eq, beq_eq_false_iff_ne, bne_iff_ne, bne_eq_false_iff_eq, Bool.not_eq_true', Bool.not_eq_false', Bool.not_true, Bool.not_false] at hh; try exact absurd hh (by decide)))); all_goals (conv => whnf); (all_goals first | (exact Ob.mk (by decide)) | skip)))
        refine ⟨(2, b ++ wide (IntKind.u64.wrap (c)) 1, ((c).fdiv (2 ^ (min (IntKind.i64.wrap (8 * 1)).toNat IntKind.i64.bits)) != 0)), [0, 1, 2, 3, 4], ⟨rfl, rfl, ?_, ?_⟩, ⟨by simp only []; omega, ?_, ?_⟩, by simp only []; omega⟩
        · (repeat' (first | exact rfl | exact trivial | refine And.intro ?_ ?_ | ((conv => whnf); first | exact rfl | exact trivial | refine And.intro ?_ ?_)))
        · (repeat' (first | exact rfl | exact trivial | refine And.intro ?_ ?_ | ((conv => whnf); first | exact rfl | exact trivial | refine And.intro ?_ ?_)))
        · simp only []; rw [hb]; exact wides_step _ 1 _ hx _
        · exact bad_step hx hf (.inr (.inr ⟨by assumption, by assumption, rfl⟩)) (Nat.le_of_ble_eq_true rfl)
      · (refine CallN.intro (wideM (IntKind.u64.wrap (c)) 1 (by omega)) [] rfl rfl ?_ ?_ ?_; ((repeat' (first | exact rfl | exact trivial | refine And.intro ?_ ?_ | ((conv => whnf); first | exact rfl | exact trivial | refine And.intro ?_ ?_)))); ((repeat' (first | exact rfl | exact trivial | refine And.intro ?_ ?_ | ((conv => whnf); first | exact rfl | exact trivial | refine And.intro ?_ ?_)))); (intro y hy; clear y hy; (repeat' ((conv => whnf); first | refine And.intro ?_ ?_ | exact Cl.mk (by kernel_rfl) | exact Ck.mk (by kernel_rfl) | refine DrawN.mk ?_ | refine CodeN.step hm rfl ?_ | exact trivial | exact rfl | (intro hh; try simp only [decide_eq_true_eq, decide_eq_false_iff_not, beq_iff_eq, beq_eq_false_iff_ne, bne_iff_ne, bne_eq_false_iff_eq, Bool.not_eq_true', Bool.not_eq_false', Bool.not_true, Bool.not_false] at hh; try exact absurd hh (by decide)))); all_goals (conv => whnf); (all_goals first | (exact Ob.mk (by decide)) | skip)))
        (refine CallN.intro (writeN b (wide (IntKind.u64.wrap (c)) 1) true (by rw [wide_len]; omega)) [0, 4] rfl rfl ?_ ?_ ?_; ((repeat' (first | exact rfl | exact trivial | refine And.intro ?_ ?_ | ((conv => whnf); first | exact rfl | exact trivial | refine And.intro ?_ ?_)))); ((repeat' (first | exact rfl | exact trivial | refine And.intro ?_ ?_ | ((conv => whnf); first | exact rfl | exact trivial | refine And.intro ?_ ?_)))); (intro y hy; clear y hy; (repeat' ((conv => whnf); first | refine And.intro ?_ ?_ | exact Cl.mk (by kernel_rfl) | exact Ck.mk (by kernel_rfl) | refine DrawN.mk ?_ | refine CodeN.step hm rfl ?_ | exact trivial | exact rfl | (intro hh; try simp only [decide_eq_true_eq, decide_eq_false_iff_not, beq_iff_eq, beq_eq_false_iff_ne, bne_iff_ne, bne_eq_false_iff_eq, Bool.not_eq_true', Bool.not_eq_false', Bool.not_true, Bool.not_false] at hh; try exact absurd hh (by decide)))); all_goals (conv => whnf); (all_goals first | (exact Ob.mk (by decide)) | skip)))
        refine ⟨(2, b ++ wide (IntKind.u64.wrap (c)) 1, true), [0, 1, 2, 3, 4], ⟨rfl, rfl, ?_, ?_⟩, ⟨by simp only []; omega, ?_, ?_⟩, by simp only []; omega⟩
        · (repeat' (first | exact rfl | exact trivial | refine And.intro ?_ ?_ | ((conv => whnf); first | exact rfl | exact trivial | refine And.intro ?_ ?_)))
        · (repeat' (first | exact rfl | exact trivial | refine And.intro ?_ ?_ | ((conv => whnf); first | exact rfl | exact trivial | refine And.intro ?_ ?_)))
        · simp only []; rw [hb]; exact wides_step _ 1 _ hx _
        · exact bad_step hx hf (.inr (.inl ⟨by assumption, rfl⟩)) (Nat.le_of_ble_eq_true rfl)
      · (refine CallN.intro (wideM (IntKind.u64.wrap (c)) 1 (by omega)) [] rfl rfl ?_ ?_ ?_; ((repeat' (first | exact rfl | exact trivial | refine And.intro ?_ ?_ | ((conv => whnf); first | exact rfl | exact trivial | refine And.intro ?_ ?_)))); ((repeat' (first | exact rfl | exact trivial | refine And.intro ?_ ?_ | ((conv => whnf); first | exact rfl | exact trivial | refine And.intro ?_ ?_)))); (intro y hy; clear y hy; (repeat' ((conv => whnf); first | refine And.intro ?_ ?_ | exact Cl.mk (by kernel_rfl) | exact Ck.mk (by kernel_rfl) | refine DrawN.mk ?_ | refine CodeN.step hm rfl ?_ | exact trivial | exact rfl | (intro hh; try simp only [decide_eq_true_eq, decide_eq_false_iff_not, beq_iff_eq, beq_eq_false_iff_ne, bne_iff_ne, bne_eq_false_iff_eq, Bool.not_eq_true', Bool.not_eq_false', Bool.not_true, Bool.not_false] at hh; try exact absurd hh (by decide)))); all_goals (conv => whnf); (all_goals first | (exact Ob.mk (by decide)) | skip)))
        (refine CallN.intro (writeN b (wide (IntKind.u64.wrap (c)) 1) true (by rw [wide_len]; omega)) [0, 4] rfl rfl ?_ ?_ ?_; ((repeat' (first | exact rfl | exact trivial | refine And.intro ?_ ?_ | ((conv => whnf); first | exact rfl | exact trivial | refine And.intro ?_ ?_)))); ((repeat' (first | exact rfl | exact trivial | refine And.intro ?_ ?_ | ((conv => whnf); first | exact rfl | exact trivial | refine And.intro ?_ ?_)))); (intro y hy; clear y hy; (repeat' ((conv => whnf); first | refine And.intro ?_ ?_ | exact Cl.mk (by kernel_rfl) | exact Ck.mk (by kernel_rfl) | refine DrawN.mk ?_ | refine CodeN.step hm rfl ?_ | exact trivial | exact rfl | (intro hh; try simp only [decide_eq_true_eq, decide_eq_false_iff_not, beq_iff_eq, beq_eq_false_iff_ne, bne_iff_ne, bne_eq_false_iff_eq, Bool.not_eq_true', Bool.not_eq_false', Bool.not_true, Bool.not_false] at hh; try exact absurd hh (by decide)))); all_goals (conv => whnf); (all_goals first | (exact Ob.mk (by decide)) | skip)))
        refine ⟨(2, b ++ wide (IntKind.u64.wrap (c)) 1, true), [0, 1, 2, 3, 4], ⟨rfl, rfl, ?_, ?_⟩, ⟨by simp only []; omega, ?_, ?_⟩, by simp only []; omega⟩
        · (repeat' (first | exact rfl | exact trivial | refine And.intro ?_ ?_ | ((conv => whnf); first | exact rfl | exact trivial | refine And.intro ?_ ?_)))
        · (repeat' (first | exact rfl | exact trivial | refine And.intro ?_ ?_ | ((conv => whnf); first | exact rfl | exact trivial | refine And.intro ?_ ?_)))
        · simp only []; rw [hb]; exact wides_step _ 1 _ hx _
        · exact bad_step hx hf (.inl ⟨by assumption, rfl⟩) (Nat.le_of_ble_eq_true rfl)
    · have hx : [(k, 1), (c, 1), (v, 4), (p1, 1), (p2, 4), (p3, 4), (p4, 1), (nw, 6), (cn, 2)][2]? = some (v, 4) := rfl
      (repeat' ((conv => whnf); first | refine And.intro ?_ ?_ | exact Cl.mk (by kernel_rfl) | exact Ck.mk (by kernel_rfl) | refine DrawN.mk ?_ | refine CodeN.step hm rfl ?_ | exact trivial | exact rfl | (intro hh; try simp only [decide_eq_true_eq, decide_eq_false_iff_not, beq_iff_eq, beq_eq_false_iff_ne, bne_iff_ne, bne_eq_false_iff_eq, Bool.not_eq_true', Bool.not_eq_false', Bool.not_true, Bool.not_false] at hh))); all_goals (conv => whnf)
      all_goals first | (exact Ob.mk (by decide)) | (exact Ob.mk (by simp)) | skip
      rotate_right
      · exact absurd (by decide) hh
      · (refine CallN.intro (wideM (IntKind.u64.wrap (v)) 4 (by omega)) [] rfl rfl ?_ ?_ ?_; ((repeat' (first | exact rfl | exact trivial | refine And.intro ?_ ?_ | ((conv => whnf); first | exact rfl | exact trivial | refine And.intro ?_ ?_)))); ((repeat' (first | exact rfl | exact trivial | refine And.intro ?_ ?_ | ((conv => whnf); first | exact rfl | exact trivial | refine And.intro ?_ ?_)))); (intro y hy; clear y hy; (repeat' ((conv => whnf); first | refine And.intro ?_ ?_ | exact Cl.mk (by kernel_rfl) | exact Ck.mk (by kernel_rfl) | refine DrawN.mk ?_ | refine CodeN.step hm rfl ?_ | exact trivial | exact rfl | (intro hh; try simp only [decide_eq_true_eq, decide_eq_false_iff_not, beq_iff_eq, beq_eq_false_iff_ne, bne_iff_ne, bne_eq_false_iff_eq, Bool.not_eq_true', Bool.not_eq_false', Bool.not_true, Bool.not_false] at hh; try exact absurd hh (by decide)))); all_goals (conv => whnf); (all_goals first | (exact Ob.mk (by decide)) | skip)))
        (refine CallN.intro (writeN b (wide (IntKind.u64.wrap (v)) 4) ((v).fdiv (2 ^ (min (IntKind.i64.wrap (8 * 4)).toNat IntKind.i64.bits)) != 0) (by rw [wide_len]; omega)) [0, 4] rfl rfl ?_ ?_ ?_; ((repeat' (first | exact rfl | exact trivial | refine And.intro ?_ ?_ | ((conv => whnf); first | exact rfl | exact trivial | refine And.intro ?_ ?_)))); ((repeat' (first | exact rfl | exact trivial | refine And.intro ?_ ?_ | ((conv => whnf); first | exact rfl | exact trivial | refine And.intro ?_ ?_)))); (intro y hy; clear y hy; (repeat' ((conv => whnf); first | refine And.intro ?_ ?_ | exact Cl.mk (by kernel_rfl) | exact Ck.mk (by kernel_rfl) | refine DrawN.mk ?_ | refine CodeN.step hm rfl ?_ | exact trivial | exact rfl | (intro hh; try simp only [decide_eq_true_eq, decide_eq_false_iff_not, beq_iff_eq, beq_eq_false_iff_ne, bne_iff_ne, bne_eq_false_iff_eq, Bool.not_eq_true', Bool.not_eq_false', Bool.not_true, Bool.not_false] at hh; try exact absurd hh (by decide)))); all_goals (conv => whnf); (all_goals first | (exact Ob.mk (by decide)) | skip)))
        refine ⟨(3, b ++ wide (IntKind.u64.wrap (v)) 4, ((v).fdiv (2 ^ (min (IntKind.i64.wrap (8 * 4)).toNat IntKind.i64.bits)) != 0)), [0, 1, 2, 3, 4], ⟨rfl, rfl, ?_, ?_⟩, ⟨by simp only []; omega, ?_, ?_⟩, by simp only []; omega⟩
        · (repeat' (first | exact rfl | exact trivial | refine And.intro ?_ ?_ | ((conv => whnf); first | exact rfl | exact trivial | refine And.intro ?_ ?_)))
        · (repeat' (first | exact rfl | exact trivial | refine And.intro ?_ ?_ | ((conv => whnf); first | exact rfl | exact trivial | refine And.intro ?_ ?_)))
        · simp only []; rw [hb]; exact wides_step _ 2 _ hx _
        · exact bad_step hx hf (.inr (.inr ⟨by assumption, by assumption, rfl⟩)) (Nat.le_of_ble_eq_true rfl)
      · (refine CallN.intro (wideM (IntKind.u64.wrap (v)) 4 (by omega)) [] rfl rfl ?_ ?_ ?_; ((repeat' (first | exact rfl | exact trivial | refine And.intro ?_ ?_ | ((conv => whnf); first | exact rfl | exact trivial | refine And.intro ?_ ?_)))); ((repeat' (first | exact rfl | exact trivial | refine And.intro ?_ ?_ | ((conv => whnf); first | exact rfl | exact trivial | refine And.intro ?_ ?_)))); (intro y hy; clear y hy; (repeat' ((conv => whnf); first | refine And.intro ?_ ?_ | exact Cl.mk (by kernel_rfl) | exact Ck.mk (by kernel_rfl) | refine DrawN.mk ?_ | refine CodeN.step hm rfl ?_ | exact trivial | exact rfl | (intro hh; try simp only [decide_eq_true_eq, decide_eq_false_iff_not, beq_iff_eq, beq_eq_false_iff_ne, bne_iff_ne, bne_eq_false_iff_eq, Bool.not_eq_true', Bool.not_eq_false', Bool.not_true, Bool.not_false] at hh; try exact absurd hh (by decide)))); all_goals (conv => whnf); (all_goals first | (exact Ob.mk (by decide)) | skip)))
        (refine CallN.intro (writeN b (wide (IntKind.u64.wrap (v)) 4) true (by rw [wide_len]; omega)) [0, 4] rfl rfl ?_ ?_ ?_; ((repeat' (first | exact rfl | exact trivial | refine And.intro ?_ ?_ | ((conv => whnf); first | exact rfl | exact trivial | refine And.intro ?_ ?_)))); ((repeat' (first | exact rfl | exact trivial | refine And.intro ?_ ?_ | ((conv => whnf); first | exact rfl | exact trivial | refine And.intro ?_ ?_)))); (intro y hy; clear y hy; (repeat' ((conv => whnf); first | refine And.intro ?_ ?_ | exact Cl.mk (by kernel_rfl) | exact Ck.mk (by kernel_rfl) | refine DrawN.mk ?_ | refine CodeN.step hm rfl ?_ | exact trivial | exact rfl | (intro hh; try simp only [decide_eq_true_eq, decide_eq_false_iff_not, beq_iff_eq, beq_eq_false_iff_ne, bne_iff_ne, bne_eq_false_iff_eq, Bool.not_eq_true', Bool.not_eq_false', Bool.not_true, Bool.not_false] at hh; try exact absurd hh (by decide)))); all_goals (conv => whnf); (all_goals first | (exact Ob.mk (by decide)) | skip)))
        refine ⟨(3, b ++ wide (IntKind.u64.wrap (v)) 4, true), [0, 1, 2, 3, 4], ⟨rfl, rfl, ?_, ?_⟩, ⟨by simp only []; omega, ?_, ?_⟩, by simp only []; omega⟩
        · (repeat' (first | exact rfl | exact trivial | refine And.intro ?_ ?_ | ((conv => whnf); first | exact rfl | exact trivial | refine And.intro ?_ ?_)))
        · (repeat' (first | exact rfl | exact trivial | refine And.intro ?_ ?_ | ((conv => whnf); first | exact rfl | exact trivial | refine And.intro ?_ ?_)))
        · simp only []; rw [hb]; exact wides_step _ 2 _ hx _
        · exact bad_step hx hf (.inr (.inl ⟨by assumption, rfl⟩)) (Nat.le_of_ble_eq_true rfl)
      · (refine CallN.intro (wideM (IntKind.u64.wrap (v)) 4 (by omega)) [] rfl rfl ?_ ?_ ?_; ((repeat' (first | exact rfl | exact trivial | refine And.intro ?_ ?_ | ((conv => whnf); first | exact rfl | exact trivial | refine And.intro ?_ ?_)))); ((repeat' (first | exact rfl | exact trivial | refine And.intro ?_ ?_ | ((conv => whnf); first | exact rfl | exact trivial | refine And.intro ?_ ?_)))); (intro y hy; clear y hy; (repeat' ((conv => whnf); first | refine And.intro ?_ ?_ | exact Cl.mk (by kernel_rfl) | exact Ck.mk (by kernel_rfl) | refine DrawN.mk ?_ | refine CodeN.step hm rfl ?_ | exact trivial | exact rfl | (intro hh; try simp only [decide_eq_true_eq, decide_eq_false_iff_not, beq_iff_eq, beq_eq_false_iff_ne, bne_iff_ne, bne_eq_false_iff_eq, Bool.not_eq_true', Bool.not_eq_false', Bool.not_true, Bool.not_false] at hh; try exact absurd hh (by decide)))); all_goals (conv => whnf); (all_goals first | (exact Ob.mk (by decide)) | skip)))
        (refine CallN.intro (writeN b (wide (IntKind.u64.wrap (v)) 4) true (by rw [wide_len]; omega)) [0, 4] rfl rfl ?_ ?_ ?_; ((repeat' (first | exact rfl | exact trivial | refine And.intro ?_ ?_ | ((conv => whnf); first | exact rfl | exact trivial | refine And.intro ?_ ?_)))); ((repeat' (first | exact rfl | exact trivial | refine And.intro ?_ ?_ | ((conv => whnf); first | exact rfl | exact trivial | refine And.intro ?_ ?_)))); (intro y hy; clear y hy; (repeat' ((conv => whnf); first | refine And.intro ?_ ?_ | exact Cl.mk (by kernel_rfl) | exact Ck.mk (by kernel_rfl) | refine DrawN.mk ?_ | refine CodeN.step hm rfl ?_ | exact trivial | exact rfl | (intro hh; try simp only [decide_eq_true_eq, decide_eq_false_iff_not, beq_iff_eq, beq_eq_false_iff_ne, bne_iff_ne, bne_eq_false_iff_eq, Bool.not_eq_true', Bool.not_eq_false', Bool.not_true, Bool.not_false] at hh; try exact absurd hh (by decide)))); all_goals (conv => whnf); (all_goals first | (exact Ob.mk (by decide)) | skip)))
        refine ⟨(3, b ++ wide (IntKind.u64.wrap (v)) 4, true), [0, 1, 2, 3, 4], ⟨rfl, rfl, ?_, ?_⟩, ⟨by simp only []; omega, ?_, ?_⟩, by simp only []; omega⟩
        · (repeat' (first | exact rfl | exact trivial | refine And.intro ?_ ?_ | ((conv => whnf); first | exact rfl | exact trivial | refine And.intro ?_ ?_)))
        · (repeat' (first | exact rfl | exact trivial | refine And.intro ?_ ?_ | ((conv => whnf); first | exact rfl | exact trivial | refine And.intro ?_ ?_)))
        · simp only []; rw [hb]; exact wides_step _ 2 _ hx _
        · exact bad_step hx hf (.inl ⟨by assumption, rfl⟩) (Nat.le_of_ble_eq_true rfl)
    · have hx : [(k, 1), (c, 1), (v, 4), (p1, 1), (p2, 4), (p3, 4), (p4, 1), (nw, 6), (cn, 2)][3]? = some (p1, 1) := rfl
      (repeat' ((conv => whnf); first | refine And.intro ?_ ?_ | exact Cl.mk (by kernel_rfl) | exact Ck.mk (by kernel_rfl) | refine DrawN.mk ?_ | refine CodeN.step hm rfl ?_ | exact trivial | exact rfl | (intro hh; try simp only [decide_eq_true_eq, decide_eq_false_iff_not, beq_iff_eq, beq_eq_false_iff_ne, bne_iff_ne, bne_eq_false_iff_eq, Bool.not_eq_true', Bool.not_eq_false', Bool.not_true, Bool.not_false] at hh))); all_goals (conv => whnf)
      all_goals first | (exact Ob.mk (by decide)) | (exact Ob.mk (by simp)) | skip
      rotate_right
      · exact absurd (by decide) hh
      · (refine CallN.intro (wideM (IntKind.u64.wrap (p1)) 1 (by omega)) [] rfl rfl ?_ ?_ ?_; ((repeat' (first | exact rfl | exact trivial | refine And.intro ?_ ?_ | ((conv => whnf); first | exact rfl | exact trivial | refine And.intro ?_ ?_)))); ((repeat' (first | exact rfl | exact trivial | refine And.intro ?_ ?_ | ((conv => whnf); first | exact rfl | exact trivial | refine And.intro ?_ ?_)))); (intro y hy; clear y hy; (repeat' ((conv => whnf); first | refine And.intro ?_ ?_ | exact Cl.mk (by kernel_rfl) | exact Ck.mk (by kernel_rfl) | refine DrawN.mk ?_ | refine CodeN.step hm rfl ?_ | exact trivial | exact rfl | (intro hh; try simp only [decide_eq_true_eq, decide_eq_false_iff_not, beq_iff_eq, beq_eq_false_iff_ne, bne_iff_ne, bne_eq_false_iff_eq, Bool.not_eq_true', Bool.not_eq_false', Bool.not_true, Bool.not_false] at hh; try exact absurd hh (by decide)))); all_goals (conv => whnf); (all_goals first | (exact Ob.mk (by decide)) | skip)))
        (refine CallN.intro (writeN b (wide (IntKind.u64.wrap (p1)) 1) ((p1).fdiv (2 ^ (min (IntKind.i64.wrap (8 * 1)).toNat IntKind.i64.bits)) != 0) (by rw [wide_len]; omega)) [0, 4] rfl rfl ?_ ?_ ?_; ((repeat' (first | exact rfl | exact trivial | refine And.intro ?_ ?_ | ((conv => whnf); first | exact rfl | exact trivial | refine And.intro ?_ ?_)))); ((repeat' (first | exact rfl | exact trivial | refine And.intro ?_ ?_ | ((conv => whnf); first | exact rfl | exact trivial | refine And.intro ?_ ?_)))); (intro y hy; clear y hy; (repeat' ((conv => whnf); first | refine And.intro ?_ ?_ | exact Cl.mk (by kernel_rfl) | exact Ck.mk (by kernel_rfl) | refine DrawN.mk ?_ | refine CodeN.step hm rfl ?_ | exact trivial | exact rfl | (intro hh; try simp only [decide_eq_true_eq, decide_eq_false_iff_not, beq_iff_eq, beq_eq_false_iff_ne, bne_iff_ne, bne_eq_false_iff_eq, Bool.not_eq_true', Bool.not_eq_false', Bool.not_true, Bool.not_false] at hh; try exact absurd hh (by decide)))); all_goals (conv => whnf); (all_goals first | (exact Ob.mk (by decide)) | skip)))
        refine ⟨(4, b ++ wide (IntKind.u64.wrap (p1)) 1, ((p1).fdiv (2 ^ (min (IntKind.i64.wrap (8 * 1)).toNat IntKind.i64.bits)) != 0)), [0, 1, 2, 3, 4], ⟨rfl, rfl, ?_, ?_⟩, ⟨by simp only []; omega, ?_, ?_⟩, by simp only []; omega⟩
        · (repeat' (first | exact rfl | exact trivial | refine And.intro ?_ ?_ | ((conv => whnf); first | exact rfl | exact trivial | refine And.intro ?_ ?_)))
        · (repeat' (first | exact rfl | exact trivial | refine And.intro ?_ ?_ | ((conv => whnf); first | exact rfl | exact trivial | refine And.intro ?_ ?_)))
        · simp only []; rw [hb]; exact wides_step _ 3 _ hx _
        · exact bad_step hx hf (.inr (.inr ⟨by assumption, by assumption, rfl⟩)) (Nat.le_of_ble_eq_true rfl)
      · (refine CallN.intro (wideM (IntKind.u64.wrap (p1)) 1 (by omega)) [] rfl rfl ?_ ?_ ?_; ((repeat' (first | exact rfl | exact trivial | refine And.intro ?_ ?_ | ((conv => whnf); first | exact rfl | exact trivial | refine And.intro ?_ ?_)))); ((repeat' (first | exact rfl | exact trivial | refine And.intro ?_ ?_ | ((conv => whnf); first | exact rfl | exact trivial | refine And.intro ?_ ?_)))); (intro y hy; clear y hy; (repeat' ((conv => whnf); first | refine And.intro ?_ ?_ | exact Cl.mk (by kernel_rfl) | exact Ck.mk (by kernel_rfl) | refine DrawN.mk ?_ | refine CodeN.step hm rfl ?_ | exact trivial | exact rfl | (intro hh; try simp only [decide_eq_true_eq, decide_eq_false_iff_not, beq_iff_eq, beq_eq_false_iff_ne, bne_iff_ne, bne_eq_false_iff_eq, Bool.not_eq_true', Bool.not_eq_false', Bool.not_true, Bool.not_false] at hh; try exact absurd hh (by decide)))); all_goals (conv => whnf); (all_goals first | (exact Ob.mk (by decide)) | skip)))
        (refine CallN.intro (writeN b (wide (IntKind.u64.wrap (p1)) 1) true (by rw [wide_len]; omega)) [0, 4] rfl rfl ?_ ?_ ?_; ((repeat' (first | exact rfl | exact trivial | refine And.intro ?_ ?_ | ((conv => whnf); first | exact rfl | exact trivial | refine And.intro ?_ ?_)))); ((repeat' (first | exact rfl | exact trivial | refine And.intro ?_ ?_ | ((conv => whnf); first | exact rfl | exact trivial | refine And.intro ?_ ?_)))); (intro y hy; clear y hy; (repeat' ((conv => whnf); first | refine And.intro ?_ ?_ | exact Cl.mk (by kernel_rfl) | exact Ck.mk (by kernel_rfl) | refine DrawN.mk ?_ | refine CodeN.step hm rfl ?_ | exact trivial | exact rfl | (intro hh; try simp only [decide_eq_true_eq, decide_eq_false_iff_not, beq_iff_eq, beq_eq_false_iff_ne, bne_iff_ne, bne_eq_false_iff_eq, Bool.not_eq_true', Bool.not_eq_false', Bool.not_true, Bool.not_false] at hh; try exact absurd hh (by decide)))); all_goals (conv => whnf); (all_goals first | (exact Ob.mk (by decide)) | skip)))
        refine ⟨(4, b ++ wide (IntKind.u64.wrap (p1)) 1, true), [0, 1, 2, 3, 4], ⟨rfl, rfl, ?_, ?_⟩, ⟨by simp only []; omega, ?_, ?_⟩, by simp only []; omega⟩
        · (repeat' (first | exact rfl | exact trivial | refine And.intro ?_ ?_ | ((conv => whnf); first | exact rfl | exact trivial | refine And.intro ?_ ?_)))
        · (repeat' (first | exact rfl | exact trivial | refine And.intro ?_ ?_ | ((conv => whnf); first | exact rfl | exact trivial | refine And.intro ?_ ?_)))
        · simp only []; rw [hb]; exact wides_step _ 3 _ hx _
        · exact bad_step hx hf (.inr (.inl ⟨by assumption, rfl⟩)) (Nat.le_of_ble_eq_true rfl)
      · (refine CallN.intro (wideM (IntKind.u64.wrap (p1)) 1 (by omega)) [] rfl rfl ?_ ?_ ?_; ((repeat' (first | exact rfl | exact trivial | refine And.intro ?_ ?_ | ((conv => whnf); first | exact rfl | exact trivial | refine And.intro ?_ ?_)))); ((repeat' (first | exact rfl | exact trivial | refine And.intro ?_ ?_ | ((conv => whnf); first | exact rfl | exact trivial | refine And.intro ?_ ?_)))); (intro y hy; clear y hy; (repeat' ((conv => whnf); first | refine And.intro ?_ ?_ | exact Cl.mk (by kernel_rfl) | exact Ck.mk (by kernel_rfl) | refine DrawN.mk ?_ | refine CodeN.step hm rfl ?_ | exact trivial | exact rfl | (intro hh; try simp only [decide_eq_true_eq, decide_eq_false_iff_not, beq_iff_eq, beq_eq_false_iff_ne, bne_iff_ne, bne_eq_false_iff_eq, Bool.not_eq_true', Bool.not_eq_false', Bool.not_true, Bool.not_false] at hh; try exact absurd hh (by decide)))); all_goals (conv => whnf); (all_goals first | (exact Ob.mk (by decide)) | skip)))
        (refine CallN.intro (writeN b (wide (IntKind.u64.wrap (p1)) 1) true (by rw [wide_len]; omega)) [0, 4] rfl rfl ?_ ?_ ?_; ((repeat' (first | exact rfl | exact trivial | refine And.intro ?_ ?_ | ((conv => whnf); first | exact rfl | exact trivial | refine And.intro ?_ ?_)))); ((repeat' (first | exact rfl | exact trivial | refine And.intro ?_ ?_ | ((conv => whnf); first | exact rfl | exact trivial | refine And.intro ?_ ?_)))); (intro y hy; clear y hy; (repeat' ((conv => whnf); first | refine And.intro ?_ ?_ | exact Cl.mk (by kernel_rfl) | exact Ck.mk (by kernel_rfl) | refine DrawN.mk ?_ | refine CodeN.step hm rfl ?_ | exact trivial | exact rfl | (intro hh; try simp only [decide_eq_true_eq, decide_eq_false_iff_not, beq_iff_eq, beq_eq_false_iff_ne, bne_iff_ne, bne_eq_false_iff_eq, Bool.not_eq_true', Bool.not_eq_false', Bool.not_true, Bool.not_false] at hh; try exact absurd hh (by decide)))); all_goals (conv => whnf); (all_goals first | (exact Ob.mk (by decide)) | skip)))
        refine ⟨(4, b ++ wide (IntKind.u64.wrap (p1)) 1, true), [0, 1, 2, 3, 4], ⟨rfl, rfl, ?_, ?_⟩, ⟨by simp only []; omega, ?_, ?_⟩, by simp only []; omega⟩
        · (repeat' (first | exact rfl | exact trivial | refine And.intro ?_ ?_ | ((conv => whnf); first | exact rfl | exact trivial | refine And.intro ?_ ?_)))
        · (repeat' (first | exact rfl | exact trivial | refine And.intro ?_ ?_ | ((conv => whnf); first | exact rfl | exact trivial | refine And.intro ?_ ?_)))
        · simp only []; rw [hb]; exact wides_step _ 3 _ hx _
        · exact bad_step hx hf (.inl ⟨by assumption, rfl⟩) (Nat.le_of_ble_eq_true rfl)
    · have hx : [(k, 1), (c, 1), (v, 4), (p1, 1), (p2, 4), (p3, 4), (p4, 1), (nw, 6), (cn, 2)][4]? = some (p2, 4) := rfl
      (repeat' ((conv => whnf); first | refine And.intro ?_ ?_ | exact Cl.mk (by kernel_rfl) | exact Ck.mk (by kernel_rfl) | refine DrawN.mk ?_ | refine CodeN.step hm rfl ?_ | exact trivial | exact rfl | (intro hh; try simp only [decide_eq_true_eq, decide_eq_false_iff_not, beq_iff_eq, beq_eq_false_iff_ne, bne_iff_ne, bne_eq_false_iff_eq, Bool.not_eq_true', Bool.not_eq_false', Bool.not_true, Bool.not_false] at hh))); all_goals (conv => whnf)
      all_goals first | (exact Ob.mk (by decide)) | (exact Ob.mk (by simp)) | skip
      rotate_right
      · exact absurd (by decide) hh
      · (refine CallN.intro (wideM (IntKind.u64.wrap (p2)) 4 (by omega)) [] rfl rfl ?_ ?_ ?_; ((repeat' (first | exact rfl | exact trivial | refine And.intro ?_ ?_ | ((conv => whnf); first | exact rfl | exact trivial | refine And.intro ?_ ?_)))); ((repeat' (first | exact rfl | exact trivial | refine And.intro ?_ ?_ | ((conv => whnf); first | exact rfl | exact trivial | refine And.intro ?_ ?_)))); (intro y hy; clear y hy; (repeat' ((conv => whnf); first | refine And.intro ?_ ?_ | exact Cl.mk (by kernel_rfl) | exact Ck.mk (by kernel_rfl) | refine DrawN.mk ?_ | refine CodeN.step hm rfl ?_ | exact trivial | exact rfl | (intro hh; try simp only [decide_eq_true_eq, decide_eq_false_iff_not, beq_iff_eq, beq_eq_false_iff_ne, bne_iff_ne, bne_eq_false_iff_eq, Bool.not_eq_true', Bool.not_eq_false', Bool.not_true, Bool.not_false] at hh; try exact absurd hh (by decide)))); all_goals (conv => whnf); (all_goals first | (exact Ob.mk (by decide)) | skip)))
        (refine CallN.intro (writeN b (wide (IntKind.u64.wrap (p2)) 4) ((p2).fdiv (2 ^ (min (IntKind.i64.wrap (8 * 4)).toNat IntKind.i64.bits)) != 0) (by rw [wide_len]; omega)) [0, 4] rfl rfl ?_ ?_ ?_; ((repeat' (first | exact rfl | exact trivial | refine And.intro ?_ ?_ | ((conv => whnf); first | exact rfl | exact trivial | refine And.intro ?_ ?_)))); ((repeat' (first | exact rfl | exact trivial | refine And.intro ?_ ?_ | ((conv => whnf); first | exact rfl | exact trivial | refine And.intro ?_ ?_)))); (intro y hy; clear y hy; (repeat' ((conv => whnf); first | refine And.intro ?_ ?_ | exact Cl.mk (by kernel_rfl) | exact Ck.mk (by kernel_rfl) | refine DrawN.mk ?_ | refine CodeN.step hm rfl ?_ | exact trivial | exact rfl | (intro hh; try simp only [decide_eq_true_eq, decide_eq_false_iff_not, beq_iff_eq, beq_eq_false_iff_ne, bne_iff_ne, bne_eq_false_iff_eq, Bool.not_eq_true', Bool.not_eq_false', Bool.not_true, Bool.not_false] at hh; try exact absurd hh (by decide)))); all_goals (conv => whnf); (all_goals first | (exact Ob.mk (by decide)) | skip)))
        refine ⟨(5, b ++ wide (IntKind.u64.wrap (p2)) 4, ((p2).fdiv (2 ^ (min (IntKind.i64.wrap (8 * 4)).toNat IntKind.i64.bits)) != 0)), [0, 1, 2, 3, 4], ⟨rfl, rfl, ?_, ?_⟩, ⟨by simp only []; omega, ?_, ?_⟩, by simp only []; omega⟩
        · (repeat' (first | exact rfl | exact trivial | refine And.intro ?_ ?_ | ((conv => whnf); first | exact rfl | exact trivial | refine And.intro ?_ ?_)))
        · (repeat' (first | exact rfl | exact trivial | refine And.intro ?_ ?_ | ((conv => whnf); first | exact rfl | exact trivial | refine And.intro ?_ ?_)))
        · simp only []; rw [hb]; exact wides_step _ 4 _ hx _
        · exact bad_step hx hf (.inr (.inr ⟨by assumption, by assumption, rfl⟩)) (Nat.le_of_ble_eq_true rfl)
      · (refine CallN.intro (wideM (IntKind.u64.wrap (p2)) 4 (by omega)) [] rfl rfl ?_ ?_ ?_; ((repeat' (first | exact rfl | exact trivial | refine And.intro ?_ ?_ | ((conv => whnf); first | exact rfl | exact trivial | refine And.intro ?_ ?_)))); ((repeat' (first | exact rfl | exact trivial | refine And.intro ?_ ?_ | ((conv => whnf); first | exact rfl | exact trivial | refine And.intro ?_ ?_)))); (intro y hy; clear y hy; (repeat' ((conv => whnf); first | refine And.intro ?_ ?_ | exact Cl.mk (by kernel_rfl) | exact Ck.mk (by kernel_rfl) | refine DrawN.mk ?_ | refine CodeN.step hm rfl ?_ | exact trivial | exact rfl | (intro hh; try simp only [decide_eq_true_eq, decide_eq_false_iff_not, beq_iff_eq, beq_eq_false_iff_ne, bne_iff_ne, bne_eq_false_iff_eq, Bool.not_eq_true', Bool.not_eq_false', Bool.not_true, Bool.not_false] at hh; try exact absurd hh (by decide)))); all_goals (conv => whnf); (all_goals first | (exact Ob.mk (by decide)) | skip)))
        (refine CallN.intro (writeN b (wide (IntKind.u64.wrap (p2)) 4) true (by rw [wide_len]; omega)) [0, 4] rfl rfl ?_ ?_ ?_; ((repeat' (first | exact rfl | exact trivial | refine And.intro ?_ ?_ | ((conv => whnf); first | exact rfl | exact trivial | refine And.intro ?_ ?_)))); ((repeat' (first | exact rfl | exact trivial | refine And.intro ?_ ?_ | ((conv => whnf); first | exact rfl | exact trivial | refine And.intro ?_ ?_)))); (intro y hy; clear y hy; (repeat' ((conv => whnf); first | refine And.intro ?_ ?_ | exact Cl.mk (by kernel_rfl) | exact Ck.mk (by kernel_rfl) | refine DrawN.mk ?_ | refine CodeN.step hm rfl ?_ | exact trivial | exact rfl | (intro hh; try simp only [decide_eq_true_eq, decide_eq_false_iff_not, beq_iff_eq, beq_eq_false_iff_ne, bne_iff_ne, bne_eq_false_iff_eq, Bool.not_eq_true', Bool.not_eq_false', Bool.not_true, Bool.not_false] at hh; try exact absurd hh (by decide)))); all_goals (conv => whnf); (all_goals first | (exact Ob.mk (by decide)) | skip)))
        refine ⟨(5, b ++ wide (IntKind.u64.wrap (p2)) 4, true), [0, 1, 2, 3, 4], ⟨rfl, rfl, ?_, ?_⟩, ⟨by simp only []; omega, ?_, ?_⟩, by simp only []; omega⟩
        · (repeat' (first | exact rfl | exact trivial | refine And.intro ?_ ?_ | ((conv => whnf); first | exact rfl | exact trivial | refine And.intro ?_ ?_)))
        · (repeat' (first | exact rfl | exact trivial | refine And.intro ?_ ?_ | ((conv => whnf); first | exact rfl | exact trivial | refine And.intro ?_ ?_)))
        · simp only []; rw [hb]; exact wides_step _ 4 _ hx _
        · exact bad_step hx hf (.inr (.inl ⟨by assumption, rfl⟩)) (Nat.le_of_ble_eq_true rfl)
      · (refine CallN.intro (wideM (IntKind.u64.wrap (p2)) 4 (by omega)) [] rfl rfl ?_ ?_ ?_; ((repeat' (first | exact rfl | exact trivial | refine And.intro ?_ ?_ | ((conv => whnf); first | exact rfl | exact trivial | refine And.intro ?_ ?_)))); ((repeat' (first | exact rfl | exact trivial | refine And.intro ?_ ?_ | ((conv => whnf); first | exact rfl | exact trivial | refine And.intro ?_ ?_)))); (intro y hy; clear y hy; (repeat' ((conv => whnf); first | refine And.intro ?_ ?_ | exact Cl.mk (by kernel_rfl) | exact Ck.mk (by kernel_rfl) | refine DrawN.mk ?_ | refine CodeN.step hm rfl ?_ | exact trivial | exact rfl | (intro hh; try simp only [decide_eq_true_eq, decide_eq_false_iff_not, beq_iff_eq, beq_eq_false_iff_ne, bne_iff_ne, bne_eq_false_iff_eq, Bool.not_eq_true', Bool.not_eq_false', Bool.not_true, Bool.not_false] at hh; try exact absurd hh (by decide)))); all_goals (conv => whnf); (all_goals first | (exact Ob.mk (by decide)) | skip)))
        (refine CallN.intro (writeN b (wide (IntKind.u64.wrap (p2)) 4) true (by rw [wide_len]; omega)) [0, 4] rfl rfl ?_ ?_ ?_; ((repeat' (first | exact rfl | exact trivial | refine And.intro ?_ ?_ | ((conv => whnf); first | exact rfl | exact trivial | refine And.intro ?_ ?_)))); ((repeat' (first | exact rfl | exact trivial | refine And.intro ?_ ?_ | ((conv => whnf); first | exact rfl | exact trivial | refine And.intro ?_ ?_)))); (intro y hy; clear y hy; (repeat' ((conv => whnf); first | refine And.intro ?_ ?_ | exact Cl.mk (by kernel_rfl) | exact Ck.mk (by kernel_rfl) | refine DrawN.mk ?_ | refine CodeN.step hm rfl ?_ | exact trivial | exact rfl | (intro hh; try simp only [decide_eq_true_eq, decide_eq_false_iff_not, beq_iff_eq, beq_eq_false_iff_ne, bne_iff_ne, bne_eq_false_iff_eq, Bool.not_eq_true', Bool.not_eq_false', Bool.not_true, Bool.not_false] at hh; try exact absurd hh (by decide)))); all_goals (conv => whnf); (all_goals first | (exact Ob.mk (by decide)) | skip)))
        refine ⟨(5, b ++ wide (IntKind.u64.wrap (p2)) 4, true), [0, 1, 2, 3, 4], ⟨rfl, rfl, ?_, ?_⟩, ⟨by simp only []; omega, ?_, ?_⟩, by simp only []; omega⟩
        · (repeat' (first | exact rfl | exact trivial | refine And.intro ?_ ?_ | ((conv => whnf); first | exact rfl | exact trivial | refine And.intro ?_ ?_)))
        · (repeat' (first | exact rfl | exact trivial | refine And.intro ?_ ?_ | ((conv => whnf); first | exact rfl | exact trivial | refine And.intro ?_ ?_)))
        · simp only []; rw [hb]; exact wides_step _ 4 _ hx _
        · exact bad_step hx hf (.inl ⟨by assumption, rfl⟩) (Nat.le_of_ble_eq_true rfl)
    · have hx : [(k, 1), (c, 1), (v, 4), (p1, 1), (p2, 4), (p3, 4), (p4, 1), (nw, 6), (cn, 2)][5]? = some (p3, 4) := rfl
      (repeat' ((conv => whnf); first | refine And.intro ?_ ?_ | exact Cl.mk (by kernel_rfl) | exact Ck.mk (by kernel_rfl) | refine DrawN.mk ?_ | refine CodeN.step hm rfl ?_ | exact trivial | exact rfl | (intro hh; try simp only [decide_eq_true_eq, decide_eq_false_iff_not, beq_iff_eq, beq_eq_false_iff_ne, bne_iff_ne, bne_eq_false_iff_eq, Bool.not_eq_true', Bool.not_eq_false', Bool.not_true, Bool.not_false] at hh))); all_goals (conv => whnf)
      all_goals first | (exact Ob.mk (by decide)) | (exact Ob.mk (by simp)) | skip
      rotate_right
      · exact absurd (by decide) hh
      · (refine CallN.intro (wideM (IntKind.u64.wrap (p3)) 4 (by omega)) [] rfl rfl ?_ ?_ ?_; ((repeat' (first | exact rfl | exact trivial | refine And.intro ?_ ?_ | ((conv => whnf); first | exact rfl | exact trivial | refine And.intro ?_ ?_)))); ((repeat' (first | exact rfl | exact trivial | refine And.intro ?_ ?_ | ((conv => whnf); first | exact rfl | exact trivial | refine And.intro ?_ ?_)))); (intro y hy; clear y hy; (repeat' ((conv => whnf); first | refine And.intro ?_ ?_ | exact Cl.mk (by kernel_rfl) | exact Ck.mk (by kernel_rfl) | refine DrawN.mk ?_ | refine CodeN.step hm rfl ?_ | exact trivial | exact rfl | (intro hh; try simp only [decide_eq_true_eq, decide_eq_false_iff_not, beq_iff_eq, beq_eq_false_iff_ne, bne_iff_ne, bne_eq_false_iff_eq, Bool.not_eq_true', Bool.not_eq_false', Bool.not_true, Bool.not_false] at hh; try exact absurd hh (by decide)))); all_goals (conv => whnf); (all_goals first | (exact Ob.mk (by decide)) | skip)))
        (refine CallN.intro (writeN b (wide (IntKind.u64.wrap (p3)) 4) ((p3).fdiv (2 ^ (min (IntKind.i64.wrap (8 * 4)).toNat IntKind.i64.bits)) != 0) (by rw [wide_len]; omega)) [0, 4] rfl rfl ?_ ?_ ?_; ((repeat' (first | exact rfl | exact trivial | refine And.intro ?_ ?_ | ((conv => whnf); first | exact rfl | exact trivial | refine And.intro ?_ ?_)))); ((repeat' (first | exact rfl | exact trivial | refine And.intro ?_ ?_ | ((conv => whnf); first | exact rfl | exact trivial | refine And.intro ?_ ?_)))); (intro y hy; clear y hy; (repeat' ((conv => whnf); first | refine And.intro ?_ ?_ | exact Cl.mk (by kernel_rfl) | exact Ck.mk (by kernel_rfl) | refine DrawN.mk ?_ | refine CodeN.step hm rfl ?_ | exact trivial | exact rfl | (intro hh; try simp only [decide_eq_true_eq, decide_eq_false_iff_not, beq_iff_eq, beq_eq_false_iff_ne, bne_iff_ne, bne_eq_false_iff_eq, Bool.not_eq_true', Bool.not_eq_false', Bool.not_true, Bool.not_false] at hh; try exact absurd hh (by decide)))); all_goals (conv => whnf); (all_goals first | (exact Ob.mk (by decide)) | skip)))
        refine ⟨(6, b ++ wide (IntKind.u64.wrap (p3)) 4, ((p3).fdiv (2 ^ (min (IntKind.i64.wrap (8 * 4)).toNat IntKind.i64.bits)) != 0)), [0, 1, 2, 3, 4], ⟨rfl, rfl, ?_, ?_⟩, ⟨by simp only []; omega, ?_, ?_⟩, by simp only []; omega⟩
        · (repeat' (first | exact rfl | exact trivial | refine And.intro ?_ ?_ | ((conv => whnf); first | exact rfl | exact trivial | refine And.intro ?_ ?_)))
        · (repeat' (first | exact rfl | exact trivial | refine And.intro ?_ ?_ | ((conv => whnf); first | exact rfl | exact trivial | refine And.intro ?_ ?_)))
        · simp only []; rw [hb]; exact wides_step _ 5 _ hx _
        · exact bad_step hx hf (.inr (.inr ⟨by assumption, by assumption, rfl⟩)) (Nat.le_of_ble_eq_true rfl)
      · (refine CallN.intro (wideM (IntKind.u64.wrap (p3)) 4 (by omega)) [] rfl rfl ?_ ?_ ?_; ((repeat' (first | exact rfl | exact trivial | refine And.intro ?_ ?_ | ((conv => whnf); first | exact rfl | exact trivial | refine And.intro ?_ ?_)))); ((repeat' (first | exact rfl | exact trivial | refine And.intro ?_ ?_ | ((conv => whnf); first | exact rfl | exact trivial | refine And.intro ?_ ?_)))); (intro y hy; clear y hy; (repeat' ((conv => whnf); first | refine And.intro ?_ ?_ | exact Cl.mk (by kernel_rfl) | exact Ck.mk (by kernel_rfl) | refine DrawN.mk ?_ | refine CodeN.step hm rfl ?_ | exact trivial | exact rfl | (intro hh; try simp only [decide_eq_true_eq, decide_eq_false_iff_not, beq_iff_eq, beq_eq_false_iff_ne, bne_iff_ne, bne_eq_false_iff_eq, Bool.not_eq_true', Bool.not_eq_false', Bool.not_true, Bool.not_false] at hh; try exact absurd hh (by decide)))); all_goals (conv => whnf); (all_goals first | (exact Ob.mk (by decide)) | skip)))
        (refine CallN.intro (writeN b (wide (IntKind.u64.wrap (p3)) 4) true (by rw [wide_len]; omega)) [0, 4] rfl rfl ?_ ?_ ?_; ((repeat' (first | exact rfl | exact trivial | refine And.intro ?_ ?_ | ((conv => whnf); first | exact rfl | exact trivial | refine And.intro ?_ ?_)))); ((repeat' (first | exact rfl | exact trivial | refine And.intro ?_ ?_ | ((conv => whnf); first | exact rfl | exact trivial | refine And.intro ?_ ?_)))); (intro y hy; clear y hy; (repeat' ((conv => whnf); first | refine And.intro ?_ ?_ | exact Cl.mk (by kernel_rfl) | exact Ck.mk (by kernel_rfl) | refine DrawN.mk ?_ | refine CodeN.step hm rfl ?_ | exact trivial | exact rfl | (intro hh; try simp only [decide_eq_true_eq, decide_eq_false_iff_not, beq_iff_eq, beq_eq_false_iff_ne, bne_iff_ne, bne_eq_false_iff_eq, Bool.not_eq_true', Bool.not_eq_false', Bool.not_true, Bool.not_false] at hh; try exact absurd hh (by decide)))); all_goals (conv => whnf); (all_goals first | (exact Ob.mk (by decide)) | skip)))
        refine ⟨(6, b ++ wide (IntKind.u64.wrap (p3)) 4, true), [0, 1, 2, 3, 4], ⟨rfl, rfl, ?_, ?_⟩, ⟨by simp only []; omega, ?_, ?_⟩, by simp only []; omega⟩
        · (repeat' (first | exact rfl | exact trivial | refine And.intro ?_ ?_ | ((conv => whnf); first | exact rfl | exact trivial | refine And.intro ?_ ?_)))
        · (repeat' (first | exact rfl | exact trivial | refine And.intro ?_ ?_ | ((conv => whnf); first | exact rfl | exact trivial | refine And.intro ?_ ?_)))
        · simp only []; rw [hb]; exact wides_step _ 5 _ hx _
        · exact bad_step hx hf (.inr (.inl ⟨by assumption, rfl⟩)) (Nat.le_of_ble_eq_true rfl)
      · (refine CallN.intro (wideM (IntKind.u64.wrap (p3)) 4 (by omega)) [] rfl rfl ?_ ?_ ?_; ((repeat' (first | exact rfl | exact trivial | refine And.intro ?_ ?_ | ((conv => whnf); first | exact rfl | exact trivial | refine And.intro ?_ ?_)))); ((repeat' (first | exact rfl | exact trivial | refine And.intro ?_ ?_ | ((conv => whnf); first | exact rfl | exact trivial | refine And.intro ?_ ?_)))); (intro y hy; clear y hy; (repeat' ((conv => whnf); first | refine And.intro ?_ ?_ | exact Cl.mk (by kernel_rfl) | exact Ck.mk (by kernel_rfl) | refine DrawN.mk ?_ | refine CodeN.step hm rfl ?_ | exact trivial | exact rfl | (intro hh; try simp only [decide_eq_true_eq, decide_eq_false_iff_not, beq_iff_eq, beq_eq_false_iff_ne, bne_iff_ne, bne_eq_false_iff_eq, Bool.not_eq_true', Bool.not_eq_false', Bool.not_true, Bool.not_false] at hh; try exact absurd hh (by decide)))); all_goals (conv => whnf); (all_goals first | (exact Ob.mk (by decide)) | skip)))
        (refine CallN.intro (writeN b (wide (IntKind.u64.wrap (p3)) 4) true (by rw [wide_len]; omega)) [0, 4] rfl rfl ?_ ?_ ?_; ((repeat' (first | exact rfl | exact trivial | refine And.intro ?_ ?_ | ((conv => whnf); first | exact rfl | exact trivial | refine And.intro ?_ ?_)))); ((repeat' (first | exact rfl | exact trivial | refine And.intro ?_ ?_ | ((conv => whnf); first | exact rfl | exact trivial | refine And.intro ?_ ?_)))); (intro y hy; clear y hy; (repeat' ((conv => whnf); first | refine And.intro ?_ ?_ | exact Cl.mk (by kernel_rfl) | exact Ck.mk (by kernel_rfl) | refine DrawN.mk ?_ | refine CodeN.step hm rfl ?_ | exact trivial | exact rfl | (intro hh; try simp only [decide_eq_true_eq, decide_eq_false_iff_not, beq_iff_eq, beq_eq_false_iff_ne, bne_iff_ne, bne_eq_false_iff_eq, Bool.not_eq_true', Bool.not_eq_false', Bool.not_true, Bool.not_false] at hh; try exact absurd hh (by decide)))); all_goals (conv => whnf); (all_goals first | (exact Ob.mk (by decide)) | skip)))
        refine ⟨(6, b ++ wide (IntKind.u64.wrap (p3)) 4, true), [0, 1, 2, 3, 4], ⟨rfl, rfl, ?_, ?_⟩, ⟨by simp only []; omega, ?_, ?_⟩, by simp only []; omega⟩
        · (repeat' (first | exact rfl | exact trivial | refine And.intro ?_ ?_ | ((conv => whnf); first | exact rfl | exact trivial | refine And.intro ?_ ?_)))
        · (repeat' (first | exact rfl | exact trivial | refine And.intro ?_ ?_ | ((conv => whnf); first | exact rfl | exact trivial | refine And.intro ?_ ?_)))
        · simp only []; rw [hb]; exact wides_step _ 5 _ hx _
        · exact bad_step hx hf (.inl ⟨by assumption, rfl⟩) (Nat.le_of_ble_eq_true rfl)
    · have hx : [(k, 1), (c, 1), (v, 4), (p1, 1), (p2, 4), (p3, 4), (p4, 1), (nw, 6), (cn, 2)][6]? = some (p4, 1) := rfl
      (repeat' ((conv => whnf); first | refine And.intro ?_ ?_ | exact Cl.mk (by kernel_rfl) | exact Ck.mk (by kernel_rfl) | refine DrawN.mk ?_ | refine CodeN.step hm rfl ?_ | exact trivial | exact rfl | (intro hh; try simp only [decide_eq_true_eq, decide_eq_false_iff_not, beq_iff_eq, beq_eq_false_iff_ne, bne_iff_ne, bne_eq_false_iff_eq, Bool.not_eq_true', Bool.not_eq_false', Bool.not_true, Bool.not_false] at hh))); all_goals (conv => whnf)
      all_goals first | (exact Ob.mk (by decide)) | (exact Ob.mk (by simp)) | skip
      rotate_right
      · exact absurd (by decide) hh
      · (refine CallN.intro (wideM (IntKind.u64.wrap (p4)) 1 (by omega)) [] rfl rfl ?_ ?_ ?_; ((repeat' (first | exact rfl | exact trivial | refine And.intro ?_ ?_ | ((conv => whnf); first | exact rfl | exact trivial | refine And.intro ?_ ?_)))); ((repeat' (first | exact rfl | exact trivial | refine And.intro ?_ ?_ | ((conv => whnf); first | exact rfl | exact trivial | refine And.intro ?_ ?_)))); (intro y hy; clear y hy; (repeat' ((conv => whnf); first | refine And.intro ?_ ?_ | exact Cl.mk (by kernel_rfl) | exact Ck.mk (by kernel_rfl) | refine DrawN.mk ?_ | refine CodeN.step hm rfl ?_ | exact trivial | exact rfl | (intro hh; try simp only [decide_eq_true_eq, decide_eq_false_iff_not, beq_iff_eq, beq_eq_false_iff_ne, bne_iff_ne, bne_eq_false_iff_eq, Bool.not_eq_true', Bool.not_eq_false', Bool.not_true, Bool.not_false] at hh; try exact absurd hh (by decide)))); all_goals (conv => whnf); (all_goals first | (exact Ob.mk (by decide)) | skip)))
        (refine CallN.intro (writeN b (wide (IntKind.u64.wrap (p4)) 1) ((p4).fdiv (2 ^ (min (IntKind.i64.wrap (8 * 1)).toNat IntKind.i64.bits)) != 0) (by rw [wide_len]; omega)) [0, 4] rfl rfl ?_ ?_ ?_; ((repeat' (first | exact rfl | exact trivial | refine And.intro ?_ ?_ | ((conv => whnf); first | exact rfl | exact trivial | refine And.intro ?_ ?_)))); ((repeat' (first | exact rfl | exact trivial | refine And.intro ?_ ?_ | ((conv => whnf); first | exact rfl | exact trivial | refine And.intro ?_ ?_)))); (intro y hy; clear y hy; (repeat' ((conv => whnf); first | refine And.intro ?_ ?_ | exact Cl.mk (by kernel_rfl) | exact Ck.mk (by kernel_rfl) | refine DrawN.mk ?_ | refine CodeN.step hm rfl ?_ | exact trivial | exact rfl | (intro hh; try simp only [decide_eq_true_eq, decide_eq_false_iff_not, beq_iff_eq, beq_eq_false_iff_ne, bne_iff_ne, bne_eq_false_iff_eq, Bool.not_eq_true', Bool.not_eq_false', Bool.not_true, Bool.not_false] at hh; try exact absurd hh (by decide)))); all_goals (conv => whnf); (all_goals first | (exact Ob.mk (by decide)) | skip)))
        refine ⟨(7, b ++ wide (IntKind.u64.wrap (p4)) 1, ((p4).fdiv (2 ^ (min (IntKind.i64.wrap (8 * 1)).toNat IntKind.i64.bits)) != 0)), [0, 1, 2, 3, 4], ⟨rfl, rfl, ?_, ?_⟩, ⟨by simp only []; omega, ?_, ?_⟩, by simp only []; omega⟩
        · (repeat' (first | exact rfl | exact trivial | refine And.intro ?_ ?_ | ((conv => whnf); first | exact rfl | exact trivial | refine And.intro ?_ ?_)))
        · (repeat' (first | exact rfl | exact trivial | refine And.intro ?_ ?_ | ((conv => whnf); first | exact rfl | exact trivial | refine And.intro ?_ ?_)))
        · simp only []; rw [hb]; exact wides_step _ 6 _ hx _
        · exact bad_step hx hf (.inr (.inr ⟨by assumption, by assumption, rfl⟩)) (Nat.le_of_ble_eq_true rfl)
      · (refine CallN.intro (wideM (IntKind.u64.wrap (p4)) 1 (by omega)) [] rfl rfl ?_ ?_ ?_; ((repeat' (first | exact rfl | exact trivial | refine And.intro ?_ ?_ | ((conv => whnf); first | exact rfl | exact trivial | refine And.intro ?_ ?_)))); ((repeat' (first | exact rfl | exact trivial | refine And.intro ?_ ?_ | ((conv => whnf); first | exact rfl | exact trivial | refine And.intro ?_ ?_)))); (intro y hy; clear y hy; (repeat' ((conv => whnf); first | refine And.intro ?_ ?_ | exact Cl.mk (by kernel_rfl) | exact Ck.mk (by kernel_rfl) | refine DrawN.mk ?_ | refine CodeN.step hm rfl ?_ | exact trivial | exact rfl | (intro hh; try simp only [decide_eq_true_eq, decide_eq_false_iff_not, beq_iff_eq, beq_eq_false_iff_ne, bne_iff_ne, bne_eq_false_iff_eq, Bool.not_eq_true', Bool.not_eq_false', Bool.not_true, Bool.not_false] at hh; try exact absurd hh (by decide)))); all_goals (conv => whnf); (all_goals first | (exact Ob.mk (by decide)) | skip)))
        (refine CallN.intro (writeN b (wide (IntKind.u64.wrap (p4)) 1) true (by rw [wide_len]; omega)) [0, 4] rfl rfl ?_ ?_ ?_; ((repeat' (first | exact rfl | exact trivial | refine And.intro ?_ ?_ | ((conv => whnf); first | exact rfl | exact trivial | refine And.intro ?_ ?_)))); ((repeat' (first | exact rfl | exact trivial | refine And.intro ?_ ?_ | ((conv => whnf); first | exact rfl | exact trivial | refine And.intro ?_ ?_)))); (intro y hy; clear y hy; (repeat' ((conv => whnf); first | refine And.intro ?_ ?_ | exact Cl.mk (by kernel_rfl) | exact Ck.mk (by kernel_rfl) | refine DrawN.mk ?_ | refine CodeN.step hm rfl ?_ | exact trivial | exact rfl | (intro hh; try simp only [decide_eq_true_eq, decide_eq_false_iff_not, beq_iff_eq, beq_eq_false_iff_ne, bne_iff_ne, bne_eq_false_iff_eq, Bool.not_eq_true', Bool.not_eq_false', Bool.not_true, Bool.not_false] at hh; try exact absurd hh (by decide)))); all_goals (conv => whnf); (all_goals first | (exact Ob.mk (by decide)) | skip)))
        refine ⟨(7, b ++ wide (IntKind.u64.wrap (p4)) 1, true), [0, 1, 2, 3, 4], ⟨rfl, rfl, ?_, ?_⟩, ⟨by simp only []; omega, ?_, ?_⟩, by simp only []; omega⟩
        · (repeat' (first | exact rfl | exact trivial | refine And.intro ?_ ?_ | ((conv => whnf); first | exact rfl | exact trivial | refine And.intro ?_ ?_)))
        · (repeat' (first | exact rfl | exact trivial | refine And.intro ?_ ?_ | ((conv => whnf); first | exact rfl | exact trivial | refine And.intro ?_ ?_)))
        · simp only []; rw [hb]; exact wides_step _ 6 _ hx _
        · exact bad_step hx hf (.inr (.inl ⟨by assumption, rfl⟩)) (Nat.le_of_ble_eq_true rfl)
      · (refine CallN.intro (wideM (IntKind.u64.wrap (p4)) 1 (by omega)) [] rfl rfl ?_ ?_ ?_; ((repeat' (first | exact rfl | exact trivial | refine And.intro ?_ ?_ | ((conv => whnf); first | exact rfl | exact trivial | refine And.intro ?_ ?_)))); ((repeat' (first | exact rfl | exact trivial | refine And.intro ?_ ?_ | ((conv => whnf); first | exact rfl | exact trivial | refine And.intro ?_ ?_)))); (intro y hy; clear y hy; (repeat' ((conv => whnf); first | refine And.intro ?_ ?_ | exact Cl.mk (by kernel_rfl) | exact Ck.mk (by kernel_rfl) | refine DrawN.mk ?_ | refine CodeN.step hm rfl ?_ | exact trivial | exact rfl | (intro hh; try simp only [decide_eq_true_eq, decide_eq_false_iff_not, beq_iff_eq, beq_eq_false_iff_ne, bne_iff_ne, bne_eq_false_iff_eq, Bool.not_eq_true', Bool.not_eq_false', Bool.not_true, Bool.not_false] at hh; try exact absurd hh (by decide)))); all_goals (conv => whnf); (all_goals first | (exact Ob.mk (by decide)) | skip)))
        (refine CallN.intro (writeN b (wide (IntKind.u64.wrap (p4)) 1) true (by rw [wide_len]; omega)) [0, 4] rfl rfl ?_ ?_ ?_; ((repeat' (first | exact rfl | exact trivial | refine And.intro ?_ ?_ | ((conv => whnf); first | exact rfl | exact trivial | refine And.intro ?_ ?_)))); ((repeat' (first | exact rfl | exact trivial | refine And.intro ?_ ?_ | ((conv => whnf); first | exact rfl | exact trivial | refine And.intro ?_ ?_)))); (intro y hy; clear y hy; (repeat' ((conv => whnf); first | refine And.intro ?_ ?_ | exact Cl.mk (by kernel_rfl) | exact Ck.mk (by kernel_rfl) | refine DrawN.mk ?_ | refine CodeN.step hm rfl ?_ | exact trivial | exact rfl | (intro hh; try simp only [decide_eq_true_eq, decide_eq_false_iff_not, beq_iff_eq, beq_eq_false_iff_ne, bne_iff_ne, bne_eq_false_iff_eq, Bool.not_eq_true', Bool.not_eq_false', Bool.not_true, Bool.not_false] at hh; try exact absurd hh (by decide)))); all_goals (conv => whnf); (all_goals first | (exact Ob.mk (by decide)) | skip)))
        refine ⟨(7, b ++ wide (IntKind.u64.wrap (p4)) 1, true), [0, 1, 2, 3, 4], ⟨rfl, rfl, ?_, ?_⟩, ⟨by simp only []; omega, ?_, ?_⟩, by simp only []; omega⟩
        · (repeat' (first | exact rfl | exact trivial | refine And.intro ?_ ?_ | ((conv => whnf); first | exact rfl | exact trivial | refine And.intro ?_ ?_)))
        · (repeat' (first | exact rfl | exact trivial | refine And.intro ?_ ?_ | ((conv => whnf); first | exact rfl | exact trivial | refine And.intro ?_ ?_)))
        · simp only []; rw [hb]; exact wides_step _ 6 _ hx _
        · exact bad_step hx hf (.inl ⟨by assumption, rfl⟩) (Nat.le_of_ble_eq_true rfl)
    · have hx : [(k, 1), (c, 1), (v, 4), (p1, 1), (p2, 4), (p3, 4), (p4, 1), (nw, 6), (cn, 2)][7]? = some (nw, 6) := rfl
      (repeat' ((conv => whnf); first | refine And.intro ?_ ?_ | exact Cl.mk (by kernel_rfl) | exact Ck.mk (by kernel_rfl) | refine DrawN.mk ?_ | refine CodeN.step hm rfl ?_ | exact trivial | exact rfl | (intro hh; try simp only [decide_eq_true_eq, decide_eq_false_iff_not, beq_iff_eq, beq_eq_false_iff_ne, bne_iff_ne, bne_eq_false_iff_eq, Bool.not_eq_true', Bool.not_eq_false', Bool.not_true, Bool.not_false] at hh))); all_goals (conv => whnf)
      all_goals first | (exact Ob.mk (by decide)) | (exact Ob.mk (by simp)) | skip
      rotate_right
      · exact absurd (by decide) hh
      · (refine CallN.intro (wideM (IntKind.u64.wrap (nw)) 6 (by omega)) [] rfl rfl ?_ ?_ ?_; ((repeat' (first | exact rfl | exact trivial | refine And.intro ?_ ?_ | ((conv => whnf); first | exact rfl | exact trivial | refine And.intro ?_ ?_)))); ((repeat' (first | exact rfl | exact trivial | refine And.intro ?_ ?_ | ((conv => whnf); first | exact rfl | exact trivial | refine And.intro ?_ ?_)))); (intro y hy; clear y hy; (repeat' ((conv => whnf); first | refine And.intro ?_ ?_ | exact Cl.mk (by kernel_rfl) | exact Ck.mk (by kernel_rfl) | refine DrawN.mk ?_ | refine CodeN.step hm rfl ?_ | exact trivial | exact rfl | (intro hh; try simp only [decide_eq_true_eq, decide_eq_false_iff_not, beq_iff_eq, beq_eq_false_iff_ne, bne_iff_ne, bne_eq_false_iff_eq, Bool.not_eq_true', Bool.not_eq_false', Bool.not_true, Bool.not_false] at hh; try exact absurd hh (by decide)))); all_goals (conv => whnf); (all_goals first | (exact Ob.mk (by decide)) | skip)))
        (refine CallN.intro (writeN b (wide (IntKind.u64.wrap (nw)) 6) ((nw).fdiv (2 ^ (min (IntKind.i64.wrap (8 * 6)).toNat IntKind.i64.bits)) != 0) (by rw [wide_len]; omega)) [0, 4] rfl rfl ?_ ?_ ?_; ((repeat' (first | exact rfl | exact trivial | refine And.intro ?_ ?_ | ((conv => whnf); first | exact rfl | exact trivial | refine And.intro ?_ ?_)))); ((repeat' (first | exact rfl | exact trivial | refine And.intro ?_ ?_ | ((conv => whnf); first | exact rfl | exact trivial | refine And.intro ?_ ?_)))); (intro y hy; clear y hy; (repeat' ((conv => whnf); first | refine And.intro ?_ ?_ | exact Cl.mk (by kernel_rfl) | exact Ck.mk (by kernel_rfl) | refine DrawN.mk ?_ | refine CodeN.step hm rfl ?_ | exact trivial | exact rfl | (intro hh; try simp only [decide_eq_true_eq, decide_eq_false_iff_not, beq_iff_eq, beq_eq_false_iff_ne, bne_iff_ne, bne_eq_false_iff_eq, Bool.not_eq_true', Bool.not_eq_false', Bool.not_true, Bool.not_false] at hh; try exact absurd hh (by decide)))); all_goals (conv => whnf); (all_goals first | (exact Ob.mk (by decide)) | skip)))
        refine ⟨(8, b ++ wide (IntKind.u64.wrap (nw)) 6, ((nw).fdiv (2 ^ (min (IntKind.i64.wrap (8 * 6)).toNat IntKind.i64.bits)) != 0)), [0, 1, 2, 3, 4], ⟨rfl, rfl, ?_, ?_⟩, ⟨by simp only []; omega, ?_, ?_⟩, by simp only []; omega⟩
        · (repeat' (first | exact rfl | exact trivial | refine And.intro ?_ ?_ | ((conv => whnf); first | exact rfl | exact trivial | refine And.intro ?_ ?_)))
        · (repeat' (first | exact rfl | exact trivial | refine And.intro ?_ ?_ | ((conv => whnf); first | exact rfl | exact trivial | refine And.intro ?_ ?_)))
        · simp only []; rw [hb]; exact wides_step _ 7 _ hx _
        · exact bad_step hx hf (.inr (.inr ⟨by assumption, by assumption, rfl⟩)) (Nat.le_of_ble_eq_true rfl)
      · (refine CallN.intro (wideM (IntKind.u64.wrap (nw)) 6 (by omega)) [] rfl rfl ?_ ?_ ?_; ((repeat' (first | exact rfl | exact trivial | refine And.intro ?_ ?_ | ((conv => whnf); first | exact rfl | exact trivial | refine And.intro ?_ ?_)))); ((repeat' (first | exact rfl | exact trivial | refine And.intro ?_ ?_ | ((conv => whnf); first | exact rfl | exact trivial | refine And.intro ?_ ?_)))); (intro y hy; clear y hy; (repeat' ((conv => whnf); first | refine And.intro ?_ ?_ | exact Cl.mk (by kernel_rfl) | exact Ck.mk (by kernel_rfl) | refine DrawN.mk ?_ | refine CodeN.step hm rfl ?_ | exact trivial | exact rfl | (intro hh; try simp only [decide_eq_true_eq, decide_eq_false_iff_not, beq_iff_eq, beq_eq_false_iff_ne, bne_iff_ne, bne_eq_false_iff_eq, Bool.not_eq_true', Bool.not_eq_false', Bool.not_true, Bool.not_false] at hh; try exact absurd hh (by decide)))); all_goals (conv => whnf); (all_goals first | (exact Ob.mk (by decide)) | skip)))
        (refine CallN.intro (writeN b (wide (IntKind.u64.wrap (nw)) 6) true (by rw [wide_len]; omega)) [0, 4] rfl rfl ?_ ?_ ?_; ((repeat' (first | exact rfl | exact trivial | refine And.intro ?_ ?_ | ((conv => whnf); first | exact rfl | exact trivial | refine And.intro ?_ ?_)))); ((repeat' (first | exact rfl | exact trivial | refine And.intro ?_ ?_ | ((conv => whnf); first | exact rfl | exact trivial | refine And.intro ?_ ?_)))); (intro y hy; clear y hy; (repeat' ((conv => whnf); first | refine And.intro ?_ ?_ | exact Cl.mk (by kernel_rfl) | exact Ck.mk (by kernel_rfl) | refine DrawN.mk ?_ | refine CodeN.step hm rfl ?_ | exact trivial | exact rfl | (intro hh; try simp only [decide_eq_true_eq, decide_eq_false_iff_not, beq_iff_eq, beq_eq_false_iff_ne, bne_iff_ne, bne_eq_false_iff_eq, Bool.not_eq_true', Bool.not_eq_false', Bool.not_true, Bool.not_false] at hh; try exact absurd hh (by decide)))); all_goals (conv => whnf); (all_goals first | (exact Ob.mk (by decide)) | skip)))
        refine ⟨(8, b ++ wide (IntKind.u64.wrap (nw)) 6, true), [0, 1, 2, 3, 4], ⟨rfl, rfl, ?_, ?_⟩, ⟨by simp only []; omega, ?_, ?_⟩, by simp only []; omega⟩
        · (repeat' (first | exact rfl | exact trivial | refine And.intro ?_ ?_ | ((conv => whnf); first | exact rfl | exact trivial | refine And.intro ?_ ?_)))
        · (repeat' (first | exact rfl | exact trivial | refine And.intro ?_ ?_ | ((conv => whnf); first | exact rfl | exact trivial | refine And.intro ?_ ?_)))
        · simp only []; rw [hb]; exact wides_step _ 7 _ hx _
        · exact bad_step hx hf (.inr (.inl ⟨by assumption, rfl⟩)) (Nat.le_of_ble_eq_true rfl)
      · (refine CallN.intro (wideM (IntKind.u64.wrap (nw)) 6 (by omega)) [] rfl rfl ?_ ?_ ?_; ((repeat' (first | exact rfl | exact trivial | refine And.intro ?_ ?_ | ((conv => whnf); first | exact rfl | exact trivial | refine And.intro ?_ ?_)))); ((repeat' (first | exact rfl | exact trivial | refine And.intro ?_ ?_ | ((conv => whnf); first | exact rfl | exact trivial | refine And.intro ?_ ?_)))); (intro y hy; clear y hy; (repeat' ((conv => whnf); first | refine And.intro ?_ ?_ | exact Cl.mk (by kernel_rfl) | exact Ck.mk (by kernel_rfl) | refine DrawN.mk ?_ | refine CodeN.step hm rfl ?_ | exact trivial | exact rfl | (intro hh; try simp only [decide_eq_true_eq, decide_eq_false_iff_not, beq_iff_eq, beq_eq_false_iff_ne, bne_iff_ne, bne_eq_false_iff_eq, Bool.not_eq_true', Bool.not_eq_false', Bool.not_true, Bool.not_false] at hh; try exact absurd hh (by decide)))); all_goals (conv => whnf); (all_goals first | (exact Ob.mk (by decide)) | skip)))
        (refine CallN.intro (writeN b (wide (IntKind.u64.wrap (nw)) 6) true (by rw [wide_len]; omega)) [0, 4] rfl rfl ?_ ?_ ?_; ((repeat' (first | exact rfl | exact trivial | refine And.intro ?_ ?_ | ((conv => whnf); first | exact rfl | exact trivial | refine And.intro ?_ ?_)))); ((repeat' (first | exact rfl | exact trivial | refine And.intro ?_ ?_ | ((conv => whnf); first | exact rfl | exact trivial | refine And.intro ?_ ?_)))); (intro y hy; clear y hy; (repeat' ((conv => whnf); first | refine And.intro ?_ ?_ | exact Cl.mk (by kernel_rfl) | exact Ck.mk (by kernel_rfl) | refine DrawN.mk ?_ | refine CodeN.step hm rfl ?_ | exact trivial | exact rfl | (intro hh; try simp only [decide_eq_true_eq, decide_eq_false_iff_not, beq_iff_eq, beq_eq_false_iff_ne, bne_iff_ne, bne_eq_false_iff_eq, Bool.not_eq_true', Bool.not_eq_false', Bool.not_true, Bool.not_false] at hh; try exact absurd hh (by decide)))); all_goals (conv => whnf); (all_goals first | (exact Ob.mk (by decide)) | skip)))
        refine ⟨(8, b ++ wide (IntKind.u64.wrap (nw)) 6, true), [0, 1, 2, 3, 4], ⟨rfl, rfl, ?_, ?_⟩, ⟨by simp only []; omega, ?_, ?_⟩, by simp only []; omega⟩
        · (repeat' (first | exact rfl | exact trivial | refine And.intro ?_ ?_ | ((conv => whnf); first | exact rfl | exact trivial | refine And.intro ?_ ?_)))
        · (repeat' (first | exact rfl | exact trivial | refine And.intro ?_ ?_ | ((conv => whnf); first | exact rfl | exact trivial | refine And.intro ?_ ?_)))
        · simp only []; rw [hb]; exact wides_step _ 7 _ hx _
        · exact bad_step hx hf (.inl ⟨by assumption, rfl⟩) (Nat.le_of_ble_eq_true rfl)
    · have hx : [(k, 1), (c, 1), (v, 4), (p1, 1), (p2, 4), (p3, 4), (p4, 1), (nw, 6), (cn, 2)][8]? = some (cn, 2) := rfl
      (repeat' ((conv => whnf); first | refine And.intro ?_ ?_ | exact Cl.mk (by kernel_rfl) | exact Ck.mk (by kernel_rfl) | refine DrawN.mk ?_ | refine CodeN.step hm rfl ?_ | exact trivial | exact rfl | (intro hh; try simp only [decide_eq_true_eq, decide_eq_false_iff_not, beq_iff_eq, beq_eq_false_iff_ne, bne_iff_ne, bne_eq_false_iff_eq, Bool.not_eq_true', Bool.not_eq_false', Bool.not_true, Bool.not_false] at hh))); all_goals (conv => whnf)
      all_goals first | (exact Ob.mk (by decide)) | (exact Ob.mk (by simp)) | skip
      rotate_right
      · exact absurd (by decide) hh
      · (refine CallN.intro (wideM (IntKind.u64.wrap (cn)) 2 (by omega)) [] rfl rfl ?_ ?_ ?_; ((repeat' (first | exact rfl | exact trivial | refine And.intro ?_ ?_ | ((conv => whnf); first | exact rfl | exact trivial | refine And.intro ?_ ?_)))); ((repeat' (first | exact rfl | exact trivial | refine And.intro ?_ ?_ | ((conv => whnf); first | exact rfl | exact trivial | refine And.intro ?_ ?_)))); (intro y hy; clear y hy; (repeat' ((conv => whnf); first | refine And.intro ?_ ?_ | exact Cl.mk (by kernel_rfl) | exact Ck.mk (by kernel_rfl) | refine DrawN.mk ?_ | refine CodeN.step hm rfl ?_ | exact trivial | exact rfl | (intro hh; try simp only [decide_eq_true_eq, decide_eq_false_iff_not, beq_iff_eq, beq_eq_false_iff_ne, bne_iff_ne, bne_eq_false_iff_eq, Bool.not_eq_true', Bool.not_eq_false', Bool.not_true, Bool.not_false] at hh; try exact absurd hh (by decide)))); all_goals (conv => whnf); (all_goals first | (exact Ob.mk (by decide)) | skip)))
        (refine CallN.intro (writeN b (wide (IntKind.u64.wrap (cn)) 2) ((cn).fdiv (2 ^ (min (IntKind.i64.wrap (8 * 2)).toNat IntKind.i64.bits)) != 0) (by rw [wide_len]; omega)) [0, 4] rfl rfl ?_ ?_ ?_; ((repeat' (first | exact rfl | exact trivial | refine And.intro ?_ ?_ | ((conv => whnf); first | exact rfl | exact trivial | refine And.intro ?_ ?_)))); ((repeat' (first | exact rfl | exact trivial | refine And.intro ?_ ?_ | ((conv => whnf); first | exact rfl | exact trivial | refine And.intro ?_ ?_)))); (intro y hy; clear y hy; (repeat' ((conv => whnf); first | refine And.intro ?_ ?_ | exact Cl.mk (by kernel_rfl) | exact Ck.mk (by kernel_rfl) | refine DrawN.mk ?_ | refine CodeN.step hm rfl ?_ | exact trivial | exact rfl | (intro hh; try simp only [decide_eq_true_eq, decide_eq_false_iff_not, beq_iff_eq, beq_eq_false_iff_ne, bne_iff_ne, bne_eq_false_iff_eq, Bool.not_eq_true', Bool.not_eq_false', Bool.not_true, Bool.not_false] at hh; try exact absurd hh (by decide)))); all_goals (conv => whnf); (all_goals first | (exact Ob.mk (by decide)) | skip)))
        refine ⟨(9, b ++ wide (IntKind.u64.wrap (cn)) 2, ((cn).fdiv (2 ^ (min (IntKind.i64.wrap (8 * 2)).toNat IntKind.i64.bits)) != 0)), [0, 1, 2, 3, 4], ⟨rfl, rfl, ?_, ?_⟩, ⟨by simp only []; omega, ?_, ?_⟩, by simp only []; omega⟩
        · (repeat' (first | exact rfl | exact trivial | refine And.intro ?_ ?_ | ((conv => whnf); first | exact rfl | exact trivial | refine And.intro ?_ ?_)))
        · (repeat' (first | exact rfl | exact trivial | refine And.intro ?_ ?_ | ((conv => whnf); first | exact rfl | exact trivial | refine And.intro ?_ ?_)))
        · simp only []; rw [hb]; exact wides_step _ 8 _ hx _
        · exact bad_step hx hf (.inr (.inr ⟨by assumption, by assumption, rfl⟩)) (Nat.le_of_ble_eq_true rfl)
      · (refine CallN.intro (wideM (IntKind.u64.wrap (cn)) 2 (by omega)) [] rfl rfl ?_ ?_ ?_; ((repeat' (first | exact rfl | exact trivial | refine And.intro ?_ ?_ | ((conv => whnf); first | exact rfl | exact trivial | refine And.intro ?_ ?_)))); ((repeat' (first | exact rfl | exact trivial | refine And.intro ?_ ?_ | ((conv => whnf); first | exact rfl | exact trivial | refine And.intro ?_ ?_)))); (intro y hy; clear y hy; (repeat' ((conv => whnf); first | refine And.intro ?_ ?_ | exact Cl.mk (by kernel_rfl) | exact Ck.mk (by kernel_rfl) | refine DrawN.mk ?_ | refine CodeN.step hm rfl ?_ | exact trivial | exact rfl | (intro hh; try simp only [decide_eq_true_eq, decide_eq_false_iff_not, beq_iff_eq, beq_eq_false_iff_ne, bne_iff_ne, bne_eq_false_iff_eq, Bool.not_eq_true', Bool.not_eq_false', Bool.not_true, Bool.not_false] at hh; try exact absurd hh (by decide)))); all_goals (conv => whnf); (all_goals first | (exact Ob.mk (by decide)) | skip)))
        (refine CallN.intro (writeN b (wide (IntKind.u64.wrap (cn)) 2) true (by rw [wide_len]; omega)) [0, 4] rfl rfl ?_ ?_ ?_; ((repeat' (first | exact rfl | exact trivial | refine And.intro ?_ ?_ | ((conv => whnf); first | exact rfl | exact trivial | refine And.intro ?_ ?_)))); ((repeat' (first | exact rfl | exact trivial | refine And.intro ?_ ?_ | ((conv => whnf); first | exact rfl | exact trivial | refine And.intro ?_ ?_)))); (intro y hy; clear y hy; (repeat' ((conv => whnf); first | refine And.intro ?_ ?_ | exact Cl.mk (by kernel_rfl) | exact Ck.mk (by kernel_rfl) | refine DrawN.mk ?_ | refine CodeN.step hm rfl ?_ | exact trivial | exact rfl | (intro hh; try simp only [decide_eq_true_eq, decide_eq_false_iff_not, beq_iff_eq, beq_eq_false_iff_ne, bne_iff_ne, bne_eq_false_iff_eq, Bool.not_eq_true', Bool.not_eq_false', Bool.not_true, Bool.not_false] at hh; try exact absurd hh (by decide)))); all_goals (conv => whnf); (all_goals first | (exact Ob.mk (by decide)) | skip)))
        refine ⟨(9, b ++ wide (IntKind.u64.wrap (cn)) 2, true), [0, 1, 2, 3, 4], ⟨rfl, rfl, ?_, ?_⟩, ⟨by simp only []; omega, ?_, ?_⟩, by simp only []; omega⟩
        · (repeat' (first | exact rfl | exact trivial | refine And.intro ?_ ?_ | ((conv => whnf); first | exact rfl | exact trivial | refine And.intro ?_ ?_)))
        · (repeat' (first | exact rfl | exact trivial | refine And.intro ?_ ?_ | ((conv => whnf); first | exact rfl | exact trivial | refine And.intro ?_ ?_)))
        · simp only []; rw [hb]; exact wides_step _ 8 _ hx _
        · exact bad_step hx hf (.inr (.inl ⟨by assumption, rfl⟩)) (Nat.le_of_ble_eq_true rfl)
      · (refine CallN.intro (wideM (IntKind.u64.wrap (cn)) 2 (by omega)) [] rfl rfl ?_ ?_ ?_; ((repeat' (first | exact rfl | exact trivial | refine And.intro ?_ ?_ | ((conv => whnf); first | exact rfl | exact trivial | refine And.intro ?_ ?_)))); ((repeat' (first | exact rfl | exact trivial | refine And.intro ?_ ?_ | ((conv => whnf); first | exact rfl | exact trivial | refine And.intro ?_ ?_)))); (intro y hy; clear y hy; (repeat' ((conv => whnf); first | refine And.intro ?_ ?_ | exact Cl.mk (by kernel_rfl) | exact Ck.mk (by kernel_rfl) | refine DrawN.mk ?_ | refine CodeN.step hm rfl ?_ | exact trivial | exact rfl | (intro hh; try simp only [decide_eq_true_eq, decide_eq_false_iff_not, beq_iff_eq, beq_eq_false_iff_ne, bne_iff_ne, bne_eq_false_iff_eq, Bool.not_eq_true', Bool.not_eq_false', Bool.not_true, Bool.not_false] at hh; try exact absurd hh (by decide)))); all_goals (conv => whnf); (all_goals first | (exact Ob.mk (by decide)) | skip)))
        (refine CallN.intro (writeN b (wide (IntKind.u64.wrap (cn)) 2) true (by rw [wide_len]; omega)) [0, 4] rfl rfl ?_ ?_ ?_; ((repeat' (first | exact rfl | exact trivial | refine And.intro ?_ ?_ | ((conv => whnf); first | exact rfl | exact trivial | refine And.intro ?_ ?_)))); ((repeat' (first | exact rfl | exact trivial | refine And.intro ?_ ?_ | ((conv => whnf); first | exact rfl | exact trivial | refine And.intro ?_ ?_)))); (intro y hy; clear y hy; (repeat' ((conv => whnf); first | refine And.intro ?_ ?_ | exact Cl.mk (by kernel_rfl) | exact Ck.mk (by kernel_rfl) | refine DrawN.mk ?_ | refine CodeN.step hm rfl ?_ | exact trivial | exact rfl | (intro hh; try simp only [decide_eq_true_eq, decide_eq_false_iff_not, beq_iff_eq, beq_eq_false_iff_ne, bne_iff_ne, bne_eq_false_iff_eq, Bool.not_eq_true', Bool.not_eq_false', Bool.not_true, Bool.not_false] at hh; try exact absurd hh (by decide)))); all_goals (conv => whnf); (all_goals first | (exact Ob.mk (by decide)) | skip)))
        refine ⟨(9, b ++ wide (IntKind.u64.wrap (cn)) 2, true), [0, 1, 2, 3, 4], ⟨rfl, rfl, ?_, ?_⟩, ⟨by simp only []; omega, ?_, ?_⟩, by simp only []; omega⟩
        · (repeat' (first | exact rfl | exact trivial | refine And.intro ?_ ?_ | ((conv => whnf); first | exact rfl | exact trivial | refine And.intro ?_ ?_)))
        · (repeat' (first | exact rfl | exact trivial | refine And.intro ?_ ?_ | ((conv => whnf); first | exact rfl | exact trivial | refine And.intro ?_ ?_)))
        · simp only []; rw [hb]; exact wides_step _ 8 _ hx _
        · exact bad_step hx hf (.inl ⟨by assumption, rfl⟩) (Nat.le_of_ble_eq_true rfl)
    · (repeat' ((conv => whnf); first | refine And.intro ?_ ?_ | exact Cl.mk (by kernel_rfl) | exact Ck.mk (by kernel_rfl) | refine DrawN.mk ?_ | refine CodeN.step hm rfl ?_ | exact trivial | exact rfl | (intro hh; try simp only [decide_eq_true_eq, decide_eq_false_iff_not, beq_iff_eq, beq_eq_false_iff_ne, bne_iff_ne, bne_eq_false_iff_eq, Bool.not_eq_true', Bool.not_eq_false', Bool.not_true, Bool.not_false] at hh))); all_goals (conv => whnf)
      all_goals first | (exfalso; exact absurd hh (by decide)) | skip
      rw [List.take_of_length_le (by simp)] at hb hf
      (refine RetN.intro () [0, 1, 2, 3, 4] rfl rfl ?_ ?_ ?_; ((repeat' (first | exact rfl | exact trivial | refine And.intro ?_ ?_ | ((conv => whnf); first | exact rfl | exact trivial | refine And.intro ?_ ?_)))); ((repeat' (first | exact rfl | exact trivial | refine And.intro ?_ ?_ | ((conv => whnf); first | exact rfl | exact trivial | refine And.intro ?_ ?_))); all_goals (conv => whnf); all_goals (try simp only [])))
      all_goals simp only [hb, hf, List.nil_append, Bool.false_or]
end Go.Proofs.Ytoipgandilhdeaa.An
set_option linter.unusedVariables false
set_option linter.unusedSimpArgs false
namespace Go.Proofs.Ytoipgandilhdeaa.An
open Go Go.RowKit Fw Nu
def ansAV (a : Ans) : AV := .agg [.int .i64 fun _ => a.1, .int .i64 fun _ => a.2.1, .lst ToldT fun _ => a.2.2.1, .int .i64 fun _ => a.2.2.2.1, .int .i64 fun _ => a.2.2.2.2.1.1, .int .i64 fun _ => a.2.2.2.2.1.2.1, .int .i64 fun _ => a.2.2.2.2.1.2.2.1, .int .i64 fun _ => a.2.2.2.2.1.2.2.2, .int .i64 fun _ => a.2.2.2.2.2.1, .int .i64 fun _ => a.2.2.2.2.2.2.1, .lst NameT fun _ => a.2.2.2.2.2.2.2]
def ansC (a : Ans) : Chunk := .cells 28 [.int .i64 fun _ => a.1, .int .i64 fun _ => a.2.1, .lst ToldT fun _ => a.2.2.1, .int .i64 fun _ => a.2.2.2.1, .int .i64 fun _ => a.2.2.2.2.1.1, .int .i64 fun _ => a.2.2.2.2.1.2.1, .int .i64 fun _ => a.2.2.2.2.1.2.2.1, .int .i64 fun _ => a.2.2.2.2.1.2.2.2, .int .i64 fun _ => a.2.2.2.2.2.1, .int .i64 fun _ => a.2.2.2.2.2.2.1, .lst NameT fun _ => a.2.2.2.2.2.2.2]
theorem headsM (a : Ans) (c : Int) : Meets Try.prog 37 [.ptr 0 0, .ptr 1 0] [ansC a, .cells 3 [.int .i64 fun _ => c]] (Y := Unit) (fun _ => True) (fun _ => .vec 2 2 (fun _ => 0) fun _ => 9)
    (fun _ => [ansC a, .cells 3 [.int .i64 fun _ => c], .cells 109 [.ptr 0 0, .int .i64 fun _ => 1, .ptr 1 0, .int .i64 fun _ => 1, .ptr 0 3, .int .i64 fun _ => 4, .ptr 0 4, .int .i64 fun _ => 1, .ptr 0 5, .int .i64 fun _ => 4, .ptr 0 6, .int .i64 fun _ => 4, .ptr 0 7, .int .i64 fun _ => 1, .ptr 0 8, .int .i64 fun _ => 6, .ptr 0 9, .int .i64 fun _ => 2]]) := by
  refine Meets.intro hm (fn := Try.f37) Try.func37 rfl (by decide) (Nat.le_of_ble_eq_true rfl) (fun _ => rfl) ?_; intro S hok; (conv => whnf)
  (repeat' ((conv => whnf); first | refine And.intro ?_ ?_ | exact Cl.mk (by kernel_rfl) | exact Ck.mk (by kernel_rfl) | refine DrawN.mk ?_ | refine CodeN.step hm rfl ?_ | exact trivial | exact rfl | (intro hh; try simp only [decide_eq_true_eq, decide_eq_false_iff_not, beq_iff_eq, beq_eq_false_iff_ne, bne_iff_ne, bne_eq_false_iff_eq, Bool.not_eq_true', Bool.not_eq_false', Bool.not_true, Bool.not_false] at hh))); all_goals (conv => whnf)
  (refine RetN.intro () [0, 1, 2] rfl rfl ?_ ?_ ?_; ((repeat' (first | exact rfl | exact trivial | refine And.intro ?_ ?_ | ((conv => whnf); first | exact rfl | exact trivial | refine And.intro ?_ ?_)))); ((repeat' (first | exact rfl | exact trivial | refine And.intro ?_ ?_ | ((conv => whnf); first | exact rfl | exact trivial | refine And.intro ?_ ?_))); all_goals (conv => whnf); all_goals (try simp only [])))
theorem toldsM (t : Told) (c al : Int) : Meets Try.prog 59 [.ptr 0 0, .ptr 1 0, .ptr 2 0] [.cells 53 [.int .i64 fun _ => t.1, .bool fun _ => t.2.1, .int .i64 fun _ => t.2.2.1, .int .i64 fun _ => t.2.2.2.1, .int .i64 fun _ => t.2.2.2.2], .cells 3 [.int .i64 fun _ => c], .cells 3 [.int .i64 fun _ => al]] (Y := Unit) (fun _ => True) (fun _ => .vec 3 2 (fun _ => 0) fun _ => 5)
    (fun _ => [.cells 53 [.int .i64 fun _ => t.1, .bool fun _ => t.2.1, .int .i64 fun _ => t.2.2.1, .int .i64 fun _ => t.2.2.2.1, .int .i64 fun _ => t.2.2.2.2], .cells 3 [.int .i64 fun _ => c], .cells 3 [.int .i64 fun _ => al], .cells 109 [.ptr 1 0, .int .i64 fun _ => 1, .ptr 2 0, .int .i64 fun _ => 1, .ptr 0 2, .int .i64 fun _ => 4, .ptr 0 3, .int .i64 fun _ => 6, .ptr 0 4, .int .i64 fun _ => 6]]) := by
  refine Meets.intro hm (fn := Try.f59) Try.func59 rfl (by decide) (Nat.le_of_ble_eq_true rfl) (fun _ => rfl) ?_; intro S hok; (conv => whnf)
  (repeat' ((conv => whnf); first | refine And.intro ?_ ?_ | exact Cl.mk (by kernel_rfl) | exact Ck.mk (by kernel_rfl) | refine DrawN.mk ?_ | refine CodeN.step hm rfl ?_ | exact trivial | exact rfl | (intro hh; try simp only [decide_eq_true_eq, decide_eq_false_iff_not, beq_iff_eq, beq_eq_false_iff_ne, bne_iff_ne, bne_eq_false_iff_eq, Bool.not_eq_true', Bool.not_eq_false', Bool.not_true, Bool.not_false] at hh))); all_goals (conv => whnf)
  (refine RetN.intro () [0, 1, 2, 3] rfl rfl ?_ ?_ ?_; ((repeat' (first | exact rfl | exact trivial | refine And.intro ?_ ?_ | ((conv => whnf); first | exact rfl | exact trivial | refine And.intro ?_ ?_)))); ((repeat' (first | exact rfl | exact trivial | refine And.intro ?_ ?_ | ((conv => whnf); first | exact rfl | exact trivial | refine And.intro ?_ ?_))); all_goals (conv => whnf); all_goals (try simp only [])))
theorem countM (s : Bytes) (wrong : Bool) (n : Int) (hs : s.length ≤ 900000) : Meets Try.prog 58 [.ptr 0 0, .int .i64 fun _ => n] (wN s wrong) (Y := Unit) (fun _ => True) (fun _ => .tup []) (fun _ => wN (s ++ wides [(n, 1)]) (wrong || decide (32 < n) || bads [(n, 1)])) := by
  refine Meets.intro hm (fn := Try.f58) Try.func58 rfl (by decide) (Nat.le_of_ble_eq_true rfl) (fun _ => rfl) ?_; intro S hok; (conv => whnf)
  (repeat' ((conv => whnf); first | refine And.intro ?_ ?_ | exact Cl.mk (by kernel_rfl) | exact Ck.mk (by kernel_rfl) | refine DrawN.mk ?_ | refine CodeN.step hm rfl ?_ | exact trivial | exact rfl | (intro hh; try simp only [decide_eq_true_eq, decide_eq_false_iff_not, beq_iff_eq, beq_eq_false_iff_ne, bne_iff_ne, bne_eq_false_iff_eq, Bool.not_eq_true', Bool.not_eq_false', Bool.not_true, Bool.not_false] at hh))); all_goals (conv => whnf)
  · (refine CallN.intro (oneM s (decide (32 < n)) n hs) [0, 1, 3, 2] rfl rfl ?_ ?_ ?_; ((repeat' (first | exact rfl | exact trivial | refine And.intro ?_ ?_ | ((conv => whnf); first | exact rfl | exact trivial | refine And.intro ?_ ?_)))); ((repeat' (first | exact rfl | exact trivial | refine And.intro ?_ ?_ | ((conv => whnf); first | exact rfl | exact trivial | refine And.intro ?_ ?_)))); (intro y hy; clear y hy; (repeat' ((conv => whnf); first | refine And.intro ?_ ?_ | exact Cl.mk (by kernel_rfl) | exact Ck.mk (by kernel_rfl) | refine DrawN.mk ?_ | refine CodeN.step hm rfl ?_ | exact trivial | exact rfl | (intro hh; try simp only [decide_eq_true_eq, decide_eq_false_iff_not, beq_iff_eq, beq_eq_false_iff_ne, bne_iff_ne, bne_eq_false_iff_eq, Bool.not_eq_true', Bool.not_eq_false', Bool.not_true, Bool.not_false] at hh; try exact absurd hh (by decide)))); all_goals (conv => whnf); (all_goals first | (exact Ob.mk (by decide)) | skip)))
    (refine RetN.intro () [0, 1] rfl rfl ?_ ?_ ?_; ((repeat' (first | exact rfl | exact trivial | refine And.intro ?_ ?_ | ((conv => whnf); first | exact rfl | exact trivial | refine And.intro ?_ ?_)))); ((repeat' (first | exact rfl | exact trivial | refine And.intro ?_ ?_ | ((conv => whnf); first | exact rfl | exact trivial | refine And.intro ?_ ?_))); all_goals (conv => whnf); all_goals (try simp only [])))
    rw [hh]; rfl
  · (refine CallN.intro (oneM s true n hs) [0, 1, 3, 2] rfl rfl ?_ ?_ ?_; ((repeat' (first | exact rfl | exact trivial | refine And.intro ?_ ?_ | ((conv => whnf); first | exact rfl | exact trivial | refine And.intro ?_ ?_)))); ((repeat' (first | exact rfl | exact trivial | refine And.intro ?_ ?_ | ((conv => whnf); first | exact rfl | exact trivial | refine And.intro ?_ ?_)))); (intro y hy; clear y hy; (repeat' ((conv => whnf); first | refine And.intro ?_ ?_ | exact Cl.mk (by kernel_rfl) | exact Ck.mk (by kernel_rfl) | refine DrawN.mk ?_ | refine CodeN.step hm rfl ?_ | exact trivial | exact rfl | (intro hh; try simp only [decide_eq_true_eq, decide_eq_false_iff_not, beq_iff_eq, beq_eq_false_iff_ne, bne_iff_ne, bne_eq_false_iff_eq, Bool.not_eq_true', Bool.not_eq_false', Bool.not_true, Bool.not_false] at hh; try exact absurd hh (by decide)))); all_goals (conv => whnf); (all_goals first | (exact Ob.mk (by decide)) | skip)))
    (refine RetN.intro () [0, 1] rfl rfl ?_ ?_ ?_; ((repeat' (first | exact rfl | exact trivial | refine And.intro ?_ ?_ | ((conv => whnf); first | exact rfl | exact trivial | refine And.intro ?_ ?_)))); ((repeat' (first | exact rfl | exact trivial | refine And.intro ?_ ?_ | ((conv => whnf); first | exact rfl | exact trivial | refine And.intro ?_ ?_))); all_goals (conv => whnf); all_goals (try simp only [])))
    rw [hh]; rfl
def ansNums (a : Ans) : List (Int × Nat) := [(a.1, 1), (a.2.1, 1), (a.2.2.2.1, 4), (a.2.2.2.2.1.1, 1), (a.2.2.2.2.1.2.1, 4), (a.2.2.2.2.1.2.2.1, 4), (a.2.2.2.2.1.2.2.2, 1), (a.2.2.2.2.2.1, 6), (a.2.2.2.2.2.2.1, 2)]
def toldNums (t : Told) : List (Int × Nat) := [(t.1, 1), (if t.2.1 then 1 else 0, 1), (t.2.2.1, 4), (t.2.2.2.1, 6), (t.2.2.2.2, 6)]
def toldsB (l : List Told) : Bytes := l.flatMap fun t => wides (toldNums t)
def namesB (l : List Name) : Bytes := l.flatMap fun n => wides [(n.1, 1)] ++ (put n.2).1
def toldsW (l : List Told) : Bool := l.any fun t => bads (toldNums t)
def namesW (l : List Name) : Bool := l.any fun n => bads [(n.1, 1)] || !(put n.2).2
def encA (a : Ans) : Bytes := wides (ansNums a) ++ wides [((a.2.2.1.length : Int), 1)] ++ toldsB a.2.2.1 ++ wides [((a.2.2.2.2.2.2.2.length : Int), 1)] ++ namesB a.2.2.2.2.2.2.2
def wrongA (a : Ans) : Bool := bads (ansNums a) || decide (32 < (a.2.2.1.length : Int)) || bads [((a.2.2.1.length : Int), 1)] || toldsW a.2.2.1 || decide (32 < (a.2.2.2.2.2.2.2.length : Int)) || bads [((a.2.2.2.2.2.2.2.length : Int), 1)] || namesW a.2.2.2.2.2.2.2
structure Sh (a : Ans) : Prop where
  told : a.2.2.1.length ≤ 1000
  names : a.2.2.2.2.2.2.2.length ≤ 1000
  key : ∀ n ∈ a.2.2.2.2.2.2.2, n.2.length ≤ 300
theorem toldsB_len (l : List Told) : (toldsB l).length = 18 * l.length := by
  induction l with
  | nil => rfl
  | cons t r ih => simp only [toldsB, List.flatMap_cons, List.length_append, List.length_cons] at ih ⊢; rw [ih, wides_len]; simp [toldNums]; omega
theorem put_len (s : Bytes) : (put s).1.length ≤ s.length + 1 := by unfold put; split <;> simp
theorem namesB_len {l : List Name} (h : ∀ n ∈ l, n.2.length ≤ 300) : (namesB l).length ≤ 302 * l.length := by
  induction l with
  | nil => simp [namesB]
  | cons t r ih =>
    have h1 := ih fun n hn => h n (List.mem_cons_of_mem _ hn)
    have h2 := h t (List.mem_cons_self ..)
    have h3 := put_len t.2
    have h4 : (wides [(t.1, 1)]).length = 1 := by rw [wides_len]; rfl
    simp only [namesB, List.flatMap_cons, List.length_append, List.length_cons] at h1 ⊢
    omega
theorem toldsB_take {l : List Told} {i : Nat} (h : i < l.length) : toldsB (l.take (i + 1)) = toldsB (l.take i) ++ wides (toldNums (l.getD i (0, false, 0, 0, 0))) := by
  rw [List.take_add_one, List.getElem?_eq_getElem h, toldsB, toldsB, List.flatMap_append, List.getD_eq_getElem?_getD, List.getElem?_eq_getElem h]; simp
theorem namesB_take {l : List Name} {i : Nat} (h : i < l.length) : namesB (l.take (i + 1)) = namesB (l.take i) ++ (wides [((l.getD i (0, [])).1, 1)] ++ (put (l.getD i (0, [])).2).1) := by
  rw [List.take_add_one, List.getElem?_eq_getElem h, namesB, namesB, List.flatMap_append, List.getD_eq_getElem?_getD, List.getElem?_eq_getElem h]; simp
theorem toldsW_take {l : List Told} {i : Nat} (h : i < l.length) : toldsW (l.take (i + 1)) = (toldsW (l.take i) || bads (toldNums (l.getD i (0, false, 0, 0, 0)))) := by
  rw [List.take_add_one, List.getElem?_eq_getElem h, toldsW, toldsW, List.any_append, List.getD_eq_getElem?_getD, List.getElem?_eq_getElem h]; simp
theorem namesW_take {l : List Name} {i : Nat} (h : i < l.length) : namesW (l.take (i + 1)) = (namesW (l.take i) || (bads [((l.getD i (0, [])).1, 1)] || !(put (l.getD i (0, [])).2).2)) := by
  rw [List.take_add_one, List.getElem?_eq_getElem h, namesW, namesW, List.any_append, List.getD_eq_getElem?_getD, List.getElem?_eq_getElem h]; simp
theorem heads_len (a : Ans) : (wides (ansNums a)).length = 24 := by rw [wides_len]; rfl
set_option maxRecDepth 4000 in
theorem writeAM (a : Ans) (hs : Sh a) : Meets Try.prog 31 [ansAV a] [] (Y := Unit) (fun _ => True) (fun _ => .tup [.str fun _ => encA a, .bool fun _ => !wrongA a]) (fun _ => []) := by
  refine Meets.intro hm (fn := Try.f31) Try.func31 rfl (by decide) (Nat.le_of_ble_eq_true rfl) (fun _ => rfl) ?_; intro S hok; (conv => whnf)
  (repeat' ((conv => whnf); first | refine And.intro ?_ ?_ | exact Cl.mk (by kernel_rfl) | exact Ck.mk (by kernel_rfl) | refine DrawN.mk ?_ | refine CodeN.step hm rfl ?_ | exact trivial | exact rfl | (intro hh; try simp only [decide_eq_true_eq, decide_eq_false_iff_not, beq_iff_eq, beq_eq_false_iff_ne, bne_iff_ne, bne_eq_false_iff_eq, Bool.not_eq_true', Bool.not_eq_false', Bool.not_true, Bool.not_false] at hh))); all_goals (conv => whnf)
  (refine CallN.intro (headsM a a.2.1) [0, 2] rfl rfl ?_ ?_ ?_; ((repeat' (first | exact rfl | exact trivial | refine And.intro ?_ ?_ | ((conv => whnf); first | exact rfl | exact trivial | refine And.intro ?_ ?_)))); ((repeat' (first | exact rfl | exact trivial | refine And.intro ?_ ?_ | ((conv => whnf); first | exact rfl | exact trivial | refine And.intro ?_ ?_)))); (intro y hy; clear y hy; (repeat' ((conv => whnf); first | refine And.intro ?_ ?_ | exact Cl.mk (by kernel_rfl) | exact Ck.mk (by kernel_rfl) | refine DrawN.mk ?_ | refine CodeN.step hm rfl ?_ | exact trivial | exact rfl | (intro hh; try simp only [decide_eq_true_eq, decide_eq_false_iff_not, beq_iff_eq, beq_eq_false_iff_ne, bne_iff_ne, bne_eq_false_iff_eq, Bool.not_eq_true', Bool.not_eq_false', Bool.not_true, Bool.not_false] at hh; try exact absurd hh (by decide)))); all_goals (conv => whnf); (all_goals first | (exact Ob.mk (by decide)) | skip)))
  (refine CallN.intro (headM a.1 a.2.1 a.2.1 a.2.2.2.1 a.2.2.2.2.1.1 a.2.2.2.2.1.2.1 a.2.2.2.2.1.2.2.1 a.2.2.2.2.1.2.2.2 a.2.2.2.2.2.1 a.2.2.2.2.2.2.1 a.2.2.1 a.2.2.2.2.2.2.2) [1, 3, 0, 2] rfl rfl ?_ ?_ ?_; ((repeat' (first | exact rfl | exact trivial | refine And.intro ?_ ?_ | ((conv => whnf); first | exact rfl | exact trivial | refine And.intro ?_ ?_)))); ((repeat' (first | exact rfl | exact trivial | refine And.intro ?_ ?_ | ((conv => whnf); first | exact rfl | exact trivial | refine And.intro ?_ ?_)))); (intro y hy; clear y hy; (repeat' ((conv => whnf); first | refine And.intro ?_ ?_ | exact Cl.mk (by kernel_rfl) | exact Ck.mk (by kernel_rfl) | refine DrawN.mk ?_ | refine CodeN.step hm rfl ?_ | exact trivial | exact rfl | (intro hh; try simp only [decide_eq_true_eq, decide_eq_false_iff_not, beq_iff_eq, beq_eq_false_iff_ne, bne_iff_ne, bne_eq_false_iff_eq, Bool.not_eq_true', Bool.not_eq_false', Bool.not_true, Bool.not_false] at hh; try exact absurd hh (by decide)))); all_goals (conv => whnf); (all_goals first | (exact Ob.mk (by decide)) | skip)))
  have hl0 := heads_len a
  have h1 := hs.told
  have h2 := hs.names
  have hone : ∀ x : Int, (wides [(x, 1)]).length = 1 := fun x => by rw [wides_len]; rfl
  (refine CallN.intro (countM (wides (ansNums a)) (bads (ansNums a)) a.2.2.1.length (by omega)) [1, 4] rfl rfl ?_ ?_ ?_; ((repeat' (first | exact rfl | exact trivial | refine And.intro ?_ ?_ | ((conv => whnf); first | exact rfl | exact trivial | refine And.intro ?_ ?_)))); ((repeat' (first | exact rfl | exact trivial | refine And.intro ?_ ?_ | ((conv => whnf); first | exact rfl | exact trivial | refine And.intro ?_ ?_)))); (intro y hy; clear y hy; (repeat' ((conv => whnf); first | refine And.intro ?_ ?_ | exact Cl.mk (by kernel_rfl) | exact Ck.mk (by kernel_rfl) | refine DrawN.mk ?_ | refine CodeN.step hm rfl ?_ | exact trivial | exact rfl | (intro hh; try simp only [decide_eq_true_eq, decide_eq_false_iff_not, beq_iff_eq, beq_eq_false_iff_ne, bne_iff_ne, bne_eq_false_iff_eq, Bool.not_eq_true', Bool.not_eq_false', Bool.not_true, Bool.not_false] at hh; try exact absurd hh (by decide)))); all_goals (conv => whnf); (all_goals first | (exact Ob.mk (by decide)) | skip)))
  generalize hb1 : wides (ansNums a) ++ wides [((a.2.2.1.length : Int), 1)] = b1
  generalize hf1 : (bads (ansNums a) || decide (32 < (a.2.2.1.length : Int)) || bads [((a.2.2.1.length : Int), 1)]) = f1
  have hb1l : b1.length = 25 := by rw [← hb1, List.length_append, hl0, hone]
  refine LoopN.intro hm (X := Nat × Bytes × Bool) (fun x => x.1 ≤ a.2.2.1.length ∧ x.2.1 = b1 ++ toldsB (a.2.2.1.take x.1) ∧ x.2.2 = (f1 || toldsW (a.2.2.1.take x.1))) (fun x => a.2.2.1.length - x.1)
    (fun x => [(29, .int .i64 fun _ => (x.1 : Int)), (28, .int .i64 fun _ => (a.2.2.1.length : Int)), (27, .lst ToldT fun _ => a.2.2.1), (4, .ptr 1 0), (1, .ptr 0 0)])
    (fun x => [ansC a, .cells 104 [.ptr 1 0, .vec 2 1 (fun _ => 0) (fun _ => x.2.1.length), .bool fun _ => x.2.2], .vect 5 (.int .u8) fun _ => byv x.2.1])
    (0, b1, f1) [0, 1, 4] ⟨rfl, rfl, ?_, ?_⟩ ⟨Nat.zero_le _, by simp [toldsB], by simp [toldsW]⟩ (fun x hx => ?_)
  · (repeat' (first | exact rfl | exact trivial | refine And.intro ?_ ?_ | ((conv => whnf); first | exact rfl | exact trivial | refine And.intro ?_ ?_)))
  · (repeat' (first | exact rfl | exact trivial | refine And.intro ?_ ?_ | ((conv => whnf); first | exact rfl | exact trivial | refine And.intro ?_ ?_)))
  · obtain ⟨i, b, f⟩ := x
    obtain ⟨hi, hb, hf⟩ := hx
    simp only [] at hi hb hf
    have hbl : b.length ≤ 18025 := by rw [hb, List.length_append, toldsB_len, List.length_take]; omega
    have htk := toldsB_take (l := a.2.2.1) (i := i)
    have hwk := toldsW_take (l := a.2.2.1) (i := i)
    have hx' : a.2.2.1.getD (i : Int).toNat ToldT.dflt = a.2.2.1.getD i (0, false, 0, 0, 0) := rfl
    generalize a.2.2.1.getD i (0, false, 0, 0, 0) = t at htk hwk hx'
    (repeat' ((conv => whnf); first | refine And.intro ?_ ?_ | exact Cl.mk (by kernel_rfl) | exact Ck.mk (by kernel_rfl) | refine DrawN.mk ?_ | refine CodeN.step hm rfl ?_ | exact trivial | exact rfl | (intro hh; try simp only [decide_eq_true_eq, decide_eq_false_iff_not, beq_iff_eq, beq_eq_false_iff_ne, bne_iff_ne, bne_eq_false_iff_eq, Bool.not_eq_true', Bool.not_eq_false', Bool.not_true, Bool.not_false] at hh))); all_goals (conv => whnf)
    all_goals (try simp only [hx'] at hh ⊢)
    · (refine Ob.mk ?_; (try simp only [Ty.dflt, Nat.zero_add, Nat.add_zero, Int.toNat_natCast, Int.toNat_zero, Int.toNat_one, List.length_take, List.length_drop, List.length_append, List.length_replicate, List.length_cons, List.length_nil, List.length_set, List.length_map, true_and, and_true]); omega)
    · have hi1 : i < a.2.2.1.length := by omega
      have e : toldNums t = [(t.1, 1), (1, 1), (t.2.2.1, 4), (t.2.2.2.1, 6), (t.2.2.2.2, 6)] := by simp only [toldNums, hh]; rfl
      have htk := htk hi1
      have hwk := hwk hi1
      rw [e] at htk hwk
      (refine CallN.intro (toldsM t t.1 1) [3, 4, 5] rfl rfl ?_ ?_ ?_; ((repeat' (first | exact rfl | exact trivial | refine And.intro ?_ ?_ | ((conv => whnf); first | exact rfl | exact trivial | refine And.intro ?_ ?_)))); ((repeat' (first | exact rfl | exact trivial | refine And.intro ?_ ?_ | ((conv => whnf); first | exact rfl | exact trivial | refine And.intro ?_ ?_)))); (intro y hy; clear y hy; (repeat' ((conv => whnf); first | refine And.intro ?_ ?_ | exact Cl.mk (by kernel_rfl) | exact Ck.mk (by kernel_rfl) | refine DrawN.mk ?_ | refine CodeN.step hm rfl ?_ | exact trivial | exact rfl | (intro hh; try simp only [decide_eq_true_eq, decide_eq_false_iff_not, beq_iff_eq, beq_eq_false_iff_ne, bne_iff_ne, bne_eq_false_iff_eq, Bool.not_eq_true', Bool.not_eq_false', Bool.not_true, Bool.not_false] at hh; try exact absurd hh (by decide)))); all_goals (conv => whnf); (all_goals first | (exact Ob.mk (by decide)) | skip)))
      (refine CallN.intro (toldM b f t.1 1 t.2.1 t.1 t.2.2.1 t.2.2.2.1 t.2.2.2.2 (by omega)) [1, 2, 6, 3, 4, 5] rfl rfl ?_ ?_ ?_; ((repeat' (first | exact rfl | exact trivial | refine And.intro ?_ ?_ | ((conv => whnf); first | exact rfl | exact trivial | refine And.intro ?_ ?_)))); ((repeat' (first | exact rfl | exact trivial | refine And.intro ?_ ?_ | ((conv => whnf); first | exact rfl | exact trivial | refine And.intro ?_ ?_)))); (intro y hy; clear y hy; (repeat' ((conv => whnf); first | refine And.intro ?_ ?_ | exact Cl.mk (by kernel_rfl) | exact Ck.mk (by kernel_rfl) | refine DrawN.mk ?_ | refine CodeN.step hm rfl ?_ | exact trivial | exact rfl | (intro hh; try simp only [decide_eq_true_eq, decide_eq_false_iff_not, beq_iff_eq, beq_eq_false_iff_ne, bne_iff_ne, bne_eq_false_iff_eq, Bool.not_eq_true', Bool.not_eq_false', Bool.not_true, Bool.not_false] at hh; try exact absurd hh (by decide)))); all_goals (conv => whnf); (all_goals first | (exact Ob.mk (by decide)) | skip)))
      refine ⟨(i + 1, b ++ wides [(t.1, 1), (1, 1), (t.2.2.1, 4), (t.2.2.2.1, 6), (t.2.2.2.2, 6)], f || bads [(t.1, 1), (1, 1), (t.2.2.1, 4), (t.2.2.2.1, 6), (t.2.2.2.2, 6)]), [0, 1, 2], ⟨rfl, rfl, ?_, ?_⟩, ⟨hi1, ?_, ?_⟩, by simp only []; omega⟩
      · (repeat' (first | exact rfl | exact trivial | refine And.intro ?_ ?_ | ((conv => whnf); first | exact rfl | exact trivial | refine And.intro ?_ ?_)))
      · (repeat' (first | exact rfl | exact trivial | refine And.intro ?_ ?_ | ((conv => whnf); first | exact rfl | exact trivial | refine And.intro ?_ ?_))); all_goals (conv => whnf); all_goals (try simp only [])
        exact wr2 i hi1 (by omega)
      · simp only []; rw [htk, hb, List.append_assoc]
      · simp only []; rw [hwk, hf, Bool.or_assoc]
    · have hi1 : i < a.2.2.1.length := by omega
      have e : toldNums t = [(t.1, 1), (0, 1), (t.2.2.1, 4), (t.2.2.2.1, 6), (t.2.2.2.2, 6)] := by simp only [toldNums, hh]; rfl
      have htk := htk hi1
      have hwk := hwk hi1
      rw [e] at htk hwk
      (refine CallN.intro (toldsM t t.1 0) [3, 4, 5] rfl rfl ?_ ?_ ?_; ((repeat' (first | exact rfl | exact trivial | refine And.intro ?_ ?_ | ((conv => whnf); first | exact rfl | exact trivial | refine And.intro ?_ ?_)))); ((repeat' (first | exact rfl | exact trivial | refine And.intro ?_ ?_ | ((conv => whnf); first | exact rfl | exact trivial | refine And.intro ?_ ?_)))); (intro y hy; clear y hy; (repeat' ((conv => whnf); first | refine And.intro ?_ ?_ | exact Cl.mk (by kernel_rfl) | exact Ck.mk (by kernel_rfl) | refine DrawN.mk ?_ | refine CodeN.step hm rfl ?_ | exact trivial | exact rfl | (intro hh; try simp only [decide_eq_true_eq, decide_eq_false_iff_not, beq_iff_eq, beq_eq_false_iff_ne, bne_iff_ne, bne_eq_false_iff_eq, Bool.not_eq_true', Bool.not_eq_false', Bool.not_true, Bool.not_false] at hh; try exact absurd hh (by decide)))); all_goals (conv => whnf); (all_goals first | (exact Ob.mk (by decide)) | skip)))
      (refine CallN.intro (toldM b f t.1 0 t.2.1 t.1 t.2.2.1 t.2.2.2.1 t.2.2.2.2 (by omega)) [1, 2, 6, 3, 4, 5] rfl rfl ?_ ?_ ?_; ((repeat' (first | exact rfl | exact trivial | refine And.intro ?_ ?_ | ((conv => whnf); first | exact rfl | exact trivial | refine And.intro ?_ ?_)))); ((repeat' (first | exact rfl | exact trivial | refine And.intro ?_ ?_ | ((conv => whnf); first | exact rfl | exact trivial | refine And.intro ?_ ?_)))); (intro y hy; clear y hy; (repeat' ((conv => whnf); first | refine And.intro ?_ ?_ | exact Cl.mk (by kernel_rfl) | exact Ck.mk (by kernel_rfl) | refine DrawN.mk ?_ | refine CodeN.step hm rfl ?_ | exact trivial | exact rfl | (intro hh; try simp only [decide_eq_true_eq, decide_eq_false_iff_not, beq_iff_eq, beq_eq_false_iff_ne, bne_iff_ne, bne_eq_false_iff_eq, Bool.not_eq_true', Bool.not_eq_false', Bool.not_true, Bool.not_false] at hh; try exact absurd hh (by decide)))); all_goals (conv => whnf); (all_goals first | (exact Ob.mk (by decide)) | skip)))
      refine ⟨(i + 1, b ++ wides [(t.1, 1), (0, 1), (t.2.2.1, 4), (t.2.2.2.1, 6), (t.2.2.2.2, 6)], f || bads [(t.1, 1), (0, 1), (t.2.2.1, 4), (t.2.2.2.1, 6), (t.2.2.2.2, 6)]), [0, 1, 2], ⟨rfl, rfl, ?_, ?_⟩, ⟨hi1, ?_, ?_⟩, by simp only []; omega⟩
      · (repeat' (first | exact rfl | exact trivial | refine And.intro ?_ ?_ | ((conv => whnf); first | exact rfl | exact trivial | refine And.intro ?_ ?_)))
      · (repeat' (first | exact rfl | exact trivial | refine And.intro ?_ ?_ | ((conv => whnf); first | exact rfl | exact trivial | refine And.intro ?_ ?_))); all_goals (conv => whnf); all_goals (try simp only [])
        exact wr2 i hi1 (by omega)
      · simp only []; rw [htk, hb, List.append_assoc]
      · simp only []; rw [hwk, hf, Bool.or_assoc]
    · have ei : i = a.2.2.1.length := by omega
      rw [ei, List.take_length] at hb hf
      clear htk hwk hx'
      (refine CallN.intro (countM b f a.2.2.2.2.2.2.2.length (by omega)) [1, 2] rfl rfl ?_ ?_ ?_; ((repeat' (first | exact rfl | exact trivial | refine And.intro ?_ ?_ | ((conv => whnf); first | exact rfl | exact trivial | refine And.intro ?_ ?_)))); ((repeat' (first | exact rfl | exact trivial | refine And.intro ?_ ?_ | ((conv => whnf); first | exact rfl | exact trivial | refine And.intro ?_ ?_)))); (intro y hy; clear y hy; (repeat' ((conv => whnf); first | refine And.intro ?_ ?_ | exact Cl.mk (by kernel_rfl) | exact Ck.mk (by kernel_rfl) | refine DrawN.mk ?_ | refine CodeN.step hm rfl ?_ | exact trivial | exact rfl | (intro hh; try simp only [decide_eq_true_eq, decide_eq_false_iff_not, beq_iff_eq, beq_eq_false_iff_ne, bne_iff_ne, bne_eq_false_iff_eq, Bool.not_eq_true', Bool.not_eq_false', Bool.not_true, Bool.not_false] at hh; try exact absurd hh (by decide)))); all_goals (conv => whnf); (all_goals first | (exact Ob.mk (by decide)) | skip)))
      generalize hb2 : b ++ wides [((a.2.2.2.2.2.2.2.length : Int), 1)] = b2
      generalize hf2 : (f || decide (32 < (a.2.2.2.2.2.2.2.length : Int)) || bads [((a.2.2.2.2.2.2.2.length : Int), 1)]) = f2
      have hb2l : b2.length ≤ 18026 := by rw [← hb2, List.length_append, hone]; omega
      clear hbl
      refine LoopN.intro hm (X := Nat × Bytes × Bool) (fun x => x.1 ≤ a.2.2.2.2.2.2.2.length ∧ x.2.1 = b2 ++ namesB (a.2.2.2.2.2.2.2.take x.1) ∧ x.2.2 = (f2 || namesW (a.2.2.2.2.2.2.2.take x.1))) (fun x => a.2.2.2.2.2.2.2.length - x.1)
        (fun x => [(50, .int .i64 fun _ => (x.1 : Int)), (49, .int .i64 fun _ => (a.2.2.2.2.2.2.2.length : Int)), (48, .lst NameT fun _ => a.2.2.2.2.2.2.2), (4, .ptr 1 0)])
        (fun x => [.none, .cells 104 [.ptr 1 0, .vec 2 1 (fun _ => 0) (fun _ => x.2.1.length), .bool fun _ => x.2.2], .vect 5 (.int .u8) fun _ => byv x.2.1])
        (0, b2, f2) [0, 1, 2] ⟨rfl, rfl, ?_, ?_⟩ ⟨Nat.zero_le _, by simp [namesB], by simp [namesW]⟩ (fun x hx => ?_)
      · (repeat' (first | exact rfl | exact trivial | refine And.intro ?_ ?_ | ((conv => whnf); first | exact rfl | exact trivial | refine And.intro ?_ ?_)))
      · (repeat' (first | exact rfl | exact trivial | refine And.intro ?_ ?_ | ((conv => whnf); first | exact rfl | exact trivial | refine And.intro ?_ ?_)))
      · obtain ⟨j, c, h⟩ := x
        obtain ⟨hj, hc, hh'⟩ := hx
        simp only [] at hj hc hh'
        have hkt : ∀ n ∈ a.2.2.2.2.2.2.2.take j, n.2.length ≤ 300 := fun n hn => hs.key n (List.mem_of_mem_take hn)
        have hcl : c.length ≤ 320026 := by
          have := namesB_len hkt
          rw [List.length_take] at this
          rw [hc, List.length_append]; omega
        have htk := namesB_take (l := a.2.2.2.2.2.2.2) (i := j)
        have hwk := namesW_take (l := a.2.2.2.2.2.2.2) (i := j)
        have hkm : j < a.2.2.2.2.2.2.2.length → (a.2.2.2.2.2.2.2.getD j (0, [])).2.length ≤ 300 := fun h => hs.key _ (by rw [List.getD_eq_getElem?_getD, List.getElem?_eq_getElem h]; exact List.getElem_mem h)
        have hx' : a.2.2.2.2.2.2.2.getD (j : Int).toNat NameT.dflt = a.2.2.2.2.2.2.2.getD j (0, []) := rfl
        generalize a.2.2.2.2.2.2.2.getD j (0, []) = n at htk hwk hx' hkm
        clear hh
        (repeat' ((conv => whnf); first | refine And.intro ?_ ?_ | exact Cl.mk (by kernel_rfl) | exact Ck.mk (by kernel_rfl) | refine DrawN.mk ?_ | refine CodeN.step hm rfl ?_ | exact trivial | exact rfl | (intro hh; try simp only [decide_eq_true_eq, decide_eq_false_iff_not, beq_iff_eq, beq_eq_false_iff_ne, bne_iff_ne, bne_eq_false_iff_eq, Bool.not_eq_true', Bool.not_eq_false', Bool.not_true, Bool.not_false] at hh))); all_goals (conv => whnf)
        all_goals (try simp only [hx'] at hh ⊢)
        · (refine Ob.mk ?_; (try simp only [Ty.dflt, Nat.zero_add, Nat.add_zero, Int.toNat_natCast, Int.toNat_zero, Int.toNat_one, List.length_take, List.length_drop, List.length_append, List.length_replicate, List.length_cons, List.length_nil, List.length_set, List.length_map, true_and, and_true]); omega)
        · have hj1 : j < a.2.2.2.2.2.2.2.length := by omega
          have htk := htk hj1
          have hwk := hwk hj1
          have hkm := hkm hj1
          have hpl := put_len n.2
          (refine CallN.intro (bookM c h n.1 n.2 (by omega)) [1, 2, 4, 3] rfl rfl ?_ ?_ ?_; ((repeat' (first | exact rfl | exact trivial | refine And.intro ?_ ?_ | ((conv => whnf); first | exact rfl | exact trivial | refine And.intro ?_ ?_)))); ((repeat' (first | exact rfl | exact trivial | refine And.intro ?_ ?_ | ((conv => whnf); first | exact rfl | exact trivial | refine And.intro ?_ ?_)))); (intro y hy; clear y hy; (repeat' ((conv => whnf); first | refine And.intro ?_ ?_ | exact Cl.mk (by kernel_rfl) | exact Ck.mk (by kernel_rfl) | refine DrawN.mk ?_ | refine CodeN.step hm rfl ?_ | exact trivial | exact rfl | (intro hh; try simp only [decide_eq_true_eq, decide_eq_false_iff_not, beq_iff_eq, beq_eq_false_iff_ne, bne_iff_ne, bne_eq_false_iff_eq, Bool.not_eq_true', Bool.not_eq_false', Bool.not_true, Bool.not_false] at hh; try exact absurd hh (by decide)))); all_goals (conv => whnf); (all_goals first | (exact Ob.mk (by decide)) | skip)))
          (refine CallN.intro (putM n.2 (by omega)) [] rfl rfl ?_ ?_ ?_; ((repeat' (first | exact rfl | exact trivial | refine And.intro ?_ ?_ | ((conv => whnf); first | exact rfl | exact trivial | refine And.intro ?_ ?_)))); ((repeat' (first | exact rfl | exact trivial | refine And.intro ?_ ?_ | ((conv => whnf); first | exact rfl | exact trivial | refine And.intro ?_ ?_)))); (intro y hy; clear y hy; (repeat' ((conv => whnf); first | refine And.intro ?_ ?_ | exact Cl.mk (by kernel_rfl) | exact Ck.mk (by kernel_rfl) | refine DrawN.mk ?_ | refine CodeN.step hm rfl ?_ | exact trivial | exact rfl | (intro hh; try simp only [decide_eq_true_eq, decide_eq_false_iff_not, beq_iff_eq, beq_eq_false_iff_ne, bne_iff_ne, bne_eq_false_iff_eq, Bool.not_eq_true', Bool.not_eq_false', Bool.not_true, Bool.not_false] at hh; try exact absurd hh (by decide)))); all_goals (conv => whnf); (all_goals first | (exact Ob.mk (by decide)) | skip)))
          · (refine CallN.intro (writeN (c ++ wides [(n.1, 1)]) (put n.2).1 (!(put n.2).2) (by rw [List.length_append, hone]; omega)) [1, 2] rfl rfl ?_ ?_ ?_; ((repeat' (first | exact rfl | exact trivial | refine And.intro ?_ ?_ | ((conv => whnf); first | exact rfl | exact trivial | refine And.intro ?_ ?_)))); ((repeat' (first | exact rfl | exact trivial | refine And.intro ?_ ?_ | ((conv => whnf); first | exact rfl | exact trivial | refine And.intro ?_ ?_)))); (intro y hy; clear y hy; (repeat' ((conv => whnf); first | refine And.intro ?_ ?_ | exact Cl.mk (by kernel_rfl) | exact Ck.mk (by kernel_rfl) | refine DrawN.mk ?_ | refine CodeN.step hm rfl ?_ | exact trivial | exact rfl | (intro hh; try simp only [decide_eq_true_eq, decide_eq_false_iff_not, beq_iff_eq, beq_eq_false_iff_ne, bne_iff_ne, bne_eq_false_iff_eq, Bool.not_eq_true', Bool.not_eq_false', Bool.not_true, Bool.not_false] at hh; try exact absurd hh (by decide)))); all_goals (conv => whnf); (all_goals first | (exact Ob.mk (by decide)) | skip)))
            refine ⟨(j + 1, c ++ wides [(n.1, 1)] ++ (put n.2).1, (!(put n.2).2)), [0, 1, 2], ⟨rfl, rfl, ?_, ?_⟩, ⟨hj1, ?_, ?_⟩, by simp only []; omega⟩
            · (repeat' (first | exact rfl | exact trivial | refine And.intro ?_ ?_ | ((conv => whnf); first | exact rfl | exact trivial | refine And.intro ?_ ?_)))
            · (repeat' (first | exact rfl | exact trivial | refine And.intro ?_ ?_ | ((conv => whnf); first | exact rfl | exact trivial | refine And.intro ?_ ?_))); all_goals (conv => whnf); all_goals (try simp only [])
              exact wr2 j hj1 (by omega)
            · simp only []; rw [htk, hc]; simp only [List.append_assoc]
            · simp only []
              rw [hwk, ← Bool.or_assoc, ← hh', ← Bool.or_assoc, hh]; simp
          · (refine CallN.intro (writeN (c ++ wides [(n.1, 1)]) (put n.2).1 true (by rw [List.length_append, hone]; omega)) [1, 2] rfl rfl ?_ ?_ ?_; ((repeat' (first | exact rfl | exact trivial | refine And.intro ?_ ?_ | ((conv => whnf); first | exact rfl | exact trivial | refine And.intro ?_ ?_)))); ((repeat' (first | exact rfl | exact trivial | refine And.intro ?_ ?_ | ((conv => whnf); first | exact rfl | exact trivial | refine And.intro ?_ ?_)))); (intro y hy; clear y hy; (repeat' ((conv => whnf); first | refine And.intro ?_ ?_ | exact Cl.mk (by kernel_rfl) | exact Ck.mk (by kernel_rfl) | refine DrawN.mk ?_ | refine CodeN.step hm rfl ?_ | exact trivial | exact rfl | (intro hh; try simp only [decide_eq_true_eq, decide_eq_false_iff_not, beq_iff_eq, beq_eq_false_iff_ne, bne_iff_ne, bne_eq_false_iff_eq, Bool.not_eq_true', Bool.not_eq_false', Bool.not_true, Bool.not_false] at hh; try exact absurd hh (by decide)))); all_goals (conv => whnf); (all_goals first | (exact Ob.mk (by decide)) | skip)))
            refine ⟨(j + 1, c ++ wides [(n.1, 1)] ++ (put n.2).1, true), [0, 1, 2], ⟨rfl, rfl, ?_, ?_⟩, ⟨hj1, ?_, ?_⟩, by simp only []; omega⟩
            · (repeat' (first | exact rfl | exact trivial | refine And.intro ?_ ?_ | ((conv => whnf); first | exact rfl | exact trivial | refine And.intro ?_ ?_)))
            · (repeat' (first | exact rfl | exact trivial | refine And.intro ?_ ?_ | ((conv => whnf); first | exact rfl | exact trivial | refine And.intro ?_ ?_))); all_goals (conv => whnf); all_goals (try simp only [])
              exact wr2 j hj1 (by omega)
            · simp only []; rw [htk, hc]; simp only [List.append_assoc]
            · simp only []
              rw [hwk, ← Bool.or_assoc, ← hh', ← Bool.or_assoc, hh]; simp
        · have ej : j = a.2.2.2.2.2.2.2.length := by omega
          rw [ej, List.take_length] at hc hh'
          have hcl2 : 0 < c.length := by
            rw [hc, ← hb2, List.length_append, List.length_append, hone]; omega
          (refine CallN.intro (stringN c h (by omega)) [1, 2] rfl rfl ?_ ?_ ?_; ((repeat' (first | exact rfl | exact trivial | refine And.intro ?_ ?_ | ((conv => whnf); first | exact rfl | exact trivial | refine And.intro ?_ ?_)))); ((repeat' (first | exact rfl | exact trivial | refine And.intro ?_ ?_ | ((conv => whnf); first | exact rfl | exact trivial | refine And.intro ?_ ?_)))); (intro y hy; clear y hy; (repeat' ((conv => whnf); first | refine And.intro ?_ ?_ | exact Cl.mk (by kernel_rfl) | exact Ck.mk (by kernel_rfl) | refine DrawN.mk ?_ | refine CodeN.step hm rfl ?_ | exact trivial | exact rfl | (intro hh; try simp only [decide_eq_true_eq, decide_eq_false_iff_not, beq_iff_eq, beq_eq_false_iff_ne, bne_iff_ne, bne_eq_false_iff_eq, Bool.not_eq_true', Bool.not_eq_false', Bool.not_true, Bool.not_false] at hh; try exact absurd hh (by decide)))); all_goals (conv => whnf); (all_goals first | (exact Ob.mk (by decide)) | skip)))
          (refine RetN.intro () [] rfl rfl ?_ ?_ ?_; ((repeat' (first | exact rfl | exact trivial | refine And.intro ?_ ?_ | ((conv => whnf); first | exact rfl | exact trivial | refine And.intro ?_ ?_)))); ((repeat' (first | exact rfl | exact trivial | refine And.intro ?_ ?_ | ((conv => whnf); first | exact rfl | exact trivial | refine And.intro ?_ ?_))); all_goals (conv => whnf); all_goals (try simp only [])))
          · rw [hc, ← hb2, hb, ← hb1]; rfl
          · rw [hh', ← hf2, hf, ← hf1]; rfl
end Go.Proofs.Ytoipgandilhdeaa.An
set_option linter.unusedVariables false
set_option linter.unusedSimpArgs false
namespace Go.Proofs.Ytoipgandilhdeaa.An
open Go Go.RowKit Fw Nu
theorem wide_succ (n : Int) (w : Nat) : wide n (w + 1) = wide (n / 256) w ++ [UInt8.ofNat (n % 256).toNat] := by
  rw [wide, List.range_succ, List.map_append, wide]
  congr 1
  · apply List.map_congr_left
    intro i hi
    have hi : i < w := by simpa using hi
    simp only [byteAt]
    have e : w + 1 - 1 - i = (w - 1 - i) + 1 := by omega
    rw [e, Int.pow_succ, Int.mul_comm, Int.ediv_ediv, if_neg (fun h => by have := h.1; omega), Int.sub_zero]
  · simp [byteAt]
theorem narrow_wide : ∀ (w : Nat) (n : Int), 0 ≤ n → n < (256 : Int) ^ w → (narrow (wide n w) : Int) = n
  | 0, n, h0, h1 => by simp at h1; simp [wide, narrow]; omega
  | w + 1, n, h0, h1 => by
    rw [wide_succ, narrow_snoc]
    have h2 : n / 256 < (256 : Int) ^ w := by
      rw [Int.pow_succ] at h1
      exact Int.ediv_lt_of_lt_mul (by decide) h1
    have ih := narrow_wide w (n / 256) (by omega) h2
    have e : (UInt8.ofNat (n % 256).toNat).toNat = (n % 256).toNat := by rw [UInt8.toNat_ofNat']; omega
    rw [e]
    omega
theorem wide_narrow_rev : ∀ r : Bytes, wide (narrow r.reverse : Int) r.length = r.reverse
  | [] => rfl
  | b :: r => by
    have ih := wide_narrow_rev r
    have hb := b.toNat_lt
    rw [List.reverse_cons, List.length_cons, wide_succ, narrow_snoc]
    have e1 : ((256 * narrow r.reverse + b.toNat : Nat) : Int) / 256 = narrow r.reverse := by omega
    have e2 : (((256 * narrow r.reverse + b.toNat : Nat) : Int) % 256).toNat = b.toNat := by omega
    rw [e1, e2, ih]
    simp
theorem wide_narrow (s : Bytes) : wide (narrow s : Int) s.length = s := by
  have := wide_narrow_rev s.reverse
  rwa [List.reverse_reverse, List.length_reverse] at this
theorem pow_le8 {w : Nat} (h : w ≤ 8) : (256 : Int) ^ w ≤ 18446744073709551616 := by
  obtain rfl | rfl | rfl | rfl | rfl | rfl | rfl | rfl | rfl : w = 0 ∨ w = 1 ∨ w = 2 ∨ w = 3 ∨ w = 4 ∨ w = 5 ∨ w = 6 ∨ w = 7 ∨ w = 8 := by omega
  all_goals decide
theorem fits_iff {n : Int} {w : Nat} : fitsB n w = true ↔ 0 ≤ n ∧ n < (256 : Int) ^ w := by simp [fitsB]
theorem fits_wrap {n : Int} {w : Nat} (hw : w ≤ 8) (h : fitsB n w = true) : IntKind.u64.wrap n = n := by
  obtain ⟨h0, h1⟩ := fits_iff.1 h
  have := pow_le8 hw
  exact wru64 (by omega)
/-- What stands from a place on. -/
def from_ (s : Bytes) (t : Int) : Bytes := s.drop t.toNat
theorem number_get {s : Bytes} {t : Int} {w : Nat} (hw : w ≤ 8) (h : (number s t w).2.2 = 0) :
    0 ≤ t ∧ (number s t w).2.1 = t + w ∧ t + w ≤ s.length ∧ fitsB (number s t w).1 w = true ∧ from_ s t = wide (IntKind.u64.wrap (number s t w).1) w ++ from_ s (t + w) := by
  by_cases h1 : t < 0 ∨ (s.length : Int) < t
  · rw [n_arg h1] at h; cases h
  · by_cases h2 : (s.length : Int) < t + w
    · rw [n_cut (by omega) h2] at h; cases h
    · have hl : ((s.drop t.toNat).take w).length = w := by rw [List.length_take, List.length_drop]; omega
      rw [n_ok (by omega) (by omega)]
      have hlt := narrow_lt ((s.drop t.toNat).take w)
      rw [hl] at hlt
      have hf : fitsB ((narrow ((s.drop t.toNat).take w) : Nat) : Int) w = true := fits_iff.2 ⟨by omega, by have h3 := Int.ofNat_lt.2 hlt; rwa [Int.natCast_pow] at h3⟩
      refine ⟨by omega, rfl, by omega, hf, ?_⟩
      show from_ s t = wide (IntKind.u64.wrap ((narrow ((s.drop t.toNat).take w) : Nat) : Int)) w ++ from_ s (t + w)
      rw [fits_wrap hw hf]
      have hwn := wide_narrow ((s.drop t.toNat).take w)
      rw [hl] at hwn
      rw [hwn, from_, from_, show (t + (w : Int)).toNat = t.toNat + w by omega, ← List.drop_drop, List.take_append_drop]
theorem number_put {s rest : Bytes} {t n : Int} {w : Nat} (hw : w ≤ 8) (h0 : 0 ≤ t ∧ t ≤ s.length) (hf : fitsB n w = true) (h : from_ s t = wide (IntKind.u64.wrap n) w ++ rest) :
    number s t w = (n, t + w, 0) ∧ from_ s (t + w) = rest ∧ t + w ≤ s.length := by
  have hl : (from_ s t).length = s.length - t.toNat := by rw [from_, List.length_drop]
  rw [h, List.length_append, wide_len] at hl
  have hd : from_ s (t + w) = rest := by
    rw [from_, show (t + (w : Int)).toNat = t.toNat + w by omega, ← List.drop_drop]
    show (from_ s t).drop w = rest
    rw [h, List.drop_append_of_le_length (by rw [wide_len]; exact Nat.le_refl _), List.drop_of_length_le (by rw [wide_len]; exact Nat.le_refl _), List.nil_append]
  refine ⟨?_, hd, by omega⟩
  rw [n_ok h0 (by omega)]
  have e : (s.drop t.toNat).take w = wide n w := by
    show (from_ s t).take w = _
    rw [h, List.take_append_of_le_length (by rw [wide_len]; exact Nat.le_refl _), List.take_of_length_le (by rw [wide_len]; exact Nat.le_refl _), fits_wrap hw hf]
  rw [e, narrow_wide w n (fits_iff.1 hf).1 (fits_iff.1 hf).2]
end Go.Proofs.Ytoipgandilhdeaa.An
