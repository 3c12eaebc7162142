/- The law AnswerReads holds at every input that its statement lets in; part 4 of its proof. -/
import Derived.Test.YtoipgandilhdeaaMAnswerReads2
set_option linter.unusedVariables false
set_option linter.unusedSimpArgs false
namespace Go.Proofs.Ytoipgandilhdeaa.An
open Go Go.RowKit Fw Nu
def encR (a : Ans) : Bytes × Int := if wrongA a then ([], 1) else if 512 < (encA a).length then ([], 8) else (encA a, 0)
theorem encodeM (a : Ans) (hs : Sh a) : Meets Try.prog 15 [ansAV a] [] (Y := Unit) (fun _ => True) (fun _ => .tup [.str fun _ => (encR a).1, .int .i64 fun _ => (encR a).2]) (fun _ => []) := by
  refine Meets.intro hm (fn := Try.f15) Try.func15 rfl (by decide) (Nat.le_of_ble_eq_true rfl) (fun _ => rfl) ?_; intro S hok; (conv => whnf)
  (repeat' ((conv => whnf); first | refine And.intro ?_ ?_ | exact Cl.mk (by kernel_rfl) | exact Ck.mk (by kernel_rfl) | refine DrawN.mk ?_ | refine CodeN.step hm rfl ?_ | exact trivial | exact rfl | (intro hh; try simp only [decide_eq_true_eq, decide_eq_false_iff_not, beq_iff_eq, beq_eq_false_iff_ne, bne_iff_ne, bne_eq_false_iff_eq, Bool.not_eq_true', Bool.not_eq_false', Bool.not_true, Bool.not_false] at hh))); all_goals (conv => whnf)
  (refine CallN.intro (writeAM a hs) [] rfl rfl ?_ ?_ ?_; ((repeat' (first | exact rfl | exact trivial | refine And.intro ?_ ?_ | ((conv => whnf); first | exact rfl | exact trivial | refine And.intro ?_ ?_)))); ((repeat' (first | exact rfl | exact trivial | refine And.intro ?_ ?_ | ((conv => whnf); first | exact rfl | exact trivial | refine And.intro ?_ ?_)))); (intro y hy; clear y hy; (repeat' ((conv => whnf); first | refine And.intro ?_ ?_ | exact Cl.mk (by kernel_rfl) | exact Ck.mk (by kernel_rfl) | refine DrawN.mk ?_ | refine CodeN.step hm rfl ?_ | exact trivial | exact rfl | (intro hh; try simp only [decide_eq_true_eq, decide_eq_false_iff_not, beq_iff_eq, beq_eq_false_iff_ne, bne_iff_ne, bne_eq_false_iff_eq, Bool.not_eq_true', Bool.not_eq_false', Bool.not_true, Bool.not_false] at hh; try exact absurd hh (by decide)))); all_goals (conv => whnf); (all_goals first | (exact Ob.mk (by decide)) | skip)))
  · have he : encR a = ([], 1) := by unfold encR; rw [if_pos hh]
    (refine RetN.intro () [] rfl rfl ?_ ?_ ?_; ((repeat' (first | exact rfl | exact trivial | refine And.intro ?_ ?_ | ((conv => whnf); first | exact rfl | exact trivial | refine And.intro ?_ ?_)))); ((repeat' (first | exact rfl | exact trivial | refine And.intro ?_ ?_ | ((conv => whnf); first | exact rfl | exact trivial | refine And.intro ?_ ?_))); all_goals (conv => whnf); all_goals (try simp only [])))
    all_goals rw [he]
  · have he : encR a = ([], 8) := by unfold encR; rw [if_neg (by simp [*]), if_pos (by omega)]
    (refine RetN.intro () [] rfl rfl ?_ ?_ ?_; ((repeat' (first | exact rfl | exact trivial | refine And.intro ?_ ?_ | ((conv => whnf); first | exact rfl | exact trivial | refine And.intro ?_ ?_)))); ((repeat' (first | exact rfl | exact trivial | refine And.intro ?_ ?_ | ((conv => whnf); first | exact rfl | exact trivial | refine And.intro ?_ ?_))); all_goals (conv => whnf); all_goals (try simp only [])))
    all_goals rw [he]
  · have he : encR a = (encA a, 0) := by unfold encR; rw [if_neg (by simp [*]), if_neg (by omega)]
    (refine RetN.intro () [] rfl rfl ?_ ?_ ?_; ((repeat' (first | exact rfl | exact trivial | refine And.intro ?_ ?_ | ((conv => whnf); first | exact rfl | exact trivial | refine And.intro ?_ ?_)))); ((repeat' (first | exact rfl | exact trivial | refine And.intro ?_ ?_ | ((conv => whnf); first | exact rfl | exact trivial | refine And.intro ?_ ?_))); all_goals (conv => whnf); all_goals (try simp only [])))
    all_goals rw [he]
theorem mayM (a : Ans) (hs : Sh a) : Meets Try.prog 17 [ansAV a] [] (Y := Unit) (fun _ => True) (fun _ => .bool fun _ => !wrongA a) (fun _ => []) := by
  refine Meets.intro hm (fn := Try.f17) Try.func17 rfl (by decide) (Nat.le_of_ble_eq_true rfl) (fun _ => rfl) ?_; intro S hok; (conv => whnf)
  (repeat' ((conv => whnf); first | refine And.intro ?_ ?_ | exact Cl.mk (by kernel_rfl) | exact Ck.mk (by kernel_rfl) | refine DrawN.mk ?_ | refine CodeN.step hm rfl ?_ | exact trivial | exact rfl | (intro hh; try simp only [decide_eq_true_eq, decide_eq_false_iff_not, beq_iff_eq, beq_eq_false_iff_ne, bne_iff_ne, bne_eq_false_iff_eq, Bool.not_eq_true', Bool.not_eq_false', Bool.not_true, Bool.not_false] at hh))); all_goals (conv => whnf)
  (refine CallN.intro (writeAM a hs) [] rfl rfl ?_ ?_ ?_; ((repeat' (first | exact rfl | exact trivial | refine And.intro ?_ ?_ | ((conv => whnf); first | exact rfl | exact trivial | refine And.intro ?_ ?_)))); ((repeat' (first | exact rfl | exact trivial | refine And.intro ?_ ?_ | ((conv => whnf); first | exact rfl | exact trivial | refine And.intro ?_ ?_)))); (intro y hy; clear y hy; (repeat' ((conv => whnf); first | refine And.intro ?_ ?_ | exact Cl.mk (by kernel_rfl) | exact Ck.mk (by kernel_rfl) | refine DrawN.mk ?_ | refine CodeN.step hm rfl ?_ | exact trivial | exact rfl | (intro hh; try simp only [decide_eq_true_eq, decide_eq_false_iff_not, beq_iff_eq, beq_eq_false_iff_ne, bne_iff_ne, bne_eq_false_iff_eq, Bool.not_eq_true', Bool.not_eq_false', Bool.not_true, Bool.not_false] at hh; try exact absurd hh (by decide)))); all_goals (conv => whnf); (all_goals first | (exact Ob.mk (by decide)) | skip)))
  (refine RetN.intro () [] rfl rfl ?_ ?_ ?_; ((repeat' (first | exact rfl | exact trivial | refine And.intro ?_ ?_ | ((conv => whnf); first | exact rfl | exact trivial | refine And.intro ?_ ?_)))); ((repeat' (first | exact rfl | exact trivial | refine And.intro ?_ ?_ | ((conv => whnf); first | exact rfl | exact trivial | refine And.intro ?_ ?_))); all_goals (conv => whnf); all_goals (try simp only [])))
theorem rFitsM (n : Int) (w : Nat) (hw : w ≤ 7) : Meets Try.prog 49 [.int .i64 fun _ => n, .int .i64 fun _ => (w : Int)] [] (Y := Unit) (fun _ => True) (fun _ => .bool fun _ => fitsB n w) (fun _ => []) := by
  refine Meets.intro hm (fn := Try.f49) Try.func49 rfl (by decide) (Nat.le_of_ble_eq_true rfl) (fun _ => rfl) ?_; intro S hok; (conv => whnf)
  (repeat' ((conv => whnf); first | refine And.intro ?_ ?_ | exact Cl.mk (by kernel_rfl) | exact Ck.mk (by kernel_rfl) | refine DrawN.mk ?_ | refine CodeN.step hm rfl ?_ | exact trivial | exact rfl | (intro hh; try simp only [decide_eq_true_eq, decide_eq_false_iff_not, beq_iff_eq, beq_eq_false_iff_ne, bne_iff_ne, bne_eq_false_iff_eq, Bool.not_eq_true', Bool.not_eq_false', Bool.not_true, Bool.not_false] at hh))); all_goals (conv => whnf)
  refine LoopN.intro hm (X := Nat) (fun i => i ≤ w) (fun i => w - i)
    (fun i => [(6, .int .i64 fun _ => (i : Int)), (5, .int .i64 fun _ => (256 : Int) ^ i), (0, .int .i64 fun _ => n), (1, .int .i64 fun _ => (w : Int))])
    (fun i => []) 0 [] ⟨rfl, rfl, ?_, ?_⟩ (Nat.zero_le _) (fun i hi => ?_)
  · (repeat' (first | exact rfl | exact trivial | refine And.intro ?_ ?_ | ((conv => whnf); first | exact rfl | exact trivial | refine And.intro ?_ ?_)))
  · (repeat' (first | exact rfl | exact trivial | refine And.intro ?_ ?_ | ((conv => whnf); first | exact rfl | exact trivial | refine And.intro ?_ ?_)))
  · have hp : (0 : Int) < (256 : Int) ^ i := Int.pow_pos (by decide)
    have hp6 : i < w → (256 : Int) ^ i ≤ 281474976710656 := fun h => by
      obtain rfl | rfl | rfl | rfl | rfl | rfl | rfl : i = 0 ∨ i = 1 ∨ i = 2 ∨ i = 3 ∨ i = 4 ∨ i = 5 ∨ i = 6 := by omega
      all_goals decide
    (repeat' ((conv => whnf); first | refine And.intro ?_ ?_ | exact Cl.mk (by kernel_rfl) | exact Ck.mk (by kernel_rfl) | refine DrawN.mk ?_ | refine CodeN.step hm rfl ?_ | exact trivial | exact rfl | (intro hh; try simp only [decide_eq_true_eq, decide_eq_false_iff_not, beq_iff_eq, beq_eq_false_iff_ne, bne_iff_ne, bne_eq_false_iff_eq, Bool.not_eq_true', Bool.not_eq_false', Bool.not_true, Bool.not_false] at hh))); all_goals (conv => whnf)
    · refine ⟨i + 1, [], ⟨rfl, rfl, ?_, ?_⟩, by omega, by omega⟩
      · (repeat' (first | exact rfl | exact trivial | refine And.intro ?_ ?_ | ((conv => whnf); first | exact rfl | exact trivial | refine And.intro ?_ ?_)))
      · (repeat' (first | exact rfl | exact trivial | refine And.intro ?_ ?_ | ((conv => whnf); first | exact rfl | exact trivial | refine And.intro ?_ ?_))); all_goals (conv => whnf); all_goals (try simp only [])
        · exact wr2 (n := w) i (by omega) (by omega)
        · have := hp6 (by omega)
          rw [wr (by omega), Int.pow_succ, Int.mul_comm]
    all_goals
      have e : i = w := by omega
      subst e
      (refine RetN.intro () [] rfl rfl ?_ ?_ ?_; ((repeat' (first | exact rfl | exact trivial | refine And.intro ?_ ?_ | ((conv => whnf); first | exact rfl | exact trivial | refine And.intro ?_ ?_)))); ((repeat' (first | exact rfl | exact trivial | refine And.intro ?_ ?_ | ((conv => whnf); first | exact rfl | exact trivial | refine And.intro ?_ ?_))); all_goals (conv => whnf); all_goals (try simp only [])))
      rw [Bool.eq_iff_iff]
      simp [fitsB, *]
      try omega
theorem fitsM (n : Int) (w : Nat) (hw : w ≤ 7) : Meets Try.prog 35 [.int .i64 fun _ => n, .int .i64 fun _ => (w : Int)] [] (Y := Unit) (fun _ => True) (fun _ => .bool fun _ => fitsB n w) (fun _ => []) := by
  refine Meets.intro hm (fn := Try.f35) Try.func35 rfl (by decide) (Nat.le_of_ble_eq_true rfl) (fun _ => rfl) ?_; intro S hok; (conv => whnf)
  (repeat' ((conv => whnf); first | refine And.intro ?_ ?_ | exact Cl.mk (by kernel_rfl) | exact Ck.mk (by kernel_rfl) | refine DrawN.mk ?_ | refine CodeN.step hm rfl ?_ | exact trivial | exact rfl | (intro hh; try simp only [decide_eq_true_eq, decide_eq_false_iff_not, beq_iff_eq, beq_eq_false_iff_ne, bne_iff_ne, bne_eq_false_iff_eq, Bool.not_eq_true', Bool.not_eq_false', Bool.not_true, Bool.not_false] at hh))); all_goals (conv => whnf)
  (refine CallN.intro (rFitsM n w hw) [] rfl rfl ?_ ?_ ?_; ((repeat' (first | exact rfl | exact trivial | refine And.intro ?_ ?_ | ((conv => whnf); first | exact rfl | exact trivial | refine And.intro ?_ ?_)))); ((repeat' (first | exact rfl | exact trivial | refine And.intro ?_ ?_ | ((conv => whnf); first | exact rfl | exact trivial | refine And.intro ?_ ?_)))); (intro y hy; clear y hy; (repeat' ((conv => whnf); first | refine And.intro ?_ ?_ | exact Cl.mk (by kernel_rfl) | exact Ck.mk (by kernel_rfl) | refine DrawN.mk ?_ | refine CodeN.step hm rfl ?_ | exact trivial | exact rfl | (intro hh; try simp only [decide_eq_true_eq, decide_eq_false_iff_not, beq_iff_eq, beq_eq_false_iff_ne, bne_iff_ne, bne_eq_false_iff_eq, Bool.not_eq_true', Bool.not_eq_false', Bool.not_true, Bool.not_false] at hh; try exact absurd hh (by decide)))); all_goals (conv => whnf); (all_goals first | (exact Ob.mk (by decide)) | skip)))
  (refine RetN.intro () [] rfl rfl ?_ ?_ ?_; ((repeat' (first | exact rfl | exact trivial | refine And.intro ?_ ?_ | ((conv => whnf); first | exact rfl | exact trivial | refine And.intro ?_ ?_)))); ((repeat' (first | exact rfl | exact trivial | refine And.intro ?_ ?_ | ((conv => whnf); first | exact rfl | exact trivial | refine And.intro ?_ ?_))); all_goals (conv => whnf); all_goals (try simp only [])))
theorem widM (n : Int) (w : Nat) (hw : w ≤ 8) : Meets Try.prog 32 [.int .i64 fun _ => n, .int .i64 fun _ => (w : Int)] [] (Y := Unit) (fun _ => True) (fun _ => .str fun _ => wide (IntKind.u64.wrap n) w) (fun _ => []) := by
  refine Meets.intro hm (fn := Try.f32) Try.func32 rfl (by decide) (Nat.le_of_ble_eq_true rfl) (fun _ => rfl) ?_; intro S hok; (conv => whnf)
  (repeat' ((conv => whnf); first | refine And.intro ?_ ?_ | exact Cl.mk (by kernel_rfl) | exact Ck.mk (by kernel_rfl) | refine DrawN.mk ?_ | refine CodeN.step hm rfl ?_ | exact trivial | exact rfl | (intro hh; try simp only [decide_eq_true_eq, decide_eq_false_iff_not, beq_iff_eq, beq_eq_false_iff_ne, bne_iff_ne, bne_eq_false_iff_eq, Bool.not_eq_true', Bool.not_eq_false', Bool.not_true, Bool.not_false] at hh))); all_goals (conv => whnf)
  (refine CallN.intro (rwideM (IntKind.u64.wrap n) w hw (u64_range n)) [] rfl rfl ?_ ?_ ?_; ((repeat' (first | exact rfl | exact trivial | refine And.intro ?_ ?_ | ((conv => whnf); first | exact rfl | exact trivial | refine And.intro ?_ ?_)))); ((repeat' (first | exact rfl | exact trivial | refine And.intro ?_ ?_ | ((conv => whnf); first | exact rfl | exact trivial | refine And.intro ?_ ?_)))); (intro y hy; clear y hy; (repeat' ((conv => whnf); first | refine And.intro ?_ ?_ | exact Cl.mk (by kernel_rfl) | exact Ck.mk (by kernel_rfl) | refine DrawN.mk ?_ | refine CodeN.step hm rfl ?_ | exact trivial | exact rfl | (intro hh; try simp only [decide_eq_true_eq, decide_eq_false_iff_not, beq_iff_eq, beq_eq_false_iff_ne, bne_iff_ne, bne_eq_false_iff_eq, Bool.not_eq_true', Bool.not_eq_false', Bool.not_true, Bool.not_false] at hh; try exact absurd hh (by decide)))); all_goals (conv => whnf); (all_goals first | (exact Ob.mk (by decide)) | skip)))
  (refine RetN.intro () [] rfl rfl ?_ ?_ ?_; ((repeat' (first | exact rfl | exact trivial | refine And.intro ?_ ?_ | ((conv => whnf); first | exact rfl | exact trivial | refine And.intro ?_ ?_)))); ((repeat' (first | exact rfl | exact trivial | refine And.intro ?_ ?_ | ((conv => whnf); first | exact rfl | exact trivial | refine And.intro ?_ ?_))); all_goals (conv => whnf); all_goals (try simp only [])))
theorem byteM (n : Int) : Meets Try.prog 46 [.int .i64 fun _ => n] [] (Y := Unit) (fun _ => True) (fun _ => .str fun _ => wide (IntKind.u64.wrap n) 1) (fun _ => []) := by
  refine Meets.intro hm (fn := Try.f46) Try.func46 rfl (by decide) (Nat.le_of_ble_eq_true rfl) (fun _ => rfl) ?_; intro S hok; (conv => whnf)
  (repeat' ((conv => whnf); first | refine And.intro ?_ ?_ | exact Cl.mk (by kernel_rfl) | exact Ck.mk (by kernel_rfl) | refine DrawN.mk ?_ | refine CodeN.step hm rfl ?_ | exact trivial | exact rfl | (intro hh; try simp only [decide_eq_true_eq, decide_eq_false_iff_not, beq_iff_eq, beq_eq_false_iff_ne, bne_iff_ne, bne_eq_false_iff_eq, Bool.not_eq_true', Bool.not_eq_false', Bool.not_true, Bool.not_false] at hh))); all_goals (conv => whnf)
  (refine CallN.intro (rwideM (IntKind.u64.wrap n) 1 (by omega) (u64_range n)) [] rfl rfl ?_ ?_ ?_; ((repeat' (first | exact rfl | exact trivial | refine And.intro ?_ ?_ | ((conv => whnf); first | exact rfl | exact trivial | refine And.intro ?_ ?_)))); ((repeat' (first | exact rfl | exact trivial | refine And.intro ?_ ?_ | ((conv => whnf); first | exact rfl | exact trivial | refine And.intro ?_ ?_)))); (intro y hy; clear y hy; (repeat' ((conv => whnf); first | refine And.intro ?_ ?_ | exact Cl.mk (by kernel_rfl) | exact Ck.mk (by kernel_rfl) | refine DrawN.mk ?_ | refine CodeN.step hm rfl ?_ | exact trivial | exact rfl | (intro hh; try simp only [decide_eq_true_eq, decide_eq_false_iff_not, beq_iff_eq, beq_eq_false_iff_ne, bne_iff_ne, bne_eq_false_iff_eq, Bool.not_eq_true', Bool.not_eq_false', Bool.not_true, Bool.not_false] at hh; try exact absurd hh (by decide)))); all_goals (conv => whnf); (all_goals first | (exact Ob.mk (by decide)) | skip)))
  (refine RetN.intro () [] rfl rfl ?_ ?_ ?_; ((repeat' (first | exact rfl | exact trivial | refine And.intro ?_ ?_ | ((conv => whnf); first | exact rfl | exact trivial | refine And.intro ?_ ?_)))); ((repeat' (first | exact rfl | exact trivial | refine And.intro ?_ ?_ | ((conv => whnf); first | exact rfl | exact trivial | refine And.intro ?_ ?_))); all_goals (conv => whnf); all_goals (try simp only [])))
theorem fourM (n : Int) : Meets Try.prog 64 [.int .i64 fun _ => n] [] (Y := Unit) (fun _ => True) (fun _ => .str fun _ => wide (IntKind.u64.wrap n) 4) (fun _ => []) := by
  refine Meets.intro hm (fn := Try.f64) Try.func64 rfl (by decide) (Nat.le_of_ble_eq_true rfl) (fun _ => rfl) ?_; intro S hok; (conv => whnf)
  (repeat' ((conv => whnf); first | refine And.intro ?_ ?_ | exact Cl.mk (by kernel_rfl) | exact Ck.mk (by kernel_rfl) | refine DrawN.mk ?_ | refine CodeN.step hm rfl ?_ | exact trivial | exact rfl | (intro hh; try simp only [decide_eq_true_eq, decide_eq_false_iff_not, beq_iff_eq, beq_eq_false_iff_ne, bne_iff_ne, bne_eq_false_iff_eq, Bool.not_eq_true', Bool.not_eq_false', Bool.not_true, Bool.not_false] at hh))); all_goals (conv => whnf)
  (refine CallN.intro (rwideM (IntKind.u64.wrap n) 4 (by omega) (u64_range n)) [] rfl rfl ?_ ?_ ?_; ((repeat' (first | exact rfl | exact trivial | refine And.intro ?_ ?_ | ((conv => whnf); first | exact rfl | exact trivial | refine And.intro ?_ ?_)))); ((repeat' (first | exact rfl | exact trivial | refine And.intro ?_ ?_ | ((conv => whnf); first | exact rfl | exact trivial | refine And.intro ?_ ?_)))); (intro y hy; clear y hy; (repeat' ((conv => whnf); first | refine And.intro ?_ ?_ | exact Cl.mk (by kernel_rfl) | exact Ck.mk (by kernel_rfl) | refine DrawN.mk ?_ | refine CodeN.step hm rfl ?_ | exact trivial | exact rfl | (intro hh; try simp only [decide_eq_true_eq, decide_eq_false_iff_not, beq_iff_eq, beq_eq_false_iff_ne, bne_iff_ne, bne_eq_false_iff_eq, Bool.not_eq_true', Bool.not_eq_false', Bool.not_true, Bool.not_false] at hh; try exact absurd hh (by decide)))); all_goals (conv => whnf); (all_goals first | (exact Ob.mk (by decide)) | skip)))
  (refine RetN.intro () [] rfl rfl ?_ ?_ ?_; ((repeat' (first | exact rfl | exact trivial | refine And.intro ?_ ?_ | ((conv => whnf); first | exact rfl | exact trivial | refine And.intro ?_ ?_)))); ((repeat' (first | exact rfl | exact trivial | refine And.intro ?_ ?_ | ((conv => whnf); first | exact rfl | exact trivial | refine And.intro ?_ ?_))); all_goals (conv => whnf); all_goals (try simp only [])))
theorem policyM (p : Int × Int × Int × Int) : Meets Try.prog 33 [.agg [.int .i64 fun _ => p.1, .int .i64 fun _ => p.2.1, .int .i64 fun _ => p.2.2.1, .int .i64 fun _ => p.2.2.2]] [] (Y := Unit) (fun _ => True) (fun _ => .str fun _ => wides [(p.1, 1), (p.2.1, 4), (p.2.2.1, 4), (p.2.2.2, 1)]) (fun _ => []) := by
  refine Meets.intro hm (fn := Try.f33) Try.func33 rfl (by decide) (Nat.le_of_ble_eq_true rfl) (fun _ => rfl) ?_; intro S hok; (conv => whnf)
  (repeat' ((conv => whnf); first | refine And.intro ?_ ?_ | exact Cl.mk (by kernel_rfl) | exact Ck.mk (by kernel_rfl) | refine DrawN.mk ?_ | refine CodeN.step hm rfl ?_ | exact trivial | exact rfl | (intro hh; try simp only [decide_eq_true_eq, decide_eq_false_iff_not, beq_iff_eq, beq_eq_false_iff_ne, bne_iff_ne, bne_eq_false_iff_eq, Bool.not_eq_true', Bool.not_eq_false', Bool.not_true, Bool.not_false] at hh))); all_goals (conv => whnf)
  (refine CallN.intro (byteM p.1) [] rfl rfl ?_ ?_ ?_; ((repeat' (first | exact rfl | exact trivial | refine And.intro ?_ ?_ | ((conv => whnf); first | exact rfl | exact trivial | refine And.intro ?_ ?_)))); ((repeat' (first | exact rfl | exact trivial | refine And.intro ?_ ?_ | ((conv => whnf); first | exact rfl | exact trivial | refine And.intro ?_ ?_)))); (intro y hy; clear y hy; (repeat' ((conv => whnf); first | refine And.intro ?_ ?_ | exact Cl.mk (by kernel_rfl) | exact Ck.mk (by kernel_rfl) | refine DrawN.mk ?_ | refine CodeN.step hm rfl ?_ | exact trivial | exact rfl | (intro hh; try simp only [decide_eq_true_eq, decide_eq_false_iff_not, beq_iff_eq, beq_eq_false_iff_ne, bne_iff_ne, bne_eq_false_iff_eq, Bool.not_eq_true', Bool.not_eq_false', Bool.not_true, Bool.not_false] at hh; try exact absurd hh (by decide)))); all_goals (conv => whnf); (all_goals first | (exact Ob.mk (by decide)) | skip)))
  (refine CallN.intro (fourM p.2.1) [] rfl rfl ?_ ?_ ?_; ((repeat' (first | exact rfl | exact trivial | refine And.intro ?_ ?_ | ((conv => whnf); first | exact rfl | exact trivial | refine And.intro ?_ ?_)))); ((repeat' (first | exact rfl | exact trivial | refine And.intro ?_ ?_ | ((conv => whnf); first | exact rfl | exact trivial | refine And.intro ?_ ?_)))); (intro y hy; clear y hy; (repeat' ((conv => whnf); first | refine And.intro ?_ ?_ | exact Cl.mk (by kernel_rfl) | exact Ck.mk (by kernel_rfl) | refine DrawN.mk ?_ | refine CodeN.step hm rfl ?_ | exact trivial | exact rfl | (intro hh; try simp only [decide_eq_true_eq, decide_eq_false_iff_not, beq_iff_eq, beq_eq_false_iff_ne, bne_iff_ne, bne_eq_false_iff_eq, Bool.not_eq_true', Bool.not_eq_false', Bool.not_true, Bool.not_false] at hh; try exact absurd hh (by decide)))); all_goals (conv => whnf); (all_goals first | (exact Ob.mk (by decide)) | skip)))
  all_goals first | (exact Ob.mk (by simp only [List.length_append, wide_len]; omega)) | skip
  (refine CallN.intro (fourM p.2.2.1) [] rfl rfl ?_ ?_ ?_; ((repeat' (first | exact rfl | exact trivial | refine And.intro ?_ ?_ | ((conv => whnf); first | exact rfl | exact trivial | refine And.intro ?_ ?_)))); ((repeat' (first | exact rfl | exact trivial | refine And.intro ?_ ?_ | ((conv => whnf); first | exact rfl | exact trivial | refine And.intro ?_ ?_)))); (intro y hy; clear y hy; (repeat' ((conv => whnf); first | refine And.intro ?_ ?_ | exact Cl.mk (by kernel_rfl) | exact Ck.mk (by kernel_rfl) | refine DrawN.mk ?_ | refine CodeN.step hm rfl ?_ | exact trivial | exact rfl | (intro hh; try simp only [decide_eq_true_eq, decide_eq_false_iff_not, beq_iff_eq, beq_eq_false_iff_ne, bne_iff_ne, bne_eq_false_iff_eq, Bool.not_eq_true', Bool.not_eq_false', Bool.not_true, Bool.not_false] at hh; try exact absurd hh (by decide)))); all_goals (conv => whnf); (all_goals first | (exact Ob.mk (by decide)) | skip)))
  all_goals first | (exact Ob.mk (by simp only [List.length_append, wide_len]; omega)) | skip
  (refine CallN.intro (byteM p.2.2.2) [] rfl rfl ?_ ?_ ?_; ((repeat' (first | exact rfl | exact trivial | refine And.intro ?_ ?_ | ((conv => whnf); first | exact rfl | exact trivial | refine And.intro ?_ ?_)))); ((repeat' (first | exact rfl | exact trivial | refine And.intro ?_ ?_ | ((conv => whnf); first | exact rfl | exact trivial | refine And.intro ?_ ?_)))); (intro y hy; clear y hy; (repeat' ((conv => whnf); first | refine And.intro ?_ ?_ | exact Cl.mk (by kernel_rfl) | exact Ck.mk (by kernel_rfl) | refine DrawN.mk ?_ | refine CodeN.step hm rfl ?_ | exact trivial | exact rfl | (intro hh; try simp only [decide_eq_true_eq, decide_eq_false_iff_not, beq_iff_eq, beq_eq_false_iff_ne, bne_iff_ne, bne_eq_false_iff_eq, Bool.not_eq_true', Bool.not_eq_false', Bool.not_true, Bool.not_false] at hh; try exact absurd hh (by decide)))); all_goals (conv => whnf); (all_goals first | (exact Ob.mk (by decide)) | skip)))
  all_goals first | (exact Ob.mk (by simp only [List.length_append, wide_len]; omega)) | skip
  (refine RetN.intro () [] rfl rfl ?_ ?_ ?_; ((repeat' (first | exact rfl | exact trivial | refine And.intro ?_ ?_ | ((conv => whnf); first | exact rfl | exact trivial | refine And.intro ?_ ?_)))); ((repeat' (first | exact rfl | exact trivial | refine And.intro ?_ ?_ | ((conv => whnf); first | exact rfl | exact trivial | refine And.intro ?_ ?_))); all_goals (conv => whnf); all_goals (try simp only [])))
  all_goals first | (simp [wides]; done) | skip
theorem bads_cons (n : Int) (w : Nat) (r : List (Int × Nat)) : bads ((n, w) :: r) = (!fitsB n w || bads r) := rfl
theorem bads_nil : bads [] = false := rfl
theorem fits_one {n : Int} (h : 0 ≤ n ∧ n ≤ 32) : fitsB n 1 = true := by
  rw [fitsB, decide_eq_true h.1, decide_eq_true (show n < (256 : Int) ^ 1 by omega)]; rfl
theorem bads_told (t : Told) : bads (toldNums t) = !(fitsB t.1 1 && fitsB t.2.2.1 4 && fitsB t.2.2.2.1 6 && fitsB t.2.2.2.2 6) := by
  have h : fitsB (if t.2.1 then 1 else 0) 1 = true := by cases t.2.1 <;> decide
  simp only [toldNums, bads_cons, bads_nil, h]
  cases fitsB t.1 1 <;> cases fitsB t.2.2.1 4 <;> cases fitsB t.2.2.2.1 6 <;> cases fitsB t.2.2.2.2 6 <;> rfl
theorem bads_book (n : Int) : bads [(n, 1)] = !fitsB n 1 := by simp [bads_cons, bads_nil]
theorem put_ok (s : Bytes) : (put s).2 = decide (s.length ≤ 255) := by unfold put; split <;> simp [*]
set_option maxRecDepth 4000 in
theorem rmayM (a : Ans) (hs : Sh a) : Meets Try.prog 18 [ansAV a] [] (Y := Unit) (fun _ => True) (fun _ => .bool fun _ => !wrongA a) (fun _ => []) := by
  have h1 := hs.told
  have h2 := hs.names
  refine Meets.intro hm (fn := Try.f18) Try.func18 rfl (by decide) (Nat.le_of_ble_eq_true rfl) (fun _ => rfl) ?_; intro S hok; (conv => whnf)
  (repeat' ((conv => whnf); first | refine And.intro ?_ ?_ | exact Cl.mk (by kernel_rfl) | exact Ck.mk (by kernel_rfl) | refine DrawN.mk ?_ | refine CodeN.step hm rfl ?_ | exact trivial | exact rfl | (intro hh; try simp only [decide_eq_true_eq, decide_eq_false_iff_not, beq_iff_eq, beq_eq_false_iff_ne, bne_iff_ne, bne_eq_false_iff_eq, Bool.not_eq_true', Bool.not_eq_false', Bool.not_true, Bool.not_false] at hh))); all_goals (conv => whnf)
  (refine CallN.intro (fitsM a.1 1 (by omega)) [] rfl rfl ?_ ?_ ?_; ((repeat' (first | exact rfl | exact trivial | refine And.intro ?_ ?_ | ((conv => whnf); first | exact rfl | exact trivial | refine And.intro ?_ ?_)))); ((repeat' (first | exact rfl | exact trivial | refine And.intro ?_ ?_ | ((conv => whnf); first | exact rfl | exact trivial | refine And.intro ?_ ?_)))); (intro y hy; clear y hy; (repeat' ((conv => whnf); first | refine And.intro ?_ ?_ | exact Cl.mk (by kernel_rfl) | exact Ck.mk (by kernel_rfl) | refine DrawN.mk ?_ | refine CodeN.step hm rfl ?_ | exact trivial | exact rfl | (intro hh; try simp only [decide_eq_true_eq, decide_eq_false_iff_not, beq_iff_eq, beq_eq_false_iff_ne, bne_iff_ne, bne_eq_false_iff_eq, Bool.not_eq_true', Bool.not_eq_false', Bool.not_true, Bool.not_false] at hh; try exact absurd hh (by decide)))); all_goals (conv => whnf); (all_goals first | (exact Ob.mk (by decide)) | skip)))
  all_goals first
    | ((refine RetN.intro () [] rfl rfl ?_ ?_ ?_; ((repeat' (first | exact rfl | exact trivial | refine And.intro ?_ ?_ | ((conv => whnf); first | exact rfl | exact trivial | refine And.intro ?_ ?_)))); ((repeat' (first | exact rfl | exact trivial | refine And.intro ?_ ?_ | ((conv => whnf); first | exact rfl | exact trivial | refine And.intro ?_ ?_))); all_goals (conv => whnf); all_goals (try simp only [])))
       simp [wrongA, ansNums, bads_cons, *]; done)
    | skip
  (refine CallN.intro (fitsM a.2.1 1 (by omega)) [] rfl rfl ?_ ?_ ?_; ((repeat' (first | exact rfl | exact trivial | refine And.intro ?_ ?_ | ((conv => whnf); first | exact rfl | exact trivial | refine And.intro ?_ ?_)))); ((repeat' (first | exact rfl | exact trivial | refine And.intro ?_ ?_ | ((conv => whnf); first | exact rfl | exact trivial | refine And.intro ?_ ?_)))); (intro y hy; clear y hy; (repeat' ((conv => whnf); first | refine And.intro ?_ ?_ | exact Cl.mk (by kernel_rfl) | exact Ck.mk (by kernel_rfl) | refine DrawN.mk ?_ | refine CodeN.step hm rfl ?_ | exact trivial | exact rfl | (intro hh; try simp only [decide_eq_true_eq, decide_eq_false_iff_not, beq_iff_eq, beq_eq_false_iff_ne, bne_iff_ne, bne_eq_false_iff_eq, Bool.not_eq_true', Bool.not_eq_false', Bool.not_true, Bool.not_false] at hh; try exact absurd hh (by decide)))); all_goals (conv => whnf); (all_goals first | (exact Ob.mk (by decide)) | skip)))
  all_goals first
    | ((refine RetN.intro () [] rfl rfl ?_ ?_ ?_; ((repeat' (first | exact rfl | exact trivial | refine And.intro ?_ ?_ | ((conv => whnf); first | exact rfl | exact trivial | refine And.intro ?_ ?_)))); ((repeat' (first | exact rfl | exact trivial | refine And.intro ?_ ?_ | ((conv => whnf); first | exact rfl | exact trivial | refine And.intro ?_ ?_))); all_goals (conv => whnf); all_goals (try simp only [])))
       simp [wrongA, ansNums, bads_cons, *]; done)
    | skip
  (refine CallN.intro (fitsM a.2.2.2.1 4 (by omega)) [] rfl rfl ?_ ?_ ?_; ((repeat' (first | exact rfl | exact trivial | refine And.intro ?_ ?_ | ((conv => whnf); first | exact rfl | exact trivial | refine And.intro ?_ ?_)))); ((repeat' (first | exact rfl | exact trivial | refine And.intro ?_ ?_ | ((conv => whnf); first | exact rfl | exact trivial | refine And.intro ?_ ?_)))); (intro y hy; clear y hy; (repeat' ((conv => whnf); first | refine And.intro ?_ ?_ | exact Cl.mk (by kernel_rfl) | exact Ck.mk (by kernel_rfl) | refine DrawN.mk ?_ | refine CodeN.step hm rfl ?_ | exact trivial | exact rfl | (intro hh; try simp only [decide_eq_true_eq, decide_eq_false_iff_not, beq_iff_eq, beq_eq_false_iff_ne, bne_iff_ne, bne_eq_false_iff_eq, Bool.not_eq_true', Bool.not_eq_false', Bool.not_true, Bool.not_false] at hh; try exact absurd hh (by decide)))); all_goals (conv => whnf); (all_goals first | (exact Ob.mk (by decide)) | skip)))
  all_goals first
    | ((refine RetN.intro () [] rfl rfl ?_ ?_ ?_; ((repeat' (first | exact rfl | exact trivial | refine And.intro ?_ ?_ | ((conv => whnf); first | exact rfl | exact trivial | refine And.intro ?_ ?_)))); ((repeat' (first | exact rfl | exact trivial | refine And.intro ?_ ?_ | ((conv => whnf); first | exact rfl | exact trivial | refine And.intro ?_ ?_))); all_goals (conv => whnf); all_goals (try simp only [])))
       simp [wrongA, ansNums, bads_cons, *]; done)
    | skip
  (refine CallN.intro (fitsM a.2.2.2.2.1.1 1 (by omega)) [] rfl rfl ?_ ?_ ?_; ((repeat' (first | exact rfl | exact trivial | refine And.intro ?_ ?_ | ((conv => whnf); first | exact rfl | exact trivial | refine And.intro ?_ ?_)))); ((repeat' (first | exact rfl | exact trivial | refine And.intro ?_ ?_ | ((conv => whnf); first | exact rfl | exact trivial | refine And.intro ?_ ?_)))); (intro y hy; clear y hy; (repeat' ((conv => whnf); first | refine And.intro ?_ ?_ | exact Cl.mk (by kernel_rfl) | exact Ck.mk (by kernel_rfl) | refine DrawN.mk ?_ | refine CodeN.step hm rfl ?_ | exact trivial | exact rfl | (intro hh; try simp only [decide_eq_true_eq, decide_eq_false_iff_not, beq_iff_eq, beq_eq_false_iff_ne, bne_iff_ne, bne_eq_false_iff_eq, Bool.not_eq_true', Bool.not_eq_false', Bool.not_true, Bool.not_false] at hh; try exact absurd hh (by decide)))); all_goals (conv => whnf); (all_goals first | (exact Ob.mk (by decide)) | skip)))
  all_goals first
    | ((refine RetN.intro () [] rfl rfl ?_ ?_ ?_; ((repeat' (first | exact rfl | exact trivial | refine And.intro ?_ ?_ | ((conv => whnf); first | exact rfl | exact trivial | refine And.intro ?_ ?_)))); ((repeat' (first | exact rfl | exact trivial | refine And.intro ?_ ?_ | ((conv => whnf); first | exact rfl | exact trivial | refine And.intro ?_ ?_))); all_goals (conv => whnf); all_goals (try simp only [])))
       simp [wrongA, ansNums, bads_cons, *]; done)
    | skip
  (refine CallN.intro (fitsM a.2.2.2.2.1.2.1 4 (by omega)) [] rfl rfl ?_ ?_ ?_; ((repeat' (first | exact rfl | exact trivial | refine And.intro ?_ ?_ | ((conv => whnf); first | exact rfl | exact trivial | refine And.intro ?_ ?_)))); ((repeat' (first | exact rfl | exact trivial | refine And.intro ?_ ?_ | ((conv => whnf); first | exact rfl | exact trivial | refine And.intro ?_ ?_)))); (intro y hy; clear y hy; (repeat' ((conv => whnf); first | refine And.intro ?_ ?_ | exact Cl.mk (by kernel_rfl) | exact Ck.mk (by kernel_rfl) | refine DrawN.mk ?_ | refine CodeN.step hm rfl ?_ | exact trivial | exact rfl | (intro hh; try simp only [decide_eq_true_eq, decide_eq_false_iff_not, beq_iff_eq, beq_eq_false_iff_ne, bne_iff_ne, bne_eq_false_iff_eq, Bool.not_eq_true', Bool.not_eq_false', Bool.not_true, Bool.not_false] at hh; try exact absurd hh (by decide)))); all_goals (conv => whnf); (all_goals first | (exact Ob.mk (by decide)) | skip)))
  all_goals first
    | ((refine RetN.intro () [] rfl rfl ?_ ?_ ?_; ((repeat' (first | exact rfl | exact trivial | refine And.intro ?_ ?_ | ((conv => whnf); first | exact rfl | exact trivial | refine And.intro ?_ ?_)))); ((repeat' (first | exact rfl | exact trivial | refine And.intro ?_ ?_ | ((conv => whnf); first | exact rfl | exact trivial | refine And.intro ?_ ?_))); all_goals (conv => whnf); all_goals (try simp only [])))
       simp [wrongA, ansNums, bads_cons, *]; done)
    | skip
  (refine CallN.intro (fitsM a.2.2.2.2.1.2.2.1 4 (by omega)) [] rfl rfl ?_ ?_ ?_; ((repeat' (first | exact rfl | exact trivial | refine And.intro ?_ ?_ | ((conv => whnf); first | exact rfl | exact trivial | refine And.intro ?_ ?_)))); ((repeat' (first | exact rfl | exact trivial | refine And.intro ?_ ?_ | ((conv => whnf); first | exact rfl | exact trivial | refine And.intro ?_ ?_)))); (intro y hy; clear y hy; (repeat' ((conv => whnf); first | refine And.intro ?_ ?_ | exact Cl.mk (by kernel_rfl) | exact Ck.mk (by kernel_rfl) | refine DrawN.mk ?_ | refine CodeN.step hm rfl ?_ | exact trivial | exact rfl | (intro hh; try simp only [decide_eq_true_eq, decide_eq_false_iff_not, beq_iff_eq, beq_eq_false_iff_ne, bne_iff_ne, bne_eq_false_iff_eq, Bool.not_eq_true', Bool.not_eq_false', Bool.not_true, Bool.not_false] at hh; try exact absurd hh (by decide)))); all_goals (conv => whnf); (all_goals first | (exact Ob.mk (by decide)) | skip)))
  all_goals first
    | ((refine RetN.intro () [] rfl rfl ?_ ?_ ?_; ((repeat' (first | exact rfl | exact trivial | refine And.intro ?_ ?_ | ((conv => whnf); first | exact rfl | exact trivial | refine And.intro ?_ ?_)))); ((repeat' (first | exact rfl | exact trivial | refine And.intro ?_ ?_ | ((conv => whnf); first | exact rfl | exact trivial | refine And.intro ?_ ?_))); all_goals (conv => whnf); all_goals (try simp only [])))
       simp [wrongA, ansNums, bads_cons, *]; done)
    | skip
  (refine CallN.intro (fitsM a.2.2.2.2.1.2.2.2 1 (by omega)) [] rfl rfl ?_ ?_ ?_; ((repeat' (first | exact rfl | exact trivial | refine And.intro ?_ ?_ | ((conv => whnf); first | exact rfl | exact trivial | refine And.intro ?_ ?_)))); ((repeat' (first | exact rfl | exact trivial | refine And.intro ?_ ?_ | ((conv => whnf); first | exact rfl | exact trivial | refine And.intro ?_ ?_)))); (intro y hy; clear y hy; (repeat' ((conv => whnf); first | refine And.intro ?_ ?_ | exact Cl.mk (by kernel_rfl) | exact Ck.mk (by kernel_rfl) | refine DrawN.mk ?_ | refine CodeN.step hm rfl ?_ | exact trivial | exact rfl | (intro hh; try simp only [decide_eq_true_eq, decide_eq_false_iff_not, beq_iff_eq, beq_eq_false_iff_ne, bne_iff_ne, bne_eq_false_iff_eq, Bool.not_eq_true', Bool.not_eq_false', Bool.not_true, Bool.not_false] at hh; try exact absurd hh (by decide)))); all_goals (conv => whnf); (all_goals first | (exact Ob.mk (by decide)) | skip)))
  all_goals first
    | ((refine RetN.intro () [] rfl rfl ?_ ?_ ?_; ((repeat' (first | exact rfl | exact trivial | refine And.intro ?_ ?_ | ((conv => whnf); first | exact rfl | exact trivial | refine And.intro ?_ ?_)))); ((repeat' (first | exact rfl | exact trivial | refine And.intro ?_ ?_ | ((conv => whnf); first | exact rfl | exact trivial | refine And.intro ?_ ?_))); all_goals (conv => whnf); all_goals (try simp only [])))
       simp [wrongA, ansNums, bads_cons, *]; done)
    | skip
  (refine CallN.intro (fitsM a.2.2.2.2.2.1 6 (by omega)) [] rfl rfl ?_ ?_ ?_; ((repeat' (first | exact rfl | exact trivial | refine And.intro ?_ ?_ | ((conv => whnf); first | exact rfl | exact trivial | refine And.intro ?_ ?_)))); ((repeat' (first | exact rfl | exact trivial | refine And.intro ?_ ?_ | ((conv => whnf); first | exact rfl | exact trivial | refine And.intro ?_ ?_)))); (intro y hy; clear y hy; (repeat' ((conv => whnf); first | refine And.intro ?_ ?_ | exact Cl.mk (by kernel_rfl) | exact Ck.mk (by kernel_rfl) | refine DrawN.mk ?_ | refine CodeN.step hm rfl ?_ | exact trivial | exact rfl | (intro hh; try simp only [decide_eq_true_eq, decide_eq_false_iff_not, beq_iff_eq, beq_eq_false_iff_ne, bne_iff_ne, bne_eq_false_iff_eq, Bool.not_eq_true', Bool.not_eq_false', Bool.not_true, Bool.not_false] at hh; try exact absurd hh (by decide)))); all_goals (conv => whnf); (all_goals first | (exact Ob.mk (by decide)) | skip)))
  all_goals first
    | ((refine RetN.intro () [] rfl rfl ?_ ?_ ?_; ((repeat' (first | exact rfl | exact trivial | refine And.intro ?_ ?_ | ((conv => whnf); first | exact rfl | exact trivial | refine And.intro ?_ ?_)))); ((repeat' (first | exact rfl | exact trivial | refine And.intro ?_ ?_ | ((conv => whnf); first | exact rfl | exact trivial | refine And.intro ?_ ?_))); all_goals (conv => whnf); all_goals (try simp only [])))
       simp [wrongA, ansNums, bads_cons, *]; done)
    | skip
  (refine CallN.intro (fitsM a.2.2.2.2.2.2.1 2 (by omega)) [] rfl rfl ?_ ?_ ?_; ((repeat' (first | exact rfl | exact trivial | refine And.intro ?_ ?_ | ((conv => whnf); first | exact rfl | exact trivial | refine And.intro ?_ ?_)))); ((repeat' (first | exact rfl | exact trivial | refine And.intro ?_ ?_ | ((conv => whnf); first | exact rfl | exact trivial | refine And.intro ?_ ?_)))); (intro y hy; clear y hy; (repeat' ((conv => whnf); first | refine And.intro ?_ ?_ | exact Cl.mk (by kernel_rfl) | exact Ck.mk (by kernel_rfl) | refine DrawN.mk ?_ | refine CodeN.step hm rfl ?_ | exact trivial | exact rfl | (intro hh; try simp only [decide_eq_true_eq, decide_eq_false_iff_not, beq_iff_eq, beq_eq_false_iff_ne, bne_iff_ne, bne_eq_false_iff_eq, Bool.not_eq_true', Bool.not_eq_false', Bool.not_true, Bool.not_false] at hh; try exact absurd hh (by decide)))); all_goals (conv => whnf); (all_goals first | (exact Ob.mk (by decide)) | skip)))
  all_goals first
    | ((refine RetN.intro () [] rfl rfl ?_ ?_ ?_; ((repeat' (first | exact rfl | exact trivial | refine And.intro ?_ ?_ | ((conv => whnf); first | exact rfl | exact trivial | refine And.intro ?_ ?_)))); ((repeat' (first | exact rfl | exact trivial | refine And.intro ?_ ?_ | ((conv => whnf); first | exact rfl | exact trivial | refine And.intro ?_ ?_))); all_goals (conv => whnf); all_goals (try simp only [])))
       simp [wrongA, ansNums, bads_cons, *]; done)
    | skip
  have hwr : wrongA a = (toldsW a.2.2.1 || namesW a.2.2.2.2.2.2.2) := by
    have f1 := fits_one (n := (a.2.2.1.length : Int)) (by omega)
    have f2 := fits_one (n := (a.2.2.2.2.2.2.2.length : Int)) (by omega)
    have d1 : decide (32 < (a.2.2.1.length : Int)) = false := decide_eq_false (by omega)
    have d2 : decide (32 < (a.2.2.2.2.2.2.2.length : Int)) = false := decide_eq_false (by omega)
    simp only [wrongA, ansNums, bads_cons, bads_nil, f1, f2, d1, d2, *]
    simp
  refine LoopN.intro hm (X := Nat) (fun i => i ≤ a.2.2.1.length ∧ toldsW (a.2.2.1.take i) = false) (fun i => a.2.2.1.length - i)
    (fun i => [(4, .int .i64 fun _ => (i : Int)), (1, .ptr 0 0)]) (fun i => [ansC a]) 0 [0] ⟨rfl, rfl, ?_, ?_⟩ ⟨Nat.zero_le _, rfl⟩ (fun i hi => ?_)
  · (repeat' (first | exact rfl | exact trivial | refine And.intro ?_ ?_ | ((conv => whnf); first | exact rfl | exact trivial | refine And.intro ?_ ?_)))
  · (repeat' (first | exact rfl | exact trivial | refine And.intro ?_ ?_ | ((conv => whnf); first | exact rfl | exact trivial | refine And.intro ?_ ?_)))
  · obtain ⟨hi, hti⟩ := hi
    have hwk := toldsW_take (l := a.2.2.1) (i := i)
    have hx' : a.2.2.1.getD (i : Int).toNat ToldT.dflt = a.2.2.1.getD i (0, false, 0, 0, 0) := rfl
    have hany : i < a.2.2.1.length → bads (toldNums (a.2.2.1.getD i (0, false, 0, 0, 0))) = true → toldsW a.2.2.1 = true := fun h1 h2 => by
      refine List.any_eq_true.2 ⟨_, ?_, h2⟩
      rw [List.getD_eq_getElem?_getD, List.getElem?_eq_getElem h1]; exact List.getElem_mem h1
    generalize a.2.2.1.getD i (0, false, 0, 0, 0) = t at hwk hx' hany
    (repeat' ((conv => whnf); first | refine And.intro ?_ ?_ | exact Cl.mk (by kernel_rfl) | exact Ck.mk (by kernel_rfl) | refine DrawN.mk ?_ | refine CodeN.step hm rfl ?_ | exact trivial | exact rfl | (intro hh; try simp only [decide_eq_true_eq, decide_eq_false_iff_not, beq_iff_eq, beq_eq_false_iff_ne, bne_iff_ne, bne_eq_false_iff_eq, Bool.not_eq_true', Bool.not_eq_false', Bool.not_true, Bool.not_false] at hh))); all_goals (conv => whnf)
    all_goals (try simp only [hx'] at hh ⊢)
    · (refine Ob.mk ?_; (try simp only [Ty.dflt, Nat.zero_add, Nat.add_zero, Int.toNat_natCast, Int.toNat_zero, Int.toNat_one, List.length_take, List.length_drop, List.length_append, List.length_replicate, List.length_cons, List.length_nil, List.length_set, List.length_map, true_and, and_true]); omega)
    · (refine Ob.mk ?_; (try simp only [Ty.dflt, Nat.zero_add, Nat.add_zero, Int.toNat_natCast, Int.toNat_zero, Int.toNat_one, List.length_take, List.length_drop, List.length_append, List.length_replicate, List.length_cons, List.length_nil, List.length_set, List.length_map, true_and, and_true]); omega)
    · have hi1 : i < a.2.2.1.length := by omega
      have hany := hany hi1
      have hwk := hwk hi1
      rw [bads_told] at hany hwk
      (refine CallN.intro (fitsM t.1 1 (by omega)) [] rfl rfl ?_ ?_ ?_; ((repeat' (first | exact rfl | exact trivial | refine And.intro ?_ ?_ | ((conv => whnf); first | exact rfl | exact trivial | refine And.intro ?_ ?_)))); ((repeat' (first | exact rfl | exact trivial | refine And.intro ?_ ?_ | ((conv => whnf); first | exact rfl | exact trivial | refine And.intro ?_ ?_)))); (intro y hy; clear y hy; (repeat' ((conv => whnf); first | refine And.intro ?_ ?_ | exact Cl.mk (by kernel_rfl) | exact Ck.mk (by kernel_rfl) | refine DrawN.mk ?_ | refine CodeN.step hm rfl ?_ | exact trivial | exact rfl | (intro hh; try simp only [decide_eq_true_eq, decide_eq_false_iff_not, beq_iff_eq, beq_eq_false_iff_ne, bne_iff_ne, bne_eq_false_iff_eq, Bool.not_eq_true', Bool.not_eq_false', Bool.not_true, Bool.not_false] at hh; try exact absurd hh (by decide)))); all_goals (conv => whnf); (all_goals first | (exact Ob.mk (by decide)) | skip)))
      (refine CallN.intro (fitsM t.2.2.1 4 (by omega)) [] rfl rfl ?_ ?_ ?_; ((repeat' (first | exact rfl | exact trivial | refine And.intro ?_ ?_ | ((conv => whnf); first | exact rfl | exact trivial | refine And.intro ?_ ?_)))); ((repeat' (first | exact rfl | exact trivial | refine And.intro ?_ ?_ | ((conv => whnf); first | exact rfl | exact trivial | refine And.intro ?_ ?_)))); (intro y hy; clear y hy; (repeat' ((conv => whnf); first | refine And.intro ?_ ?_ | exact Cl.mk (by kernel_rfl) | exact Ck.mk (by kernel_rfl) | refine DrawN.mk ?_ | refine CodeN.step hm rfl ?_ | exact trivial | exact rfl | (intro hh; try simp only [decide_eq_true_eq, decide_eq_false_iff_not, beq_iff_eq, beq_eq_false_iff_ne, bne_iff_ne, bne_eq_false_iff_eq, Bool.not_eq_true', Bool.not_eq_false', Bool.not_true, Bool.not_false] at hh; try exact absurd hh (by decide)))); all_goals (conv => whnf); (all_goals first | (exact Ob.mk (by decide)) | skip)))
      all_goals first
        | ((refine RetN.intro () [] rfl rfl ?_ ?_ ?_; ((repeat' (first | exact rfl | exact trivial | refine And.intro ?_ ?_ | ((conv => whnf); first | exact rfl | exact trivial | refine And.intro ?_ ?_)))); ((repeat' (first | exact rfl | exact trivial | refine And.intro ?_ ?_ | ((conv => whnf); first | exact rfl | exact trivial | refine And.intro ?_ ?_))); all_goals (conv => whnf); all_goals (try simp only [])))
           rw [hwr, hany (by simp [*])]; rfl)
        | skip
      (refine CallN.intro (fitsM t.2.2.2.1 6 (by omega)) [] rfl rfl ?_ ?_ ?_; ((repeat' (first | exact rfl | exact trivial | refine And.intro ?_ ?_ | ((conv => whnf); first | exact rfl | exact trivial | refine And.intro ?_ ?_)))); ((repeat' (first | exact rfl | exact trivial | refine And.intro ?_ ?_ | ((conv => whnf); first | exact rfl | exact trivial | refine And.intro ?_ ?_)))); (intro y hy; clear y hy; (repeat' ((conv => whnf); first | refine And.intro ?_ ?_ | exact Cl.mk (by kernel_rfl) | exact Ck.mk (by kernel_rfl) | refine DrawN.mk ?_ | refine CodeN.step hm rfl ?_ | exact trivial | exact rfl | (intro hh; try simp only [decide_eq_true_eq, decide_eq_false_iff_not, beq_iff_eq, beq_eq_false_iff_ne, bne_iff_ne, bne_eq_false_iff_eq, Bool.not_eq_true', Bool.not_eq_false', Bool.not_true, Bool.not_false] at hh; try exact absurd hh (by decide)))); all_goals (conv => whnf); (all_goals first | (exact Ob.mk (by decide)) | skip)))
      all_goals first
        | ((refine RetN.intro () [] rfl rfl ?_ ?_ ?_; ((repeat' (first | exact rfl | exact trivial | refine And.intro ?_ ?_ | ((conv => whnf); first | exact rfl | exact trivial | refine And.intro ?_ ?_)))); ((repeat' (first | exact rfl | exact trivial | refine And.intro ?_ ?_ | ((conv => whnf); first | exact rfl | exact trivial | refine And.intro ?_ ?_))); all_goals (conv => whnf); all_goals (try simp only [])))
           rw [hwr, hany (by simp [*])]; rfl)
        | skip
      (refine CallN.intro (fitsM t.2.2.2.2 6 (by omega)) [] rfl rfl ?_ ?_ ?_; ((repeat' (first | exact rfl | exact trivial | refine And.intro ?_ ?_ | ((conv => whnf); first | exact rfl | exact trivial | refine And.intro ?_ ?_)))); ((repeat' (first | exact rfl | exact trivial | refine And.intro ?_ ?_ | ((conv => whnf); first | exact rfl | exact trivial | refine And.intro ?_ ?_)))); (intro y hy; clear y hy; (repeat' ((conv => whnf); first | refine And.intro ?_ ?_ | exact Cl.mk (by kernel_rfl) | exact Ck.mk (by kernel_rfl) | refine DrawN.mk ?_ | refine CodeN.step hm rfl ?_ | exact trivial | exact rfl | (intro hh; try simp only [decide_eq_true_eq, decide_eq_false_iff_not, beq_iff_eq, beq_eq_false_iff_ne, bne_iff_ne, bne_eq_false_iff_eq, Bool.not_eq_true', Bool.not_eq_false', Bool.not_true, Bool.not_false] at hh; try exact absurd hh (by decide)))); all_goals (conv => whnf); (all_goals first | (exact Ob.mk (by decide)) | skip)))
      all_goals first
        | ((refine RetN.intro () [] rfl rfl ?_ ?_ ?_; ((repeat' (first | exact rfl | exact trivial | refine And.intro ?_ ?_ | ((conv => whnf); first | exact rfl | exact trivial | refine And.intro ?_ ?_)))); ((repeat' (first | exact rfl | exact trivial | refine And.intro ?_ ?_ | ((conv => whnf); first | exact rfl | exact trivial | refine And.intro ?_ ?_))); all_goals (conv => whnf); all_goals (try simp only [])))
           rw [hwr, hany (by simp [*])]; rfl)
        | skip
      refine ⟨i + 1, [0], ⟨rfl, rfl, ?_, ?_⟩, ⟨hi1, ?_⟩, by omega⟩
      · (repeat' (first | exact rfl | exact trivial | refine And.intro ?_ ?_ | ((conv => whnf); first | exact rfl | exact trivial | refine And.intro ?_ ?_)))
      · (repeat' (first | exact rfl | exact trivial | refine And.intro ?_ ?_ | ((conv => whnf); first | exact rfl | exact trivial | refine And.intro ?_ ?_))); all_goals (conv => whnf); all_goals (try simp only [])
        exact wr2 i hi1 (by omega)
      · rw [hwk, hti]; simp [*]
    · have ei : i = a.2.2.1.length := by omega
      rw [ei, List.take_length] at hti
      rw [hti, Bool.false_or] at hwr
      clear hwk hx' hany hh
      refine LoopN.intro hm (X := Nat) (fun i => i ≤ a.2.2.2.2.2.2.2.length ∧ namesW (a.2.2.2.2.2.2.2.take i) = false) (fun i => a.2.2.2.2.2.2.2.length - i)
        (fun i => [(6, .int .i64 fun _ => (i : Int)), (1, .ptr 0 0)]) (fun i => [ansC a]) 0 [0] ⟨rfl, rfl, ?_, ?_⟩ ⟨Nat.zero_le _, rfl⟩ (fun j hj => ?_)
      · (repeat' (first | exact rfl | exact trivial | refine And.intro ?_ ?_ | ((conv => whnf); first | exact rfl | exact trivial | refine And.intro ?_ ?_)))
      · (repeat' (first | exact rfl | exact trivial | refine And.intro ?_ ?_ | ((conv => whnf); first | exact rfl | exact trivial | refine And.intro ?_ ?_)))
      · obtain ⟨hj, htj⟩ := hj
        have hwk := namesW_take (l := a.2.2.2.2.2.2.2) (i := j)
        have hx' : a.2.2.2.2.2.2.2.getD (j : Int).toNat NameT.dflt = a.2.2.2.2.2.2.2.getD j (0, []) := rfl
        have hany : j < a.2.2.2.2.2.2.2.length → (bads [((a.2.2.2.2.2.2.2.getD j (0, [])).1, 1)] || !(put (a.2.2.2.2.2.2.2.getD j (0, [])).2).2) = true → namesW a.2.2.2.2.2.2.2 = true := fun h1 h2 => by
          refine List.any_eq_true.2 ⟨_, ?_, h2⟩
          rw [List.getD_eq_getElem?_getD, List.getElem?_eq_getElem h1]; exact List.getElem_mem h1
        generalize a.2.2.2.2.2.2.2.getD j (0, []) = n at hwk hx' hany
        rw [bads_book, put_ok] at hany hwk
        (repeat' ((conv => whnf); first | refine And.intro ?_ ?_ | exact Cl.mk (by kernel_rfl) | exact Ck.mk (by kernel_rfl) | refine DrawN.mk ?_ | refine CodeN.step hm rfl ?_ | exact trivial | exact rfl | (intro hh; try simp only [decide_eq_true_eq, decide_eq_false_iff_not, beq_iff_eq, beq_eq_false_iff_ne, bne_iff_ne, bne_eq_false_iff_eq, Bool.not_eq_true', Bool.not_eq_false', Bool.not_true, Bool.not_false] at hh))); all_goals (conv => whnf)
        all_goals (try simp only [hx'] at hh ⊢)
        · (refine Ob.mk ?_; (try simp only [Ty.dflt, Nat.zero_add, Nat.add_zero, Int.toNat_natCast, Int.toNat_zero, Int.toNat_one, List.length_take, List.length_drop, List.length_append, List.length_replicate, List.length_cons, List.length_nil, List.length_set, List.length_map, true_and, and_true]); omega)
        · have hj1 : j < a.2.2.2.2.2.2.2.length := by omega
          have hany := hany hj1
          have hwk := hwk hj1
          (refine CallN.intro (fitsM n.1 1 (by omega)) [] rfl rfl ?_ ?_ ?_; ((repeat' (first | exact rfl | exact trivial | refine And.intro ?_ ?_ | ((conv => whnf); first | exact rfl | exact trivial | refine And.intro ?_ ?_)))); ((repeat' (first | exact rfl | exact trivial | refine And.intro ?_ ?_ | ((conv => whnf); first | exact rfl | exact trivial | refine And.intro ?_ ?_)))); (intro y hy; clear y hy; (repeat' ((conv => whnf); first | refine And.intro ?_ ?_ | exact Cl.mk (by kernel_rfl) | exact Ck.mk (by kernel_rfl) | refine DrawN.mk ?_ | refine CodeN.step hm rfl ?_ | exact trivial | exact rfl | (intro hh; try simp only [decide_eq_true_eq, decide_eq_false_iff_not, beq_iff_eq, beq_eq_false_iff_ne, bne_iff_ne, bne_eq_false_iff_eq, Bool.not_eq_true', Bool.not_eq_false', Bool.not_true, Bool.not_false] at hh; try exact absurd hh (by decide)))); all_goals (conv => whnf); (all_goals first | (exact Ob.mk (by decide)) | skip)))
          all_goals (try simp only [hx'] at hh ⊢)
          all_goals first
            | ((refine Ob.mk ?_; (try simp only [Ty.dflt, Nat.zero_add, Nat.add_zero, Int.toNat_natCast, Int.toNat_zero, Int.toNat_one, List.length_take, List.length_drop, List.length_append, List.length_replicate, List.length_cons, List.length_nil, List.length_set, List.length_map, true_and, and_true]); omega))
            | ((refine RetN.intro () [] rfl rfl ?_ ?_ ?_; ((repeat' (first | exact rfl | exact trivial | refine And.intro ?_ ?_ | ((conv => whnf); first | exact rfl | exact trivial | refine And.intro ?_ ?_)))); ((repeat' (first | exact rfl | exact trivial | refine And.intro ?_ ?_ | ((conv => whnf); first | exact rfl | exact trivial | refine And.intro ?_ ?_))); all_goals (conv => whnf); all_goals (try simp only [])))
               rw [hwr, hany (by simp [*]; try omega)]; rfl)
            | skip
          refine ⟨j + 1, [0], ⟨rfl, rfl, ?_, ?_⟩, ⟨hj1, ?_⟩, by omega⟩
          · (repeat' (first | exact rfl | exact trivial | refine And.intro ?_ ?_ | ((conv => whnf); first | exact rfl | exact trivial | refine And.intro ?_ ?_)))
          · (repeat' (first | exact rfl | exact trivial | refine And.intro ?_ ?_ | ((conv => whnf); first | exact rfl | exact trivial | refine And.intro ?_ ?_))); all_goals (conv => whnf); all_goals (try simp only [])
            exact wr2 j hj1 (by omega)
          · rw [hwk, htj]; simp [*]; omega
        · have ej : j = a.2.2.2.2.2.2.2.length := by omega
          rw [ej, List.take_length] at htj
          (refine RetN.intro () [] rfl rfl ?_ ?_ ?_; ((repeat' (first | exact rfl | exact trivial | refine And.intro ?_ ?_ | ((conv => whnf); first | exact rfl | exact trivial | refine And.intro ?_ ?_)))); ((repeat' (first | exact rfl | exact trivial | refine And.intro ?_ ?_ | ((conv => whnf); first | exact rfl | exact trivial | refine And.intro ?_ ?_))); all_goals (conv => whnf); all_goals (try simp only [])))
          rw [hwr, htj]; rfl
end Go.Proofs.Ytoipgandilhdeaa.An
set_option linter.unusedVariables false
set_option linter.unusedSimpArgs false
namespace Go.Proofs.Ytoipgandilhdeaa.An
open Go Go.RowKit Fw Nu
def readL (s : Bytes) : Int → List Nat → Option (List Int × Int)
  | t, [] => some ([], t)
  | t, w :: r => if (number s t w).2.2 = 0 then (match readL s (number s t w).2.1 r with | some x => some ((number s t w).1 :: x.1, x.2) | none => none) else none
theorem readL_get {s : Bytes} : ∀ (ws : List Nat) (t : Int) (vs : List Int) (t' : Int), (∀ w ∈ ws, w ≤ 8) → 0 ≤ t ∧ t ≤ s.length → readL s t ws = some (vs, t') →
    vs.length = ws.length ∧ t ≤ t' ∧ t' ≤ s.length ∧ bads (vs.zip ws) = false ∧ from_ s t = wides (vs.zip ws) ++ from_ s t'
  | [], t, vs, t', _, h0, h => by
    simp only [readL, Option.some.injEq, Prod.mk.injEq] at h
    obtain ⟨rfl, rfl⟩ := h
    exact ⟨rfl, by omega, h0.2, rfl, rfl⟩
  | w :: r, t, vs, t', hw, h0, h => by
    simp only [readL] at h
    split at h
    · rename_i hn
      split at h
      · rename_i x hx
        simp only [Option.some.injEq, Prod.mk.injEq] at h
        obtain ⟨rfl, rfl⟩ := h
        obtain ⟨g1, g2, g3, g4, g5⟩ := number_get (hw w (List.mem_cons_self ..)) hn
        rw [g2] at hx
        obtain ⟨k1, k2, k3, k4, k5⟩ := readL_get r (t + w) x.1 x.2 (fun v hv => hw v (List.mem_cons_of_mem _ hv)) (by omega) hx
        refine ⟨by simp [k1], by omega, k3, ?_, ?_⟩
        · rw [List.zip_cons_cons, bads_cons, g4, k4]; rfl
        · rw [g5, k5, List.zip_cons_cons]; simp [wides]
      · cases h
    · cases h
theorem readL_put {s : Bytes} : ∀ (l : List (Int × Nat)) (t : Int) (rest : Bytes), (∀ x ∈ l, x.2 ≤ 8) → 0 ≤ t ∧ t ≤ s.length → bads l = false → from_ s t = wides l ++ rest →
    readL s t (l.map (·.2)) = some (l.map (·.1), t + (wides l).length) ∧ from_ s (t + (wides l).length) = rest ∧ t + (wides l).length ≤ s.length
  | [], t, rest, _, h0, _, h => by
    refine ⟨by simp [readL, wides], ?_, by simp [wides]; omega⟩
    simpa [wides] using h
  | x :: r, t, rest, hw, h0, hb, h => by
    obtain ⟨n, w⟩ := x
    rw [bads_cons, Bool.or_eq_false_iff, Bool.not_eq_false'] at hb
    have e : wides ((n, w) :: r) = wide (IntKind.u64.wrap n) w ++ wides r := by simp [wides]
    rw [e, List.append_assoc] at h
    obtain ⟨g1, g2, g3⟩ := number_put (hw (n, w) (List.mem_cons_self ..)) h0 hb.1 h
    obtain ⟨k1, k2, k3⟩ := readL_put r (t + w) rest (fun v hv => hw v (List.mem_cons_of_mem _ hv)) (by omega) hb.2 g2
    have e2 : t + ((wides ((n, w) :: r)).length : Int) = t + w + (wides r).length := by rw [e, List.length_append, wide_len]; omega
    rw [e2]
    refine ⟨?_, k2, k3⟩
    simp only [List.map_cons, readL, g1, if_true, k1]
theorem text_get {s : Bytes} {t : Int} (h : (text s t).2.2 = 0) : 0 ≤ t ∧ t ≤ (text s t).2.1 ∧ (text s t).2.1 ≤ s.length ∧ (put (text s t).1).2 = true ∧ from_ s t = (put (text s t).1).1 ++ from_ s (text s t).2.1 := by
  by_cases h0 : (number s t 1).2.2 = 0
  · obtain ⟨h1, _⟩ := number_one s t
    obtain ⟨g1, g2, g3, g4⟩ := h1 h0
    rw [t_ok h0] at h ⊢
    have hb := UInt8.toNat_lt (s.getD t.toNat 0)
    by_cases hc : (s.length : Int) < t + 1 + (s.getD t.toNat 0).toNat
    · rw [if_pos hc] at h; cases h
    · rw [if_neg hc]
      have hl : ((s.drop (t + 1).toNat).take (s.getD t.toNat 0).toNat).length = (s.getD t.toNat 0).toNat := by rw [List.length_take, List.length_drop]; omega
      have hp : put ((s.drop (t + 1).toNat).take (s.getD t.toNat 0).toNat) = (s.getD t.toNat 0 :: (s.drop (t + 1).toNat).take (s.getD t.toNat 0).toNat, true) := by
        unfold put
        rw [hl, if_pos (by omega)]
        simp
      refine ⟨g1, by show t ≤ t + 1 + _; omega, by show t + 1 + _ ≤ _; omega, by rw [hp], ?_⟩
      rw [hp]
      show from_ s t = s.getD t.toNat 0 :: ((s.drop (t + 1).toNat).take (s.getD t.toNat 0).toNat) ++ from_ s (t + 1 + (s.getD t.toNat 0).toNat)
      have hlt : t.toNat < s.length := by omega
      have e1 : from_ s t = s.getD t.toNat 0 :: s.drop (t + 1).toNat := by
        rw [from_, List.drop_eq_getElem_cons hlt, List.getD_eq_getElem?_getD, List.getElem?_eq_getElem hlt, show (t + 1).toNat = t.toNat + 1 by omega]; rfl
      rw [e1, List.cons_append, from_, show (t + 1 + ((s.getD t.toNat 0).toNat : Int)).toNat = (t + 1).toNat + (s.getD t.toNat 0).toNat by omega, ← List.drop_drop, List.take_append_drop]
  · unfold text at h; rw [if_pos h0] at h; exact absurd h h0
theorem text_put {s rest k : Bytes} {t : Int} (h0 : 0 ≤ t ∧ t ≤ s.length) (hk : (put k).2 = true) (h : from_ s t = (put k).1 ++ rest) :
    text s t = (k, t + (put k).1.length, 0) ∧ from_ s (t + (put k).1.length) = rest ∧ t + (put k).1.length ≤ s.length := by
  have hk' : k.length ≤ 255 := by rw [put_ok] at hk; exact of_decide_eq_true hk
  have hp : put k = (UInt8.ofNat k.length :: k, true) := by unfold put; rw [if_pos hk']
  rw [hp] at h ⊢
  have hl : (from_ s t).length = s.length - t.toNat := by rw [from_, List.length_drop]
  rw [h] at hl
  simp only [List.length_append, List.length_cons] at hl
  have hlt : t.toNat < s.length := by omega
  have e1 : from_ s t = s.getD t.toNat 0 :: s.drop (t + 1).toNat := by
    rw [from_, List.drop_eq_getElem_cons hlt, List.getD_eq_getElem?_getD, List.getElem?_eq_getElem hlt, show (t + 1).toNat = t.toNat + 1 by omega]; rfl
  rw [e1, List.cons_append] at h
  injection h with e2 e3
  have e4 : (s.getD t.toNat 0).toNat = k.length := by rw [e2, UInt8.toNat_ofNat']; omega
  have hn : (number s t 1).2.2 = 0 := by rw [n_ok h0 (by omega)]
  have ht := t_ok hn
  rw [e4, if_neg (by omega), e3, List.take_left'] at ht
  · have e5 : t + (((UInt8.ofNat k.length :: k : Bytes).length : Nat) : Int) = t + 1 + k.length := by rw [List.length_cons]; omega
    rw [e5]
    refine ⟨ht, ?_, by omega⟩
    rw [from_, show (t + 1 + (k.length : Int)).toNat = (t + 1).toNat + k.length by omega, ← List.drop_drop, e3, List.drop_left']
    rfl
  · rfl
def readTold (s : Bytes) (t : Int) : Option (Told × Int) := match readL s t [1, 1, 4, 6, 6] with
  | some ([c, al, r1, r2, r3], t') => if al ≤ 1 then some ((c, decide (al = 1), r1, r2, r3), t') else none
  | _ => none
theorem told_get {s : Bytes} {t t' : Int} {x : Told} (h0 : 0 ≤ t ∧ t ≤ s.length) (h : readTold s t = some (x, t')) : t ≤ t' ∧ t' ≤ s.length ∧ bads (toldNums x) = false ∧ from_ s t = wides (toldNums x) ++ from_ s t' := by
  unfold readTold at h
  split at h
  · rename_i c al r1 r2 r3 t2 hr
    split at h
    · rename_i ha
      simp only [Option.some.injEq, Prod.mk.injEq] at h
      obtain ⟨rfl, rfl⟩ := h
      obtain ⟨k1, k2, k3, k4, k5⟩ := readL_get _ _ _ _ (by simp) h0 hr
      simp only [List.zip_cons_cons, List.zip_nil_right] at k4 k5
      have hal : 0 ≤ al := by
        rw [bads_cons, bads_cons] at k4
        simp only [Bool.or_eq_false_iff, Bool.not_eq_false'] at k4
        exact (fits_iff.1 k4.2.1).1
      have e : toldNums (c, decide (al = 1), r1, r2, r3) = [(c, 1), (al, 1), (r1, 4), (r2, 6), (r3, 6)] := by
        have : (if decide (al = 1) = true then (1 : Int) else 0) = al := by split <;> simp_all <;> omega
        simp only [toldNums, this]
      rw [e]
      exact ⟨k2, k3, k4, k5⟩
    · cases h
  · cases h
theorem told_put {s rest : Bytes} {t : Int} {x : Told} (h0 : 0 ≤ t ∧ t ≤ s.length) (hb : bads (toldNums x) = false) (h : from_ s t = wides (toldNums x) ++ rest) :
    readTold s t = some (x, t + (wides (toldNums x)).length) ∧ from_ s (t + (wides (toldNums x)).length) = rest ∧ t + (wides (toldNums x)).length ≤ s.length := by
  obtain ⟨k1, k2, k3⟩ := readL_put (toldNums x) t rest (by simp [toldNums]) h0 hb h
  refine ⟨?_, k2, k3⟩
  unfold readTold
  have e : (toldNums x).map (·.2) = [1, 1, 4, 6, 6] := rfl
  rw [e] at k1
  rw [k1]
  obtain ⟨c, al, r1, r2, r3⟩ := x
  cases al <;> rfl
def readName (s : Bytes) (t : Int) : Option (Name × Int) := match readL s t [1] with
  | some ([b], t') => if (text s t').2.2 = 0 then some ((b, (text s t').1), (text s t').2.1) else none
  | _ => none
def nameB (x : Name) : Bytes := wides [(x.1, 1)] ++ (put x.2).1
def nameW (x : Name) : Bool := bads [(x.1, 1)] || !(put x.2).2
theorem name_get {s : Bytes} {t t' : Int} {x : Name} (h0 : 0 ≤ t ∧ t ≤ s.length) (h : readName s t = some (x, t')) : t ≤ t' ∧ t' ≤ s.length ∧ nameW x = false ∧ from_ s t = nameB x ++ from_ s t' := by
  unfold readName at h
  split at h
  · rename_i b t2 hr
    split at h
    · rename_i ht
      simp only [Option.some.injEq, Prod.mk.injEq] at h
      obtain ⟨rfl, rfl⟩ := h
      obtain ⟨k1, k2, k3, k4, k5⟩ := readL_get _ _ _ _ (by simp) h0 hr
      obtain ⟨g1, g2, g3, g4, g5⟩ := text_get ht
      simp only [List.zip_cons_cons, List.zip_nil_right] at k4 k5
      refine ⟨by omega, g3, by rw [nameW, k4, g4]; rfl, ?_⟩
      rw [k5, g5, nameB, List.append_assoc]
    · cases h
  · cases h
theorem name_put {s rest : Bytes} {t : Int} {x : Name} (h0 : 0 ≤ t ∧ t ≤ s.length) (hb : nameW x = false) (h : from_ s t = nameB x ++ rest) :
    readName s t = some (x, t + (nameB x).length) ∧ from_ s (t + (nameB x).length) = rest ∧ t + (nameB x).length ≤ s.length := by
  rw [nameW, Bool.or_eq_false_iff, Bool.not_eq_false'] at hb
  rw [nameB, List.append_assoc] at h
  obtain ⟨k1, k2, k3⟩ := readL_put [(x.1, 1)] t _ (by simp) h0 hb.1 h
  have hl : (wides [(x.1, 1)]).length = 1 := by rw [wides_len]; rfl
  rw [hl] at k1 k2 k3
  obtain ⟨g1, g2, g3⟩ := text_put (by omega) hb.2 k2
  have e : t + ((nameB x).length : Int) = t + (1 : Nat) + (put x.2).1.length := by rw [nameB, List.length_append, hl]; omega
  rw [e]
  refine ⟨?_, g2, g3⟩
  unfold readName
  have k1 : readL s t [1] = some ([x.1], t + (1 : Nat)) := k1
  rw [k1]
  simp only [g1, if_true]
def readN {α : Type} (f : Int → Option (α × Int)) : Nat → Int → Option (List α × Int)
  | 0, t => some ([], t)
  | n + 1, t => match readN f n t with
    | some (l, t') => (match f t' with | some (x, t'') => some (l ++ [x], t'') | none => none)
    | none => none
theorem readN_none {α : Type} {f : Int → Option (α × Int)} {t : Int} : ∀ {n m : Nat}, n ≤ m → readN f n t = none → readN f m t = none
  | n, 0, h, e => by rw [show n = 0 by omega] at e; exact e
  | n, m + 1, h, e => by
    by_cases hnm : n = m + 1
    · rw [← hnm]; exact e
    · rw [readN, readN_none (show n ≤ m by omega) e]
theorem readN_get {α : Type} {s : Bytes} {f : Int → Option (α × Int)} {B : α → Bytes} {W : α → Bool}
    (hf : ∀ (t : Int) (x : α) (t' : Int), 0 ≤ t ∧ t ≤ s.length → f t = some (x, t') → t ≤ t' ∧ t' ≤ (s.length : Int) ∧ W x = false ∧ from_ s t = B x ++ from_ s t') :
    ∀ (n : Nat) (t : Int) (l : List α) (t' : Int), 0 ≤ t ∧ t ≤ s.length → readN f n t = some (l, t') → l.length = n ∧ t ≤ t' ∧ t' ≤ s.length ∧ l.any W = false ∧ from_ s t = l.flatMap B ++ from_ s t'
  | 0, t, l, t', h0, h => by
    simp only [readN, Option.some.injEq, Prod.mk.injEq] at h
    obtain ⟨rfl, rfl⟩ := h
    exact ⟨rfl, by omega, h0.2, rfl, rfl⟩
  | n + 1, t, l, t', h0, h => by
    simp only [readN] at h
    split at h
    · rename_i l1 t1 h1
      split at h
      · rename_i x t2 h2
        simp only [Option.some.injEq, Prod.mk.injEq] at h
        obtain ⟨rfl, rfl⟩ := h
        obtain ⟨k1, k2, k3, k4, k5⟩ := readN_get hf n t l1 t1 h0 h1
        obtain ⟨g1, g2, g3, g4⟩ := hf t1 x t2 (by omega) h2
        refine ⟨by simp [k1], by omega, g2, by simp [k4, g3], ?_⟩
        rw [k5, g4]; simp
      · cases h
    · cases h
theorem readN_put {α : Type} {s : Bytes} {f : Int → Option (α × Int)} {B : α → Bytes} {W : α → Bool}
    (hf : ∀ (t : Int) (x : α) (rest : Bytes), 0 ≤ t ∧ t ≤ s.length → W x = false → from_ s t = B x ++ rest → f t = some (x, t + (B x).length) ∧ from_ s (t + (B x).length) = rest ∧ t + (B x).length ≤ (s.length : Int)) (l : List α) (t : Int) (h0 : 0 ≤ t ∧ t ≤ s.length) :
    ∀ (n : Nat) (rest : Bytes), n ≤ l.length → (l.take n).any W = false → from_ s t = (l.take n).flatMap B ++ rest →
    readN f n t = some (l.take n, t + ((l.take n).flatMap B).length) ∧ from_ s (t + ((l.take n).flatMap B).length) = rest ∧ t + ((l.take n).flatMap B).length ≤ s.length
  | 0, rest, _, _, h => by
    refine ⟨by simp [readN], ?_, by simp; omega⟩
    simpa using h
  | n + 1, rest, hn, hw, h => by
    have e : l.take (n + 1) = l.take n ++ [l[n]'(by omega)] := by rw [List.take_add_one, List.getElem?_eq_getElem (by omega)]; rfl
    rw [e] at hw h ⊢
    rw [List.any_append, Bool.or_eq_false_iff] at hw
    rw [List.flatMap_append, List.append_assoc] at h
    obtain ⟨k1, k2, k3⟩ := readN_put hf l t h0 n _ (by omega) hw.1 h
    have hw2 : W (l[n]'(by omega)) = false := by simpa using hw.2
    obtain ⟨g1, g2, g3⟩ := hf (t + ((l.take n).flatMap B).length) (l[n]'(by omega)) rest (by omega) hw2 (by rw [k2]; simp)
    have e2 : t + (((l.take n ++ [l[n]'(by omega)]).flatMap B).length : Int) = t + ((l.take n).flatMap B).length + (B (l[n]'(by omega))).length := by
      rw [List.flatMap_append, List.length_append]; simp; omega
    rw [e2]
    refine ⟨?_, g2, g3⟩
    rw [readN, k1]
    simp only [g1]

def headsW : List Nat := [1, 1, 4, 1, 4, 4, 1, 6, 2]
/-- A count of few things, and the things. -/
def readC {α : Type} (s : Bytes) (f : Int → Option (α × Int)) (t : Int) : Option (List α × Int) := match readL s t [1] with
  | some ([m], t') => if 32 < m then none else readN f m.toNat t'
  | _ => none
def ansOf (vs : List Int) (told : List Told) (names : List Name) : Option Ans := match vs with
  | [k, c, v, p1, p2, p3, p4, nw, cn] => some (k, c, told, v, (p1, p2, p3, p4), nw, cn, names)
  | _ => none
def decP (s : Bytes) : Option Ans := match readL s 0 headsW with
  | some (vs, t1) => (match readC s (readTold s) t1 with
    | some (told, t2) => (match readC s (readName s) t2 with
      | some (names, t3) => if t3 = s.length ∧ s.length ≤ 512 then ansOf vs told names else none
      | none => none)
    | none => none)
  | none => none
theorem readC_get {α : Type} {s : Bytes} {f : Int → Option (α × Int)} {B : α → Bytes} {W : α → Bool}
    (hf : ∀ (t : Int) (x : α) (t' : Int), 0 ≤ t ∧ t ≤ s.length → f t = some (x, t') → t ≤ t' ∧ t' ≤ (s.length : Int) ∧ W x = false ∧ from_ s t = B x ++ from_ s t') {t : Int} {l : List α} {t' : Int} (h0 : 0 ≤ t ∧ t ≤ s.length) (h : readC s f t = some (l, t')) :
    l.length ≤ 32 ∧ t ≤ t' ∧ t' ≤ s.length ∧ l.any W = false ∧ from_ s t = wides [((l.length : Int), 1)] ++ l.flatMap B ++ from_ s t' := by
  unfold readC at h
  split at h
  · rename_i m t1 hr
    split at h
    · cases h
    · rename_i hm
      obtain ⟨k1, k2, k3, k4, k5⟩ := readL_get _ _ _ _ (by simp) h0 hr
      simp only [List.zip_cons_cons, List.zip_nil_right] at k4 k5
      have hm0 : 0 ≤ m := by rw [bads_book, Bool.not_eq_false'] at k4; exact (fits_iff.1 k4).1
      obtain ⟨g1, g2, g3, g4, g5⟩ := readN_get hf m.toNat t1 l t' (by omega) h
      have e : (l.length : Int) = m := by omega
      rw [e]
      exact ⟨by omega, by omega, g3, g4, by rw [k5, g5, List.append_assoc]⟩
  · cases h
theorem readC_put {α : Type} {s : Bytes} {f : Int → Option (α × Int)} {B : α → Bytes} {W : α → Bool}
    (hf : ∀ (t : Int) (x : α) (rest : Bytes), 0 ≤ t ∧ t ≤ s.length → W x = false → from_ s t = B x ++ rest → f t = some (x, t + (B x).length) ∧ from_ s (t + (B x).length) = rest ∧ t + (B x).length ≤ (s.length : Int)) (l : List α) {t : Int} {rest : Bytes} (h0 : 0 ≤ t ∧ t ≤ s.length)
    (hl : l.length ≤ 32) (hw : l.any W = false) (h : from_ s t = wides [((l.length : Int), 1)] ++ l.flatMap B ++ rest) :
    readC s f t = some (l, t + (wides [((l.length : Int), 1)] ++ l.flatMap B).length) ∧ from_ s (t + (wides [((l.length : Int), 1)] ++ l.flatMap B).length) = rest ∧ t + (wides [((l.length : Int), 1)] ++ l.flatMap B).length ≤ s.length := by
  rw [List.append_assoc] at h
  have hb : bads [((l.length : Int), 1)] = false := by rw [bads_book, fits_one (by omega)]; rfl
  obtain ⟨k1, k2, k3⟩ := readL_put [((l.length : Int), 1)] t _ (by simp) h0 hb h
  obtain ⟨g1, g2, g3⟩ := readN_put hf l (t + (wides [((l.length : Int), 1)]).length) (by omega) l.length rest (Nat.le_refl _) (by rw [List.take_length]; exact hw) (by rw [List.take_length]; exact k2)
  rw [List.take_length] at g1 g2 g3
  have e : t + ((wides [((l.length : Int), 1)] ++ l.flatMap B).length : Int) = t + (wides [((l.length : Int), 1)]).length + (l.flatMap B).length := by rw [List.length_append]; omega
  rw [e]
  refine ⟨?_, g2, g3⟩
  unfold readC
  have k1 : readL s t [1] = some ([(l.length : Int)], t + (wides [((l.length : Int), 1)]).length) := k1
  rw [k1]
  simp only []
  rw [if_neg (by omega), Int.toNat_natCast]
  exact g1
theorem dec_get {s : Bytes} {a : Ans} (h : decP s = some a) : wrongA a = false ∧ encA a = s ∧ s.length ≤ 512 := by
  unfold decP at h
  split at h
  · rename_i vs t1 h1
    split at h
    · rename_i told t2 h2
      split at h
      · rename_i names t3 h3
        split at h
        · rename_i hc
          obtain ⟨k1, k2, k3, k4, k5⟩ := readL_get _ _ _ _ (by simp [headsW]) (by omega) h1
          obtain ⟨l1, l2, l3, l4, l5⟩ := readC_get (B := fun t => wides (toldNums t)) (W := fun t => bads (toldNums t)) (fun t x t' h0 h => told_get h0 h) (by omega) h2
          obtain ⟨n1, n2, n3, n4, n5⟩ := readC_get (B := nameB) (W := nameW) (fun t x t' h0 h => name_get h0 h) (by omega) h3
          match vs, h, k1, k4, k5 with
          | [k, c, v, p1, p2, p3, p4, nw, cn], h, _, k4, k5 =>
            simp only [ansOf, Option.some.injEq] at h
            subst h
            have k4 : bads (ansNums (k, c, told, v, (p1, p2, p3, p4), nw, cn, names)) = false := k4
            have k5 : from_ s 0 = wides (ansNums (k, c, told, v, (p1, p2, p3, p4), nw, cn, names)) ++ from_ s t1 := k5
            refine ⟨?_, ?_, hc.2⟩
            · have f1 := fits_one (n := (told.length : Int)) (by omega)
              have f2 := fits_one (n := (names.length : Int)) (by omega)
              have d1 : decide (32 < (told.length : Int)) = false := decide_eq_false (by omega)
              have d2 : decide (32 < (names.length : Int)) = false := decide_eq_false (by omega)
              have l4 : toldsW told = false := l4
              have n4 : namesW names = false := n4
              simp only [wrongA, k4, bads_book, f1, f2, d1, d2, l4, n4]; rfl
            · have e0 : from_ s 0 = s := rfl
              have e1 : from_ s t3 = [] := by rw [hc.1, from_, Int.toNat_natCast, List.drop_length]
              rw [← e0, k5, l5, n5, e1, List.append_nil]
              simp only [encA, toldsB, namesB, List.append_assoc]
              rfl
        · cases h
      · cases h
    · cases h
  · cases h
theorem dec_put {a : Ans} (hw : wrongA a = false) (hl : (encA a).length ≤ 512) : decP (encA a) = some a := by
  obtain ⟨k, c, told, v, ⟨p1, p2, p3, p4⟩, nw, cn, names⟩ := a
  generalize ha : ((k, c, told, v, (p1, p2, p3, p4), nw, cn, names) : Ans) = a at hw hl ⊢
  have hs : ∃ s, s = encA a := ⟨_, rfl⟩
  obtain ⟨s, hs⟩ := hs
  simp only [wrongA, Bool.or_eq_false_iff] at hw
  obtain ⟨⟨⟨⟨⟨⟨w1, w2⟩, w3⟩, w4⟩, w5⟩, w6⟩, w7⟩ := hw
  have t1 : a.2.2.1 = told := by rw [← ha]
  have t2 : a.2.2.2.2.2.2.2 = names := by rw [← ha]
  have w2 := of_decide_eq_false w2
  have w5 := of_decide_eq_false w5
  rw [t1] at w2 w4
  rw [t2] at w5 w7
  have hse : from_ s 0 = wides (ansNums a) ++ (wides [((told.length : Int), 1)] ++ toldsB told ++ (wides [((names.length : Int), 1)] ++ namesB names ++ [])) := by
    show s = _
    rw [hs, encA, t1, t2]; simp
  obtain ⟨k1, k2, k3⟩ := readL_put (ansNums a) 0 _ (by simp [ansNums]) (by omega) w1 hse
  obtain ⟨l1, l2, l3⟩ := readC_put (s := s) (f := readTold s) (B := fun t => wides (toldNums t)) (W := fun t => bads (toldNums t)) (fun t x rest h0 hw h => told_put h0 hw h) told (by omega) (by omega) w4 k2
  obtain ⟨n1, n2, n3⟩ := readC_put (s := s) (f := readName s) (B := nameB) (W := nameW) (fun t x rest h0 hw h => name_put h0 hw h) names (by omega) (by omega) w7 l2
  have k1 : readL s 0 headsW = some ([k, c, v, p1, p2, p3, p4, nw, cn], (0 : Int) + ((wides (ansNums a)).length : Int)) := by rw [← ha] at k1 ⊢; exact k1
  have hsl : s.length = (wides (ansNums a)).length + (wides [((told.length : Int), 1)] ++ toldsB told).length + (wides [((names.length : Int), 1)] ++ namesB names).length := by
    have e0 : from_ s 0 = s := rfl
    rw [← e0, hse]; simp; omega
  rw [← hs]
  unfold decP
  rw [k1]
  simp only []
  rw [l1]
  simp only []
  rw [n1]
  simp only []
  rw [if_pos, ansOf, ha]
  refine ⟨?_, by rw [hs]; exact hl⟩
  rw [hsl]
  show 0 + ((wides (ansNums a)).length : Int) + ((wides [((told.length : Int), 1)] ++ toldsB told).length : Nat) + ((wides [((names.length : Int), 1)] ++ namesB names).length : Nat) = _
  omega
end Go.Proofs.Ytoipgandilhdeaa.An
set_option linter.unusedVariables false
set_option linter.unusedSimpArgs false
namespace Go.Proofs.Ytoipgandilhdeaa.An
open Go Go.RowKit Fw Nu
set_option maxRecDepth 4000 in
theorem rencodeM (a : Ans) (hs : Sh a) : Meets Try.prog 16 [ansAV a] [] (Y := Unit) (fun _ => True) (fun _ => .tup [.str fun _ => (encR a).1, .int .i64 fun _ => (encR a).2]) (fun _ => []) := by
  have h1 := hs.told
  have h2 := hs.names
  have hone : ∀ x : Int, (wides [(x, 1)]).length = 1 := fun x => by rw [wides_len]; rfl
  refine Meets.intro hm (fn := Try.f16) Try.func16 rfl (by decide) (Nat.le_of_ble_eq_true rfl) (fun _ => rfl) ?_; intro S hok; (conv => whnf)
  (repeat' ((conv => whnf); first | refine And.intro ?_ ?_ | exact Cl.mk (by kernel_rfl) | exact Ck.mk (by kernel_rfl) | refine DrawN.mk ?_ | refine CodeN.step hm rfl ?_ | exact trivial | exact rfl | (intro hh; try simp only [decide_eq_true_eq, decide_eq_false_iff_not, beq_iff_eq, beq_eq_false_iff_ne, bne_iff_ne, bne_eq_false_iff_eq, Bool.not_eq_true', Bool.not_eq_false', Bool.not_true, Bool.not_false] at hh))); all_goals (conv => whnf)
  (refine CallN.intro (rmayM a hs) [] rfl rfl ?_ ?_ ?_; ((repeat' (first | exact rfl | exact trivial | refine And.intro ?_ ?_ | ((conv => whnf); first | exact rfl | exact trivial | refine And.intro ?_ ?_)))); ((repeat' (first | exact rfl | exact trivial | refine And.intro ?_ ?_ | ((conv => whnf); first | exact rfl | exact trivial | refine And.intro ?_ ?_)))); (intro y hy; clear y hy; (repeat' ((conv => whnf); first | refine And.intro ?_ ?_ | exact Cl.mk (by kernel_rfl) | exact Ck.mk (by kernel_rfl) | refine DrawN.mk ?_ | refine CodeN.step hm rfl ?_ | exact trivial | exact rfl | (intro hh; try simp only [decide_eq_true_eq, decide_eq_false_iff_not, beq_iff_eq, beq_eq_false_iff_ne, bne_iff_ne, bne_eq_false_iff_eq, Bool.not_eq_true', Bool.not_eq_false', Bool.not_true, Bool.not_false] at hh; try exact absurd hh (by decide)))); all_goals (conv => whnf); (all_goals first | (exact Ob.mk (by decide)) | skip)))
  · have he : encR a = ([], 1) := by unfold encR; rw [if_pos hh]
    (refine RetN.intro () [] rfl rfl ?_ ?_ ?_; ((repeat' (first | exact rfl | exact trivial | refine And.intro ?_ ?_ | ((conv => whnf); first | exact rfl | exact trivial | refine And.intro ?_ ?_)))); ((repeat' (first | exact rfl | exact trivial | refine And.intro ?_ ?_ | ((conv => whnf); first | exact rfl | exact trivial | refine And.intro ?_ ?_))); all_goals (conv => whnf); all_goals (try simp only [])))
    all_goals rw [he]
  · (refine CallN.intro (widM a.1 1 (by omega)) [] rfl rfl ?_ ?_ ?_; ((repeat' (first | exact rfl | exact trivial | refine And.intro ?_ ?_ | ((conv => whnf); first | exact rfl | exact trivial | refine And.intro ?_ ?_)))); ((repeat' (first | exact rfl | exact trivial | refine And.intro ?_ ?_ | ((conv => whnf); first | exact rfl | exact trivial | refine And.intro ?_ ?_)))); (intro y hy; clear y hy; (repeat' ((conv => whnf); first | refine And.intro ?_ ?_ | exact Cl.mk (by kernel_rfl) | exact Ck.mk (by kernel_rfl) | refine DrawN.mk ?_ | refine CodeN.step hm rfl ?_ | exact trivial | exact rfl | (intro hh; try simp only [decide_eq_true_eq, decide_eq_false_iff_not, beq_iff_eq, beq_eq_false_iff_ne, bne_iff_ne, bne_eq_false_iff_eq, Bool.not_eq_true', Bool.not_eq_false', Bool.not_true, Bool.not_false] at hh; try exact absurd hh (by decide)))); all_goals (conv => whnf); (all_goals first | (exact Ob.mk (by decide)) | skip)))
    all_goals first | (exact Ob.mk (by simp only [List.length_append, wide_len, wides_len, List.map_cons, List.map_nil, List.sum_cons, List.sum_nil]; omega)) | skip
    (refine CallN.intro (widM a.2.1 1 (by omega)) [] rfl rfl ?_ ?_ ?_; ((repeat' (first | exact rfl | exact trivial | refine And.intro ?_ ?_ | ((conv => whnf); first | exact rfl | exact trivial | refine And.intro ?_ ?_)))); ((repeat' (first | exact rfl | exact trivial | refine And.intro ?_ ?_ | ((conv => whnf); first | exact rfl | exact trivial | refine And.intro ?_ ?_)))); (intro y hy; clear y hy; (repeat' ((conv => whnf); first | refine And.intro ?_ ?_ | exact Cl.mk (by kernel_rfl) | exact Ck.mk (by kernel_rfl) | refine DrawN.mk ?_ | refine CodeN.step hm rfl ?_ | exact trivial | exact rfl | (intro hh; try simp only [decide_eq_true_eq, decide_eq_false_iff_not, beq_iff_eq, beq_eq_false_iff_ne, bne_iff_ne, bne_eq_false_iff_eq, Bool.not_eq_true', Bool.not_eq_false', Bool.not_true, Bool.not_false] at hh; try exact absurd hh (by decide)))); all_goals (conv => whnf); (all_goals first | (exact Ob.mk (by decide)) | skip)))
    all_goals first | (exact Ob.mk (by simp only [List.length_append, wide_len, wides_len, List.map_cons, List.map_nil, List.sum_cons, List.sum_nil]; omega)) | skip
    (refine CallN.intro (widM a.2.2.2.1 4 (by omega)) [] rfl rfl ?_ ?_ ?_; ((repeat' (first | exact rfl | exact trivial | refine And.intro ?_ ?_ | ((conv => whnf); first | exact rfl | exact trivial | refine And.intro ?_ ?_)))); ((repeat' (first | exact rfl | exact trivial | refine And.intro ?_ ?_ | ((conv => whnf); first | exact rfl | exact trivial | refine And.intro ?_ ?_)))); (intro y hy; clear y hy; (repeat' ((conv => whnf); first | refine And.intro ?_ ?_ | exact Cl.mk (by kernel_rfl) | exact Ck.mk (by kernel_rfl) | refine DrawN.mk ?_ | refine CodeN.step hm rfl ?_ | exact trivial | exact rfl | (intro hh; try simp only [decide_eq_true_eq, decide_eq_false_iff_not, beq_iff_eq, beq_eq_false_iff_ne, bne_iff_ne, bne_eq_false_iff_eq, Bool.not_eq_true', Bool.not_eq_false', Bool.not_true, Bool.not_false] at hh; try exact absurd hh (by decide)))); all_goals (conv => whnf); (all_goals first | (exact Ob.mk (by decide)) | skip)))
    all_goals first | (exact Ob.mk (by simp only [List.length_append, wide_len, wides_len, List.map_cons, List.map_nil, List.sum_cons, List.sum_nil]; omega)) | skip
    (refine CallN.intro (policyM a.2.2.2.2.1) [] rfl rfl ?_ ?_ ?_; ((repeat' (first | exact rfl | exact trivial | refine And.intro ?_ ?_ | ((conv => whnf); first | exact rfl | exact trivial | refine And.intro ?_ ?_)))); ((repeat' (first | exact rfl | exact trivial | refine And.intro ?_ ?_ | ((conv => whnf); first | exact rfl | exact trivial | refine And.intro ?_ ?_)))); (intro y hy; clear y hy; (repeat' ((conv => whnf); first | refine And.intro ?_ ?_ | exact Cl.mk (by kernel_rfl) | exact Ck.mk (by kernel_rfl) | refine DrawN.mk ?_ | refine CodeN.step hm rfl ?_ | exact trivial | exact rfl | (intro hh; try simp only [decide_eq_true_eq, decide_eq_false_iff_not, beq_iff_eq, beq_eq_false_iff_ne, bne_iff_ne, bne_eq_false_iff_eq, Bool.not_eq_true', Bool.not_eq_false', Bool.not_true, Bool.not_false] at hh; try exact absurd hh (by decide)))); all_goals (conv => whnf); (all_goals first | (exact Ob.mk (by decide)) | skip)))
    all_goals first | (exact Ob.mk (by simp only [List.length_append, wide_len, wides_len, List.map_cons, List.map_nil, List.sum_cons, List.sum_nil]; omega)) | skip
    (refine CallN.intro (widM a.2.2.2.2.2.1 6 (by omega)) [] rfl rfl ?_ ?_ ?_; ((repeat' (first | exact rfl | exact trivial | refine And.intro ?_ ?_ | ((conv => whnf); first | exact rfl | exact trivial | refine And.intro ?_ ?_)))); ((repeat' (first | exact rfl | exact trivial | refine And.intro ?_ ?_ | ((conv => whnf); first | exact rfl | exact trivial | refine And.intro ?_ ?_)))); (intro y hy; clear y hy; (repeat' ((conv => whnf); first | refine And.intro ?_ ?_ | exact Cl.mk (by kernel_rfl) | exact Ck.mk (by kernel_rfl) | refine DrawN.mk ?_ | refine CodeN.step hm rfl ?_ | exact trivial | exact rfl | (intro hh; try simp only [decide_eq_true_eq, decide_eq_false_iff_not, beq_iff_eq, beq_eq_false_iff_ne, bne_iff_ne, bne_eq_false_iff_eq, Bool.not_eq_true', Bool.not_eq_false', Bool.not_true, Bool.not_false] at hh; try exact absurd hh (by decide)))); all_goals (conv => whnf); (all_goals first | (exact Ob.mk (by decide)) | skip)))
    all_goals first | (exact Ob.mk (by simp only [List.length_append, wide_len, wides_len, List.map_cons, List.map_nil, List.sum_cons, List.sum_nil]; omega)) | skip
    (refine CallN.intro (widM a.2.2.2.2.2.2.1 2 (by omega)) [] rfl rfl ?_ ?_ ?_; ((repeat' (first | exact rfl | exact trivial | refine And.intro ?_ ?_ | ((conv => whnf); first | exact rfl | exact trivial | refine And.intro ?_ ?_)))); ((repeat' (first | exact rfl | exact trivial | refine And.intro ?_ ?_ | ((conv => whnf); first | exact rfl | exact trivial | refine And.intro ?_ ?_)))); (intro y hy; clear y hy; (repeat' ((conv => whnf); first | refine And.intro ?_ ?_ | exact Cl.mk (by kernel_rfl) | exact Ck.mk (by kernel_rfl) | refine DrawN.mk ?_ | refine CodeN.step hm rfl ?_ | exact trivial | exact rfl | (intro hh; try simp only [decide_eq_true_eq, decide_eq_false_iff_not, beq_iff_eq, beq_eq_false_iff_ne, bne_iff_ne, bne_eq_false_iff_eq, Bool.not_eq_true', Bool.not_eq_false', Bool.not_true, Bool.not_false] at hh; try exact absurd hh (by decide)))); all_goals (conv => whnf); (all_goals first | (exact Ob.mk (by decide)) | skip)))
    all_goals first | (exact Ob.mk (by simp only [List.length_append, wide_len, wides_len, List.map_cons, List.map_nil, List.sum_cons, List.sum_nil]; omega)) | skip
    (refine CallN.intro (widM a.2.2.1.length 1 (by omega)) [] rfl rfl ?_ ?_ ?_; ((repeat' (first | exact rfl | exact trivial | refine And.intro ?_ ?_ | ((conv => whnf); first | exact rfl | exact trivial | refine And.intro ?_ ?_)))); ((repeat' (first | exact rfl | exact trivial | refine And.intro ?_ ?_ | ((conv => whnf); first | exact rfl | exact trivial | refine And.intro ?_ ?_)))); (intro y hy; clear y hy; (repeat' ((conv => whnf); first | refine And.intro ?_ ?_ | exact Cl.mk (by kernel_rfl) | exact Ck.mk (by kernel_rfl) | refine DrawN.mk ?_ | refine CodeN.step hm rfl ?_ | exact trivial | exact rfl | (intro hh; try simp only [decide_eq_true_eq, decide_eq_false_iff_not, beq_iff_eq, beq_eq_false_iff_ne, bne_iff_ne, bne_eq_false_iff_eq, Bool.not_eq_true', Bool.not_eq_false', Bool.not_true, Bool.not_false] at hh; try exact absurd hh (by decide)))); all_goals (conv => whnf); (all_goals first | (exact Ob.mk (by decide)) | skip)))
    all_goals first | (exact Ob.mk (by simp only [List.length_append, wide_len, wides_len, List.map_cons, List.map_nil, List.sum_cons, List.sum_nil]; omega)) | skip
    generalize hb1 : wides (ansNums a) ++ wides [((a.2.2.1.length : Int), 1)] = b1
    have hb1l : b1.length = 25 := by rw [← hb1, List.length_append, heads_len, hone]
    refine LoopN.intro hm (X := Nat × Bytes) (fun x => x.1 ≤ a.2.2.1.length ∧ x.2 = b1 ++ toldsB (a.2.2.1.take x.1)) (fun x => a.2.2.1.length - x.1)
      (fun x => [(5, .int .i64 fun _ => (x.1 : Int)), (4, .str fun _ => x.2), (1, .ptr 0 0)]) (fun i => [ansC a]) (0, b1) [0] ⟨rfl, rfl, ?_, ?_⟩ ⟨Nat.zero_le _, by simp [toldsB]⟩ (fun x hx => ?_)
    · (repeat' (first | exact rfl | exact trivial | refine And.intro ?_ ?_ | ((conv => whnf); first | exact rfl | exact trivial | refine And.intro ?_ ?_)))
    · (repeat' (first | exact rfl | exact trivial | refine And.intro ?_ ?_ | ((conv => whnf); first | exact rfl | exact trivial | refine And.intro ?_ ?_))); all_goals (conv => whnf); all_goals (try simp only [])
      rw [← hb1]; simp [wides, ansNums]
    · obtain ⟨i, b⟩ := x
      obtain ⟨hi, hb⟩ := hx
      simp only [] at hi hb
      have hbl : b.length ≤ 18025 := by rw [hb, List.length_append, toldsB_len, List.length_take]; omega
      have htk := toldsB_take (l := a.2.2.1) (i := i)
      have hx' : a.2.2.1.getD (i : Int).toNat ToldT.dflt = a.2.2.1.getD i (0, false, 0, 0, 0) := rfl
      generalize a.2.2.1.getD i (0, false, 0, 0, 0) = t at htk hx'
      (repeat' ((conv => whnf); first | refine And.intro ?_ ?_ | exact Cl.mk (by kernel_rfl) | exact Ck.mk (by kernel_rfl) | refine DrawN.mk ?_ | refine CodeN.step hm rfl ?_ | exact trivial | exact rfl | (intro hh; try simp only [decide_eq_true_eq, decide_eq_false_iff_not, beq_iff_eq, beq_eq_false_iff_ne, bne_iff_ne, bne_eq_false_iff_eq, Bool.not_eq_true', Bool.not_eq_false', Bool.not_true, Bool.not_false] at hh))); all_goals (conv => whnf)
      all_goals (try simp only [hx'] at hh ⊢)
      · (refine Ob.mk ?_; (try simp only [Ty.dflt, Nat.zero_add, Nat.add_zero, Int.toNat_natCast, Int.toNat_zero, Int.toNat_one, List.length_take, List.length_drop, List.length_append, List.length_replicate, List.length_cons, List.length_nil, List.length_set, List.length_map, true_and, and_true]); omega)
      · have hi1 : i < a.2.2.1.length := by omega
        have e : toldNums t = [(t.1, 1), (1, 1), (t.2.2.1, 4), (t.2.2.2.1, 6), (t.2.2.2.2, 6)] := by simp only [toldNums, hh]; rfl
        have htk := htk hi1
        (refine CallN.intro (widM t.1 1 (by omega)) [] rfl rfl ?_ ?_ ?_; ((repeat' (first | exact rfl | exact trivial | refine And.intro ?_ ?_ | ((conv => whnf); first | exact rfl | exact trivial | refine And.intro ?_ ?_)))); ((repeat' (first | exact rfl | exact trivial | refine And.intro ?_ ?_ | ((conv => whnf); first | exact rfl | exact trivial | refine And.intro ?_ ?_)))); (intro y hy; clear y hy; (repeat' ((conv => whnf); first | refine And.intro ?_ ?_ | exact Cl.mk (by kernel_rfl) | exact Ck.mk (by kernel_rfl) | refine DrawN.mk ?_ | refine CodeN.step hm rfl ?_ | exact trivial | exact rfl | (intro hh; try simp only [decide_eq_true_eq, decide_eq_false_iff_not, beq_iff_eq, beq_eq_false_iff_ne, bne_iff_ne, bne_eq_false_iff_eq, Bool.not_eq_true', Bool.not_eq_false', Bool.not_true, Bool.not_false] at hh; try exact absurd hh (by decide)))); all_goals (conv => whnf); (all_goals first | (exact Ob.mk (by decide)) | skip)))
        all_goals first | (exact Ob.mk (by simp only [List.length_append, wide_len]; omega)) | skip
        (refine CallN.intro (widM 1 1 (by omega)) [] rfl rfl ?_ ?_ ?_; ((repeat' (first | exact rfl | exact trivial | refine And.intro ?_ ?_ | ((conv => whnf); first | exact rfl | exact trivial | refine And.intro ?_ ?_)))); ((repeat' (first | exact rfl | exact trivial | refine And.intro ?_ ?_ | ((conv => whnf); first | exact rfl | exact trivial | refine And.intro ?_ ?_)))); (intro y hy; clear y hy; (repeat' ((conv => whnf); first | refine And.intro ?_ ?_ | exact Cl.mk (by kernel_rfl) | exact Ck.mk (by kernel_rfl) | refine DrawN.mk ?_ | refine CodeN.step hm rfl ?_ | exact trivial | exact rfl | (intro hh; try simp only [decide_eq_true_eq, decide_eq_false_iff_not, beq_iff_eq, beq_eq_false_iff_ne, bne_iff_ne, bne_eq_false_iff_eq, Bool.not_eq_true', Bool.not_eq_false', Bool.not_true, Bool.not_false] at hh; try exact absurd hh (by decide)))); all_goals (conv => whnf); (all_goals first | (exact Ob.mk (by decide)) | skip)))
        all_goals first | (exact Ob.mk (by simp only [List.length_append, wide_len]; omega)) | skip
        (refine CallN.intro (widM t.2.2.1 4 (by omega)) [] rfl rfl ?_ ?_ ?_; ((repeat' (first | exact rfl | exact trivial | refine And.intro ?_ ?_ | ((conv => whnf); first | exact rfl | exact trivial | refine And.intro ?_ ?_)))); ((repeat' (first | exact rfl | exact trivial | refine And.intro ?_ ?_ | ((conv => whnf); first | exact rfl | exact trivial | refine And.intro ?_ ?_)))); (intro y hy; clear y hy; (repeat' ((conv => whnf); first | refine And.intro ?_ ?_ | exact Cl.mk (by kernel_rfl) | exact Ck.mk (by kernel_rfl) | refine DrawN.mk ?_ | refine CodeN.step hm rfl ?_ | exact trivial | exact rfl | (intro hh; try simp only [decide_eq_true_eq, decide_eq_false_iff_not, beq_iff_eq, beq_eq_false_iff_ne, bne_iff_ne, bne_eq_false_iff_eq, Bool.not_eq_true', Bool.not_eq_false', Bool.not_true, Bool.not_false] at hh; try exact absurd hh (by decide)))); all_goals (conv => whnf); (all_goals first | (exact Ob.mk (by decide)) | skip)))
        all_goals first | (exact Ob.mk (by simp only [List.length_append, wide_len]; omega)) | skip
        (refine CallN.intro (widM t.2.2.2.1 6 (by omega)) [] rfl rfl ?_ ?_ ?_; ((repeat' (first | exact rfl | exact trivial | refine And.intro ?_ ?_ | ((conv => whnf); first | exact rfl | exact trivial | refine And.intro ?_ ?_)))); ((repeat' (first | exact rfl | exact trivial | refine And.intro ?_ ?_ | ((conv => whnf); first | exact rfl | exact trivial | refine And.intro ?_ ?_)))); (intro y hy; clear y hy; (repeat' ((conv => whnf); first | refine And.intro ?_ ?_ | exact Cl.mk (by kernel_rfl) | exact Ck.mk (by kernel_rfl) | refine DrawN.mk ?_ | refine CodeN.step hm rfl ?_ | exact trivial | exact rfl | (intro hh; try simp only [decide_eq_true_eq, decide_eq_false_iff_not, beq_iff_eq, beq_eq_false_iff_ne, bne_iff_ne, bne_eq_false_iff_eq, Bool.not_eq_true', Bool.not_eq_false', Bool.not_true, Bool.not_false] at hh; try exact absurd hh (by decide)))); all_goals (conv => whnf); (all_goals first | (exact Ob.mk (by decide)) | skip)))
        all_goals first | (exact Ob.mk (by simp only [List.length_append, wide_len]; omega)) | skip
        (refine CallN.intro (widM t.2.2.2.2 6 (by omega)) [] rfl rfl ?_ ?_ ?_; ((repeat' (first | exact rfl | exact trivial | refine And.intro ?_ ?_ | ((conv => whnf); first | exact rfl | exact trivial | refine And.intro ?_ ?_)))); ((repeat' (first | exact rfl | exact trivial | refine And.intro ?_ ?_ | ((conv => whnf); first | exact rfl | exact trivial | refine And.intro ?_ ?_)))); (intro y hy; clear y hy; (repeat' ((conv => whnf); first | refine And.intro ?_ ?_ | exact Cl.mk (by kernel_rfl) | exact Ck.mk (by kernel_rfl) | refine DrawN.mk ?_ | refine CodeN.step hm rfl ?_ | exact trivial | exact rfl | (intro hh; try simp only [decide_eq_true_eq, decide_eq_false_iff_not, beq_iff_eq, beq_eq_false_iff_ne, bne_iff_ne, bne_eq_false_iff_eq, Bool.not_eq_true', Bool.not_eq_false', Bool.not_true, Bool.not_false] at hh; try exact absurd hh (by decide)))); all_goals (conv => whnf); (all_goals first | (exact Ob.mk (by decide)) | skip)))
        all_goals first | (exact Ob.mk (by simp only [List.length_append, wide_len]; omega)) | skip
        refine ⟨(i + 1, b ++ wides (toldNums t)), [0], ⟨rfl, rfl, ?_, ?_⟩, ⟨hi1, by simp only []; rw [htk, hb, List.append_assoc]⟩, by simp only []; omega⟩
        · (repeat' (first | exact rfl | exact trivial | refine And.intro ?_ ?_ | ((conv => whnf); first | exact rfl | exact trivial | refine And.intro ?_ ?_)))
        · (repeat' (first | exact rfl | exact trivial | refine And.intro ?_ ?_ | ((conv => whnf); first | exact rfl | exact trivial | refine And.intro ?_ ?_))); all_goals (conv => whnf); all_goals (try simp only [])
          · exact wr2 i hi1 (by omega)
          · rw [e]; simp [wides]
      · have hi1 : i < a.2.2.1.length := by omega
        have e : toldNums t = [(t.1, 1), (0, 1), (t.2.2.1, 4), (t.2.2.2.1, 6), (t.2.2.2.2, 6)] := by simp only [toldNums, hh]; rfl
        have htk := htk hi1
        (refine CallN.intro (widM t.1 1 (by omega)) [] rfl rfl ?_ ?_ ?_; ((repeat' (first | exact rfl | exact trivial | refine And.intro ?_ ?_ | ((conv => whnf); first | exact rfl | exact trivial | refine And.intro ?_ ?_)))); ((repeat' (first | exact rfl | exact trivial | refine And.intro ?_ ?_ | ((conv => whnf); first | exact rfl | exact trivial | refine And.intro ?_ ?_)))); (intro y hy; clear y hy; (repeat' ((conv => whnf); first | refine And.intro ?_ ?_ | exact Cl.mk (by kernel_rfl) | exact Ck.mk (by kernel_rfl) | refine DrawN.mk ?_ | refine CodeN.step hm rfl ?_ | exact trivial | exact rfl | (intro hh; try simp only [decide_eq_true_eq, decide_eq_false_iff_not, beq_iff_eq, beq_eq_false_iff_ne, bne_iff_ne, bne_eq_false_iff_eq, Bool.not_eq_true', Bool.not_eq_false', Bool.not_true, Bool.not_false] at hh; try exact absurd hh (by decide)))); all_goals (conv => whnf); (all_goals first | (exact Ob.mk (by decide)) | skip)))
        all_goals first | (exact Ob.mk (by simp only [List.length_append, wide_len]; omega)) | skip
        (refine CallN.intro (widM 0 1 (by omega)) [] rfl rfl ?_ ?_ ?_; ((repeat' (first | exact rfl | exact trivial | refine And.intro ?_ ?_ | ((conv => whnf); first | exact rfl | exact trivial | refine And.intro ?_ ?_)))); ((repeat' (first | exact rfl | exact trivial | refine And.intro ?_ ?_ | ((conv => whnf); first | exact rfl | exact trivial | refine And.intro ?_ ?_)))); (intro y hy; clear y hy; (repeat' ((conv => whnf); first | refine And.intro ?_ ?_ | exact Cl.mk (by kernel_rfl) | exact Ck.mk (by kernel_rfl) | refine DrawN.mk ?_ | refine CodeN.step hm rfl ?_ | exact trivial | exact rfl | (intro hh; try simp only [decide_eq_true_eq, decide_eq_false_iff_not, beq_iff_eq, beq_eq_false_iff_ne, bne_iff_ne, bne_eq_false_iff_eq, Bool.not_eq_true', Bool.not_eq_false', Bool.not_true, Bool.not_false] at hh; try exact absurd hh (by decide)))); all_goals (conv => whnf); (all_goals first | (exact Ob.mk (by decide)) | skip)))
        all_goals first | (exact Ob.mk (by simp only [List.length_append, wide_len]; omega)) | skip
        (refine CallN.intro (widM t.2.2.1 4 (by omega)) [] rfl rfl ?_ ?_ ?_; ((repeat' (first | exact rfl | exact trivial | refine And.intro ?_ ?_ | ((conv => whnf); first | exact rfl | exact trivial | refine And.intro ?_ ?_)))); ((repeat' (first | exact rfl | exact trivial | refine And.intro ?_ ?_ | ((conv => whnf); first | exact rfl | exact trivial | refine And.intro ?_ ?_)))); (intro y hy; clear y hy; (repeat' ((conv => whnf); first | refine And.intro ?_ ?_ | exact Cl.mk (by kernel_rfl) | exact Ck.mk (by kernel_rfl) | refine DrawN.mk ?_ | refine CodeN.step hm rfl ?_ | exact trivial | exact rfl | (intro hh; try simp only [decide_eq_true_eq, decide_eq_false_iff_not, beq_iff_eq, beq_eq_false_iff_ne, bne_iff_ne, bne_eq_false_iff_eq, Bool.not_eq_true', Bool.not_eq_false', Bool.not_true, Bool.not_false] at hh; try exact absurd hh (by decide)))); all_goals (conv => whnf); (all_goals first | (exact Ob.mk (by decide)) | skip)))
        all_goals first | (exact Ob.mk (by simp only [List.length_append, wide_len]; omega)) | skip
        (refine CallN.intro (widM t.2.2.2.1 6 (by omega)) [] rfl rfl ?_ ?_ ?_; ((repeat' (first | exact rfl | exact trivial | refine And.intro ?_ ?_ | ((conv => whnf); first | exact rfl | exact trivial | refine And.intro ?_ ?_)))); ((repeat' (first | exact rfl | exact trivial | refine And.intro ?_ ?_ | ((conv => whnf); first | exact rfl | exact trivial | refine And.intro ?_ ?_)))); (intro y hy; clear y hy; (repeat' ((conv => whnf); first | refine And.intro ?_ ?_ | exact Cl.mk (by kernel_rfl) | exact Ck.mk (by kernel_rfl) | refine DrawN.mk ?_ | refine CodeN.step hm rfl ?_ | exact trivial | exact rfl | (intro hh; try simp only [decide_eq_true_eq, decide_eq_false_iff_not, beq_iff_eq, beq_eq_false_iff_ne, bne_iff_ne, bne_eq_false_iff_eq, Bool.not_eq_true', Bool.not_eq_false', Bool.not_true, Bool.not_false] at hh; try exact absurd hh (by decide)))); all_goals (conv => whnf); (all_goals first | (exact Ob.mk (by decide)) | skip)))
        all_goals first | (exact Ob.mk (by simp only [List.length_append, wide_len]; omega)) | skip
        (refine CallN.intro (widM t.2.2.2.2 6 (by omega)) [] rfl rfl ?_ ?_ ?_; ((repeat' (first | exact rfl | exact trivial | refine And.intro ?_ ?_ | ((conv => whnf); first | exact rfl | exact trivial | refine And.intro ?_ ?_)))); ((repeat' (first | exact rfl | exact trivial | refine And.intro ?_ ?_ | ((conv => whnf); first | exact rfl | exact trivial | refine And.intro ?_ ?_)))); (intro y hy; clear y hy; (repeat' ((conv => whnf); first | refine And.intro ?_ ?_ | exact Cl.mk (by kernel_rfl) | exact Ck.mk (by kernel_rfl) | refine DrawN.mk ?_ | refine CodeN.step hm rfl ?_ | exact trivial | exact rfl | (intro hh; try simp only [decide_eq_true_eq, decide_eq_false_iff_not, beq_iff_eq, beq_eq_false_iff_ne, bne_iff_ne, bne_eq_false_iff_eq, Bool.not_eq_true', Bool.not_eq_false', Bool.not_true, Bool.not_false] at hh; try exact absurd hh (by decide)))); all_goals (conv => whnf); (all_goals first | (exact Ob.mk (by decide)) | skip)))
        all_goals first | (exact Ob.mk (by simp only [List.length_append, wide_len]; omega)) | skip
        refine ⟨(i + 1, b ++ wides (toldNums t)), [0], ⟨rfl, rfl, ?_, ?_⟩, ⟨hi1, by simp only []; rw [htk, hb, List.append_assoc]⟩, by simp only []; omega⟩
        · (repeat' (first | exact rfl | exact trivial | refine And.intro ?_ ?_ | ((conv => whnf); first | exact rfl | exact trivial | refine And.intro ?_ ?_)))
        · (repeat' (first | exact rfl | exact trivial | refine And.intro ?_ ?_ | ((conv => whnf); first | exact rfl | exact trivial | refine And.intro ?_ ?_))); all_goals (conv => whnf); all_goals (try simp only [])
          · exact wr2 i hi1 (by omega)
          · rw [e]; simp [wides]
      · have ei : i = a.2.2.1.length := by omega
        rw [ei, List.take_length] at hb
        clear htk hx' hh
        (refine CallN.intro (widM a.2.2.2.2.2.2.2.length 1 (by omega)) [] rfl rfl ?_ ?_ ?_; ((repeat' (first | exact rfl | exact trivial | refine And.intro ?_ ?_ | ((conv => whnf); first | exact rfl | exact trivial | refine And.intro ?_ ?_)))); ((repeat' (first | exact rfl | exact trivial | refine And.intro ?_ ?_ | ((conv => whnf); first | exact rfl | exact trivial | refine And.intro ?_ ?_)))); (intro y hy; clear y hy; (repeat' ((conv => whnf); first | refine And.intro ?_ ?_ | exact Cl.mk (by kernel_rfl) | exact Ck.mk (by kernel_rfl) | refine DrawN.mk ?_ | refine CodeN.step hm rfl ?_ | exact trivial | exact rfl | (intro hh; try simp only [decide_eq_true_eq, decide_eq_false_iff_not, beq_iff_eq, beq_eq_false_iff_ne, bne_iff_ne, bne_eq_false_iff_eq, Bool.not_eq_true', Bool.not_eq_false', Bool.not_true, Bool.not_false] at hh; try exact absurd hh (by decide)))); all_goals (conv => whnf); (all_goals first | (exact Ob.mk (by decide)) | skip)))
        all_goals first | (exact Ob.mk (by simp only [List.length_append, wide_len]; omega)) | skip
        generalize hb2 : b ++ wides [((a.2.2.2.2.2.2.2.length : Int), 1)] = b2
        have hb2l : b2.length ≤ 18026 := by rw [← hb2, List.length_append, hone]; omega
        refine LoopN.intro hm (X := Nat × Bytes) (fun x => x.1 ≤ a.2.2.2.2.2.2.2.length ∧ x.2 = b2 ++ namesB (a.2.2.2.2.2.2.2.take x.1)) (fun x => a.2.2.2.2.2.2.2.length - x.1)
          (fun x => [(8, .int .i64 fun _ => (x.1 : Int)), (4, .str fun _ => x.2), (1, .ptr 0 0)]) (fun i => [ansC a]) (0, b2) [0] ⟨rfl, rfl, ?_, ?_⟩ ⟨Nat.zero_le _, by simp [namesB]⟩ (fun x hx => ?_)
        · (repeat' (first | exact rfl | exact trivial | refine And.intro ?_ ?_ | ((conv => whnf); first | exact rfl | exact trivial | refine And.intro ?_ ?_)))
        · (repeat' (first | exact rfl | exact trivial | refine And.intro ?_ ?_ | ((conv => whnf); first | exact rfl | exact trivial | refine And.intro ?_ ?_))); all_goals (conv => whnf); all_goals (try simp only [])
          rw [← hb2]; simp [wides]
        · obtain ⟨j, c⟩ := x
          obtain ⟨hj, hc⟩ := hx
          simp only [] at hj hc
          have hkt : ∀ n ∈ a.2.2.2.2.2.2.2.take j, n.2.length ≤ 300 := fun n hn => hs.key n (List.mem_of_mem_take hn)
          have hcl : c.length ≤ 320026 := by
            have := namesB_len hkt
            rw [List.length_take] at this
            rw [hc, List.length_append]; omega
          have htk := namesB_take (l := a.2.2.2.2.2.2.2) (i := j)
          have hkm : j < a.2.2.2.2.2.2.2.length → (a.2.2.2.2.2.2.2.getD j (0, [])).2.length ≤ 300 := fun h => hs.key _ (by rw [List.getD_eq_getElem?_getD, List.getElem?_eq_getElem h]; exact List.getElem_mem h)
          have hx' : a.2.2.2.2.2.2.2.getD (j : Int).toNat NameT.dflt = a.2.2.2.2.2.2.2.getD j (0, []) := rfl
          generalize a.2.2.2.2.2.2.2.getD j (0, []) = n at htk hx' hkm
          (repeat' ((conv => whnf); first | refine And.intro ?_ ?_ | exact Cl.mk (by kernel_rfl) | exact Ck.mk (by kernel_rfl) | refine DrawN.mk ?_ | refine CodeN.step hm rfl ?_ | exact trivial | exact rfl | (intro hh; try simp only [decide_eq_true_eq, decide_eq_false_iff_not, beq_iff_eq, beq_eq_false_iff_ne, bne_iff_ne, bne_eq_false_iff_eq, Bool.not_eq_true', Bool.not_eq_false', Bool.not_true, Bool.not_false] at hh))); all_goals (conv => whnf)
          all_goals (try simp only [hx'] at hh ⊢)
          · (refine Ob.mk ?_; (try simp only [Ty.dflt, Nat.zero_add, Nat.add_zero, Int.toNat_natCast, Int.toNat_zero, Int.toNat_one, List.length_take, List.length_drop, List.length_append, List.length_replicate, List.length_cons, List.length_nil, List.length_set, List.length_map, true_and, and_true]); omega)
          · have hj1 : j < a.2.2.2.2.2.2.2.length := by omega
            have htk := htk hj1
            have hkm := hkm hj1
            have hpl := put_len n.2
            (refine CallN.intro (rputM n.2 (by omega)) [] rfl rfl ?_ ?_ ?_; ((repeat' (first | exact rfl | exact trivial | refine And.intro ?_ ?_ | ((conv => whnf); first | exact rfl | exact trivial | refine And.intro ?_ ?_)))); ((repeat' (first | exact rfl | exact trivial | refine And.intro ?_ ?_ | ((conv => whnf); first | exact rfl | exact trivial | refine And.intro ?_ ?_)))); (intro y hy; clear y hy; (repeat' ((conv => whnf); first | refine And.intro ?_ ?_ | exact Cl.mk (by kernel_rfl) | exact Ck.mk (by kernel_rfl) | refine DrawN.mk ?_ | refine CodeN.step hm rfl ?_ | exact trivial | exact rfl | (intro hh; try simp only [decide_eq_true_eq, decide_eq_false_iff_not, beq_iff_eq, beq_eq_false_iff_ne, bne_iff_ne, bne_eq_false_iff_eq, Bool.not_eq_true', Bool.not_eq_false', Bool.not_true, Bool.not_false] at hh; try exact absurd hh (by decide)))); all_goals (conv => whnf); (all_goals first | (exact Ob.mk (by decide)) | skip)))
            all_goals (try simp only [hx'])
            all_goals first | ((refine Ob.mk ?_; (try simp only [Ty.dflt, Nat.zero_add, Nat.add_zero, Int.toNat_natCast, Int.toNat_zero, Int.toNat_one, List.length_take, List.length_drop, List.length_append, List.length_replicate, List.length_cons, List.length_nil, List.length_set, List.length_map, true_and, and_true]); omega)) | skip
            (refine CallN.intro (widM n.1 1 (by omega)) [] rfl rfl ?_ ?_ ?_; ((repeat' (first | exact rfl | exact trivial | refine And.intro ?_ ?_ | ((conv => whnf); first | exact rfl | exact trivial | refine And.intro ?_ ?_)))); ((repeat' (first | exact rfl | exact trivial | refine And.intro ?_ ?_ | ((conv => whnf); first | exact rfl | exact trivial | refine And.intro ?_ ?_)))); (intro y hy; clear y hy; (repeat' ((conv => whnf); first | refine And.intro ?_ ?_ | exact Cl.mk (by kernel_rfl) | exact Ck.mk (by kernel_rfl) | refine DrawN.mk ?_ | refine CodeN.step hm rfl ?_ | exact trivial | exact rfl | (intro hh; try simp only [decide_eq_true_eq, decide_eq_false_iff_not, beq_iff_eq, beq_eq_false_iff_ne, bne_iff_ne, bne_eq_false_iff_eq, Bool.not_eq_true', Bool.not_eq_false', Bool.not_true, Bool.not_false] at hh; try exact absurd hh (by decide)))); all_goals (conv => whnf); (all_goals first | (exact Ob.mk (by decide)) | skip)))
            all_goals first | (exact Ob.mk (by simp only [List.length_append, wide_len]; omega)) | skip
            refine ⟨(j + 1, c ++ (wides [(n.1, 1)] ++ (put n.2).1)), [0], ⟨rfl, rfl, ?_, ?_⟩, ⟨hj1, by simp only []; rw [htk, hc, List.append_assoc]⟩, by simp only []; omega⟩
            · (repeat' (first | exact rfl | exact trivial | refine And.intro ?_ ?_ | ((conv => whnf); first | exact rfl | exact trivial | refine And.intro ?_ ?_)))
            · (repeat' (first | exact rfl | exact trivial | refine And.intro ?_ ?_ | ((conv => whnf); first | exact rfl | exact trivial | refine And.intro ?_ ?_))); all_goals (conv => whnf); all_goals (try simp only [])
              · exact wr2 j hj1 (by omega)
              · simp [wides]
          all_goals
            have ej : j = a.2.2.2.2.2.2.2.length := by omega
            rw [ej, List.take_length] at hc
            have hec : c = encA a := by rw [hc, ← hb2, hb, ← hb1]; rfl
            rw [hec] at hh
          · have he : encR a = ([], 8) := by unfold encR; rw [if_neg (by simp [*]), if_pos (by omega)]
            (refine RetN.intro () [] rfl rfl ?_ ?_ ?_; ((repeat' (first | exact rfl | exact trivial | refine And.intro ?_ ?_ | ((conv => whnf); first | exact rfl | exact trivial | refine And.intro ?_ ?_)))); ((repeat' (first | exact rfl | exact trivial | refine And.intro ?_ ?_ | ((conv => whnf); first | exact rfl | exact trivial | refine And.intro ?_ ?_))); all_goals (conv => whnf); all_goals (try simp only [])))
            all_goals rw [he]
          · have he : encR a = (encA a, 0) := by unfold encR; rw [if_neg (by simp [*]), if_neg (by omega)]
            (refine RetN.intro () [] rfl rfl ?_ ?_ ?_; ((repeat' (first | exact rfl | exact trivial | refine And.intro ?_ ?_ | ((conv => whnf); first | exact rfl | exact trivial | refine And.intro ?_ ?_)))); ((repeat' (first | exact rfl | exact trivial | refine And.intro ?_ ?_ | ((conv => whnf); first | exact rfl | exact trivial | refine And.intro ?_ ?_))); all_goals (conv => whnf); all_goals (try simp only [])))
            all_goals rw [he]
            exact hec
end Go.Proofs.Ytoipgandilhdeaa.An
set_option linter.unusedVariables false
set_option linter.unusedSimpArgs false
namespace Go.Proofs.Ytoipgandilhdeaa.An
open Go Go.RowKit Fw Nu
theorem readL_app {s : Bytes} : ∀ (a b : List Nat) (t : Int), readL s t (a ++ b) = match readL s t a with | some (vs, t') => (match readL s t' b with | some (us, t'') => some (vs ++ us, t'') | none => none) | none => none
  | [], b, t => by simp only [List.nil_append, readL]; cases readL s t b <;> rfl
  | w :: r, b, t => by
    simp only [List.cons_append, readL]
    split
    · rw [readL_app r b]
      cases readL s (number s t w).2.1 r with
      | none => rfl
      | some x =>
        obtain ⟨vs, t'⟩ := x
        simp only []
        cases readL s t' b with
        | none => rfl
        | some y => rfl
    · rfl
theorem readL_step {s : Bytes} {t : Int} {ws : List Nat} {i w : Nat} {vs : List Int} {t' : Int} (hw : ws[i]? = some w) (h : readL s t (ws.take i) = some (vs, t')) (hn : (number s t' w).2.2 = 0) :
    readL s t (ws.take (i + 1)) = some (vs ++ [(number s t' w).1], (number s t' w).2.1) := by
  rw [List.take_add_one, hw, readL_app, h]
  simp [readL, hn]
theorem readL_stop {s : Bytes} {t : Int} {ws : List Nat} {i w : Nat} {vs : List Int} {t' : Int} (hw : ws[i]? = some w) (h : readL s t (ws.take i) = some (vs, t')) (hn : (number s t' w).2.2 ≠ 0) : readL s t ws = none := by
  have hi : i < ws.length := (List.getElem?_eq_some_iff.1 hw).1
  have e : ws = ws.take i ++ (w :: ws.drop (i + 1)) := by
    conv => lhs; rw [← List.take_append_drop i ws]
    rw [List.drop_eq_getElem_cons hi]
    congr 2
    have := List.getElem?_eq_getElem hi
    rw [hw] at this
    exact (Option.some.inj this).symm
  rw [e, readL_app, h]
  simp [readL, hn]
theorem readL_len {s : Bytes} : ∀ (ws : List Nat) (t : Int) (vs : List Int) (t' : Int), readL s t ws = some (vs, t') → vs.length = ws.length
  | [], t, vs, t', h => by simp only [readL, Option.some.injEq, Prod.mk.injEq] at h; rw [← h.1]; rfl
  | w :: r, t, vs, t', h => by
    simp only [readL] at h
    split at h
    · split at h
      · rename_i x hx
        simp only [Option.some.injEq, Prod.mk.injEq] at h
        rw [← h.1, List.length_cons, List.length_cons, readL_len r _ x.1 x.2 hx]
      · cases h
    · cases h
theorem gd_snoc (l : List Int) (n : Int) (j : Nat) : (l ++ [n]).getD j 0 = if j = l.length then n else l.getD j 0 := by
  rw [List.getD_eq_getElem?_getD, List.getD_eq_getElem?_getD]
  by_cases h : j < l.length
  · rw [List.getElem?_append_left h, if_neg (by omega)]
  · by_cases h2 : j = l.length
    · subst h2; simp
    · rw [if_neg h2, List.getElem?_eq_none (by simp; omega), List.getElem?_eq_none (by omega)]
/-- What reading numbers comes to: their values, where it stands, whether one was wrong. -/
structure RdQ (s : Bytes) (t : Int) (ws : List Nat) (y : List Int × Int × Bool) : Prop where
  ok : y.2.2 = false → readL s t ws = some (y.1, y.2.1)
  bad : y.2.2 = true → readL s t ws = none
/-- A number of w bytes is one of an int. -/
theorem num_wrap {s : Bytes} {t : Int} {w : Nat} (hw : w ≤ 7) (h : (number s t w).2.2 = 0) : IntKind.i64.wrap (number s t w).1 = (number s t w).1 := by
  have hf := (number_get (by omega) h).2.2.2.1
  obtain ⟨h0, h1⟩ := fits_iff.1 hf
  have : (256 : Int) ^ w ≤ 72057594037927936 := by
    obtain rfl | rfl | rfl | rfl | rfl | rfl | rfl | rfl : w = 0 ∨ w = 1 ∨ w = 2 ∨ w = 3 ∨ w = 4 ∨ w = 5 ∨ w = 6 ∨ w = 7 := by omega
    all_goals decide
  exact wr (by omega)
end Go.Proofs.Ytoipgandilhdeaa.An
set_option linter.unusedVariables false
set_option linter.unusedSimpArgs false
namespace Go.Proofs.Ytoipgandilhdeaa.An
open Go Go.RowKit Fw Nu
/-- One number. -/
theorem roneM (s : Bytes) (t : Int) (hs : s.length ≤ 1000000) : Meets Try.prog 36 [.ptr 0 0, .vec 1 2 (fun _ => 0) fun _ => 1]
    [.cells 62 [.str fun _ => s, .int .i64 fun _ => t, .bool fun _ => false], .cells 109 [.ptr 2 0, .int .i64 fun _ => 1], .cells 3 [.int .i64 fun _ => 0]] (Y := List Int × Int × Bool) (RdQ s t [1]) (fun _ => .tup [])
    (fun y => [.cells 62 [.str fun _ => s, .int .i64 fun _ => y.2.1, .bool fun _ => y.2.2], .none, .cells 3 [.int .i64 fun _ => y.1.getD 0 0]]) := by
  refine Meets.intro hm (fn := Try.f36) Try.func36 rfl (by decide) (Nat.le_of_ble_eq_true rfl) (fun _ => rfl) ?_; intro S hok; (conv => whnf)
  (repeat' ((conv => whnf); first | refine And.intro ?_ ?_ | exact Cl.mk (by kernel_rfl) | exact Ck.mk (by kernel_rfl) | refine DrawN.mk ?_ | refine CodeN.step hm rfl ?_ | exact trivial | exact rfl | (intro hh; try simp only [decide_eq_true_eq, decide_eq_false_iff_not, beq_iff_eq, beq_eq_false_iff_ne, bne_iff_ne, bne_eq_false_iff_eq, Bool.not_eq_true', Bool.not_eq_false', Bool.not_true, Bool.not_false] at hh))); all_goals (conv => whnf)
  refine LoopN.intro hm (X := Nat × List Int × Int) (fun x => x.1 ≤ 1 ∧ readL s t (List.take x.1 [1]) = some (x.2.1, x.2.2)) (fun x => 1 - x.1)
    (fun x => [(11, .int .i64 fun _ => (x.1 : Int)), (10, .int .i64 fun _ => 1), (9, .vec 1 2 (fun _ => 0) fun _ => 1), (0, .ptr 0 0)])
    (fun x => [.cells 62 [.str fun _ => s, .int .i64 fun _ => x.2.2, .bool fun _ => false], .cells 109 [.ptr 2 0, .int .i64 fun _ => 1], .cells 3 [.int .i64 fun _ => x.2.1.getD 0 0]]) (0, [], t) [0, 1, 2] ⟨rfl, rfl, ?_, ?_⟩ ⟨Nat.zero_le _, rfl⟩ (fun x hx => ?_)
  · (repeat' (first | exact rfl | exact trivial | refine And.intro ?_ ?_ | ((conv => whnf); first | exact rfl | exact trivial | refine And.intro ?_ ?_)))
  · (repeat' (first | exact rfl | exact trivial | refine And.intro ?_ ?_ | ((conv => whnf); first | exact rfl | exact trivial | refine And.intro ?_ ?_)))
  · obtain ⟨i, vs, p⟩ := x
    obtain ⟨hi, hr⟩ := hx
    simp only [] at hi hr
    have hvl := readL_len _ _ _ _ hr
    obtain rfl | rfl : i = 0 ∨ i = 1 := by omega
    · have hw : [1][0]? = some 1 := rfl
      simp only [List.take, List.length_cons, List.length_nil] at hvl
      (repeat' ((conv => whnf); first | refine And.intro ?_ ?_ | exact Cl.mk (by kernel_rfl) | exact Ck.mk (by kernel_rfl) | refine DrawN.mk ?_ | refine CodeN.step hm rfl ?_ | exact trivial | exact rfl | (intro hh; try simp only [decide_eq_true_eq, decide_eq_false_iff_not, beq_iff_eq, beq_eq_false_iff_ne, bne_iff_ne, bne_eq_false_iff_eq, Bool.not_eq_true', Bool.not_eq_false', Bool.not_true, Bool.not_false] at hh))); all_goals (conv => whnf)
      all_goals first | (exact Ob.mk (by decide)) | (exact Ob.mk (by simp)) | skip
      rotate_right
      · exact absurd (by decide) hh
      (refine CallN.intro (numberM s p 1 (by omega) hs) [] rfl rfl ?_ ?_ ?_; ((repeat' (first | exact rfl | exact trivial | refine And.intro ?_ ?_ | ((conv => whnf); first | exact rfl | exact trivial | refine And.intro ?_ ?_)))); ((repeat' (first | exact rfl | exact trivial | refine And.intro ?_ ?_ | ((conv => whnf); first | exact rfl | exact trivial | refine And.intro ?_ ?_)))); (intro y hy; clear y hy; (repeat' ((conv => whnf); first | refine And.intro ?_ ?_ | exact Cl.mk (by kernel_rfl) | exact Ck.mk (by kernel_rfl) | refine DrawN.mk ?_ | refine CodeN.step hm rfl ?_ | exact trivial | exact rfl | (intro hh; try simp only [decide_eq_true_eq, decide_eq_false_iff_not, beq_iff_eq, beq_eq_false_iff_ne, bne_iff_ne, bne_eq_false_iff_eq, Bool.not_eq_true', Bool.not_eq_false', Bool.not_true, Bool.not_false] at hh; try exact absurd hh (by decide)))); all_goals (conv => whnf); (all_goals first | (exact Ob.mk (by decide)) | skip)))
      · have hn : (number s p 1).2.2 ≠ 0 := by assumption
        (refine RetN.intro (vs, p, true) [0, 1, 2] rfl rfl ?_ ?_ ?_; ((repeat' (first | exact rfl | exact trivial | refine And.intro ?_ ?_ | ((conv => whnf); first | exact rfl | exact trivial | refine And.intro ?_ ?_)))); ((repeat' (first | exact rfl | exact trivial | refine And.intro ?_ ?_ | ((conv => whnf); first | exact rfl | exact trivial | refine And.intro ?_ ?_))); all_goals (conv => whnf); all_goals (try simp only [])))
        all_goals first | (simp [hn]; done) | (exact ⟨fun h => (by cases h), fun _ => readL_stop hw hr hn⟩)
      · have hn : (number s p 1).2.2 = 0 := by assumption
        have hg := gd_snoc vs (number s p 1).1
        rw [hvl] at hg
        refine ⟨(1, vs ++ [(number s p 1).1], (number s p 1).2.1), [0, 1, 2], ⟨rfl, rfl, ?_, ?_⟩, ⟨by simp only []; omega, readL_step hw hr hn⟩, by simp only []; omega⟩
        · (repeat' (first | exact rfl | exact trivial | refine And.intro ?_ ?_ | ((conv => whnf); first | exact rfl | exact trivial | refine And.intro ?_ ?_))); all_goals (conv => whnf); all_goals (try simp only [])
          all_goals first | (rw [hg, if_neg (by omega)]; done) | (rw [hg, if_pos (by omega)]; exact num_wrap (by omega) hn) | (simp [hn]; done) | skip
        · (repeat' (first | exact rfl | exact trivial | refine And.intro ?_ ?_ | ((conv => whnf); first | exact rfl | exact trivial | refine And.intro ?_ ?_)))
    · (repeat' ((conv => whnf); first | refine And.intro ?_ ?_ | exact Cl.mk (by kernel_rfl) | exact Ck.mk (by kernel_rfl) | refine DrawN.mk ?_ | refine CodeN.step hm rfl ?_ | exact trivial | exact rfl | (intro hh; try simp only [decide_eq_true_eq, decide_eq_false_iff_not, beq_iff_eq, beq_eq_false_iff_ne, bne_iff_ne, bne_eq_false_iff_eq, Bool.not_eq_true', Bool.not_eq_false', Bool.not_true, Bool.not_false] at hh))); all_goals (conv => whnf)
      all_goals first | (exfalso; exact absurd hh (by decide)) | skip
      (refine RetN.intro (vs, p, false) [0, 1, 2] rfl rfl ?_ ?_ ?_; ((repeat' (first | exact rfl | exact trivial | refine And.intro ?_ ?_ | ((conv => whnf); first | exact rfl | exact trivial | refine And.intro ?_ ?_)))); ((repeat' (first | exact rfl | exact trivial | refine And.intro ?_ ?_ | ((conv => whnf); first | exact rfl | exact trivial | refine And.intro ?_ ?_))); all_goals (conv => whnf); all_goals (try simp only [])))
      exact ⟨fun _ => hr, fun h => (by cases h)⟩
/-- One number. Once wrong. -/
theorem roneMW (s : Bytes) (t : Int) (hs : s.length ≤ 1000000) : Meets Try.prog 36 [.ptr 0 0, .vec 1 2 (fun _ => 0) fun _ => 1]
    [.cells 62 [.str fun _ => s, .int .i64 fun _ => t, .bool fun _ => true], .cells 109 [.ptr 2 0, .int .i64 fun _ => 1], .cells 3 [.int .i64 fun _ => 0]] (Y := Unit) (fun _ => True) (fun _ => .tup [])
    (fun y => [.cells 62 [.str fun _ => s, .int .i64 fun _ => t, .bool fun _ => true], .none, .cells 3 [.int .i64 fun _ => 0]]) := by
  refine Meets.intro hm (fn := Try.f36) Try.func36 rfl (by decide) (Nat.le_of_ble_eq_true rfl) (fun _ => rfl) ?_; intro S hok; (conv => whnf)
  (repeat' ((conv => whnf); first | refine And.intro ?_ ?_ | exact Cl.mk (by kernel_rfl) | exact Ck.mk (by kernel_rfl) | refine DrawN.mk ?_ | refine CodeN.step hm rfl ?_ | exact trivial | exact rfl | (intro hh; try simp only [decide_eq_true_eq, decide_eq_false_iff_not, beq_iff_eq, beq_eq_false_iff_ne, bne_iff_ne, bne_eq_false_iff_eq, Bool.not_eq_true', Bool.not_eq_false', Bool.not_true, Bool.not_false] at hh))); all_goals (conv => whnf)
  refine LoopN.intro hm (X := Unit) (fun x => True) (fun x => 0)
    (fun x => [(11, .int .i64 fun _ => 0), (10, .int .i64 fun _ => 1), (9, .vec 1 2 (fun _ => 0) fun _ => 1), (0, .ptr 0 0)])
    (fun x => [.cells 62 [.str fun _ => s, .int .i64 fun _ => t, .bool fun _ => true], .cells 109 [.ptr 2 0, .int .i64 fun _ => 1], .cells 3 [.int .i64 fun _ => 0]]) () [0, 1, 2] ⟨rfl, rfl, ?_, ?_⟩ trivial (fun x hx => ?_)
  · (repeat' (first | exact rfl | exact trivial | refine And.intro ?_ ?_ | ((conv => whnf); first | exact rfl | exact trivial | refine And.intro ?_ ?_)))
  · (repeat' (first | exact rfl | exact trivial | refine And.intro ?_ ?_ | ((conv => whnf); first | exact rfl | exact trivial | refine And.intro ?_ ?_)))
  · (repeat' ((conv => whnf); first | refine And.intro ?_ ?_ | exact Cl.mk (by kernel_rfl) | exact Ck.mk (by kernel_rfl) | refine DrawN.mk ?_ | refine CodeN.step hm rfl ?_ | exact trivial | exact rfl | (intro hh; try simp only [decide_eq_true_eq, decide_eq_false_iff_not, beq_iff_eq, beq_eq_false_iff_ne, bne_iff_ne, bne_eq_false_iff_eq, Bool.not_eq_true', Bool.not_eq_false', Bool.not_true, Bool.not_false] at hh))); all_goals (conv => whnf)
    all_goals first | (exact Ob.mk (by decide)) | (exact Ob.mk (by simp)) | skip
    rotate_right
    · exact absurd (by decide) hh
    (refine CallN.intro (numberM s t 1 (by omega) hs) [] rfl rfl ?_ ?_ ?_; ((repeat' (first | exact rfl | exact trivial | refine And.intro ?_ ?_ | ((conv => whnf); first | exact rfl | exact trivial | refine And.intro ?_ ?_)))); ((repeat' (first | exact rfl | exact trivial | refine And.intro ?_ ?_ | ((conv => whnf); first | exact rfl | exact trivial | refine And.intro ?_ ?_)))); (intro y hy; clear y hy; (repeat' ((conv => whnf); first | refine And.intro ?_ ?_ | exact Cl.mk (by kernel_rfl) | exact Ck.mk (by kernel_rfl) | refine DrawN.mk ?_ | refine CodeN.step hm rfl ?_ | exact trivial | exact rfl | (intro hh; try simp only [decide_eq_true_eq, decide_eq_false_iff_not, beq_iff_eq, beq_eq_false_iff_ne, bne_iff_ne, bne_eq_false_iff_eq, Bool.not_eq_true', Bool.not_eq_false', Bool.not_true, Bool.not_false] at hh; try exact absurd hh (by decide)))); all_goals (conv => whnf); (all_goals first | (exact Ob.mk (by decide)) | skip)))
    (refine RetN.intro () [0, 1, 2] rfl rfl ?_ ?_ ?_; ((repeat' (first | exact rfl | exact trivial | refine And.intro ?_ ?_ | ((conv => whnf); first | exact rfl | exact trivial | refine And.intro ?_ ?_)))); ((repeat' (first | exact rfl | exact trivial | refine And.intro ?_ ?_ | ((conv => whnf); first | exact rfl | exact trivial | refine And.intro ?_ ?_))); all_goals (conv => whnf); all_goals (try simp only [])))
/-- A name's book. -/
theorem rbookM (s : Bytes) (t : Int) (hs : s.length ≤ 1000000) : Meets Try.prog 36 [.ptr 0 0, .vec 1 2 (fun _ => 0) fun _ => 1]
    [.cells 62 [.str fun _ => s, .int .i64 fun _ => t, .bool fun _ => false], .cells 109 [.ptr 2 0, .int .i64 fun _ => 1], .cells 39 [.int .i64 fun _ => 0, .str fun _ => []]] (Y := List Int × Int × Bool) (RdQ s t [1]) (fun _ => .tup [])
    (fun y => [.cells 62 [.str fun _ => s, .int .i64 fun _ => y.2.1, .bool fun _ => y.2.2], .none, .cells 39 [.int .i64 fun _ => y.1.getD 0 0, .str fun _ => []]]) := by
  refine Meets.intro hm (fn := Try.f36) Try.func36 rfl (by decide) (Nat.le_of_ble_eq_true rfl) (fun _ => rfl) ?_; intro S hok; (conv => whnf)
  (repeat' ((conv => whnf); first | refine And.intro ?_ ?_ | exact Cl.mk (by kernel_rfl) | exact Ck.mk (by kernel_rfl) | refine DrawN.mk ?_ | refine CodeN.step hm rfl ?_ | exact trivial | exact rfl | (intro hh; try simp only [decide_eq_true_eq, decide_eq_false_iff_not, beq_iff_eq, beq_eq_false_iff_ne, bne_iff_ne, bne_eq_false_iff_eq, Bool.not_eq_true', Bool.not_eq_false', Bool.not_true, Bool.not_false] at hh))); all_goals (conv => whnf)
  refine LoopN.intro hm (X := Nat × List Int × Int) (fun x => x.1 ≤ 1 ∧ readL s t (List.take x.1 [1]) = some (x.2.1, x.2.2)) (fun x => 1 - x.1)
    (fun x => [(11, .int .i64 fun _ => (x.1 : Int)), (10, .int .i64 fun _ => 1), (9, .vec 1 2 (fun _ => 0) fun _ => 1), (0, .ptr 0 0)])
    (fun x => [.cells 62 [.str fun _ => s, .int .i64 fun _ => x.2.2, .bool fun _ => false], .cells 109 [.ptr 2 0, .int .i64 fun _ => 1], .cells 39 [.int .i64 fun _ => x.2.1.getD 0 0, .str fun _ => []]]) (0, [], t) [0, 1, 2] ⟨rfl, rfl, ?_, ?_⟩ ⟨Nat.zero_le _, rfl⟩ (fun x hx => ?_)
  · (repeat' (first | exact rfl | exact trivial | refine And.intro ?_ ?_ | ((conv => whnf); first | exact rfl | exact trivial | refine And.intro ?_ ?_)))
  · (repeat' (first | exact rfl | exact trivial | refine And.intro ?_ ?_ | ((conv => whnf); first | exact rfl | exact trivial | refine And.intro ?_ ?_)))
  · obtain ⟨i, vs, p⟩ := x
    obtain ⟨hi, hr⟩ := hx
    simp only [] at hi hr
    have hvl := readL_len _ _ _ _ hr
    obtain rfl | rfl : i = 0 ∨ i = 1 := by omega
    · have hw : [1][0]? = some 1 := rfl
      simp only [List.take, List.length_cons, List.length_nil] at hvl
      (repeat' ((conv => whnf); first | refine And.intro ?_ ?_ | exact Cl.mk (by kernel_rfl) | exact Ck.mk (by kernel_rfl) | refine DrawN.mk ?_ | refine CodeN.step hm rfl ?_ | exact trivial | exact rfl | (intro hh; try simp only [decide_eq_true_eq, decide_eq_false_iff_not, beq_iff_eq, beq_eq_false_iff_ne, bne_iff_ne, bne_eq_false_iff_eq, Bool.not_eq_true', Bool.not_eq_false', Bool.not_true, Bool.not_false] at hh))); all_goals (conv => whnf)
      all_goals first | (exact Ob.mk (by decide)) | (exact Ob.mk (by simp)) | skip
      rotate_right
      · exact absurd (by decide) hh
      (refine CallN.intro (numberM s p 1 (by omega) hs) [] rfl rfl ?_ ?_ ?_; ((repeat' (first | exact rfl | exact trivial | refine And.intro ?_ ?_ | ((conv => whnf); first | exact rfl | exact trivial | refine And.intro ?_ ?_)))); ((repeat' (first | exact rfl | exact trivial | refine And.intro ?_ ?_ | ((conv => whnf); first | exact rfl | exact trivial | refine And.intro ?_ ?_)))); (intro y hy; clear y hy; (repeat' ((conv => whnf); first | refine And.intro ?_ ?_ | exact Cl.mk (by kernel_rfl) | exact Ck.mk (by kernel_rfl) | refine DrawN.mk ?_ | refine CodeN.step hm rfl ?_ | exact trivial | exact rfl | (intro hh; try simp only [decide_eq_true_eq, decide_eq_false_iff_not, beq_iff_eq, beq_eq_false_iff_ne, bne_iff_ne, bne_eq_false_iff_eq, Bool.not_eq_true', Bool.not_eq_false', Bool.not_true, Bool.not_false] at hh; try exact absurd hh (by decide)))); all_goals (conv => whnf); (all_goals first | (exact Ob.mk (by decide)) | skip)))
      · have hn : (number s p 1).2.2 ≠ 0 := by assumption
        (refine RetN.intro (vs, p, true) [0, 1, 2] rfl rfl ?_ ?_ ?_; ((repeat' (first | exact rfl | exact trivial | refine And.intro ?_ ?_ | ((conv => whnf); first | exact rfl | exact trivial | refine And.intro ?_ ?_)))); ((repeat' (first | exact rfl | exact trivial | refine And.intro ?_ ?_ | ((conv => whnf); first | exact rfl | exact trivial | refine And.intro ?_ ?_))); all_goals (conv => whnf); all_goals (try simp only [])))
        all_goals first | (simp [hn]; done) | (exact ⟨fun h => (by cases h), fun _ => readL_stop hw hr hn⟩)
      · have hn : (number s p 1).2.2 = 0 := by assumption
        have hg := gd_snoc vs (number s p 1).1
        rw [hvl] at hg
        refine ⟨(1, vs ++ [(number s p 1).1], (number s p 1).2.1), [0, 1, 2], ⟨rfl, rfl, ?_, ?_⟩, ⟨by simp only []; omega, readL_step hw hr hn⟩, by simp only []; omega⟩
        · (repeat' (first | exact rfl | exact trivial | refine And.intro ?_ ?_ | ((conv => whnf); first | exact rfl | exact trivial | refine And.intro ?_ ?_))); all_goals (conv => whnf); all_goals (try simp only [])
          all_goals first | (rw [hg, if_neg (by omega)]; done) | (rw [hg, if_pos (by omega)]; exact num_wrap (by omega) hn) | (simp [hn]; done) | skip
        · (repeat' (first | exact rfl | exact trivial | refine And.intro ?_ ?_ | ((conv => whnf); first | exact rfl | exact trivial | refine And.intro ?_ ?_)))
    · (repeat' ((conv => whnf); first | refine And.intro ?_ ?_ | exact Cl.mk (by kernel_rfl) | exact Ck.mk (by kernel_rfl) | refine DrawN.mk ?_ | refine CodeN.step hm rfl ?_ | exact trivial | exact rfl | (intro hh; try simp only [decide_eq_true_eq, decide_eq_false_iff_not, beq_iff_eq, beq_eq_false_iff_ne, bne_iff_ne, bne_eq_false_iff_eq, Bool.not_eq_true', Bool.not_eq_false', Bool.not_true, Bool.not_false] at hh))); all_goals (conv => whnf)
      all_goals first | (exfalso; exact absurd hh (by decide)) | skip
      (refine RetN.intro (vs, p, false) [0, 1, 2] rfl rfl ?_ ?_ ?_; ((repeat' (first | exact rfl | exact trivial | refine And.intro ?_ ?_ | ((conv => whnf); first | exact rfl | exact trivial | refine And.intro ?_ ?_)))); ((repeat' (first | exact rfl | exact trivial | refine And.intro ?_ ?_ | ((conv => whnf); first | exact rfl | exact trivial | refine And.intro ?_ ?_))); all_goals (conv => whnf); all_goals (try simp only [])))
      exact ⟨fun _ => hr, fun h => (by cases h)⟩
/-- A name's book. Once wrong. -/
theorem rbookMW (s : Bytes) (t : Int) (hs : s.length ≤ 1000000) : Meets Try.prog 36 [.ptr 0 0, .vec 1 2 (fun _ => 0) fun _ => 1]
    [.cells 62 [.str fun _ => s, .int .i64 fun _ => t, .bool fun _ => true], .cells 109 [.ptr 2 0, .int .i64 fun _ => 1], .cells 39 [.int .i64 fun _ => 0, .str fun _ => []]] (Y := Unit) (fun _ => True) (fun _ => .tup [])
    (fun y => [.cells 62 [.str fun _ => s, .int .i64 fun _ => t, .bool fun _ => true], .none, .cells 39 [.int .i64 fun _ => 0, .str fun _ => []]]) := by
  refine Meets.intro hm (fn := Try.f36) Try.func36 rfl (by decide) (Nat.le_of_ble_eq_true rfl) (fun _ => rfl) ?_; intro S hok; (conv => whnf)
  (repeat' ((conv => whnf); first | refine And.intro ?_ ?_ | exact Cl.mk (by kernel_rfl) | exact Ck.mk (by kernel_rfl) | refine DrawN.mk ?_ | refine CodeN.step hm rfl ?_ | exact trivial | exact rfl | (intro hh; try simp only [decide_eq_true_eq, decide_eq_false_iff_not, beq_iff_eq, beq_eq_false_iff_ne, bne_iff_ne, bne_eq_false_iff_eq, Bool.not_eq_true', Bool.not_eq_false', Bool.not_true, Bool.not_false] at hh))); all_goals (conv => whnf)
  refine LoopN.intro hm (X := Unit) (fun x => True) (fun x => 0)
    (fun x => [(11, .int .i64 fun _ => 0), (10, .int .i64 fun _ => 1), (9, .vec 1 2 (fun _ => 0) fun _ => 1), (0, .ptr 0 0)])
    (fun x => [.cells 62 [.str fun _ => s, .int .i64 fun _ => t, .bool fun _ => true], .cells 109 [.ptr 2 0, .int .i64 fun _ => 1], .cells 39 [.int .i64 fun _ => 0, .str fun _ => []]]) () [0, 1, 2] ⟨rfl, rfl, ?_, ?_⟩ trivial (fun x hx => ?_)
  · (repeat' (first | exact rfl | exact trivial | refine And.intro ?_ ?_ | ((conv => whnf); first | exact rfl | exact trivial | refine And.intro ?_ ?_)))
  · (repeat' (first | exact rfl | exact trivial | refine And.intro ?_ ?_ | ((conv => whnf); first | exact rfl | exact trivial | refine And.intro ?_ ?_)))
  · (repeat' ((conv => whnf); first | refine And.intro ?_ ?_ | exact Cl.mk (by kernel_rfl) | exact Ck.mk (by kernel_rfl) | refine DrawN.mk ?_ | refine CodeN.step hm rfl ?_ | exact trivial | exact rfl | (intro hh; try simp only [decide_eq_true_eq, decide_eq_false_iff_not, beq_iff_eq, beq_eq_false_iff_ne, bne_iff_ne, bne_eq_false_iff_eq, Bool.not_eq_true', Bool.not_eq_false', Bool.not_true, Bool.not_false] at hh))); all_goals (conv => whnf)
    all_goals first | (exact Ob.mk (by decide)) | (exact Ob.mk (by simp)) | skip
    rotate_right
    · exact absurd (by decide) hh
    (refine CallN.intro (numberM s t 1 (by omega) hs) [] rfl rfl ?_ ?_ ?_; ((repeat' (first | exact rfl | exact trivial | refine And.intro ?_ ?_ | ((conv => whnf); first | exact rfl | exact trivial | refine And.intro ?_ ?_)))); ((repeat' (first | exact rfl | exact trivial | refine And.intro ?_ ?_ | ((conv => whnf); first | exact rfl | exact trivial | refine And.intro ?_ ?_)))); (intro y hy; clear y hy; (repeat' ((conv => whnf); first | refine And.intro ?_ ?_ | exact Cl.mk (by kernel_rfl) | exact Ck.mk (by kernel_rfl) | refine DrawN.mk ?_ | refine CodeN.step hm rfl ?_ | exact trivial | exact rfl | (intro hh; try simp only [decide_eq_true_eq, decide_eq_false_iff_not, beq_iff_eq, beq_eq_false_iff_ne, bne_iff_ne, bne_eq_false_iff_eq, Bool.not_eq_true', Bool.not_eq_false', Bool.not_true, Bool.not_false] at hh; try exact absurd hh (by decide)))); all_goals (conv => whnf); (all_goals first | (exact Ob.mk (by decide)) | skip)))
    (refine RetN.intro () [0, 1, 2] rfl rfl ?_ ?_ ?_; ((repeat' (first | exact rfl | exact trivial | refine And.intro ?_ ?_ | ((conv => whnf); first | exact rfl | exact trivial | refine And.intro ?_ ?_)))); ((repeat' (first | exact rfl | exact trivial | refine And.intro ?_ ?_ | ((conv => whnf); first | exact rfl | exact trivial | refine And.intro ?_ ?_))); all_goals (conv => whnf); all_goals (try simp only [])))
/-- A told thing. -/
theorem rtoldM (s : Bytes) (t : Int) (hs : s.length ≤ 1000000) : Meets Try.prog 36 [.ptr 0 0, .vec 1 2 (fun _ => 0) fun _ => 5]
    [.cells 62 [.str fun _ => s, .int .i64 fun _ => t, .bool fun _ => false], .cells 109 [.ptr 3 0, .int .i64 fun _ => 1, .ptr 4 0, .int .i64 fun _ => 1, .ptr 2 2, .int .i64 fun _ => 4, .ptr 2 3, .int .i64 fun _ => 6, .ptr 2 4, .int .i64 fun _ => 6], .cells 53 [.int .i64 fun _ => 0, .ff, .int .i64 fun _ => 0, .int .i64 fun _ => 0, .int .i64 fun _ => 0], .cells 3 [.int .i64 fun _ => 0], .cells 3 [.int .i64 fun _ => 0]] (Y := List Int × Int × Bool) (RdQ s t [1, 1, 4, 6, 6]) (fun _ => .tup [])
    (fun y => [.cells 62 [.str fun _ => s, .int .i64 fun _ => y.2.1, .bool fun _ => y.2.2], .none, .cells 53 [.int .i64 fun _ => 0, .ff, .int .i64 fun _ => y.1.getD 2 0, .int .i64 fun _ => y.1.getD 3 0, .int .i64 fun _ => y.1.getD 4 0], .cells 3 [.int .i64 fun _ => y.1.getD 0 0], .cells 3 [.int .i64 fun _ => y.1.getD 1 0]]) := by
  refine Meets.intro hm (fn := Try.f36) Try.func36 rfl (by decide) (Nat.le_of_ble_eq_true rfl) (fun _ => rfl) ?_; intro S hok; (conv => whnf)
  (repeat' ((conv => whnf); first | refine And.intro ?_ ?_ | exact Cl.mk (by kernel_rfl) | exact Ck.mk (by kernel_rfl) | refine DrawN.mk ?_ | refine CodeN.step hm rfl ?_ | exact trivial | exact rfl | (intro hh; try simp only [decide_eq_true_eq, decide_eq_false_iff_not, beq_iff_eq, beq_eq_false_iff_ne, bne_iff_ne, bne_eq_false_iff_eq, Bool.not_eq_true', Bool.not_eq_false', Bool.not_true, Bool.not_false] at hh))); all_goals (conv => whnf)
  refine LoopN.intro hm (X := Nat × List Int × Int) (fun x => x.1 ≤ 5 ∧ readL s t (List.take x.1 [1, 1, 4, 6, 6]) = some (x.2.1, x.2.2)) (fun x => 5 - x.1)
    (fun x => [(11, .int .i64 fun _ => (x.1 : Int)), (10, .int .i64 fun _ => 5), (9, .vec 1 2 (fun _ => 0) fun _ => 5), (0, .ptr 0 0)])
    (fun x => [.cells 62 [.str fun _ => s, .int .i64 fun _ => x.2.2, .bool fun _ => false], .cells 109 [.ptr 3 0, .int .i64 fun _ => 1, .ptr 4 0, .int .i64 fun _ => 1, .ptr 2 2, .int .i64 fun _ => 4, .ptr 2 3, .int .i64 fun _ => 6, .ptr 2 4, .int .i64 fun _ => 6], .cells 53 [.int .i64 fun _ => 0, .ff, .int .i64 fun _ => x.2.1.getD 2 0, .int .i64 fun _ => x.2.1.getD 3 0, .int .i64 fun _ => x.2.1.getD 4 0], .cells 3 [.int .i64 fun _ => x.2.1.getD 0 0], .cells 3 [.int .i64 fun _ => x.2.1.getD 1 0]]) (0, [], t) [0, 1, 2, 3, 4] ⟨rfl, rfl, ?_, ?_⟩ ⟨Nat.zero_le _, rfl⟩ (fun x hx => ?_)
  · (repeat' (first | exact rfl | exact trivial | refine And.intro ?_ ?_ | ((conv => whnf); first | exact rfl | exact trivial | refine And.intro ?_ ?_)))
  · (repeat' (first | exact rfl | exact trivial | refine And.intro ?_ ?_ | ((conv => whnf); first | exact rfl | exact trivial | refine And.intro ?_ ?_)))
  · obtain ⟨i, vs, p⟩ := x
    obtain ⟨hi, hr⟩ := hx
    simp only [] at hi hr
    have hvl := readL_len _ _ _ _ hr
    obtain rfl | rfl | rfl | rfl | rfl | rfl : i = 0 ∨ i = 1 ∨ i = 2 ∨ i = 3 ∨ i = 4 ∨ i = 5 := by omega
    · have hw : [1, 1, 4, 6, 6][0]? = some 1 := rfl
      simp only [List.take, List.length_cons, List.length_nil] at hvl
      (repeat' ((conv => whnf); first | refine And.intro ?_ ?_ | exact Cl.mk (by kernel_rfl) | exact Ck.mk (by kernel_rfl) | refine DrawN.mk ?_ | refine CodeN.step hm rfl ?_ | exact trivial | exact rfl | (intro hh; try simp only [decide_eq_true_eq, decide_eq_false_iff_not, beq_iff_eq, beq_eq_false_iff_ne, bne_iff_ne, bne_eq_false_iff_eq, Bool.not_eq_true', Bool.not_eq_false', Bool.not_true, Bool.not_false] at hh))); all_goals (conv => whnf)
      all_goals first | (exact Ob.mk (by decide)) | (exact Ob.mk (by simp)) | skip
      rotate_right
      · exact absurd (by decide) hh
      (refine CallN.intro (numberM s p 1 (by omega) hs) [] rfl rfl ?_ ?_ ?_; ((repeat' (first | exact rfl | exact trivial | refine And.intro ?_ ?_ | ((conv => whnf); first | exact rfl | exact trivial | refine And.intro ?_ ?_)))); ((repeat' (first | exact rfl | exact trivial | refine And.intro ?_ ?_ | ((conv => whnf); first | exact rfl | exact trivial | refine And.intro ?_ ?_)))); (intro y hy; clear y hy; (repeat' ((conv => whnf); first | refine And.intro ?_ ?_ | exact Cl.mk (by kernel_rfl) | exact Ck.mk (by kernel_rfl) | refine DrawN.mk ?_ | refine CodeN.step hm rfl ?_ | exact trivial | exact rfl | (intro hh; try simp only [decide_eq_true_eq, decide_eq_false_iff_not, beq_iff_eq, beq_eq_false_iff_ne, bne_iff_ne, bne_eq_false_iff_eq, Bool.not_eq_true', Bool.not_eq_false', Bool.not_true, Bool.not_false] at hh; try exact absurd hh (by decide)))); all_goals (conv => whnf); (all_goals first | (exact Ob.mk (by decide)) | skip)))
      · have hn : (number s p 1).2.2 ≠ 0 := by assumption
        (refine RetN.intro (vs, p, true) [0, 1, 2, 3, 4] rfl rfl ?_ ?_ ?_; ((repeat' (first | exact rfl | exact trivial | refine And.intro ?_ ?_ | ((conv => whnf); first | exact rfl | exact trivial | refine And.intro ?_ ?_)))); ((repeat' (first | exact rfl | exact trivial | refine And.intro ?_ ?_ | ((conv => whnf); first | exact rfl | exact trivial | refine And.intro ?_ ?_))); all_goals (conv => whnf); all_goals (try simp only [])))
        all_goals first | (simp [hn]; done) | (exact ⟨fun h => (by cases h), fun _ => readL_stop hw hr hn⟩)
      · have hn : (number s p 1).2.2 = 0 := by assumption
        have hg := gd_snoc vs (number s p 1).1
        rw [hvl] at hg
        refine ⟨(1, vs ++ [(number s p 1).1], (number s p 1).2.1), [0, 1, 2, 3, 4], ⟨rfl, rfl, ?_, ?_⟩, ⟨by simp only []; omega, readL_step hw hr hn⟩, by simp only []; omega⟩
        · (repeat' (first | exact rfl | exact trivial | refine And.intro ?_ ?_ | ((conv => whnf); first | exact rfl | exact trivial | refine And.intro ?_ ?_))); all_goals (conv => whnf); all_goals (try simp only [])
          all_goals first | (rw [hg, if_neg (by omega)]; done) | (rw [hg, if_pos (by omega)]; exact num_wrap (by omega) hn) | (simp [hn]; done) | skip
        · (repeat' (first | exact rfl | exact trivial | refine And.intro ?_ ?_ | ((conv => whnf); first | exact rfl | exact trivial | refine And.intro ?_ ?_)))
    · have hw : [1, 1, 4, 6, 6][1]? = some 1 := rfl
      simp only [List.take, List.length_cons, List.length_nil] at hvl
      (repeat' ((conv => whnf); first | refine And.intro ?_ ?_ | exact Cl.mk (by kernel_rfl) | exact Ck.mk (by kernel_rfl) | refine DrawN.mk ?_ | refine CodeN.step hm rfl ?_ | exact trivial | exact rfl | (intro hh; try simp only [decide_eq_true_eq, decide_eq_false_iff_not, beq_iff_eq, beq_eq_false_iff_ne, bne_iff_ne, bne_eq_false_iff_eq, Bool.not_eq_true', Bool.not_eq_false', Bool.not_true, Bool.not_false] at hh))); all_goals (conv => whnf)
      all_goals first | (exact Ob.mk (by decide)) | (exact Ob.mk (by simp)) | skip
      rotate_right
      · exact absurd (by decide) hh
      (refine CallN.intro (numberM s p 1 (by omega) hs) [] rfl rfl ?_ ?_ ?_; ((repeat' (first | exact rfl | exact trivial | refine And.intro ?_ ?_ | ((conv => whnf); first | exact rfl | exact trivial | refine And.intro ?_ ?_)))); ((repeat' (first | exact rfl | exact trivial | refine And.intro ?_ ?_ | ((conv => whnf); first | exact rfl | exact trivial | refine And.intro ?_ ?_)))); (intro y hy; clear y hy; (repeat' ((conv => whnf); first | refine And.intro ?_ ?_ | exact Cl.mk (by kernel_rfl) | exact Ck.mk (by kernel_rfl) | refine DrawN.mk ?_ | refine CodeN.step hm rfl ?_ | exact trivial | exact rfl | (intro hh; try simp only [decide_eq_true_eq, decide_eq_false_iff_not, beq_iff_eq, beq_eq_false_iff_ne, bne_iff_ne, bne_eq_false_iff_eq, Bool.not_eq_true', Bool.not_eq_false', Bool.not_true, Bool.not_false] at hh; try exact absurd hh (by decide)))); all_goals (conv => whnf); (all_goals first | (exact Ob.mk (by decide)) | skip)))
      · have hn : (number s p 1).2.2 ≠ 0 := by assumption
        (refine RetN.intro (vs, p, true) [0, 1, 2, 3, 4] rfl rfl ?_ ?_ ?_; ((repeat' (first | exact rfl | exact trivial | refine And.intro ?_ ?_ | ((conv => whnf); first | exact rfl | exact trivial | refine And.intro ?_ ?_)))); ((repeat' (first | exact rfl | exact trivial | refine And.intro ?_ ?_ | ((conv => whnf); first | exact rfl | exact trivial | refine And.intro ?_ ?_))); all_goals (conv => whnf); all_goals (try simp only [])))
        all_goals first | (simp [hn]; done) | (exact ⟨fun h => (by cases h), fun _ => readL_stop hw hr hn⟩)
      · have hn : (number s p 1).2.2 = 0 := by assumption
        have hg := gd_snoc vs (number s p 1).1
        rw [hvl] at hg
        refine ⟨(2, vs ++ [(number s p 1).1], (number s p 1).2.1), [0, 1, 2, 3, 4], ⟨rfl, rfl, ?_, ?_⟩, ⟨by simp only []; omega, readL_step hw hr hn⟩, by simp only []; omega⟩
        · (repeat' (first | exact rfl | exact trivial | refine And.intro ?_ ?_ | ((conv => whnf); first | exact rfl | exact trivial | refine And.intro ?_ ?_))); all_goals (conv => whnf); all_goals (try simp only [])
          all_goals first | (rw [hg, if_neg (by omega)]; done) | (rw [hg, if_pos (by omega)]; exact num_wrap (by omega) hn) | (simp [hn]; done) | skip
        · (repeat' (first | exact rfl | exact trivial | refine And.intro ?_ ?_ | ((conv => whnf); first | exact rfl | exact trivial | refine And.intro ?_ ?_)))
    · have hw : [1, 1, 4, 6, 6][2]? = some 4 := rfl
      simp only [List.take, List.length_cons, List.length_nil] at hvl
      (repeat' ((conv => whnf); first | refine And.intro ?_ ?_ | exact Cl.mk (by kernel_rfl) | exact Ck.mk (by kernel_rfl) | refine DrawN.mk ?_ | refine CodeN.step hm rfl ?_ | exact trivial | exact rfl | (intro hh; try simp only [decide_eq_true_eq, decide_eq_false_iff_not, beq_iff_eq, beq_eq_false_iff_ne, bne_iff_ne, bne_eq_false_iff_eq, Bool.not_eq_true', Bool.not_eq_false', Bool.not_true, Bool.not_false] at hh))); all_goals (conv => whnf)
      all_goals first | (exact Ob.mk (by decide)) | (exact Ob.mk (by simp)) | skip
      rotate_right
      · exact absurd (by decide) hh
      (refine CallN.intro (numberM s p 4 (by omega) hs) [] rfl rfl ?_ ?_ ?_; ((repeat' (first | exact rfl | exact trivial | refine And.intro ?_ ?_ | ((conv => whnf); first | exact rfl | exact trivial | refine And.intro ?_ ?_)))); ((repeat' (first | exact rfl | exact trivial | refine And.intro ?_ ?_ | ((conv => whnf); first | exact rfl | exact trivial | refine And.intro ?_ ?_)))); (intro y hy; clear y hy; (repeat' ((conv => whnf); first | refine And.intro ?_ ?_ | exact Cl.mk (by kernel_rfl) | exact Ck.mk (by kernel_rfl) | refine DrawN.mk ?_ | refine CodeN.step hm rfl ?_ | exact trivial | exact rfl | (intro hh; try simp only [decide_eq_true_eq, decide_eq_false_iff_not, beq_iff_eq, beq_eq_false_iff_ne, bne_iff_ne, bne_eq_false_iff_eq, Bool.not_eq_true', Bool.not_eq_false', Bool.not_true, Bool.not_false] at hh; try exact absurd hh (by decide)))); all_goals (conv => whnf); (all_goals first | (exact Ob.mk (by decide)) | skip)))
      · have hn : (number s p 4).2.2 ≠ 0 := by assumption
        (refine RetN.intro (vs, p, true) [0, 1, 2, 3, 4] rfl rfl ?_ ?_ ?_; ((repeat' (first | exact rfl | exact trivial | refine And.intro ?_ ?_ | ((conv => whnf); first | exact rfl | exact trivial | refine And.intro ?_ ?_)))); ((repeat' (first | exact rfl | exact trivial | refine And.intro ?_ ?_ | ((conv => whnf); first | exact rfl | exact trivial | refine And.intro ?_ ?_))); all_goals (conv => whnf); all_goals (try simp only [])))
        all_goals first | (simp [hn]; done) | (exact ⟨fun h => (by cases h), fun _ => readL_stop hw hr hn⟩)
      · have hn : (number s p 4).2.2 = 0 := by assumption
        have hg := gd_snoc vs (number s p 4).1
        rw [hvl] at hg
        refine ⟨(3, vs ++ [(number s p 4).1], (number s p 4).2.1), [0, 1, 2, 3, 4], ⟨rfl, rfl, ?_, ?_⟩, ⟨by simp only []; omega, readL_step hw hr hn⟩, by simp only []; omega⟩
        · (repeat' (first | exact rfl | exact trivial | refine And.intro ?_ ?_ | ((conv => whnf); first | exact rfl | exact trivial | refine And.intro ?_ ?_))); all_goals (conv => whnf); all_goals (try simp only [])
          all_goals first | (rw [hg, if_neg (by omega)]; done) | (rw [hg, if_pos (by omega)]; exact num_wrap (by omega) hn) | (simp [hn]; done) | skip
        · (repeat' (first | exact rfl | exact trivial | refine And.intro ?_ ?_ | ((conv => whnf); first | exact rfl | exact trivial | refine And.intro ?_ ?_)))
    · have hw : [1, 1, 4, 6, 6][3]? = some 6 := rfl
      simp only [List.take, List.length_cons, List.length_nil] at hvl
      (repeat' ((conv => whnf); first | refine And.intro ?_ ?_ | exact Cl.mk (by kernel_rfl) | exact Ck.mk (by kernel_rfl) | refine DrawN.mk ?_ | refine CodeN.step hm rfl ?_ | exact trivial | exact rfl | (intro hh; try simp only [decide_eq_true_eq, decide_eq_false_iff_not, beq_iff_eq, beq_eq_false_iff_ne, bne_iff_ne, bne_eq_false_iff_eq, Bool.not_eq_true', Bool.not_eq_false', Bool.not_true, Bool.not_false] at hh))); all_goals (conv => whnf)
      all_goals first | (exact Ob.mk (by decide)) | (exact Ob.mk (by simp)) | skip
      rotate_right
      · exact absurd (by decide) hh
      (refine CallN.intro (numberM s p 6 (by omega) hs) [] rfl rfl ?_ ?_ ?_; ((repeat' (first | exact rfl | exact trivial | refine And.intro ?_ ?_ | ((conv => whnf); first | exact rfl | exact trivial | refine And.intro ?_ ?_)))); ((repeat' (first | exact rfl | exact trivial | refine And.intro ?_ ?_ | ((conv => whnf); first | exact rfl | exact trivial | refine And.intro ?_ ?_)))); (intro y hy; clear y hy; (repeat' ((conv => whnf); first | refine And.intro ?_ ?_ | exact Cl.mk (by kernel_rfl) | exact Ck.mk (by kernel_rfl) | refine DrawN.mk ?_ | refine CodeN.step hm rfl ?_ | exact trivial | exact rfl | (intro hh; try simp only [decide_eq_true_eq, decide_eq_false_iff_not, beq_iff_eq, beq_eq_false_iff_ne, bne_iff_ne, bne_eq_false_iff_eq, Bool.not_eq_true', Bool.not_eq_false', Bool.not_true, Bool.not_false] at hh; try exact absurd hh (by decide)))); all_goals (conv => whnf); (all_goals first | (exact Ob.mk (by decide)) | skip)))
      · have hn : (number s p 6).2.2 ≠ 0 := by assumption
        (refine RetN.intro (vs, p, true) [0, 1, 2, 3, 4] rfl rfl ?_ ?_ ?_; ((repeat' (first | exact rfl | exact trivial | refine And.intro ?_ ?_ | ((conv => whnf); first | exact rfl | exact trivial | refine And.intro ?_ ?_)))); ((repeat' (first | exact rfl | exact trivial | refine And.intro ?_ ?_ | ((conv => whnf); first | exact rfl | exact trivial | refine And.intro ?_ ?_))); all_goals (conv => whnf); all_goals (try simp only [])))
        all_goals first | (simp [hn]; done) | (exact ⟨fun h => (by cases h), fun _ => readL_stop hw hr hn⟩)
      · have hn : (number s p 6).2.2 = 0 := by assumption
        have hg := gd_snoc vs (number s p 6).1
        rw [hvl] at hg
        refine ⟨(4, vs ++ [(number s p 6).1], (number s p 6).2.1), [0, 1, 2, 3, 4], ⟨rfl, rfl, ?_, ?_⟩, ⟨by simp only []; omega, readL_step hw hr hn⟩, by simp only []; omega⟩
        · (repeat' (first | exact rfl | exact trivial | refine And.intro ?_ ?_ | ((conv => whnf); first | exact rfl | exact trivial | refine And.intro ?_ ?_))); all_goals (conv => whnf); all_goals (try simp only [])
          all_goals first | (rw [hg, if_neg (by omega)]; done) | (rw [hg, if_pos (by omega)]; exact num_wrap (by omega) hn) | (simp [hn]; done) | skip
        · (repeat' (first | exact rfl | exact trivial | refine And.intro ?_ ?_ | ((conv => whnf); first | exact rfl | exact trivial | refine And.intro ?_ ?_)))
    · have hw : [1, 1, 4, 6, 6][4]? = some 6 := rfl
      simp only [List.take, List.length_cons, List.length_nil] at hvl
      (repeat' ((conv => whnf); first | refine And.intro ?_ ?_ | exact Cl.mk (by kernel_rfl) | exact Ck.mk (by kernel_rfl) | refine DrawN.mk ?_ | refine CodeN.step hm rfl ?_ | exact trivial | exact rfl | (intro hh; try simp only [decide_eq_true_eq, decide_eq_false_iff_not, beq_iff_eq, beq_eq_false_iff_ne, bne_iff_ne, bne_eq_false_iff_eq, Bool.not_eq_true', Bool.not_eq_false', Bool.not_true, Bool.not_false] at hh))); all_goals (conv => whnf)
      all_goals first | (exact Ob.mk (by decide)) | (exact Ob.mk (by simp)) | skip
      rotate_right
      · exact absurd (by decide) hh
      (refine CallN.intro (numberM s p 6 (by omega) hs) [] rfl rfl ?_ ?_ ?_; ((repeat' (first | exact rfl | exact trivial | refine And.intro ?_ ?_ | ((conv => whnf); first | exact rfl | exact trivial | refine And.intro ?_ ?_)))); ((repeat' (first | exact rfl | exact trivial | refine And.intro ?_ ?_ | ((conv => whnf); first | exact rfl | exact trivial | refine And.intro ?_ ?_)))); (intro y hy; clear y hy; (repeat' ((conv => whnf); first | refine And.intro ?_ ?_ | exact Cl.mk (by kernel_rfl) | exact Ck.mk (by kernel_rfl) | refine DrawN.mk ?_ | refine CodeN.step hm rfl ?_ | exact trivial | exact rfl | (intro hh; try simp only [decide_eq_true_eq, decide_eq_false_iff_not, beq_iff_eq, beq_eq_false_iff_ne, bne_iff_ne, bne_eq_false_iff_eq, Bool.not_eq_true', Bool.not_eq_false', Bool.not_true, Bool.not_false] at hh; try exact absurd hh (by decide)))); all_goals (conv => whnf); (all_goals first | (exact Ob.mk (by decide)) | skip)))
      · have hn : (number s p 6).2.2 ≠ 0 := by assumption
        (refine RetN.intro (vs, p, true) [0, 1, 2, 3, 4] rfl rfl ?_ ?_ ?_; ((repeat' (first | exact rfl | exact trivial | refine And.intro ?_ ?_ | ((conv => whnf); first | exact rfl | exact trivial | refine And.intro ?_ ?_)))); ((repeat' (first | exact rfl | exact trivial | refine And.intro ?_ ?_ | ((conv => whnf); first | exact rfl | exact trivial | refine And.intro ?_ ?_))); all_goals (conv => whnf); all_goals (try simp only [])))
        all_goals first | (simp [hn]; done) | (exact ⟨fun h => (by cases h), fun _ => readL_stop hw hr hn⟩)
      · have hn : (number s p 6).2.2 = 0 := by assumption
        have hg := gd_snoc vs (number s p 6).1
        rw [hvl] at hg
        refine ⟨(5, vs ++ [(number s p 6).1], (number s p 6).2.1), [0, 1, 2, 3, 4], ⟨rfl, rfl, ?_, ?_⟩, ⟨by simp only []; omega, readL_step hw hr hn⟩, by simp only []; omega⟩
        · (repeat' (first | exact rfl | exact trivial | refine And.intro ?_ ?_ | ((conv => whnf); first | exact rfl | exact trivial | refine And.intro ?_ ?_))); all_goals (conv => whnf); all_goals (try simp only [])
          all_goals first | (rw [hg, if_neg (by omega)]; done) | (rw [hg, if_pos (by omega)]; exact num_wrap (by omega) hn) | (simp [hn]; done) | skip
        · (repeat' (first | exact rfl | exact trivial | refine And.intro ?_ ?_ | ((conv => whnf); first | exact rfl | exact trivial | refine And.intro ?_ ?_)))
    · (repeat' ((conv => whnf); first | refine And.intro ?_ ?_ | exact Cl.mk (by kernel_rfl) | exact Ck.mk (by kernel_rfl) | refine DrawN.mk ?_ | refine CodeN.step hm rfl ?_ | exact trivial | exact rfl | (intro hh; try simp only [decide_eq_true_eq, decide_eq_false_iff_not, beq_iff_eq, beq_eq_false_iff_ne, bne_iff_ne, bne_eq_false_iff_eq, Bool.not_eq_true', Bool.not_eq_false', Bool.not_true, Bool.not_false] at hh))); all_goals (conv => whnf)
      all_goals first | (exfalso; exact absurd hh (by decide)) | skip
      (refine RetN.intro (vs, p, false) [0, 1, 2, 3, 4] rfl rfl ?_ ?_ ?_; ((repeat' (first | exact rfl | exact trivial | refine And.intro ?_ ?_ | ((conv => whnf); first | exact rfl | exact trivial | refine And.intro ?_ ?_)))); ((repeat' (first | exact rfl | exact trivial | refine And.intro ?_ ?_ | ((conv => whnf); first | exact rfl | exact trivial | refine And.intro ?_ ?_))); all_goals (conv => whnf); all_goals (try simp only [])))
      exact ⟨fun _ => hr, fun h => (by cases h)⟩
/-- A told thing. Once wrong. -/
theorem rtoldMW (s : Bytes) (t : Int) (hs : s.length ≤ 1000000) : Meets Try.prog 36 [.ptr 0 0, .vec 1 2 (fun _ => 0) fun _ => 5]
    [.cells 62 [.str fun _ => s, .int .i64 fun _ => t, .bool fun _ => true], .cells 109 [.ptr 3 0, .int .i64 fun _ => 1, .ptr 4 0, .int .i64 fun _ => 1, .ptr 2 2, .int .i64 fun _ => 4, .ptr 2 3, .int .i64 fun _ => 6, .ptr 2 4, .int .i64 fun _ => 6], .cells 53 [.int .i64 fun _ => 0, .ff, .int .i64 fun _ => 0, .int .i64 fun _ => 0, .int .i64 fun _ => 0], .cells 3 [.int .i64 fun _ => 0], .cells 3 [.int .i64 fun _ => 0]] (Y := Unit) (fun _ => True) (fun _ => .tup [])
    (fun y => [.cells 62 [.str fun _ => s, .int .i64 fun _ => t, .bool fun _ => true], .none, .cells 53 [.int .i64 fun _ => 0, .ff, .int .i64 fun _ => 0, .int .i64 fun _ => 0, .int .i64 fun _ => 0], .cells 3 [.int .i64 fun _ => 0], .cells 3 [.int .i64 fun _ => 0]]) := by
  refine Meets.intro hm (fn := Try.f36) Try.func36 rfl (by decide) (Nat.le_of_ble_eq_true rfl) (fun _ => rfl) ?_; intro S hok; (conv => whnf)
  (repeat' ((conv => whnf); first | refine And.intro ?_ ?_ | exact Cl.mk (by kernel_rfl) | exact Ck.mk (by kernel_rfl) | refine DrawN.mk ?_ | refine CodeN.step hm rfl ?_ | exact trivial | exact rfl | (intro hh; try simp only [decide_eq_true_eq, decide_eq_false_iff_not, beq_iff_eq, beq_eq_false_iff_ne, bne_iff_ne, bne_eq_false_iff_eq, Bool.not_eq_true', Bool.not_eq_false', Bool.not_true, Bool.not_false] at hh))); all_goals (conv => whnf)
  refine LoopN.intro hm (X := Unit) (fun x => True) (fun x => 0)
    (fun x => [(11, .int .i64 fun _ => 0), (10, .int .i64 fun _ => 5), (9, .vec 1 2 (fun _ => 0) fun _ => 5), (0, .ptr 0 0)])
    (fun x => [.cells 62 [.str fun _ => s, .int .i64 fun _ => t, .bool fun _ => true], .cells 109 [.ptr 3 0, .int .i64 fun _ => 1, .ptr 4 0, .int .i64 fun _ => 1, .ptr 2 2, .int .i64 fun _ => 4, .ptr 2 3, .int .i64 fun _ => 6, .ptr 2 4, .int .i64 fun _ => 6], .cells 53 [.int .i64 fun _ => 0, .ff, .int .i64 fun _ => 0, .int .i64 fun _ => 0, .int .i64 fun _ => 0], .cells 3 [.int .i64 fun _ => 0], .cells 3 [.int .i64 fun _ => 0]]) () [0, 1, 2, 3, 4] ⟨rfl, rfl, ?_, ?_⟩ trivial (fun x hx => ?_)
  · (repeat' (first | exact rfl | exact trivial | refine And.intro ?_ ?_ | ((conv => whnf); first | exact rfl | exact trivial | refine And.intro ?_ ?_)))
  · (repeat' (first | exact rfl | exact trivial | refine And.intro ?_ ?_ | ((conv => whnf); first | exact rfl | exact trivial | refine And.intro ?_ ?_)))
  · (repeat' ((conv => whnf); first | refine And.intro ?_ ?_ | exact Cl.mk (by kernel_rfl) | exact Ck.mk (by kernel_rfl) | refine DrawN.mk ?_ | refine CodeN.step hm rfl ?_ | exact trivial | exact rfl | (intro hh; try simp only [decide_eq_true_eq, decide_eq_false_iff_not, beq_iff_eq, beq_eq_false_iff_ne, bne_iff_ne, bne_eq_false_iff_eq, Bool.not_eq_true', Bool.not_eq_false', Bool.not_true, Bool.not_false] at hh))); all_goals (conv => whnf)
    all_goals first | (exact Ob.mk (by decide)) | (exact Ob.mk (by simp)) | skip
    rotate_right
    · exact absurd (by decide) hh
    (refine CallN.intro (numberM s t 1 (by omega) hs) [] rfl rfl ?_ ?_ ?_; ((repeat' (first | exact rfl | exact trivial | refine And.intro ?_ ?_ | ((conv => whnf); first | exact rfl | exact trivial | refine And.intro ?_ ?_)))); ((repeat' (first | exact rfl | exact trivial | refine And.intro ?_ ?_ | ((conv => whnf); first | exact rfl | exact trivial | refine And.intro ?_ ?_)))); (intro y hy; clear y hy; (repeat' ((conv => whnf); first | refine And.intro ?_ ?_ | exact Cl.mk (by kernel_rfl) | exact Ck.mk (by kernel_rfl) | refine DrawN.mk ?_ | refine CodeN.step hm rfl ?_ | exact trivial | exact rfl | (intro hh; try simp only [decide_eq_true_eq, decide_eq_false_iff_not, beq_iff_eq, beq_eq_false_iff_ne, bne_iff_ne, bne_eq_false_iff_eq, Bool.not_eq_true', Bool.not_eq_false', Bool.not_true, Bool.not_false] at hh; try exact absurd hh (by decide)))); all_goals (conv => whnf); (all_goals first | (exact Ob.mk (by decide)) | skip)))
    (refine RetN.intro () [0, 1, 2, 3, 4] rfl rfl ?_ ?_ ?_; ((repeat' (first | exact rfl | exact trivial | refine And.intro ?_ ?_ | ((conv => whnf); first | exact rfl | exact trivial | refine And.intro ?_ ?_)))); ((repeat' (first | exact rfl | exact trivial | refine And.intro ?_ ?_ | ((conv => whnf); first | exact rfl | exact trivial | refine And.intro ?_ ?_))); all_goals (conv => whnf); all_goals (try simp only [])))
/-- The numbers ahead of the lists. -/
theorem rheadM (s : Bytes) (t : Int) (hs : s.length ≤ 1000000) : Meets Try.prog 36 [.ptr 0 0, .vec 1 2 (fun _ => 0) fun _ => 9]
    [.cells 62 [.str fun _ => s, .int .i64 fun _ => t, .bool fun _ => false], .cells 109 [.ptr 2 0, .int .i64 fun _ => 1, .ptr 3 0, .int .i64 fun _ => 1, .ptr 2 3, .int .i64 fun _ => 4, .ptr 2 4, .int .i64 fun _ => 1, .ptr 2 5, .int .i64 fun _ => 4, .ptr 2 6, .int .i64 fun _ => 4, .ptr 2 7, .int .i64 fun _ => 1, .ptr 2 8, .int .i64 fun _ => 6, .ptr 2 9, .int .i64 fun _ => 2], .cells 28 [.int .i64 fun _ => 0, .int .i64 fun _ => 0, .snil, .int .i64 fun _ => 0, .int .i64 fun _ => 0, .int .i64 fun _ => 0, .int .i64 fun _ => 0, .int .i64 fun _ => 0, .int .i64 fun _ => 0, .int .i64 fun _ => 0, .snil], .cells 3 [.int .i64 fun _ => 0]] (Y := List Int × Int × Bool) (RdQ s t [1, 1, 4, 1, 4, 4, 1, 6, 2]) (fun _ => .tup [])
    (fun y => [.cells 62 [.str fun _ => s, .int .i64 fun _ => y.2.1, .bool fun _ => y.2.2], .none, .cells 28 [.int .i64 fun _ => y.1.getD 0 0, .int .i64 fun _ => 0, .snil, .int .i64 fun _ => y.1.getD 2 0, .int .i64 fun _ => y.1.getD 3 0, .int .i64 fun _ => y.1.getD 4 0, .int .i64 fun _ => y.1.getD 5 0, .int .i64 fun _ => y.1.getD 6 0, .int .i64 fun _ => y.1.getD 7 0, .int .i64 fun _ => y.1.getD 8 0, .snil], .cells 3 [.int .i64 fun _ => y.1.getD 1 0]]) := by
  refine Meets.intro hm (fn := Try.f36) Try.func36 rfl (by decide) (Nat.le_of_ble_eq_true rfl) (fun _ => rfl) ?_; intro S hok; (conv => whnf)
  (repeat' ((conv => whnf); first | refine And.intro ?_ ?_ | exact Cl.mk (by kernel_rfl) | exact Ck.mk (by kernel_rfl) | refine DrawN.mk ?_ | refine CodeN.step hm rfl ?_ | exact trivial | exact rfl | (intro hh; try simp only [decide_eq_true_eq, decide_eq_false_iff_not, beq_iff_eq, beq_eq_false_iff_ne, bne_iff_ne, bne_eq_false_iff_eq, Bool.not_eq_true', Bool.not_eq_false', Bool.not_true, Bool.not_false] at hh))); all_goals (conv => whnf)
  refine LoopN.intro hm (X := Nat × List Int × Int) (fun x => x.1 ≤ 9 ∧ readL s t (List.take x.1 [1, 1, 4, 1, 4, 4, 1, 6, 2]) = some (x.2.1, x.2.2)) (fun x => 9 - x.1)
    (fun x => [(11, .int .i64 fun _ => (x.1 : Int)), (10, .int .i64 fun _ => 9), (9, .vec 1 2 (fun _ => 0) fun _ => 9), (0, .ptr 0 0)])
    (fun x => [.cells 62 [.str fun _ => s, .int .i64 fun _ => x.2.2, .bool fun _ => false], .cells 109 [.ptr 2 0, .int .i64 fun _ => 1, .ptr 3 0, .int .i64 fun _ => 1, .ptr 2 3, .int .i64 fun _ => 4, .ptr 2 4, .int .i64 fun _ => 1, .ptr 2 5, .int .i64 fun _ => 4, .ptr 2 6, .int .i64 fun _ => 4, .ptr 2 7, .int .i64 fun _ => 1, .ptr 2 8, .int .i64 fun _ => 6, .ptr 2 9, .int .i64 fun _ => 2], .cells 28 [.int .i64 fun _ => x.2.1.getD 0 0, .int .i64 fun _ => 0, .snil, .int .i64 fun _ => x.2.1.getD 2 0, .int .i64 fun _ => x.2.1.getD 3 0, .int .i64 fun _ => x.2.1.getD 4 0, .int .i64 fun _ => x.2.1.getD 5 0, .int .i64 fun _ => x.2.1.getD 6 0, .int .i64 fun _ => x.2.1.getD 7 0, .int .i64 fun _ => x.2.1.getD 8 0, .snil], .cells 3 [.int .i64 fun _ => x.2.1.getD 1 0]]) (0, [], t) [0, 1, 2, 3] ⟨rfl, rfl, ?_, ?_⟩ ⟨Nat.zero_le _, rfl⟩ (fun x hx => ?_)
  · (repeat' (first | exact rfl | exact trivial | refine And.intro ?_ ?_ | ((conv => whnf); first | exact rfl | exact trivial | refine And.intro ?_ ?_)))
  · (repeat' (first | exact rfl | exact trivial | refine And.intro ?_ ?_ | ((conv => whnf); first | exact rfl | exact trivial | refine And.intro ?_ ?_)))
  · obtain ⟨i, vs, p⟩ := x
    obtain ⟨hi, hr⟩ := hx
    simp only [] at hi hr
    have hvl := readL_len _ _ _ _ hr
    obtain rfl | rfl | rfl | rfl | rfl | rfl | rfl | rfl | rfl | rfl : i = 0 ∨ i = 1 ∨ i = 2 ∨ i = 3 ∨ i = 4 ∨ i = 5 ∨ i = 6 ∨ i = 7 ∨ i = 8 ∨ i = 9 := by omega
    · have hw : [1, 1, 4, 1, 4, 4, 1, 6, 2][0]? = some 1 := rfl
      simp only [List.take, List.length_cons, List.length_nil] at hvl
      (repeat' ((conv => whnf); first | refine And.intro ?_ ?_ | exact Cl.mk (by kernel_rfl) | exact Ck.mk (by kernel_rfl) | refine DrawN.mk ?_ | refine CodeN.step hm rfl ?_ | exact trivial | exact rfl | (intro hh; try simp only [decide_eq_true_eq, decide_eq_false_iff_not, beq_iff_eq, beq_eq_false_iff_ne, bne_iff_ne, bne_eq_false_iff_eq, Bool.not_eq_true', Bool.not_eq_false', Bool.not_true, Bool.not_false] at hh))); all_goals (conv => whnf)
      all_goals first | (exact Ob.mk (by decide)) | (exact Ob.mk (by simp)) | skip
      rotate_right
      · exact absurd (by decide) hh
      (refine CallN.intro (numberM s p 1 (by omega) hs) [] rfl rfl ?_ ?_ ?_; ((repeat' (first | exact rfl | exact trivial | refine And.intro ?_ ?_ | ((conv => whnf); first | exact rfl | exact trivial | refine And.intro ?_ ?_)))); ((repeat' (first | exact rfl | exact trivial | refine And.intro ?_ ?_ | ((conv => whnf); first | exact rfl | exact trivial | refine And.intro ?_ ?_)))); (intro y hy; clear y hy; (repeat' ((conv => whnf); first | refine And.intro ?_ ?_ | exact Cl.mk (by kernel_rfl) | exact Ck.mk (by kernel_rfl) | refine DrawN.mk ?_ | refine CodeN.step hm rfl ?_ | exact trivial | exact rfl | (intro hh; try simp only [decide_eq_true_eq, decide_eq_false_iff_not, beq_iff_eq, beq_eq_false_iff_ne, bne_iff_ne, bne_eq_false_iff_eq, Bool.not_eq_true', Bool.not_eq_false', Bool.not_true, Bool.not_false] at hh; try exact absurd hh (by decide)))); all_goals (conv => whnf); (all_goals first | (exact Ob.mk (by decide)) | skip)))
      · have hn : (number s p 1).2.2 ≠ 0 := by assumption
        (refine RetN.intro (vs, p, true) [0, 1, 2, 3] rfl rfl ?_ ?_ ?_; ((repeat' (first | exact rfl | exact trivial | refine And.intro ?_ ?_ | ((conv => whnf); first | exact rfl | exact trivial | refine And.intro ?_ ?_)))); ((repeat' (first | exact rfl | exact trivial | refine And.intro ?_ ?_ | ((conv => whnf); first | exact rfl | exact trivial | refine And.intro ?_ ?_))); all_goals (conv => whnf); all_goals (try simp only [])))
        all_goals first | (simp [hn]; done) | (exact ⟨fun h => (by cases h), fun _ => readL_stop hw hr hn⟩)
      · have hn : (number s p 1).2.2 = 0 := by assumption
        have hg := gd_snoc vs (number s p 1).1
        rw [hvl] at hg
        refine ⟨(1, vs ++ [(number s p 1).1], (number s p 1).2.1), [0, 1, 2, 3], ⟨rfl, rfl, ?_, ?_⟩, ⟨by simp only []; omega, readL_step hw hr hn⟩, by simp only []; omega⟩
        · (repeat' (first | exact rfl | exact trivial | refine And.intro ?_ ?_ | ((conv => whnf); first | exact rfl | exact trivial | refine And.intro ?_ ?_))); all_goals (conv => whnf); all_goals (try simp only [])
          all_goals first | (rw [hg, if_neg (by omega)]; done) | (rw [hg, if_pos (by omega)]; exact num_wrap (by omega) hn) | (simp [hn]; done) | skip
        · (repeat' (first | exact rfl | exact trivial | refine And.intro ?_ ?_ | ((conv => whnf); first | exact rfl | exact trivial | refine And.intro ?_ ?_)))
    · have hw : [1, 1, 4, 1, 4, 4, 1, 6, 2][1]? = some 1 := rfl
      simp only [List.take, List.length_cons, List.length_nil] at hvl
      (repeat' ((conv => whnf); first | refine And.intro ?_ ?_ | exact Cl.mk (by kernel_rfl) | exact Ck.mk (by kernel_rfl) | refine DrawN.mk ?_ | refine CodeN.step hm rfl ?_ | exact trivial | exact rfl | (intro hh; try simp only [decide_eq_true_eq, decide_eq_false_iff_not, beq_iff_eq, beq_eq_false_iff_ne, bne_iff_ne, bne_eq_false_iff_eq, Bool.not_eq_true', Bool.not_eq_false', Bool.not_true, Bool.not_false] at hh))); all_goals (conv => whnf)
      all_goals first | (exact Ob.mk (by decide)) | (exact Ob.mk (by simp)) | skip
      rotate_right
      · exact absurd (by decide) hh
      (refine CallN.intro (numberM s p 1 (by omega) hs) [] rfl rfl ?_ ?_ ?_; ((repeat' (first | exact rfl | exact trivial | refine And.intro ?_ ?_ | ((conv => whnf); first | exact rfl | exact trivial | refine And.intro ?_ ?_)))); ((repeat' (first | exact rfl | exact trivial | refine And.intro ?_ ?_ | ((conv => whnf); first | exact rfl | exact trivial | refine And.intro ?_ ?_)))); (intro y hy; clear y hy; (repeat' ((conv => whnf); first | refine And.intro ?_ ?_ | exact Cl.mk (by kernel_rfl) | exact Ck.mk (by kernel_rfl) | refine DrawN.mk ?_ | refine CodeN.step hm rfl ?_ | exact trivial | exact rfl | (intro hh; try simp only [decide_eq_true_eq, decide_eq_false_iff_not, beq_iff_eq, beq_eq_false_iff_ne, bne_iff_ne, bne_eq_false_iff_eq, Bool.not_eq_true', Bool.not_eq_false', Bool.not_true, Bool.not_false] at hh; try exact absurd hh (by decide)))); all_goals (conv => whnf); (all_goals first | (exact Ob.mk (by decide)) | skip)))
      · have hn : (number s p 1).2.2 ≠ 0 := by assumption
        (refine RetN.intro (vs, p, true) [0, 1, 2, 3] rfl rfl ?_ ?_ ?_; ((repeat' (first | exact rfl | exact trivial | refine And.intro ?_ ?_ | ((conv => whnf); first | exact rfl | exact trivial | refine And.intro ?_ ?_)))); ((repeat' (first | exact rfl | exact trivial | refine And.intro ?_ ?_ | ((conv => whnf); first | exact rfl | exact trivial | refine And.intro ?_ ?_))); all_goals (conv => whnf); all_goals (try simp only [])))
        all_goals first | (simp [hn]; done) | (exact ⟨fun h => (by cases h), fun _ => readL_stop hw hr hn⟩)
      · have hn : (number s p 1).2.2 = 0 := by assumption
        have hg := gd_snoc vs (number s p 1).1
        rw [hvl] at hg
        refine ⟨(2, vs ++ [(number s p 1).1], (number s p 1).2.1), [0, 1, 2, 3], ⟨rfl, rfl, ?_, ?_⟩, ⟨by simp only []; omega, readL_step hw hr hn⟩, by simp only []; omega⟩
        · (repeat' (first | exact rfl | exact trivial | refine And.intro ?_ ?_ | ((conv => whnf); first | exact rfl | exact trivial | refine And.intro ?_ ?_))); all_goals (conv => whnf); all_goals (try simp only [])
          all_goals first | (rw [hg, if_neg (by omega)]; done) | (rw [hg, if_pos (by omega)]; exact num_wrap (by omega) hn) | (simp [hn]; done) | skip
        · (repeat' (first | exact rfl | exact trivial | refine And.intro ?_ ?_ | ((conv => whnf); first | exact rfl | exact trivial | refine And.intro ?_ ?_)))
    · have hw : [1, 1, 4, 1, 4, 4, 1, 6, 2][2]? = some 4 := rfl
      simp only [List.take, List.length_cons, List.length_nil] at hvl
      (repeat' ((conv => whnf); first | refine And.intro ?_ ?_ | exact Cl.mk (by kernel_rfl) | exact Ck.mk (by kernel_rfl) | refine DrawN.mk ?_ | refine CodeN.step hm rfl ?_ | exact trivial | exact rfl | (intro hh; try simp only [decide_eq_true_eq, decide_eq_false_iff_not, beq_iff_eq, beq_eq_false_iff_ne, bne_iff_ne, bne_eq_false_iff_eq, Bool.not_eq_true', Bool.not_eq_false', Bool.not_true, Bool.not_false] at hh))); all_goals (conv => whnf)
      all_goals first | (exact Ob.mk (by decide)) | (exact Ob.mk (by simp)) | skip
      rotate_right
      · exact absurd (by decide) hh
      (refine CallN.intro (numberM s p 4 (by omega) hs) [] rfl rfl ?_ ?_ ?_; ((repeat' (first | exact rfl | exact trivial | refine And.intro ?_ ?_ | ((conv => whnf); first | exact rfl | exact trivial | refine And.intro ?_ ?_)))); ((repeat' (first | exact rfl | exact trivial | refine And.intro ?_ ?_ | ((conv => whnf); first | exact rfl | exact trivial | refine And.intro ?_ ?_)))); (intro y hy; clear y hy; (repeat' ((conv => whnf); first | refine And.intro ?_ ?_ | exact Cl.mk (by kernel_rfl) | exact Ck.mk (by kernel_rfl) | refine DrawN.mk ?_ | refine CodeN.step hm rfl ?_ | exact trivial | exact rfl | (intro hh; try simp only [decide_eq_true_eq, decide_eq_false_iff_not, beq_iff_eq, beq_eq_false_iff_ne, bne_iff_ne, bne_eq_false_iff_eq, Bool.not_eq_true', Bool.not_eq_false', Bool.not_true, Bool.not_false] at hh; try exact absurd hh (by decide)))); all_goals (conv => whnf); (all_goals first | (exact Ob.mk (by decide)) | skip)))
      · have hn : (number s p 4).2.2 ≠ 0 := by assumption
        (refine RetN.intro (vs, p, true) [0, 1, 2, 3] rfl rfl ?_ ?_ ?_; ((repeat' (first | exact rfl | exact trivial | refine And.intro ?_ ?_ | ((conv => whnf); first | exact rfl | exact trivial | refine And.intro ?_ ?_)))); ((repeat' (first | exact rfl | exact trivial | refine And.intro ?_ ?_ | ((conv => whnf); first | exact rfl | exact trivial | refine And.intro ?_ ?_))); all_goals (conv => whnf); all_goals (try simp only [])))
        all_goals first | (simp [hn]; done) | (exact ⟨fun h => (by cases h), fun _ => readL_stop hw hr hn⟩)
      · have hn : (number s p 4).2.2 = 0 := by assumption
        have hg := gd_snoc vs (number s p 4).1
        rw [hvl] at hg
        refine ⟨(3, vs ++ [(number s p 4).1], (number s p 4).2.1), [0, 1, 2, 3], ⟨rfl, rfl, ?_, ?_⟩, ⟨by simp only []; omega, readL_step hw hr hn⟩, by simp only []; omega⟩
        · (repeat' (first | exact rfl | exact trivial | refine And.intro ?_ ?_ | ((conv => whnf); first | exact rfl | exact trivial | refine And.intro ?_ ?_))); all_goals (conv => whnf); all_goals (try simp only [])
          all_goals first | (rw [hg, if_neg (by omega)]; done) | (rw [hg, if_pos (by omega)]; exact num_wrap (by omega) hn) | (simp [hn]; done) | skip
        · (repeat' (first | exact rfl | exact trivial | refine And.intro ?_ ?_ | ((conv => whnf); first | exact rfl | exact trivial | refine And.intro ?_ ?_)))
    · have hw : [1, 1, 4, 1, 4, 4, 1, 6, 2][3]? = some 1 := rfl
      simp only [List.take, List.length_cons, List.length_nil] at hvl
      (repeat' ((conv => whnf); first | refine And.intro ?_ ?_ | exact Cl.mk (by kernel_rfl) | exact Ck.mk (by kernel_rfl) | refine DrawN.mk ?_ | refine CodeN.step hm rfl ?_ | exact trivial | exact rfl | (intro hh; try simp only [decide_eq_true_eq, decide_eq_false_iff_not, beq_iff_eq, beq_eq_false_iff_ne, bne_iff_ne, bne_eq_false_iff_eq, Bool.not_eq_true', Bool.not_eq_false', Bool.not_true, Bool.not_false] at hh))); all_goals (conv => whnf)
      all_goals first | (exact Ob.mk (by decide)) | (exact Ob.mk (by simp)) | skip
      rotate_right
      · exact absurd (by decide) hh
      (refine CallN.intro (numberM s p 1 (by omega) hs) [] rfl rfl ?_ ?_ ?_; ((repeat' (first | exact rfl | exact trivial | refine And.intro ?_ ?_ | ((conv => whnf); first | exact rfl | exact trivial | refine And.intro ?_ ?_)))); ((repeat' (first | exact rfl | exact trivial | refine And.intro ?_ ?_ | ((conv => whnf); first | exact rfl | exact trivial | refine And.intro ?_ ?_)))); (intro y hy; clear y hy; (repeat' ((conv => whnf); first | refine And.intro ?_ ?_ | exact Cl.mk (by kernel_rfl) | exact Ck.mk (by kernel_rfl) | refine DrawN.mk ?_ | refine CodeN.step hm rfl ?_ | exact trivial | exact rfl | (intro hh; try simp only [decide_eq_true_eq, decide_eq_false_iff_not, beq_iff_eq, beq_eq_false_iff_ne, bne_iff_ne, bne_eq_false_iff_eq, Bool.not_eq_true', Bool.not_eq_false', Bool.not_true, Bool.not_false] at hh; try exact absurd hh (by decide)))); all_goals (conv => whnf); (all_goals first | (exact Ob.mk (by decide)) | skip)))
      · have hn : (number s p 1).2.2 ≠ 0 := by assumption
        (refine RetN.intro (vs, p, true) [0, 1, 2, 3] rfl rfl ?_ ?_ ?_; ((repeat' (first | exact rfl | exact trivial | refine And.intro ?_ ?_ | ((conv => whnf); first | exact rfl | exact trivial | refine And.intro ?_ ?_)))); ((repeat' (first | exact rfl | exact trivial | refine And.intro ?_ ?_ | ((conv => whnf); first | exact rfl | exact trivial | refine And.intro ?_ ?_))); all_goals (conv => whnf); all_goals (try simp only [])))
        all_goals first | (simp [hn]; done) | (exact ⟨fun h => (by cases h), fun _ => readL_stop hw hr hn⟩)
      · have hn : (number s p 1).2.2 = 0 := by assumption
        have hg := gd_snoc vs (number s p 1).1
        rw [hvl] at hg
        refine ⟨(4, vs ++ [(number s p 1).1], (number s p 1).2.1), [0, 1, 2, 3], ⟨rfl, rfl, ?_, ?_⟩, ⟨by simp only []; omega, readL_step hw hr hn⟩, by simp only []; omega⟩
        · (repeat' (first | exact rfl | exact trivial | refine And.intro ?_ ?_ | ((conv => whnf); first | exact rfl | exact trivial | refine And.intro ?_ ?_))); all_goals (conv => whnf); all_goals (try simp only [])
          all_goals first | (rw [hg, if_neg (by omega)]; done) | (rw [hg, if_pos (by omega)]; exact num_wrap (by omega) hn) | (simp [hn]; done) | skip
        · (repeat' (first | exact rfl | exact trivial | refine And.intro ?_ ?_ | ((conv => whnf); first | exact rfl | exact trivial | refine And.intro ?_ ?_)))
    · have hw : [1, 1, 4, 1, 4, 4, 1, 6, 2][4]? = some 4 := rfl
      simp only [List.take, List.length_cons, List.length_nil] at hvl
      (repeat' ((conv => whnf); first | refine And.intro ?_ ?_ | exact Cl.mk (by kernel_rfl) | exact Ck.mk (by kernel_rfl) | refine DrawN.mk ?_ | refine CodeN.step hm rfl ?_ | exact trivial | exact rfl | (intro hh; try simp only [decide_eq_true_eq, decide_eq_false_iff_not, beq_iff_eq, beq_eq_false_iff_ne, bne_iff_ne, bne_eq_false_iff_eq, Bool.not_eq_true', Bool.not_eq_false', Bool.not_true, Bool.not_false] at hh))); all_goals (conv => whnf)
      all_goals first | (exact Ob.mk (by decide)) | (exact Ob.mk (by simp)) | skip
      rotate_right
      · exact absurd (by decide) hh
      (refine CallN.intro (numberM s p 4 (by omega) hs) [] rfl rfl ?_ ?_ ?_; ((repeat' (first | exact rfl | exact trivial | refine And.intro ?_ ?_ | ((conv => whnf); first | exact rfl | exact trivial | refine And.intro ?_ ?_)))); ((repeat' (first | exact rfl | exact trivial | refine And.intro ?_ ?_ | ((conv => whnf); first | exact rfl | exact trivial | refine And.intro ?_ ?_)))); (intro y hy; clear y hy; (repeat' ((conv => whnf); first | refine And.intro ?_ ?_ | exact Cl.mk (by kernel_rfl) | exact Ck.mk (by kernel_rfl) | refine DrawN.mk ?_ | refine CodeN.step hm rfl ?_ | exact trivial | exact rfl | (intro hh; try simp only [decide_eq_true_eq, decide_eq_false_iff_not, beq_iff_eq, beq_eq_false_iff_ne, bne_iff_ne, bne_eq_false_iff_eq, Bool.not_eq_true', Bool.not_eq_false', Bool.not_true, Bool.not_false] at hh; try exact absurd hh (by decide)))); all_goals (conv => whnf); (all_goals first | (exact Ob.mk (by decide)) | skip)))
      · have hn : (number s p 4).2.2 ≠ 0 := by assumption
        (refine RetN.intro (vs, p, true) [0, 1, 2, 3] rfl rfl ?_ ?_ ?_; ((repeat' (first | exact rfl | exact trivial | refine And.intro ?_ ?_ | ((conv => whnf); first | exact rfl | exact trivial | refine And.intro ?_ ?_)))); ((repeat' (first | exact rfl | exact trivial | refine And.intro ?_ ?_ | ((conv => whnf); first | exact rfl | exact trivial | refine And.intro ?_ ?_))); all_goals (conv => whnf); all_goals (try simp only [])))
        all_goals first | (simp [hn]; done) | (exact ⟨fun h => (by cases h), fun _ => readL_stop hw hr hn⟩)
      · have hn : (number s p 4).2.2 = 0 := by assumption
        have hg := gd_snoc vs (number s p 4).1
        rw [hvl] at hg
        refine ⟨(5, vs ++ [(number s p 4).1], (number s p 4).2.1), [0, 1, 2, 3], ⟨rfl, rfl, ?_, ?_⟩, ⟨by simp only []; omega, readL_step hw hr hn⟩, by simp only []; omega⟩
        · (repeat' (first | exact rfl | exact trivial | refine And.intro ?_ ?_ | ((conv => whnf); first | exact rfl | exact trivial | refine And.intro ?_ ?_))); all_goals (conv => whnf); all_goals (try simp only [])
          all_goals first | (rw [hg, if_neg (by omega)]; done) | (rw [hg, if_pos (by omega)]; exact num_wrap (by omega) hn) | (simp [hn]; done) | skip
        · (repeat' (first | exact rfl | exact trivial | refine And.intro ?_ ?_ | ((conv => whnf); first | exact rfl | exact trivial | refine And.intro ?_ ?_)))
    · have hw : [1, 1, 4, 1, 4, 4, 1, 6, 2][5]? = some 4 := rfl
      simp only [List.take, List.length_cons, List.length_nil] at hvl
      (repeat' ((conv => whnf); first | refine And.intro ?_ ?_ | exact Cl.mk (by kernel_rfl) | exact Ck.mk (by kernel_rfl) | refine DrawN.mk ?_ | refine CodeN.step hm rfl ?_ | exact trivial | exact rfl | (intro hh; try simp only [decide_eq_true_eq, decide_eq_false_iff_not, beq_iff_eq, beq_eq_false_iff_ne, bne_iff_ne, bne_eq_false_iff_eq, Bool.not_eq_true', Bool.not_eq_false', Bool.not_true, Bool.not_false] at hh))); all_goals (conv => whnf)
      all_goals first | (exact Ob.mk (by decide)) | (exact Ob.mk (by simp)) | skip
      rotate_right
      · exact absurd (by decide) hh
      (refine CallN.intro (numberM s p 4 (by omega) hs) [] rfl rfl ?_ ?_ ?_; ((repeat' (first | exact rfl | exact trivial | refine And.intro ?_ ?_ | ((conv => whnf); first | exact rfl | exact trivial | refine And.intro ?_ ?_)))); ((repeat' (first | exact rfl | exact trivial | refine And.intro ?_ ?_ | ((conv => whnf); first | exact rfl | exact trivial | refine And.intro ?_ ?_)))); (intro y hy; clear y hy; (repeat' ((conv => whnf); first | refine And.intro ?_ ?_ | exact Cl.mk (by kernel_rfl) | exact Ck.mk (by kernel_rfl) | refine DrawN.mk ?_ | refine CodeN.step hm rfl ?_ | exact trivial | exact rfl | (intro hh; try simp only [decide_eq_true_eq, decide_eq_false_iff_not, beq_iff_eq, beq_eq_false_iff_ne, bne_iff_ne, bne_eq_false_iff_eq, Bool.not_eq_true', Bool.not_eq_false', Bool.not_true, Bool.not_false] at hh; try exact absurd hh (by decide)))); all_goals (conv => whnf); (all_goals first | (exact Ob.mk (by decide)) | skip)))
      · have hn : (number s p 4).2.2 ≠ 0 := by assumption
        (refine RetN.intro (vs, p, true) [0, 1, 2, 3] rfl rfl ?_ ?_ ?_; ((repeat' (first | exact rfl | exact trivial | refine And.intro ?_ ?_ | ((conv => whnf); first | exact rfl | exact trivial | refine And.intro ?_ ?_)))); ((repeat' (first | exact rfl | exact trivial | refine And.intro ?_ ?_ | ((conv => whnf); first | exact rfl | exact trivial | refine And.intro ?_ ?_))); all_goals (conv => whnf); all_goals (try simp only [])))
        all_goals first | (simp [hn]; done) | (exact ⟨fun h => (by cases h), fun _ => readL_stop hw hr hn⟩)
      · have hn : (number s p 4).2.2 = 0 := by assumption
        have hg := gd_snoc vs (number s p 4).1
        rw [hvl] at hg
        refine ⟨(6, vs ++ [(number s p 4).1], (number s p 4).2.1), [0, 1, 2, 3], ⟨rfl, rfl, ?_, ?_⟩, ⟨by simp only []; omega, readL_step hw hr hn⟩, by simp only []; omega⟩
        · (repeat' (first | exact rfl | exact trivial | refine And.intro ?_ ?_ | ((conv => whnf); first | exact rfl | exact trivial | refine And.intro ?_ ?_))); all_goals (conv => whnf); all_goals (try simp only [])
          all_goals first | (rw [hg, if_neg (by omega)]; done) | (rw [hg, if_pos (by omega)]; exact num_wrap (by omega) hn) | (simp [hn]; done) | skip
        · (repeat' (first | exact rfl | exact trivial | refine And.intro ?_ ?_ | ((conv => whnf); first | exact rfl | exact trivial | refine And.intro ?_ ?_)))
    · have hw : [1, 1, 4, 1, 4, 4, 1, 6, 2][6]? = some 1 := rfl
      simp only [List.take, List.length_cons, List.length_nil] at hvl
      (repeat' ((conv => whnf); first | refine And.intro ?_ ?_ | exact Cl.mk (by kernel_rfl) | exact Ck.mk (by kernel_rfl) | refine DrawN.mk ?_ | refine CodeN.step hm rfl ?_ | exact trivial | exact rfl | (intro hh; try simp only [decide_eq_true_eq, decide_eq_false_iff_not, beq_iff_eq, beq_eq_false_iff_ne, bne_iff_ne, bne_eq_false_iff_eq, Bool.not_eq_true', Bool.not_eq_false', Bool.not_true, Bool.not_false] at hh))); all_goals (conv => whnf)
      all_goals first | (exact Ob.mk (by decide)) | (exact Ob.mk (by simp)) | skip
      rotate_right
      · exact absurd (by decide) hh
      (refine CallN.intro (numberM s p 1 (by omega) hs) [] rfl rfl ?_ ?_ ?_; ((repeat' (first | exact rfl | exact trivial | refine And.intro ?_ ?_ | ((conv => whnf); first | exact rfl | exact trivial | refine And.intro ?_ ?_)))); ((repeat' (first | exact rfl | exact trivial | refine And.intro ?_ ?_ | ((conv => whnf); first | exact rfl | exact trivial | refine And.intro ?_ ?_)))); (intro y hy; clear y hy; (repeat' ((conv => whnf); first | refine And.intro ?_ ?_ | exact Cl.mk (by kernel_rfl) | exact Ck.mk (by kernel_rfl) | refine DrawN.mk ?_ | refine CodeN.step hm rfl ?_ | exact trivial | exact rfl | (intro hh; try simp only [decide_eq_true_eq, decide_eq_false_iff_not, beq_iff_eq, beq_eq_false_iff_ne, bne_iff_ne, bne_eq_false_iff_eq, Bool.not_eq_true', Bool.not_eq_false', Bool.not_true, Bool.not_false] at hh; try exact absurd hh (by decide)))); all_goals (conv => whnf); (all_goals first | (exact Ob.mk (by decide)) | skip)))
      · have hn : (number s p 1).2.2 ≠ 0 := by assumption
        (refine RetN.intro (vs, p, true) [0, 1, 2, 3] rfl rfl ?_ ?_ ?_; ((repeat' (first | exact rfl | exact trivial | refine And.intro ?_ ?_ | ((conv => whnf); first | exact rfl | exact trivial | refine And.intro ?_ ?_)))); ((repeat' (first | exact rfl | exact trivial | refine And.intro ?_ ?_ | ((conv => whnf); first | exact rfl | exact trivial | refine And.intro ?_ ?_))); all_goals (conv => whnf); all_goals (try simp only [])))
        all_goals first | (simp [hn]; done) | (exact ⟨fun h => (by cases h), fun _ => readL_stop hw hr hn⟩)
      · have hn : (number s p 1).2.2 = 0 := by assumption
        have hg := gd_snoc vs (number s p 1).1
        rw [hvl] at hg
        refine ⟨(7, vs ++ [(number s p 1).1], (number s p 1).2.1), [0, 1, 2, 3], ⟨rfl, rfl, ?_, ?_⟩, ⟨by simp only []; omega, readL_step hw hr hn⟩, by simp only []; omega⟩
        · (repeat' (first | exact rfl | exact trivial | refine And.intro ?_ ?_ | ((conv => whnf); first | exact rfl | exact trivial | refine And.intro ?_ ?_))); all_goals (conv => whnf); all_goals (try simp only [])
          all_goals first | (rw [hg, if_neg (by omega)]; done) | (rw [hg, if_pos (by omega)]; exact num_wrap (by omega) hn) | (simp [hn]; done) | skip
        · (repeat' (first | exact rfl | exact trivial | refine And.intro ?_ ?_ | ((conv => whnf); first | exact rfl | exact trivial | refine And.intro ?_ ?_)))
    · have hw : [1, 1, 4, 1, 4, 4, 1, 6, 2][7]? = some 6 := rfl
      simp only [List.take, List.length_cons, List.length_nil] at hvl
      (repeat' ((conv => whnf); first | refine And.intro ?_ ?_ | exact Cl.mk (by kernel_rfl) | exact Ck.mk (by kernel_rfl) | refine DrawN.mk ?_ | refine CodeN.step hm rfl ?_ | exact trivial | exact rfl | (intro hh; try simp only [decide_eq_true_eq, decide_eq_false_iff_not, beq_iff_eq, beq_eq_false_iff_ne, bne_iff_ne, bne_eq_false_iff_eq, Bool.not_eq_true', Bool.not_eq_false', Bool.not_true, Bool.not_false] at hh))); all_goals (conv => whnf)
      all_goals first | (exact Ob.mk (by decide)) | (exact Ob.mk (by simp)) | skip
      rotate_right
      · exact absurd (by decide) hh
      (refine CallN.intro (numberM s p 6 (by omega) hs) [] rfl rfl ?_ ?_ ?_; ((repeat' (first | exact rfl | exact trivial | refine And.intro ?_ ?_ | ((conv => whnf); first | exact rfl | exact trivial | refine And.intro ?_ ?_)))); ((repeat' (first | exact rfl | exact trivial | refine And.intro ?_ ?_ | ((conv => whnf); first | exact rfl | exact trivial | refine And.intro ?_ ?_)))); (intro y hy; clear y hy; (repeat' ((conv => whnf); first | refine And.intro ?_ ?_ | exact Cl.mk (by kernel_rfl) | exact Ck.mk (by kernel_rfl) | refine DrawN.mk ?_ | refine CodeN.step hm rfl ?_ | exact trivial | exact rfl | (intro hh; try simp only [decide_eq_true_eq, decide_eq_false_iff_not, beq_iff_eq, beq_eq_false_iff_ne, bne_iff_ne, bne_eq_false_iff_eq, Bool.not_eq_true', Bool.not_eq_false', Bool.not_true, Bool.not_false] at hh; try exact absurd hh (by decide)))); all_goals (conv => whnf); (all_goals first | (exact Ob.mk (by decide)) | skip)))
      · have hn : (number s p 6).2.2 ≠ 0 := by assumption
        (refine RetN.intro (vs, p, true) [0, 1, 2, 3] rfl rfl ?_ ?_ ?_; ((repeat' (first | exact rfl | exact trivial | refine And.intro ?_ ?_ | ((conv => whnf); first | exact rfl | exact trivial | refine And.intro ?_ ?_)))); ((repeat' (first | exact rfl | exact trivial | refine And.intro ?_ ?_ | ((conv => whnf); first | exact rfl | exact trivial | refine And.intro ?_ ?_))); all_goals (conv => whnf); all_goals (try simp only [])))
        all_goals first | (simp [hn]; done) | (exact ⟨fun h => (by cases h), fun _ => readL_stop hw hr hn⟩)
      · have hn : (number s p 6).2.2 = 0 := by assumption
        have hg := gd_snoc vs (number s p 6).1
        rw [hvl] at hg
        refine ⟨(8, vs ++ [(number s p 6).1], (number s p 6).2.1), [0, 1, 2, 3], ⟨rfl, rfl, ?_, ?_⟩, ⟨by simp only []; omega, readL_step hw hr hn⟩, by simp only []; omega⟩
        · (repeat' (first | exact rfl | exact trivial | refine And.intro ?_ ?_ | ((conv => whnf); first | exact rfl | exact trivial | refine And.intro ?_ ?_))); all_goals (conv => whnf); all_goals (try simp only [])
          all_goals first | (rw [hg, if_neg (by omega)]; done) | (rw [hg, if_pos (by omega)]; exact num_wrap (by omega) hn) | (simp [hn]; done) | skip
        · (repeat' (first | exact rfl | exact trivial | refine And.intro ?_ ?_ | ((conv => whnf); first | exact rfl | exact trivial | refine And.intro ?_ ?_)))
    · have hw : [1, 1, 4, 1, 4, 4, 1, 6, 2][8]? = some 2 := rfl
      simp only [List.take, List.length_cons, List.length_nil] at hvl
      (repeat' ((conv => whnf); first | refine And.intro ?_ ?_ | exact Cl.mk (by kernel_rfl) | exact Ck.mk (by kernel_rfl) | refine DrawN.mk ?_ | refine CodeN.step hm rfl ?_ | exact trivial | exact rfl | (intro hh; try simp only [decide_eq_true_eq, decide_eq_false_iff_not, beq_iff_eq, beq_eq_false_iff_ne, bne_iff_ne, bne_eq_false_iff_eq, Bool.not_eq_true', Bool.not_eq_false', Bool.not_true, Bool.not_false] at hh))); all_goals (conv => whnf)
      all_goals first | (exact Ob.mk (by decide)) | (exact Ob.mk (by simp)) | skip
      rotate_right
      · exact absurd (by decide) hh
      (refine CallN.intro (numberM s p 2 (by omega) hs) [] rfl rfl ?_ ?_ ?_; ((repeat' (first | exact rfl | exact trivial | refine And.intro ?_ ?_ | ((conv => whnf); first | exact rfl | exact trivial | refine And.intro ?_ ?_)))); ((repeat' (first | exact rfl | exact trivial | refine And.intro ?_ ?_ | ((conv => whnf); first | exact rfl | exact trivial | refine And.intro ?_ ?_)))); (intro y hy; clear y hy; (repeat' ((conv => whnf); first | refine And.intro ?_ ?_ | exact Cl.mk (by kernel_rfl) | exact Ck.mk (by kernel_rfl) | refine DrawN.mk ?_ | refine CodeN.step hm rfl ?_ | exact trivial | exact rfl | (intro hh; try simp only [decide_eq_true_eq, decide_eq_false_iff_not, beq_iff_eq, beq_eq_false_iff_ne, bne_iff_ne, bne_eq_false_iff_eq, Bool.not_eq_true', Bool.not_eq_false', Bool.not_true, Bool.not_false] at hh; try exact absurd hh (by decide)))); all_goals (conv => whnf); (all_goals first | (exact Ob.mk (by decide)) | skip)))
      · have hn : (number s p 2).2.2 ≠ 0 := by assumption
        (refine RetN.intro (vs, p, true) [0, 1, 2, 3] rfl rfl ?_ ?_ ?_; ((repeat' (first | exact rfl | exact trivial | refine And.intro ?_ ?_ | ((conv => whnf); first | exact rfl | exact trivial | refine And.intro ?_ ?_)))); ((repeat' (first | exact rfl | exact trivial | refine And.intro ?_ ?_ | ((conv => whnf); first | exact rfl | exact trivial | refine And.intro ?_ ?_))); all_goals (conv => whnf); all_goals (try simp only [])))
        all_goals first | (simp [hn]; done) | (exact ⟨fun h => (by cases h), fun _ => readL_stop hw hr hn⟩)
      · have hn : (number s p 2).2.2 = 0 := by assumption
        have hg := gd_snoc vs (number s p 2).1
        rw [hvl] at hg
        refine ⟨(9, vs ++ [(number s p 2).1], (number s p 2).2.1), [0, 1, 2, 3], ⟨rfl, rfl, ?_, ?_⟩, ⟨by simp only []; omega, readL_step hw hr hn⟩, by simp only []; omega⟩
        · (repeat' (first | exact rfl | exact trivial | refine And.intro ?_ ?_ | ((conv => whnf); first | exact rfl | exact trivial | refine And.intro ?_ ?_))); all_goals (conv => whnf); all_goals (try simp only [])
          all_goals first | (rw [hg, if_neg (by omega)]; done) | (rw [hg, if_pos (by omega)]; exact num_wrap (by omega) hn) | (simp [hn]; done) | skip
        · (repeat' (first | exact rfl | exact trivial | refine And.intro ?_ ?_ | ((conv => whnf); first | exact rfl | exact trivial | refine And.intro ?_ ?_)))
    · (repeat' ((conv => whnf); first | refine And.intro ?_ ?_ | exact Cl.mk (by kernel_rfl) | exact Ck.mk (by kernel_rfl) | refine DrawN.mk ?_ | refine CodeN.step hm rfl ?_ | exact trivial | exact rfl | (intro hh; try simp only [decide_eq_true_eq, decide_eq_false_iff_not, beq_iff_eq, beq_eq_false_iff_ne, bne_iff_ne, bne_eq_false_iff_eq, Bool.not_eq_true', Bool.not_eq_false', Bool.not_true, Bool.not_false] at hh))); all_goals (conv => whnf)
      all_goals first | (exfalso; exact absurd hh (by decide)) | skip
      (refine RetN.intro (vs, p, false) [0, 1, 2, 3] rfl rfl ?_ ?_ ?_; ((repeat' (first | exact rfl | exact trivial | refine And.intro ?_ ?_ | ((conv => whnf); first | exact rfl | exact trivial | refine And.intro ?_ ?_)))); ((repeat' (first | exact rfl | exact trivial | refine And.intro ?_ ?_ | ((conv => whnf); first | exact rfl | exact trivial | refine And.intro ?_ ?_))); all_goals (conv => whnf); all_goals (try simp only [])))
      exact ⟨fun _ => hr, fun h => (by cases h)⟩
/-- The numbers ahead of the lists. Once wrong. -/
theorem rheadMW (s : Bytes) (t : Int) (hs : s.length ≤ 1000000) : Meets Try.prog 36 [.ptr 0 0, .vec 1 2 (fun _ => 0) fun _ => 9]
    [.cells 62 [.str fun _ => s, .int .i64 fun _ => t, .bool fun _ => true], .cells 109 [.ptr 2 0, .int .i64 fun _ => 1, .ptr 3 0, .int .i64 fun _ => 1, .ptr 2 3, .int .i64 fun _ => 4, .ptr 2 4, .int .i64 fun _ => 1, .ptr 2 5, .int .i64 fun _ => 4, .ptr 2 6, .int .i64 fun _ => 4, .ptr 2 7, .int .i64 fun _ => 1, .ptr 2 8, .int .i64 fun _ => 6, .ptr 2 9, .int .i64 fun _ => 2], .cells 28 [.int .i64 fun _ => 0, .int .i64 fun _ => 0, .snil, .int .i64 fun _ => 0, .int .i64 fun _ => 0, .int .i64 fun _ => 0, .int .i64 fun _ => 0, .int .i64 fun _ => 0, .int .i64 fun _ => 0, .int .i64 fun _ => 0, .snil], .cells 3 [.int .i64 fun _ => 0]] (Y := Unit) (fun _ => True) (fun _ => .tup [])
    (fun y => [.cells 62 [.str fun _ => s, .int .i64 fun _ => t, .bool fun _ => true], .none, .cells 28 [.int .i64 fun _ => 0, .int .i64 fun _ => 0, .snil, .int .i64 fun _ => 0, .int .i64 fun _ => 0, .int .i64 fun _ => 0, .int .i64 fun _ => 0, .int .i64 fun _ => 0, .int .i64 fun _ => 0, .int .i64 fun _ => 0, .snil], .cells 3 [.int .i64 fun _ => 0]]) := by
  refine Meets.intro hm (fn := Try.f36) Try.func36 rfl (by decide) (Nat.le_of_ble_eq_true rfl) (fun _ => rfl) ?_; intro S hok; (conv => whnf)
  (repeat' ((conv => whnf); first | refine And.intro ?_ ?_ | exact Cl.mk (by kernel_rfl) | exact Ck.mk (by kernel_rfl) | refine DrawN.mk ?_ | refine CodeN.step hm rfl ?_ | exact trivial | exact rfl | (intro hh; try simp only [decide_eq_true_eq, decide_eq_false_iff_not, beq_iff_eq, beq_eq_false_iff_ne, bne_iff_ne, bne_eq_false_iff_eq, Bool.not_eq_true', Bool.not_eq_false', Bool.not_true, Bool.not_false] at hh))); all_goals (conv => whnf)
  refine LoopN.intro hm (X := Unit) (fun x => True) (fun x => 0)
    (fun x => [(11, .int .i64 fun _ => 0), (10, .int .i64 fun _ => 9), (9, .vec 1 2 (fun _ => 0) fun _ => 9), (0, .ptr 0 0)])
    (fun x => [.cells 62 [.str fun _ => s, .int .i64 fun _ => t, .bool fun _ => true], .cells 109 [.ptr 2 0, .int .i64 fun _ => 1, .ptr 3 0, .int .i64 fun _ => 1, .ptr 2 3, .int .i64 fun _ => 4, .ptr 2 4, .int .i64 fun _ => 1, .ptr 2 5, .int .i64 fun _ => 4, .ptr 2 6, .int .i64 fun _ => 4, .ptr 2 7, .int .i64 fun _ => 1, .ptr 2 8, .int .i64 fun _ => 6, .ptr 2 9, .int .i64 fun _ => 2], .cells 28 [.int .i64 fun _ => 0, .int .i64 fun _ => 0, .snil, .int .i64 fun _ => 0, .int .i64 fun _ => 0, .int .i64 fun _ => 0, .int .i64 fun _ => 0, .int .i64 fun _ => 0, .int .i64 fun _ => 0, .int .i64 fun _ => 0, .snil], .cells 3 [.int .i64 fun _ => 0]]) () [0, 1, 2, 3] ⟨rfl, rfl, ?_, ?_⟩ trivial (fun x hx => ?_)
  · (repeat' (first | exact rfl | exact trivial | refine And.intro ?_ ?_ | ((conv => whnf); first | exact rfl | exact trivial | refine And.intro ?_ ?_)))
  · (repeat' (first | exact rfl | exact trivial | refine And.intro ?_ ?_ | ((conv => whnf); first | exact rfl | exact trivial | refine And.intro ?_ ?_)))
  · (repeat' ((conv => whnf); first | refine And.intro ?_ ?_ | exact Cl.mk (by kernel_rfl) | exact Ck.mk (by kernel_rfl) | refine DrawN.mk ?_ | refine CodeN.step hm rfl ?_ | exact trivial | exact rfl | (intro hh; try simp only [decide_eq_true_eq, decide_eq_false_iff_not, beq_iff_eq, beq_eq_false_iff_ne, bne_iff_ne, bne_eq_false_iff_eq, Bool.not_eq_true', Bool.not_eq_false', Bool.not_true, Bool.not_false] at hh))); all_goals (conv => whnf)
    all_goals first | (exact Ob.mk (by decide)) | (exact Ob.mk (by simp)) | skip
    rotate_right
    · exact absurd (by decide) hh
    (refine CallN.intro (numberM s t 1 (by omega) hs) [] rfl rfl ?_ ?_ ?_; ((repeat' (first | exact rfl | exact trivial | refine And.intro ?_ ?_ | ((conv => whnf); first | exact rfl | exact trivial | refine And.intro ?_ ?_)))); ((repeat' (first | exact rfl | exact trivial | refine And.intro ?_ ?_ | ((conv => whnf); first | exact rfl | exact trivial | refine And.intro ?_ ?_)))); (intro y hy; clear y hy; (repeat' ((conv => whnf); first | refine And.intro ?_ ?_ | exact Cl.mk (by kernel_rfl) | exact Ck.mk (by kernel_rfl) | refine DrawN.mk ?_ | refine CodeN.step hm rfl ?_ | exact trivial | exact rfl | (intro hh; try simp only [decide_eq_true_eq, decide_eq_false_iff_not, beq_iff_eq, beq_eq_false_iff_ne, bne_iff_ne, bne_eq_false_iff_eq, Bool.not_eq_true', Bool.not_eq_false', Bool.not_true, Bool.not_false] at hh; try exact absurd hh (by decide)))); all_goals (conv => whnf); (all_goals first | (exact Ob.mk (by decide)) | skip)))
    (refine RetN.intro () [0, 1, 2, 3] rfl rfl ?_ ?_ ?_; ((repeat' (first | exact rfl | exact trivial | refine And.intro ?_ ?_ | ((conv => whnf); first | exact rfl | exact trivial | refine And.intro ?_ ?_)))); ((repeat' (first | exact rfl | exact trivial | refine And.intro ?_ ?_ | ((conv => whnf); first | exact rfl | exact trivial | refine And.intro ?_ ?_))); all_goals (conv => whnf); all_goals (try simp only [])))
end Go.Proofs.Ytoipgandilhdeaa.An
set_option linter.unusedVariables false
set_option linter.unusedSimpArgs false
namespace Go.Proofs.Ytoipgandilhdeaa.An
open Go Go.RowKit Fw Nu
def rdC (s : Bytes) (t : Int) (w : Bool) : Chunk := .cells 62 [.str fun _ => s, .int .i64 fun _ => t, .bool fun _ => w]
structure CntQ (s : Bytes) (t : Int) (w0 : Bool) (y : Int × Int × Bool) : Prop where
  ok : y.2.2 = false → w0 = false ∧ readL s t [1] = some ([y.1], y.2.1) ∧ y.1 ≤ 32
  bad : y.2.2 = true → y.1 = 0 ∧ (w0 = true ∨ ∀ (vs : List Int) (t' : Int), readL s t [1] = some (vs, t') → ∃ m, vs = [m] ∧ 32 < m)
theorem readL_one {s : Bytes} {t : Int} {vs : List Int} {t' : Int} (h : readL s t [1] = some (vs, t')) : vs = [vs.getD 0 0] := by
  have := readL_len _ _ _ _ h
  match vs, this with
  | [m], _ => rfl
theorem rcount0 (s : Bytes) (t : Int) (hs : s.length ≤ 1000000) : Meets Try.prog 38 [.ptr 0 0] [rdC s t false] (Y := Int × Int × Bool) (CntQ s t false) (fun y => .int .i64 fun _ => y.1) (fun y => [rdC s y.2.1 y.2.2]) := by
  · refine Meets.intro hm (fn := Try.f38) Try.func38 rfl (by decide) (Nat.le_of_ble_eq_true rfl) (fun _ => rfl) ?_; intro S hok; (conv => whnf)
    (repeat' ((conv => whnf); first | refine And.intro ?_ ?_ | exact Cl.mk (by kernel_rfl) | exact Ck.mk (by kernel_rfl) | refine DrawN.mk ?_ | refine CodeN.step hm rfl ?_ | exact trivial | exact rfl | (intro hh; try simp only [decide_eq_true_eq, decide_eq_false_iff_not, beq_iff_eq, beq_eq_false_iff_ne, bne_iff_ne, bne_eq_false_iff_eq, Bool.not_eq_true', Bool.not_eq_false', Bool.not_true, Bool.not_false] at hh))); all_goals (conv => whnf)
    refine CallN.intro (roneM s t hs) [0, 2, 1] rfl rfl ?_ ?_ ?_
    · (repeat' (first | exact rfl | exact trivial | refine And.intro ?_ ?_ | ((conv => whnf); first | exact rfl | exact trivial | refine And.intro ?_ ?_)))
    · (repeat' (first | exact rfl | exact trivial | refine And.intro ?_ ?_ | ((conv => whnf); first | exact rfl | exact trivial | refine And.intro ?_ ?_)))
    rintro ⟨vs, t', w'⟩ hq
    (repeat' ((conv => whnf); first | refine And.intro ?_ ?_ | exact Cl.mk (by kernel_rfl) | exact Ck.mk (by kernel_rfl) | refine DrawN.mk ?_ | refine CodeN.step hm rfl ?_ | exact trivial | exact rfl | (intro hh; try simp only [decide_eq_true_eq, decide_eq_false_iff_not, beq_iff_eq, beq_eq_false_iff_ne, bne_iff_ne, bne_eq_false_iff_eq, Bool.not_eq_true', Bool.not_eq_false', Bool.not_true, Bool.not_false] at hh))); all_goals (conv => whnf)
    · have hr := hq.ok (by assumption)
      have h1 := readL_one hr
      (refine RetN.intro (0, t', true) [0] rfl rfl ?_ ?_ ?_; ((repeat' (first | exact rfl | exact trivial | refine And.intro ?_ ?_ | ((conv => whnf); first | exact rfl | exact trivial | refine And.intro ?_ ?_)))); ((repeat' (first | exact rfl | exact trivial | refine And.intro ?_ ?_ | ((conv => whnf); first | exact rfl | exact trivial | refine And.intro ?_ ?_))); all_goals (conv => whnf); all_goals (try simp only [])))
      all_goals first
        | (exact decide_eq_true hh)
        | (exact ⟨fun h => (by cases h), fun _ => ⟨rfl, .inr fun us u h => by
            have hr : readL s t [1] = some (vs, t') := hr
            rw [hr] at h
            simp only [Option.some.injEq, Prod.mk.injEq] at h
            exact ⟨_, by rw [← h.1]; exact h1, hh⟩⟩⟩)
    · have hr := hq.ok (by assumption)
      have h1 := readL_one hr
      (refine RetN.intro (vs.getD 0 0, t', false) [0] rfl rfl ?_ ?_ ?_; ((repeat' (first | exact rfl | exact trivial | refine And.intro ?_ ?_ | ((conv => whnf); first | exact rfl | exact trivial | refine And.intro ?_ ?_)))); ((repeat' (first | exact rfl | exact trivial | refine And.intro ?_ ?_ | ((conv => whnf); first | exact rfl | exact trivial | refine And.intro ?_ ?_))); all_goals (conv => whnf); all_goals (try simp only [])))
      all_goals first
        | (exact decide_eq_false hh)
        | (exact ⟨fun _ => ⟨rfl, by rw [← h1]; exact hr, by show vs.getD 0 0 ≤ 32; omega⟩, fun h => (by cases h)⟩)
    · have hr := hq.bad (by assumption)
      (refine RetN.intro (0, t', true) [0] rfl rfl ?_ ?_ ?_; ((repeat' (first | exact rfl | exact trivial | refine And.intro ?_ ?_ | ((conv => whnf); first | exact rfl | exact trivial | refine And.intro ?_ ?_)))); ((repeat' (first | exact rfl | exact trivial | refine And.intro ?_ ?_ | ((conv => whnf); first | exact rfl | exact trivial | refine And.intro ?_ ?_))); all_goals (conv => whnf); all_goals (try simp only [])))
      exact ⟨fun h => (by cases h), fun _ => ⟨rfl, .inr fun us u h => by rw [hr] at h; cases h⟩⟩
theorem rcount1 (s : Bytes) (t : Int) (hs : s.length ≤ 1000000) : Meets Try.prog 38 [.ptr 0 0] [rdC s t true] (Y := Int × Int × Bool) (CntQ s t true) (fun y => .int .i64 fun _ => y.1) (fun y => [rdC s y.2.1 y.2.2]) := by
  · refine Meets.intro hm (fn := Try.f38) Try.func38 rfl (by decide) (Nat.le_of_ble_eq_true rfl) (fun _ => rfl) ?_; intro S hok; (conv => whnf)
    (repeat' ((conv => whnf); first | refine And.intro ?_ ?_ | exact Cl.mk (by kernel_rfl) | exact Ck.mk (by kernel_rfl) | refine DrawN.mk ?_ | refine CodeN.step hm rfl ?_ | exact trivial | exact rfl | (intro hh; try simp only [decide_eq_true_eq, decide_eq_false_iff_not, beq_iff_eq, beq_eq_false_iff_ne, bne_iff_ne, bne_eq_false_iff_eq, Bool.not_eq_true', Bool.not_eq_false', Bool.not_true, Bool.not_false] at hh))); all_goals (conv => whnf)
    (refine CallN.intro (roneMW s t hs) [0, 2, 1] rfl rfl ?_ ?_ ?_; ((repeat' (first | exact rfl | exact trivial | refine And.intro ?_ ?_ | ((conv => whnf); first | exact rfl | exact trivial | refine And.intro ?_ ?_)))); ((repeat' (first | exact rfl | exact trivial | refine And.intro ?_ ?_ | ((conv => whnf); first | exact rfl | exact trivial | refine And.intro ?_ ?_)))); (intro y hy; clear y hy; (repeat' ((conv => whnf); first | refine And.intro ?_ ?_ | exact Cl.mk (by kernel_rfl) | exact Ck.mk (by kernel_rfl) | refine DrawN.mk ?_ | refine CodeN.step hm rfl ?_ | exact trivial | exact rfl | (intro hh; try simp only [decide_eq_true_eq, decide_eq_false_iff_not, beq_iff_eq, beq_eq_false_iff_ne, bne_iff_ne, bne_eq_false_iff_eq, Bool.not_eq_true', Bool.not_eq_false', Bool.not_true, Bool.not_false] at hh; try exact absurd hh (by decide)))); all_goals (conv => whnf); (all_goals first | (exact Ob.mk (by decide)) | skip)))
    (refine RetN.intro (0, t, true) [0] rfl rfl ?_ ?_ ?_; ((repeat' (first | exact rfl | exact trivial | refine And.intro ?_ ?_ | ((conv => whnf); first | exact rfl | exact trivial | refine And.intro ?_ ?_)))); ((repeat' (first | exact rfl | exact trivial | refine And.intro ?_ ?_ | ((conv => whnf); first | exact rfl | exact trivial | refine And.intro ?_ ?_))); all_goals (conv => whnf); all_goals (try simp only [])))
    exact ⟨fun h => (by cases h), fun _ => ⟨rfl, .inl rfl⟩⟩
theorem rcountM (s : Bytes) (t : Int) (w0 : Bool) (hs : s.length ≤ 1000000) : Meets Try.prog 38 [.ptr 0 0] [rdC s t w0] (Y := Int × Int × Bool) (CntQ s t w0) (fun y => .int .i64 fun _ => y.1) (fun y => [rdC s y.2.1 y.2.2]) := by
  cases w0
  · exact rcount0 s t hs
  · exact rcount1 s t hs
def tldC (x : Told) : AV := .agg [.int .i64 fun _ => x.1, .bool fun _ => x.2.1, .int .i64 fun _ => x.2.2.1, .int .i64 fun _ => x.2.2.2.1, .int .i64 fun _ => x.2.2.2.2]
structure TldQ (s : Bytes) (t : Int) (w0 : Bool) (y : Told × Int × Bool) : Prop where
  ok : y.2.2 = false → w0 = false ∧ readTold s t = some (y.1, y.2.1)
  bad : y.2.2 = true → w0 = true ∨ readTold s t = none
theorem toldsRM : Meets Try.prog 59 [.ptr 0 0, .ptr 1 0, .ptr 2 0] [.cells 53 [.int .i64 fun _ => 0, .ff, .int .i64 fun _ => 0, .int .i64 fun _ => 0, .int .i64 fun _ => 0], .cells 3 [.int .i64 fun _ => 0], .cells 3 [.int .i64 fun _ => 0]] (Y := Unit) (fun _ => True) (fun _ => .vec 3 2 (fun _ => 0) fun _ => 5)
    (fun _ => [.cells 53 [.int .i64 fun _ => 0, .ff, .int .i64 fun _ => 0, .int .i64 fun _ => 0, .int .i64 fun _ => 0], .cells 3 [.int .i64 fun _ => 0], .cells 3 [.int .i64 fun _ => 0], .cells 109 [.ptr 1 0, .int .i64 fun _ => 1, .ptr 2 0, .int .i64 fun _ => 1, .ptr 0 2, .int .i64 fun _ => 4, .ptr 0 3, .int .i64 fun _ => 6, .ptr 0 4, .int .i64 fun _ => 6]]) := by
  refine Meets.intro hm (fn := Try.f59) Try.func59 rfl (by decide) (Nat.le_of_ble_eq_true rfl) (fun _ => rfl) ?_; intro S hok; (conv => whnf)
  (repeat' ((conv => whnf); first | refine And.intro ?_ ?_ | exact Cl.mk (by kernel_rfl) | exact Ck.mk (by kernel_rfl) | refine DrawN.mk ?_ | refine CodeN.step hm rfl ?_ | exact trivial | exact rfl | (intro hh; try simp only [decide_eq_true_eq, decide_eq_false_iff_not, beq_iff_eq, beq_eq_false_iff_ne, bne_iff_ne, bne_eq_false_iff_eq, Bool.not_eq_true', Bool.not_eq_false', Bool.not_true, Bool.not_false] at hh))); all_goals (conv => whnf)
  (refine RetN.intro () [0, 1, 2, 3] rfl rfl ?_ ?_ ?_; ((repeat' (first | exact rfl | exact trivial | refine And.intro ?_ ?_ | ((conv => whnf); first | exact rfl | exact trivial | refine And.intro ?_ ?_)))); ((repeat' (first | exact rfl | exact trivial | refine And.intro ?_ ?_ | ((conv => whnf); first | exact rfl | exact trivial | refine And.intro ?_ ?_))); all_goals (conv => whnf); all_goals (try simp only [])))
theorem readL_five {s : Bytes} {t : Int} {vs : List Int} {t' : Int} (h : readL s t [1, 1, 4, 6, 6] = some (vs, t')) : vs = [vs.getD 0 0, vs.getD 1 0, vs.getD 2 0, vs.getD 3 0, vs.getD 4 0] := by
  have := readL_len _ _ _ _ h
  match vs, this with
  | [a, b, c, d, e], _ => rfl
theorem rtldM (s : Bytes) (t : Int) (w0 : Bool) (hs : s.length ≤ 1000000) : Meets Try.prog 39 [.ptr 0 0] [rdC s t w0] (Y := Told × Int × Bool) (TldQ s t w0) (fun y => tldC y.1) (fun y => [rdC s y.2.1 y.2.2]) := by
  cases w0
  · refine Meets.intro hm (fn := Try.f39) Try.func39 rfl (by decide) (Nat.le_of_ble_eq_true rfl) (fun _ => rfl) ?_; intro S hok; (conv => whnf)
    (repeat' ((conv => whnf); first | refine And.intro ?_ ?_ | exact Cl.mk (by kernel_rfl) | exact Ck.mk (by kernel_rfl) | refine DrawN.mk ?_ | refine CodeN.step hm rfl ?_ | exact trivial | exact rfl | (intro hh; try simp only [decide_eq_true_eq, decide_eq_false_iff_not, beq_iff_eq, beq_eq_false_iff_ne, bne_iff_ne, bne_eq_false_iff_eq, Bool.not_eq_true', Bool.not_eq_false', Bool.not_true, Bool.not_false] at hh))); all_goals (conv => whnf)
    (refine CallN.intro toldsRM [2, 3, 4] rfl rfl ?_ ?_ ?_; ((repeat' (first | exact rfl | exact trivial | refine And.intro ?_ ?_ | ((conv => whnf); first | exact rfl | exact trivial | refine And.intro ?_ ?_)))); ((repeat' (first | exact rfl | exact trivial | refine And.intro ?_ ?_ | ((conv => whnf); first | exact rfl | exact trivial | refine And.intro ?_ ?_)))); (intro y hy; clear y hy; (repeat' ((conv => whnf); first | refine And.intro ?_ ?_ | exact Cl.mk (by kernel_rfl) | exact Ck.mk (by kernel_rfl) | refine DrawN.mk ?_ | refine CodeN.step hm rfl ?_ | exact trivial | exact rfl | (intro hh; try simp only [decide_eq_true_eq, decide_eq_false_iff_not, beq_iff_eq, beq_eq_false_iff_ne, bne_iff_ne, bne_eq_false_iff_eq, Bool.not_eq_true', Bool.not_eq_false', Bool.not_true, Bool.not_false] at hh; try exact absurd hh (by decide)))); all_goals (conv => whnf); (all_goals first | (exact Ob.mk (by decide)) | skip)))
    refine CallN.intro (rtoldM s t hs) [0, 5, 2, 3, 4] rfl rfl ?_ ?_ ?_
    · (repeat' (first | exact rfl | exact trivial | refine And.intro ?_ ?_ | ((conv => whnf); first | exact rfl | exact trivial | refine And.intro ?_ ?_)))
    · (repeat' (first | exact rfl | exact trivial | refine And.intro ?_ ?_ | ((conv => whnf); first | exact rfl | exact trivial | refine And.intro ?_ ?_)))
    rintro ⟨vs, t', w'⟩ hq
    (repeat' ((conv => whnf); first | refine And.intro ?_ ?_ | exact Cl.mk (by kernel_rfl) | exact Ck.mk (by kernel_rfl) | refine DrawN.mk ?_ | refine CodeN.step hm rfl ?_ | exact trivial | exact rfl | (intro hh; try simp only [decide_eq_true_eq, decide_eq_false_iff_not, beq_iff_eq, beq_eq_false_iff_ne, bne_iff_ne, bne_eq_false_iff_eq, Bool.not_eq_true', Bool.not_eq_false', Bool.not_true, Bool.not_false] at hh))); all_goals (conv => whnf)
    · have hr : readL s t [1, 1, 4, 6, 6] = some (vs, t') := hq.ok (by assumption)
      have h1 := readL_five hr
      have hx : readTold s t = if vs.getD 1 0 ≤ 1 then some ((vs.getD 0 0, decide (vs.getD 1 0 = 1), vs.getD 2 0, vs.getD 3 0, vs.getD 4 0), t') else none := by
        unfold readTold
        rw [hr, h1]; rfl
      (refine RetN.intro ((vs.getD 0 0, decide (vs.getD 1 0 = 1), vs.getD 2 0, vs.getD 3 0, vs.getD 4 0), t', decide (1 < vs.getD 1 0)) [0] rfl rfl ?_ ?_ ?_; ((repeat' (first | exact rfl | exact trivial | refine And.intro ?_ ?_ | ((conv => whnf); first | exact rfl | exact trivial | refine And.intro ?_ ?_)))); ((repeat' (first | exact rfl | exact trivial | refine And.intro ?_ ?_ | ((conv => whnf); first | exact rfl | exact trivial | refine And.intro ?_ ?_))); all_goals (conv => whnf); all_goals (try simp only [])))
      refine ⟨fun h => ⟨rfl, ?_⟩, fun h => .inr ?_⟩
      · have h := of_decide_eq_false h
        rw [hx, if_pos (by omega)]
      · have h := of_decide_eq_true h
        rw [hx, if_neg (by omega)]
    · have hr := hq.bad (by assumption)
      (refine RetN.intro ((vs.getD 0 0, decide (vs.getD 1 0 = 1), vs.getD 2 0, vs.getD 3 0, vs.getD 4 0), t', true) [0] rfl rfl ?_ ?_ ?_; ((repeat' (first | exact rfl | exact trivial | refine And.intro ?_ ?_ | ((conv => whnf); first | exact rfl | exact trivial | refine And.intro ?_ ?_)))); ((repeat' (first | exact rfl | exact trivial | refine And.intro ?_ ?_ | ((conv => whnf); first | exact rfl | exact trivial | refine And.intro ?_ ?_))); all_goals (conv => whnf); all_goals (try simp only [])))
      refine ⟨fun h => (by cases h), fun h => .inr ?_⟩
      unfold readTold
      rw [hr]
  · refine Meets.intro hm (fn := Try.f39) Try.func39 rfl (by decide) (Nat.le_of_ble_eq_true rfl) (fun _ => rfl) ?_; intro S hok; (conv => whnf)
    (repeat' ((conv => whnf); first | refine And.intro ?_ ?_ | exact Cl.mk (by kernel_rfl) | exact Ck.mk (by kernel_rfl) | refine DrawN.mk ?_ | refine CodeN.step hm rfl ?_ | exact trivial | exact rfl | (intro hh; try simp only [decide_eq_true_eq, decide_eq_false_iff_not, beq_iff_eq, beq_eq_false_iff_ne, bne_iff_ne, bne_eq_false_iff_eq, Bool.not_eq_true', Bool.not_eq_false', Bool.not_true, Bool.not_false] at hh))); all_goals (conv => whnf)
    (refine CallN.intro toldsRM [2, 3, 4] rfl rfl ?_ ?_ ?_; ((repeat' (first | exact rfl | exact trivial | refine And.intro ?_ ?_ | ((conv => whnf); first | exact rfl | exact trivial | refine And.intro ?_ ?_)))); ((repeat' (first | exact rfl | exact trivial | refine And.intro ?_ ?_ | ((conv => whnf); first | exact rfl | exact trivial | refine And.intro ?_ ?_)))); (intro y hy; clear y hy; (repeat' ((conv => whnf); first | refine And.intro ?_ ?_ | exact Cl.mk (by kernel_rfl) | exact Ck.mk (by kernel_rfl) | refine DrawN.mk ?_ | refine CodeN.step hm rfl ?_ | exact trivial | exact rfl | (intro hh; try simp only [decide_eq_true_eq, decide_eq_false_iff_not, beq_iff_eq, beq_eq_false_iff_ne, bne_iff_ne, bne_eq_false_iff_eq, Bool.not_eq_true', Bool.not_eq_false', Bool.not_true, Bool.not_false] at hh; try exact absurd hh (by decide)))); all_goals (conv => whnf); (all_goals first | (exact Ob.mk (by decide)) | skip)))
    (refine CallN.intro (rtoldMW s t hs) [0, 5, 2, 3, 4] rfl rfl ?_ ?_ ?_; ((repeat' (first | exact rfl | exact trivial | refine And.intro ?_ ?_ | ((conv => whnf); first | exact rfl | exact trivial | refine And.intro ?_ ?_)))); ((repeat' (first | exact rfl | exact trivial | refine And.intro ?_ ?_ | ((conv => whnf); first | exact rfl | exact trivial | refine And.intro ?_ ?_)))); (intro y hy; clear y hy; (repeat' ((conv => whnf); first | refine And.intro ?_ ?_ | exact Cl.mk (by kernel_rfl) | exact Ck.mk (by kernel_rfl) | refine DrawN.mk ?_ | refine CodeN.step hm rfl ?_ | exact trivial | exact rfl | (intro hh; try simp only [decide_eq_true_eq, decide_eq_false_iff_not, beq_iff_eq, beq_eq_false_iff_ne, bne_iff_ne, bne_eq_false_iff_eq, Bool.not_eq_true', Bool.not_eq_false', Bool.not_true, Bool.not_false] at hh; try exact absurd hh (by decide)))); all_goals (conv => whnf); (all_goals first | (exact Ob.mk (by decide)) | skip)))
    (refine RetN.intro ((0, false, 0, 0, 0), t, true) [0] rfl rfl ?_ ?_ ?_; ((repeat' (first | exact rfl | exact trivial | refine And.intro ?_ ?_ | ((conv => whnf); first | exact rfl | exact trivial | refine And.intro ?_ ?_)))); ((repeat' (first | exact rfl | exact trivial | refine And.intro ?_ ?_ | ((conv => whnf); first | exact rfl | exact trivial | refine And.intro ?_ ?_))); all_goals (conv => whnf); all_goals (try simp only [])))
    exact ⟨fun h => (by cases h), fun _ => .inl rfl⟩
structure NamQ (s : Bytes) (t : Int) (w0 : Bool) (y : Name × Int × Bool) : Prop where
  ok : y.2.2 = false → w0 = false ∧ readName s t = some (y.1, y.2.1)
  bad : y.2.2 = true → w0 = true ∨ readName s t = none
theorem rnamM (s : Bytes) (t : Int) (w0 : Bool) (hs : s.length ≤ 1000000) : Meets Try.prog 40 [.ptr 0 0] [rdC s t w0] (Y := Name × Int × Bool) (NamQ s t w0) (fun y => .agg [.int .i64 fun _ => y.1.1, .str fun _ => y.1.2]) (fun y => [rdC s y.2.1 y.2.2]) := by
  cases w0
  · refine Meets.intro hm (fn := Try.f40) Try.func40 rfl (by decide) (Nat.le_of_ble_eq_true rfl) (fun _ => rfl) ?_; intro S hok; (conv => whnf)
    (repeat' ((conv => whnf); first | refine And.intro ?_ ?_ | exact Cl.mk (by kernel_rfl) | exact Ck.mk (by kernel_rfl) | refine DrawN.mk ?_ | refine CodeN.step hm rfl ?_ | exact trivial | exact rfl | (intro hh; try simp only [decide_eq_true_eq, decide_eq_false_iff_not, beq_iff_eq, beq_eq_false_iff_ne, bne_iff_ne, bne_eq_false_iff_eq, Bool.not_eq_true', Bool.not_eq_false', Bool.not_true, Bool.not_false] at hh))); all_goals (conv => whnf)
    refine CallN.intro (rbookM s t hs) [0, 3, 2] rfl rfl ?_ ?_ ?_
    · (repeat' (first | exact rfl | exact trivial | refine And.intro ?_ ?_ | ((conv => whnf); first | exact rfl | exact trivial | refine And.intro ?_ ?_)))
    · (repeat' (first | exact rfl | exact trivial | refine And.intro ?_ ?_ | ((conv => whnf); first | exact rfl | exact trivial | refine And.intro ?_ ?_)))
    rintro ⟨vs, t', w'⟩ hq
    (repeat' ((conv => whnf); first | refine And.intro ?_ ?_ | exact Cl.mk (by kernel_rfl) | exact Ck.mk (by kernel_rfl) | refine DrawN.mk ?_ | refine CodeN.step hm rfl ?_ | exact trivial | exact rfl | (intro hh; try simp only [decide_eq_true_eq, decide_eq_false_iff_not, beq_iff_eq, beq_eq_false_iff_ne, bne_iff_ne, bne_eq_false_iff_eq, Bool.not_eq_true', Bool.not_eq_false', Bool.not_true, Bool.not_false] at hh))); all_goals (conv => whnf)
    simp only []
    (refine CallN.intro (textM s t' hs) [] rfl rfl ?_ ?_ ?_; ((repeat' (first | exact rfl | exact trivial | refine And.intro ?_ ?_ | ((conv => whnf); first | exact rfl | exact trivial | refine And.intro ?_ ?_)))); ((repeat' (first | exact rfl | exact trivial | refine And.intro ?_ ?_ | ((conv => whnf); first | exact rfl | exact trivial | refine And.intro ?_ ?_)))); (intro y hy; clear y hy; (repeat' ((conv => whnf); first | refine And.intro ?_ ?_ | exact Cl.mk (by kernel_rfl) | exact Ck.mk (by kernel_rfl) | refine DrawN.mk ?_ | refine CodeN.step hm rfl ?_ | exact trivial | exact rfl | (intro hh; try simp only [decide_eq_true_eq, decide_eq_false_iff_not, beq_iff_eq, beq_eq_false_iff_ne, bne_iff_ne, bne_eq_false_iff_eq, Bool.not_eq_true', Bool.not_eq_false', Bool.not_true, Bool.not_false] at hh; try exact absurd hh (by decide)))); all_goals (conv => whnf); (all_goals first | (exact Ob.mk (by decide)) | skip)))
    · have hr : readL s t [1] = some (vs, t') := hq.ok (by assumption)
      have h1 := readL_one hr
      have hx : readName s t = none := by
        unfold readName
        rw [hr, h1]
        show (if (text s t').2.2 = 0 then _ else _) = _
        rw [if_neg hh]
      (refine RetN.intro ((0, []), t', true) [0] rfl rfl ?_ ?_ ?_; ((repeat' (first | exact rfl | exact trivial | refine And.intro ?_ ?_ | ((conv => whnf); first | exact rfl | exact trivial | refine And.intro ?_ ?_)))); ((repeat' (first | exact rfl | exact trivial | refine And.intro ?_ ?_ | ((conv => whnf); first | exact rfl | exact trivial | refine And.intro ?_ ?_))); all_goals (conv => whnf); all_goals (try simp only [])))
      all_goals first | (simp [hh]; done) | exact ⟨fun h => (by cases h), fun _ => .inr hx⟩
    · have hr : readL s t [1] = some (vs, t') := hq.ok (by assumption)
      have h1 := readL_one hr
      have hx : readName s t = some ((vs.getD 0 0, (text s t').1), (text s t').2.1) := by
        unfold readName
        rw [hr, h1]
        show (if (text s t').2.2 = 0 then _ else _) = _
        rw [if_pos hh]; rfl
      (refine RetN.intro ((vs.getD 0 0, (text s t').1), (text s t').2.1, false) [0] rfl rfl ?_ ?_ ?_; ((repeat' (first | exact rfl | exact trivial | refine And.intro ?_ ?_ | ((conv => whnf); first | exact rfl | exact trivial | refine And.intro ?_ ?_)))); ((repeat' (first | exact rfl | exact trivial | refine And.intro ?_ ?_ | ((conv => whnf); first | exact rfl | exact trivial | refine And.intro ?_ ?_))); all_goals (conv => whnf); all_goals (try simp only [])))
      all_goals first | (simp [hh]; done) | exact ⟨fun _ => ⟨rfl, hx⟩, fun h => (by cases h)⟩
    · have hr := hq.bad (by assumption)
      have hx : readName s t = none := by
        unfold readName
        rw [hr]
      (refine RetN.intro ((0, []), t', true) [0] rfl rfl ?_ ?_ ?_; ((repeat' (first | exact rfl | exact trivial | refine And.intro ?_ ?_ | ((conv => whnf); first | exact rfl | exact trivial | refine And.intro ?_ ?_)))); ((repeat' (first | exact rfl | exact trivial | refine And.intro ?_ ?_ | ((conv => whnf); first | exact rfl | exact trivial | refine And.intro ?_ ?_))); all_goals (conv => whnf); all_goals (try simp only [])))
      exact ⟨fun h => (by cases h), fun _ => .inr hx⟩
  · refine Meets.intro hm (fn := Try.f40) Try.func40 rfl (by decide) (Nat.le_of_ble_eq_true rfl) (fun _ => rfl) ?_; intro S hok; (conv => whnf)
    (repeat' ((conv => whnf); first | refine And.intro ?_ ?_ | exact Cl.mk (by kernel_rfl) | exact Ck.mk (by kernel_rfl) | refine DrawN.mk ?_ | refine CodeN.step hm rfl ?_ | exact trivial | exact rfl | (intro hh; try simp only [decide_eq_true_eq, decide_eq_false_iff_not, beq_iff_eq, beq_eq_false_iff_ne, bne_iff_ne, bne_eq_false_iff_eq, Bool.not_eq_true', Bool.not_eq_false', Bool.not_true, Bool.not_false] at hh))); all_goals (conv => whnf)
    (refine CallN.intro (rbookMW s t hs) [0, 3, 2] rfl rfl ?_ ?_ ?_; ((repeat' (first | exact rfl | exact trivial | refine And.intro ?_ ?_ | ((conv => whnf); first | exact rfl | exact trivial | refine And.intro ?_ ?_)))); ((repeat' (first | exact rfl | exact trivial | refine And.intro ?_ ?_ | ((conv => whnf); first | exact rfl | exact trivial | refine And.intro ?_ ?_)))); (intro y hy; clear y hy; (repeat' ((conv => whnf); first | refine And.intro ?_ ?_ | exact Cl.mk (by kernel_rfl) | exact Ck.mk (by kernel_rfl) | refine DrawN.mk ?_ | refine CodeN.step hm rfl ?_ | exact trivial | exact rfl | (intro hh; try simp only [decide_eq_true_eq, decide_eq_false_iff_not, beq_iff_eq, beq_eq_false_iff_ne, bne_iff_ne, bne_eq_false_iff_eq, Bool.not_eq_true', Bool.not_eq_false', Bool.not_true, Bool.not_false] at hh; try exact absurd hh (by decide)))); all_goals (conv => whnf); (all_goals first | (exact Ob.mk (by decide)) | skip)))
    (refine CallN.intro (textM s t hs) [] rfl rfl ?_ ?_ ?_; ((repeat' (first | exact rfl | exact trivial | refine And.intro ?_ ?_ | ((conv => whnf); first | exact rfl | exact trivial | refine And.intro ?_ ?_)))); ((repeat' (first | exact rfl | exact trivial | refine And.intro ?_ ?_ | ((conv => whnf); first | exact rfl | exact trivial | refine And.intro ?_ ?_)))); (intro y hy; clear y hy; (repeat' ((conv => whnf); first | refine And.intro ?_ ?_ | exact Cl.mk (by kernel_rfl) | exact Ck.mk (by kernel_rfl) | refine DrawN.mk ?_ | refine CodeN.step hm rfl ?_ | exact trivial | exact rfl | (intro hh; try simp only [decide_eq_true_eq, decide_eq_false_iff_not, beq_iff_eq, beq_eq_false_iff_ne, bne_iff_ne, bne_eq_false_iff_eq, Bool.not_eq_true', Bool.not_eq_false', Bool.not_true, Bool.not_false] at hh; try exact absurd hh (by decide)))); all_goals (conv => whnf); (all_goals first | (exact Ob.mk (by decide)) | skip)))
    (refine RetN.intro ((0, []), t, true) [0] rfl rfl ?_ ?_ ?_; ((repeat' (first | exact rfl | exact trivial | refine And.intro ?_ ?_ | ((conv => whnf); first | exact rfl | exact trivial | refine And.intro ?_ ?_)))); ((repeat' (first | exact rfl | exact trivial | refine And.intro ?_ ?_ | ((conv => whnf); first | exact rfl | exact trivial | refine And.intro ?_ ?_))); all_goals (conv => whnf); all_goals (try simp only [])))
    exact ⟨fun h => (by cases h), fun _ => .inl rfl⟩
end Go.Proofs.Ytoipgandilhdeaa.An
set_option linter.unusedVariables false
set_option linter.unusedSimpArgs false
namespace Go.Proofs.Ytoipgandilhdeaa.An
open Go Go.RowKit Fw Nu
def zeroA : Ans := (0, 0, [], 0, (0, 0, 0, 0), 0, 0, [])
def decR (s : Bytes) : Ans × Int := match decP s with | some a => (a, 0) | none => (zeroA, 3)
def ans0C : Chunk := .cells 28 [.int .i64 fun _ => 0, .int .i64 fun _ => 0, .snil, .int .i64 fun _ => 0, .int .i64 fun _ => 0, .int .i64 fun _ => 0, .int .i64 fun _ => 0, .int .i64 fun _ => 0, .int .i64 fun _ => 0, .int .i64 fun _ => 0, .snil]
theorem headsRM : Meets Try.prog 37 [.ptr 0 0, .ptr 1 0] [ans0C, .cells 3 [.int .i64 fun _ => 0]] (Y := Unit) (fun _ => True) (fun _ => .vec 2 2 (fun _ => 0) fun _ => 9)
    (fun _ => [ans0C, .cells 3 [.int .i64 fun _ => 0], .cells 109 [.ptr 0 0, .int .i64 fun _ => 1, .ptr 1 0, .int .i64 fun _ => 1, .ptr 0 3, .int .i64 fun _ => 4, .ptr 0 4, .int .i64 fun _ => 1, .ptr 0 5, .int .i64 fun _ => 4, .ptr 0 6, .int .i64 fun _ => 4, .ptr 0 7, .int .i64 fun _ => 1, .ptr 0 8, .int .i64 fun _ => 6, .ptr 0 9, .int .i64 fun _ => 2]]) := by
  refine Meets.intro hm (fn := Try.f37) Try.func37 rfl (by decide) (Nat.le_of_ble_eq_true rfl) (fun _ => rfl) ?_; intro S hok; (conv => whnf)
  (repeat' ((conv => whnf); first | refine And.intro ?_ ?_ | exact Cl.mk (by kernel_rfl) | exact Ck.mk (by kernel_rfl) | refine DrawN.mk ?_ | refine CodeN.step hm rfl ?_ | exact trivial | exact rfl | (intro hh; try simp only [decide_eq_true_eq, decide_eq_false_iff_not, beq_iff_eq, beq_eq_false_iff_ne, bne_iff_ne, bne_eq_false_iff_eq, Bool.not_eq_true', Bool.not_eq_false', Bool.not_true, Bool.not_false] at hh))); all_goals (conv => whnf)
  (refine RetN.intro () [0, 1, 2] rfl rfl ?_ ?_ ?_; ((repeat' (first | exact rfl | exact trivial | refine And.intro ?_ ?_ | ((conv => whnf); first | exact rfl | exact trivial | refine And.intro ?_ ?_)))); ((repeat' (first | exact rfl | exact trivial | refine And.intro ?_ ?_ | ((conv => whnf); first | exact rfl | exact trivial | refine And.intro ?_ ?_))); all_goals (conv => whnf); all_goals (try simp only [])))
theorem clipTM (l : List Told) : Meets Try.prog 41 [.lst ToldT fun _ => l] [] (Y := Unit) (fun _ => True) (fun _ => .lst ToldT fun _ => l) (fun _ => []) := by
  refine Meets.intro hm (fn := Try.f41) Try.func41 rfl (by decide) (Nat.le_of_ble_eq_true rfl) (fun _ => rfl) ?_; intro S hok; (conv => whnf)
  (repeat' ((conv => whnf); first | refine And.intro ?_ ?_ | exact Cl.mk (by kernel_rfl) | exact Ck.mk (by kernel_rfl) | refine DrawN.mk ?_ | refine CodeN.step hm rfl ?_ | exact trivial | exact rfl | (intro hh; try simp only [decide_eq_true_eq, decide_eq_false_iff_not, beq_iff_eq, beq_eq_false_iff_ne, bne_iff_ne, bne_eq_false_iff_eq, Bool.not_eq_true', Bool.not_eq_false', Bool.not_true, Bool.not_false] at hh))); all_goals (conv => whnf)
  · exact Ob.mk (by simp)
  · (refine RetN.intro () [] rfl rfl ?_ ?_ ?_; ((repeat' (first | exact rfl | exact trivial | refine And.intro ?_ ?_ | ((conv => whnf); first | exact rfl | exact trivial | refine And.intro ?_ ?_)))); ((repeat' (first | exact rfl | exact trivial | refine And.intro ?_ ?_ | ((conv => whnf); first | exact rfl | exact trivial | refine And.intro ?_ ?_))); all_goals (conv => whnf); all_goals (try simp only [])))
theorem clipNM (l : List Name) : Meets Try.prog 42 [.lst NameT fun _ => l] [] (Y := Unit) (fun _ => True) (fun _ => .lst NameT fun _ => l) (fun _ => []) := by
  refine Meets.intro hm (fn := Try.f42) Try.func42 rfl (by decide) (Nat.le_of_ble_eq_true rfl) (fun _ => rfl) ?_; intro S hok; (conv => whnf)
  (repeat' ((conv => whnf); first | refine And.intro ?_ ?_ | exact Cl.mk (by kernel_rfl) | exact Ck.mk (by kernel_rfl) | refine DrawN.mk ?_ | refine CodeN.step hm rfl ?_ | exact trivial | exact rfl | (intro hh; try simp only [decide_eq_true_eq, decide_eq_false_iff_not, beq_iff_eq, beq_eq_false_iff_ne, bne_iff_ne, bne_eq_false_iff_eq, Bool.not_eq_true', Bool.not_eq_false', Bool.not_true, Bool.not_false] at hh))); all_goals (conv => whnf)
  · exact Ob.mk (by simp)
  · (refine RetN.intro () [] rfl rfl ?_ ?_ ?_; ((repeat' (first | exact rfl | exact trivial | refine And.intro ?_ ?_ | ((conv => whnf); first | exact rfl | exact trivial | refine And.intro ?_ ?_)))); ((repeat' (first | exact rfl | exact trivial | refine And.intro ?_ ?_ | ((conv => whnf); first | exact rfl | exact trivial | refine And.intro ?_ ?_))); all_goals (conv => whnf); all_goals (try simp only [])))
theorem rn_step {α : Type} {f : Int → Option (α × Int)} {t0 t t' : Int} {w2 w w' : Bool} {i m : Nat} {l : List α} {y : α} (him : i < m) (hok : w = false → w2 = false ∧ readN f i t0 = some (l, t)) (hbad : w = true → w2 = true ∨ readN f m t0 = none)
    (yok : w' = false → w = false ∧ f t = some (y, t')) (ybad : w' = true → w = true ∨ f t = none) : (w' = false → w2 = false ∧ readN f (i + 1) t0 = some (l ++ [y], t')) ∧ (w' = true → w2 = true ∨ readN f m t0 = none) := by
  refine ⟨fun h => ?_, fun h => ?_⟩
  · obtain ⟨h1, h2⟩ := yok h
    obtain ⟨h3, h4⟩ := hok h1
    exact ⟨h3, by simp only [readN, h4, h2]⟩
  · rcases ybad h with h1 | h1
    · exact hbad h1
    · cases w
      · obtain ⟨h3, h4⟩ := hok rfl
        exact .inr (readN_none (n := i + 1) (by omega) (by simp only [readN, h4, h1]))
      · exact hbad rfl
theorem cnt_nat {s : Bytes} {t t2 n : Int} {w w2 : Bool} (h0 : w = false → 0 ≤ t ∧ t ≤ s.length) (hc : CntQ s t w (n, t2, w2)) : 0 ≤ n ∧ n ≤ 255 := by
  cases w2
  · obtain ⟨h1, h2, h3⟩ := hc.ok rfl
    have h3 : n ≤ 32 := h3
    obtain ⟨_, _, _, k4, _⟩ := readL_get _ _ _ _ (by simp) (h0 h1) h2
    simp only [List.zip_cons_cons, List.zip_nil_right] at k4
    rw [bads_book, Bool.not_eq_false'] at k4
    have := (fits_iff.1 k4).1
    omega
  · have h1 : n = 0 := (hc.bad rfl).1
    omega
theorem dec_end {s : Bytes} {vs : List Int} {t1 t2 t t3 t4 : Int} {w1 w2 w w3 w4 : Bool} {i m : Nat} {l : List Told} {nl : List Name} (hq : RdQ s 0 headsW (vs, t1, w1)) (hc : CntQ s t1 w1 (i, t2, w2))
    (hok1 : w = false → w2 = false ∧ readN (readTold s) i t2 = some (l, t)) (hbad1 : w = true → w2 = true ∨ readN (readTold s) i t2 = none) (hc2 : CntQ s t w (m, t3, w3))
    (hok2 : w4 = false → w3 = false ∧ readN (readName s) m t3 = some (nl, t4)) (hbad2 : w4 = true → w3 = true ∨ readN (readName s) m t3 = none) :
    (w4 = false → decP s = if t4 = s.length ∧ s.length ≤ 512 then ansOf vs l nl else none) ∧ (w4 = true → decP s = none) := by
  have c1 : w1 = true → decP s = none := fun h => by
    unfold decP; rw [hq.bad h]
  have o1 : w1 = false → readL s 0 headsW = some (vs, t1) := hq.ok
  have c2 : w2 = true → decP s = none := fun h => by
    rcases (hc.bad h).2 with h1 | h1
    · exact c1 h1
    · cases w1
      · unfold decP
        rw [o1 rfl]
        simp only []
        have : readC s (readTold s) t1 = none := by
          unfold readC
          split
          · rename_i m t' hr
            obtain ⟨m', e, hm⟩ := h1 _ _ hr
            simp only [List.cons.injEq, and_true] at e
            subst e
            rw [if_pos hm]
          · rfl
        rw [this]
      · exact c1 rfl
  have o2 : w2 = false → readL s 0 headsW = some (vs, t1) ∧ readC s (readTold s) t1 = readN (readTold s) i t2 := fun h => by
    obtain ⟨h1, h2, h3⟩ := hc.ok h
    have h2 : readL s t1 [1] = some ([(i : Int)], t2) := h2
    refine ⟨o1 h1, ?_⟩
    unfold readC
    rw [h2]
    simp only []
    rw [if_neg (by show ¬ (32 : Int) < i; have h3 : (i : Int) ≤ 32 := h3; omega), Int.toNat_natCast]
  have c3 : w = true → decP s = none := fun h => by
    rcases hbad1 h with h1 | h1
    · exact c2 h1
    · cases w2
      · obtain ⟨g1, g2⟩ := o2 rfl
        unfold decP
        rw [g1]
        simp only []
        rw [g2, h1]
      · exact c2 rfl
  have o3 : w = false → readL s 0 headsW = some (vs, t1) ∧ readC s (readTold s) t1 = some (l, t) := fun h => by
    obtain ⟨h1, h2⟩ := hok1 h
    obtain ⟨g1, g2⟩ := o2 h1
    exact ⟨g1, by rw [g2, h2]⟩
  have c4 : w3 = true → decP s = none := fun h => by
    rcases (hc2.bad h).2 with h1 | h1
    · exact c3 h1
    · cases w
      · obtain ⟨g1, g2⟩ := o3 rfl
        unfold decP
        rw [g1]
        simp only []
        rw [g2]
        simp only []
        have : readC s (readName s) t = none := by
          unfold readC
          split
          · rename_i m t' hr
            obtain ⟨m', e, hm⟩ := h1 _ _ hr
            simp only [List.cons.injEq, and_true] at e
            subst e
            rw [if_pos hm]
          · rfl
        rw [this]
      · exact c3 rfl
  have o4 : w3 = false → readL s 0 headsW = some (vs, t1) ∧ readC s (readTold s) t1 = some (l, t) ∧ readC s (readName s) t = readN (readName s) m t3 := fun h => by
    obtain ⟨h1, h2, h3⟩ := hc2.ok h
    have h2 : readL s t [1] = some ([(m : Int)], t3) := h2
    obtain ⟨g1, g2⟩ := o3 h1
    refine ⟨g1, g2, ?_⟩
    unfold readC
    rw [h2]
    simp only []
    rw [if_neg (by show ¬ (32 : Int) < m; have h3 : (m : Int) ≤ 32 := h3; omega), Int.toNat_natCast]
  refine ⟨fun h => ?_, fun h => ?_⟩
  · obtain ⟨h1, h2⟩ := hok2 h
    obtain ⟨g1, g2, g3⟩ := o4 h1
    unfold decP
    rw [g1]
    simp only []
    rw [g2]
    simp only []
    rw [g3, h2]
  · rcases hbad2 h with h1 | h1
    · exact c4 h1
    · cases w3
      · obtain ⟨g1, g2, g3⟩ := o4 rfl
        unfold decP
        rw [g1]
        simp only []
        rw [g2]
        simp only []
        rw [g3, h1]
      · exact c4 rfl
theorem readL_nine {s : Bytes} {t : Int} {vs : List Int} {t' : Int} (h : readL s t headsW = some (vs, t')) : vs = [vs.getD 0 0, vs.getD 1 0, vs.getD 2 0, vs.getD 3 0, vs.getD 4 0, vs.getD 5 0, vs.getD 6 0, vs.getD 7 0, vs.getD 8 0] := by
  have := readL_len _ _ _ _ h
  match vs, this with
  | [a, b, c, d, e, f, g, h, i], _ => rfl
set_option maxHeartbeats 1000000 in
theorem decodeM (s : Bytes) (hs : s.length ≤ 1000000) : Meets Try.prog 19 [.str fun _ => s] [] (Y := Unit) (fun _ => True) (fun _ => .tup [ansAV (decR s).1, .int .i64 fun _ => (decR s).2]) (fun _ => []) := by
  refine Meets.intro hm (fn := Try.f19) Try.func19 rfl (by decide) (Nat.le_of_ble_eq_true rfl) (fun _ => rfl) ?_; intro S hok; (conv => whnf)
  (repeat' ((conv => whnf); first | refine And.intro ?_ ?_ | exact Cl.mk (by kernel_rfl) | exact Ck.mk (by kernel_rfl) | refine DrawN.mk ?_ | refine CodeN.step hm rfl ?_ | exact trivial | exact rfl | (intro hh; try simp only [decide_eq_true_eq, decide_eq_false_iff_not, beq_iff_eq, beq_eq_false_iff_ne, bne_iff_ne, bne_eq_false_iff_eq, Bool.not_eq_true', Bool.not_eq_false', Bool.not_true, Bool.not_false] at hh))); all_goals (conv => whnf)
  (refine CallN.intro headsRM [2, 3] rfl rfl ?_ ?_ ?_; ((repeat' (first | exact rfl | exact trivial | refine And.intro ?_ ?_ | ((conv => whnf); first | exact rfl | exact trivial | refine And.intro ?_ ?_)))); ((repeat' (first | exact rfl | exact trivial | refine And.intro ?_ ?_ | ((conv => whnf); first | exact rfl | exact trivial | refine And.intro ?_ ?_)))); (intro y hy; clear y hy; (repeat' ((conv => whnf); first | refine And.intro ?_ ?_ | exact Cl.mk (by kernel_rfl) | exact Ck.mk (by kernel_rfl) | refine DrawN.mk ?_ | refine CodeN.step hm rfl ?_ | exact trivial | exact rfl | (intro hh; try simp only [decide_eq_true_eq, decide_eq_false_iff_not, beq_iff_eq, beq_eq_false_iff_ne, bne_iff_ne, bne_eq_false_iff_eq, Bool.not_eq_true', Bool.not_eq_false', Bool.not_true, Bool.not_false] at hh; try exact absurd hh (by decide)))); all_goals (conv => whnf); (all_goals first | (exact Ob.mk (by decide)) | skip)))
  refine CallN.intro (rheadM s 0 hs) [1, 4, 2, 3] rfl rfl ?_ ?_ ?_
  · (repeat' (first | exact rfl | exact trivial | refine And.intro ?_ ?_ | ((conv => whnf); first | exact rfl | exact trivial | refine And.intro ?_ ?_)))
  · (repeat' (first | exact rfl | exact trivial | refine And.intro ?_ ?_ | ((conv => whnf); first | exact rfl | exact trivial | refine And.intro ?_ ?_)))
  rintro ⟨vs, t1, w1⟩ hq
  (repeat' ((conv => whnf); first | refine And.intro ?_ ?_ | exact Cl.mk (by kernel_rfl) | exact Ck.mk (by kernel_rfl) | refine DrawN.mk ?_ | refine CodeN.step hm rfl ?_ | exact trivial | exact rfl | (intro hh; try simp only [decide_eq_true_eq, decide_eq_false_iff_not, beq_iff_eq, beq_eq_false_iff_ne, bne_iff_ne, bne_eq_false_iff_eq, Bool.not_eq_true', Bool.not_eq_false', Bool.not_true, Bool.not_false] at hh))); all_goals (conv => whnf)
  simp only []
  refine CallN.intro (rcountM s t1 w1 hs) [1] rfl rfl ?_ ?_ ?_
  · (repeat' (first | exact rfl | exact trivial | refine And.intro ?_ ?_ | ((conv => whnf); first | exact rfl | exact trivial | refine And.intro ?_ ?_)))
  · (repeat' (first | exact rfl | exact trivial | refine And.intro ?_ ?_ | ((conv => whnf); first | exact rfl | exact trivial | refine And.intro ?_ ?_)))
  rintro ⟨n, t2, w2⟩ hc
  (repeat' ((conv => whnf); first | refine And.intro ?_ ?_ | exact Cl.mk (by kernel_rfl) | exact Ck.mk (by kernel_rfl) | refine DrawN.mk ?_ | refine CodeN.step hm rfl ?_ | exact trivial | exact rfl | (intro hh; try simp only [decide_eq_true_eq, decide_eq_false_iff_not, beq_iff_eq, beq_eq_false_iff_ne, bne_iff_ne, bne_eq_false_iff_eq, Bool.not_eq_true', Bool.not_eq_false', Bool.not_true, Bool.not_false] at hh))); all_goals (conv => whnf)
  simp only []
  have hw1 : w1 = false → 0 ≤ t1 ∧ t1 ≤ s.length := fun h => by
    obtain ⟨_, k2, k3, _, _⟩ := readL_get _ _ _ _ (by simp) (by omega) (hq.ok h)
    exact ⟨k2, k3⟩
  have hn := cnt_nat hw1 hc
  have hw2 : w2 = false → 0 ≤ t2 ∧ t2 ≤ s.length := fun h => by
    obtain ⟨h1, h2, _⟩ := hc.ok h
    obtain ⟨_, k2, k3, _, _⟩ := readL_get _ _ _ _ (by simp) (hw1 h1) h2
    have := hw1 h1
    have k2 : t1 ≤ t2 := k2
    exact ⟨by omega, k3⟩
  obtain ⟨m, rfl⟩ : ∃ m : Nat, n = m := ⟨n.toNat, by omega⟩
  refine LoopN.intro hm (X := (Nat × Int × Bool) × List Told × Bool) (fun x => x.1.1 ≤ m ∧ x.2.1.length = x.1.1 ∧ (x.2.2 = false → x.2.1 = []) ∧ (x.1.2.2 = false → w2 = false ∧ readN (readTold s) x.1.1 t2 = some (x.2.1, x.1.2.1)) ∧ (x.1.2.2 = true → w2 = true ∨ readN (readTold s) m t2 = none)) (fun x => m - x.1.1)
    (fun x => [(17, .int .i64 fun _ => (x.1.1 : Int)), (16, .int .i64 fun _ => (m : Int)), (5, .ptr 2 0), (4, .ptr 1 0), (3, .int .i64 fun _ => 0), (2, .ptr 0 0), (0, .str fun _ => s)])
    (fun x => [ans0C, rdC s x.1.2.1 x.1.2.2, .cells 28 [.int .i64 fun _ => vs.getD 0 0, .int .i64 fun _ => vs.getD 1 0, (match x.2.2 with | true => .vec 3 5 (fun _ => 0) (fun _ => x.2.1.length) | false => .snil), .int .i64 fun _ => vs.getD 2 0, .int .i64 fun _ => vs.getD 3 0, .int .i64 fun _ => vs.getD 4 0, .int .i64 fun _ => vs.getD 5 0, .int .i64 fun _ => vs.getD 6 0, .int .i64 fun _ => vs.getD 7 0, .int .i64 fun _ => vs.getD 8 0, .snil]] ++ (match x.2.2 with | true => [.vect 53 ToldT fun _ => x.2.1] | false => []))
    ((0, t2, w2), [], false) [0, 1, 2] ⟨rfl, rfl, ?_, ?_⟩ ⟨Nat.zero_le _, rfl, fun _ => rfl, fun h => ⟨h, rfl⟩, fun h => .inl h⟩ (fun x hx => ?_)
  · (repeat' (first | exact rfl | exact trivial | refine And.intro ?_ ?_ | ((conv => whnf); first | exact rfl | exact trivial | refine And.intro ?_ ?_)))
  · (repeat' (first | exact rfl | exact trivial | refine And.intro ?_ ?_ | ((conv => whnf); first | exact rfl | exact trivial | refine And.intro ?_ ?_)))
  · obtain ⟨⟨i, t, w⟩, l, c⟩ := x
    obtain ⟨hi, hll, hcl, hok1, hbad1⟩ := hx
    simp only [] at hi hll hcl hok1 hbad1
    have eb : (Try.t53.bytes : Nat) = 40 := rfl
    cases c
    · have hl0 := hcl rfl
      subst hl0
      (repeat' ((conv => whnf); first | refine And.intro ?_ ?_ | exact Cl.mk (by kernel_rfl) | exact Ck.mk (by kernel_rfl) | refine DrawN.mk ?_ | refine CodeN.step hm rfl ?_ | exact trivial | exact rfl | (intro hh; try simp only [decide_eq_true_eq, decide_eq_false_iff_not, beq_iff_eq, beq_eq_false_iff_ne, bne_iff_ne, bne_eq_false_iff_eq, Bool.not_eq_true', Bool.not_eq_false', Bool.not_true, Bool.not_false] at hh))); all_goals (conv => whnf)
      · refine CallN.intro (rtldM s t w hs) [1] rfl rfl ?_ ?_ ?_
        · (repeat' (first | exact rfl | exact trivial | refine And.intro ?_ ?_ | ((conv => whnf); first | exact rfl | exact trivial | refine And.intro ?_ ?_)))
        · (repeat' (first | exact rfl | exact trivial | refine And.intro ?_ ?_ | ((conv => whnf); first | exact rfl | exact trivial | refine And.intro ?_ ?_)))
        rintro ⟨y, t', w'⟩ hy
        (repeat' ((conv => whnf); first | refine And.intro ?_ ?_ | exact Cl.mk (by kernel_rfl) | exact Ck.mk (by kernel_rfl) | refine DrawN.mk ?_ | refine CodeN.step hm rfl ?_ | exact trivial | exact rfl | (intro hh; try simp only [decide_eq_true_eq, decide_eq_false_iff_not, beq_iff_eq, beq_eq_false_iff_ne, bne_iff_ne, bne_eq_false_iff_eq, Bool.not_eq_true', Bool.not_eq_false', Bool.not_true, Bool.not_false] at hh))); all_goals (conv => whnf)
        · refine Ob.mk ?_
          rw [eb]; simp
        · have hi1 : i < m := by omega
          obtain ⟨q1, q2⟩ := rn_step hi1 hok1 hbad1 hy.ok hy.bad
          refine ⟨((i + 1, t', w'), [y], true), [0, 1, 2, 4], ⟨rfl, rfl, ?_, ?_⟩, ⟨hi1, by simp only [] at hll ⊢; simp; simp at hll; omega, fun h => (by cases h), q1, q2⟩, by simp only []; omega⟩
          · (repeat' (first | exact rfl | exact trivial | refine And.intro ?_ ?_ | ((conv => whnf); first | exact rfl | exact trivial | refine And.intro ?_ ?_))); all_goals (conv => whnf); all_goals (try simp only [])
          · (repeat' (first | exact rfl | exact trivial | refine And.intro ?_ ?_ | ((conv => whnf); first | exact rfl | exact trivial | refine And.intro ?_ ?_))); all_goals (conv => whnf); all_goals (try simp only [])
            exact wr2 i hi1 (by omega)
      · have hwt : w = false → 0 ≤ t ∧ t ≤ s.length := fun h => by
          obtain ⟨h1, h2⟩ := hok1 h
          obtain ⟨_, k2, k3, _, _⟩ := readN_get (B := fun t => wides (toldNums t)) (W := fun t => bads (toldNums t)) (fun t x t' h0 h => told_get h0 h) i t2 _ t (hw2 h1) h2
          exact ⟨by have := hw2 h1; omega, k3⟩
        have hi : i = m := by omega
        subst hi
        refine CallN.intro (rcountM s t w hs) [1] rfl rfl ?_ ?_ ?_
        · (repeat' (first | exact rfl | exact trivial | refine And.intro ?_ ?_ | ((conv => whnf); first | exact rfl | exact trivial | refine And.intro ?_ ?_)))
        · (repeat' (first | exact rfl | exact trivial | refine And.intro ?_ ?_ | ((conv => whnf); first | exact rfl | exact trivial | refine And.intro ?_ ?_)))
        rintro ⟨n', t3, w3⟩ hc2
        (repeat' ((conv => whnf); first | refine And.intro ?_ ?_ | exact Cl.mk (by kernel_rfl) | exact Ck.mk (by kernel_rfl) | refine DrawN.mk ?_ | refine CodeN.step hm rfl ?_ | exact trivial | exact rfl | (intro hh; try simp only [decide_eq_true_eq, decide_eq_false_iff_not, beq_iff_eq, beq_eq_false_iff_ne, bne_iff_ne, bne_eq_false_iff_eq, Bool.not_eq_true', Bool.not_eq_false', Bool.not_true, Bool.not_false] at hh))); all_goals (conv => whnf)
        simp only []
        have hn2 := cnt_nat hwt hc2
        obtain ⟨m', rfl⟩ : ∃ m : Nat, n' = m := ⟨n'.toNat, by omega⟩
        have en : (Try.t39.bytes : Nat) = 24 := rfl
        refine LoopN.intro hm (X := (Nat × Int × Bool) × List Name × Bool) (fun x => x.1.1 ≤ m' ∧ x.2.1.length = x.1.1 ∧ (x.2.2 = false → x.2.1 = []) ∧ (x.1.2.2 = false → w3 = false ∧ readN (readName s) x.1.1 t3 = some (x.2.1, x.1.2.1)) ∧ (x.1.2.2 = true → w3 = true ∨ readN (readName s) m' t3 = none)) (fun x => m' - x.1.1)
          (fun x => [(29, .int .i64 fun _ => (x.1.1 : Int)), (28, .int .i64 fun _ => (m' : Int)), (5, .ptr 2 0), (4, .ptr 1 0), (3, .int .i64 fun _ => 0), (2, .ptr 0 0), (0, .str fun _ => s)])
          (fun x => [ans0C, rdC s x.1.2.1 x.1.2.2, .cells 28 [.int .i64 fun _ => vs.getD 0 0, .int .i64 fun _ => vs.getD 1 0, .lst ToldT fun _ => ([] : List Told), .int .i64 fun _ => vs.getD 2 0, .int .i64 fun _ => vs.getD 3 0, .int .i64 fun _ => vs.getD 4 0, .int .i64 fun _ => vs.getD 5 0, .int .i64 fun _ => vs.getD 6 0, .int .i64 fun _ => vs.getD 7 0, .int .i64 fun _ => vs.getD 8 0, (match x.2.2 with | true => .vec 3 2 (fun _ => 0) (fun _ => x.2.1.length) | false => .snil)]] ++ (match x.2.2 with | true => [.vect 39 NameT fun _ => x.2.1] | false => []))
          ((0, t3, w3), [], false) [0, 1, 2] ⟨rfl, rfl, ?_, ?_⟩ ⟨Nat.zero_le _, rfl, fun _ => rfl, fun h => ⟨h, rfl⟩, fun h => .inl h⟩ (fun x hx => ?_)
        · (repeat' (first | exact rfl | exact trivial | refine And.intro ?_ ?_ | ((conv => whnf); first | exact rfl | exact trivial | refine And.intro ?_ ?_))); all_goals (conv => whnf); all_goals (try simp only [])
        · (repeat' (first | exact rfl | exact trivial | refine And.intro ?_ ?_ | ((conv => whnf); first | exact rfl | exact trivial | refine And.intro ?_ ?_)))
        · obtain ⟨⟨j, t4, w4⟩, nl, c⟩ := x
          obtain ⟨hj, hnll, hcl2, hok2, hbad2⟩ := hx
          simp only [] at hj hnll hcl2 hok2 hbad2
          cases c
          · have hnl0 := hcl2 rfl
            subst hnl0
            (repeat' ((conv => whnf); first | refine And.intro ?_ ?_ | exact Cl.mk (by kernel_rfl) | exact Ck.mk (by kernel_rfl) | refine DrawN.mk ?_ | refine CodeN.step hm rfl ?_ | exact trivial | exact rfl | (intro hh; try simp only [decide_eq_true_eq, decide_eq_false_iff_not, beq_iff_eq, beq_eq_false_iff_ne, bne_iff_ne, bne_eq_false_iff_eq, Bool.not_eq_true', Bool.not_eq_false', Bool.not_true, Bool.not_false] at hh))); all_goals (conv => whnf)
            · refine CallN.intro (rnamM s t4 w4 hs) [1] rfl rfl ?_ ?_ ?_
              · (repeat' (first | exact rfl | exact trivial | refine And.intro ?_ ?_ | ((conv => whnf); first | exact rfl | exact trivial | refine And.intro ?_ ?_)))
              · (repeat' (first | exact rfl | exact trivial | refine And.intro ?_ ?_ | ((conv => whnf); first | exact rfl | exact trivial | refine And.intro ?_ ?_)))
              rintro ⟨y2, t5, w5⟩ hy2
              (repeat' ((conv => whnf); first | refine And.intro ?_ ?_ | exact Cl.mk (by kernel_rfl) | exact Ck.mk (by kernel_rfl) | refine DrawN.mk ?_ | refine CodeN.step hm rfl ?_ | exact trivial | exact rfl | (intro hh; try simp only [decide_eq_true_eq, decide_eq_false_iff_not, beq_iff_eq, beq_eq_false_iff_ne, bne_iff_ne, bne_eq_false_iff_eq, Bool.not_eq_true', Bool.not_eq_false', Bool.not_true, Bool.not_false] at hh))); all_goals (conv => whnf)
              · refine Ob.mk ?_
                rw [en]; simp
              · have hj1 : j < m' := by omega
                obtain ⟨q1, q2⟩ := rn_step hj1 hok2 hbad2 hy2.ok hy2.bad
                refine ⟨((j + 1, t5, w5), [y2], true), [0, 1, 2, 4], ⟨rfl, rfl, ?_, ?_⟩, ⟨hj1, by simp only [] at hnll ⊢; simp; simp at hnll; omega, fun h => (by cases h), q1, q2⟩, by simp only []; omega⟩
                · (repeat' (first | exact rfl | exact trivial | refine And.intro ?_ ?_ | ((conv => whnf); first | exact rfl | exact trivial | refine And.intro ?_ ?_))); all_goals (conv => whnf); all_goals (try simp only [])
                  all_goals first | (rw [List.take_length]; rfl) | (simp; done) | skip
                · (repeat' (first | exact rfl | exact trivial | refine And.intro ?_ ?_ | ((conv => whnf); first | exact rfl | exact trivial | refine And.intro ?_ ?_))); all_goals (conv => whnf); all_goals (try simp only [])
                  exact wr2 j hj1 (by omega)
            all_goals
              have ej : j = m' := by omega
              subst ej
              obtain ⟨d1, d2⟩ := dec_end hq hc hok1 hbad1 hc2 hok2 hbad2
            · have he : decR s = (zeroA, 3) := by unfold decR; rw [d1 (by assumption), if_neg (by omega)]
              (refine RetN.intro () [] rfl rfl ?_ ?_ ?_; ((repeat' (first | exact rfl | exact trivial | refine And.intro ?_ ?_ | ((conv => whnf); first | exact rfl | exact trivial | refine And.intro ?_ ?_)))); ((repeat' (first | exact rfl | exact trivial | refine And.intro ?_ ?_ | ((conv => whnf); first | exact rfl | exact trivial | refine And.intro ?_ ?_))); all_goals (conv => whnf); all_goals (try simp only [])))
              all_goals rw [he]
              all_goals rfl
            · have hw1f : w1 = false := by
                have h1 := (hok2 (by assumption)).1
                have h2 := (hc2.ok h1).1
                have h3 := (hok1 h2).1
                exact (hc.ok h3).1
              have hr9 := readL_nine (hq.ok hw1f)
              have he : decR s = ((vs.getD 0 0, vs.getD 1 0, [], vs.getD 2 0, (vs.getD 3 0, vs.getD 4 0, vs.getD 5 0, vs.getD 6 0), vs.getD 7 0, vs.getD 8 0, []), 0) := by
                unfold decR
                rw [d1 (by assumption), if_pos ⟨by assumption, by omega⟩]
                have e : ansOf vs [] [] = some (vs.getD 0 0, vs.getD 1 0, [], vs.getD 2 0, (vs.getD 3 0, vs.getD 4 0, vs.getD 5 0, vs.getD 6 0), vs.getD 7 0, vs.getD 8 0, []) := by
                  have hr9 : vs = _ := hr9
                  generalize hv : [vs.getD 0 0, vs.getD 1 0, vs.getD 2 0, vs.getD 3 0, vs.getD 4 0, vs.getD 5 0, vs.getD 6 0, vs.getD 7 0, vs.getD 8 0] = us at hr9
                  rw [hr9, ← hv]; rfl
                rw [e]
              (refine CallN.intro (clipTM []) [] rfl rfl ?_ ?_ ?_; ((repeat' (first | exact rfl | exact trivial | refine And.intro ?_ ?_ | ((conv => whnf); first | exact rfl | exact trivial | refine And.intro ?_ ?_)))); ((repeat' (first | exact rfl | exact trivial | refine And.intro ?_ ?_ | ((conv => whnf); first | exact rfl | exact trivial | refine And.intro ?_ ?_)))); (intro y hy; clear y hy; (repeat' ((conv => whnf); first | refine And.intro ?_ ?_ | exact Cl.mk (by kernel_rfl) | exact Ck.mk (by kernel_rfl) | refine DrawN.mk ?_ | refine CodeN.step hm rfl ?_ | exact trivial | exact rfl | (intro hh; try simp only [decide_eq_true_eq, decide_eq_false_iff_not, beq_iff_eq, beq_eq_false_iff_ne, bne_iff_ne, bne_eq_false_iff_eq, Bool.not_eq_true', Bool.not_eq_false', Bool.not_true, Bool.not_false] at hh; try exact absurd hh (by decide)))); all_goals (conv => whnf); (all_goals first | (exact Ob.mk (by decide)) | skip)))
              (refine CallN.intro (clipNM []) [] rfl rfl ?_ ?_ ?_; ((repeat' (first | exact rfl | exact trivial | refine And.intro ?_ ?_ | ((conv => whnf); first | exact rfl | exact trivial | refine And.intro ?_ ?_)))); ((repeat' (first | exact rfl | exact trivial | refine And.intro ?_ ?_ | ((conv => whnf); first | exact rfl | exact trivial | refine And.intro ?_ ?_)))); (intro y hy; clear y hy; (repeat' ((conv => whnf); first | refine And.intro ?_ ?_ | exact Cl.mk (by kernel_rfl) | exact Ck.mk (by kernel_rfl) | refine DrawN.mk ?_ | refine CodeN.step hm rfl ?_ | exact trivial | exact rfl | (intro hh; try simp only [decide_eq_true_eq, decide_eq_false_iff_not, beq_iff_eq, beq_eq_false_iff_ne, bne_iff_ne, bne_eq_false_iff_eq, Bool.not_eq_true', Bool.not_eq_false', Bool.not_true, Bool.not_false] at hh; try exact absurd hh (by decide)))); all_goals (conv => whnf); (all_goals first | (exact Ob.mk (by decide)) | skip)))
              (refine RetN.intro () [] rfl rfl ?_ ?_ ?_; ((repeat' (first | exact rfl | exact trivial | refine And.intro ?_ ?_ | ((conv => whnf); first | exact rfl | exact trivial | refine And.intro ?_ ?_)))); ((repeat' (first | exact rfl | exact trivial | refine And.intro ?_ ?_ | ((conv => whnf); first | exact rfl | exact trivial | refine And.intro ?_ ?_))); all_goals (conv => whnf); all_goals (try simp only [])))
              all_goals rw [he]
              all_goals rfl
            all_goals
              have he : decR s = (zeroA, 3) := by
                unfold decR
                first
                  | rw [d2 (by assumption)]
                  | rw [d1 (by assumption), if_neg (by omega)]
              (refine RetN.intro () [] rfl rfl ?_ ?_ ?_; ((repeat' (first | exact rfl | exact trivial | refine And.intro ?_ ?_ | ((conv => whnf); first | exact rfl | exact trivial | refine And.intro ?_ ?_)))); ((repeat' (first | exact rfl | exact trivial | refine And.intro ?_ ?_ | ((conv => whnf); first | exact rfl | exact trivial | refine And.intro ?_ ?_))); all_goals (conv => whnf); all_goals (try simp only [])))
              all_goals rw [he]
              all_goals rfl
          · skip
            (repeat' ((conv => whnf); first | refine And.intro ?_ ?_ | exact Cl.mk (by kernel_rfl) | exact Ck.mk (by kernel_rfl) | refine DrawN.mk ?_ | refine CodeN.step hm rfl ?_ | exact trivial | exact rfl | (intro hh; try simp only [decide_eq_true_eq, decide_eq_false_iff_not, beq_iff_eq, beq_eq_false_iff_ne, bne_iff_ne, bne_eq_false_iff_eq, Bool.not_eq_true', Bool.not_eq_false', Bool.not_true, Bool.not_false] at hh))); all_goals (conv => whnf)
            · refine CallN.intro (rnamM s t4 w4 hs) [1] rfl rfl ?_ ?_ ?_
              · (repeat' (first | exact rfl | exact trivial | refine And.intro ?_ ?_ | ((conv => whnf); first | exact rfl | exact trivial | refine And.intro ?_ ?_)))
              · (repeat' (first | exact rfl | exact trivial | refine And.intro ?_ ?_ | ((conv => whnf); first | exact rfl | exact trivial | refine And.intro ?_ ?_)))
              rintro ⟨y2, t5, w5⟩ hy2
              (repeat' ((conv => whnf); first | refine And.intro ?_ ?_ | exact Cl.mk (by kernel_rfl) | exact Ck.mk (by kernel_rfl) | refine DrawN.mk ?_ | refine CodeN.step hm rfl ?_ | exact trivial | exact rfl | (intro hh; try simp only [decide_eq_true_eq, decide_eq_false_iff_not, beq_iff_eq, beq_eq_false_iff_ne, bne_iff_ne, bne_eq_false_iff_eq, Bool.not_eq_true', Bool.not_eq_false', Bool.not_true, Bool.not_false] at hh))); all_goals (conv => whnf)
              · refine Ob.mk ?_
                rw [en]; simp; omega
              · have hj1 : j < m' := by omega
                obtain ⟨q1, q2⟩ := rn_step hj1 hok2 hbad2 hy2.ok hy2.bad
                refine ⟨((j + 1, t5, w5), nl ++ [y2], true), [0, 1, 2, 3], ⟨rfl, rfl, ?_, ?_⟩, ⟨hj1, by simp; omega, fun h => (by cases h), q1, q2⟩, by simp only []; omega⟩
                · (repeat' (first | exact rfl | exact trivial | refine And.intro ?_ ?_ | ((conv => whnf); first | exact rfl | exact trivial | refine And.intro ?_ ?_))); all_goals (conv => whnf); all_goals (try simp only [])
                  all_goals first | (rw [List.take_length]; rfl) | (simp; done) | skip
                · (repeat' (first | exact rfl | exact trivial | refine And.intro ?_ ?_ | ((conv => whnf); first | exact rfl | exact trivial | refine And.intro ?_ ?_))); all_goals (conv => whnf); all_goals (try simp only [])
                  exact wr2 j hj1 (by omega)
            all_goals
              have ej : j = m' := by omega
              subst ej
              obtain ⟨d1, d2⟩ := dec_end hq hc hok1 hbad1 hc2 hok2 hbad2
            · have he : decR s = (zeroA, 3) := by unfold decR; rw [d1 (by assumption), if_neg (by omega)]
              (refine RetN.intro () [] rfl rfl ?_ ?_ ?_; ((repeat' (first | exact rfl | exact trivial | refine And.intro ?_ ?_ | ((conv => whnf); first | exact rfl | exact trivial | refine And.intro ?_ ?_)))); ((repeat' (first | exact rfl | exact trivial | refine And.intro ?_ ?_ | ((conv => whnf); first | exact rfl | exact trivial | refine And.intro ?_ ?_))); all_goals (conv => whnf); all_goals (try simp only [])))
              all_goals rw [he]
              all_goals rfl
            · have hw1f : w1 = false := by
                have h1 := (hok2 (by assumption)).1
                have h2 := (hc2.ok h1).1
                have h3 := (hok1 h2).1
                exact (hc.ok h3).1
              have hr9 := readL_nine (hq.ok hw1f)
              have he : decR s = ((vs.getD 0 0, vs.getD 1 0, [], vs.getD 2 0, (vs.getD 3 0, vs.getD 4 0, vs.getD 5 0, vs.getD 6 0), vs.getD 7 0, vs.getD 8 0, nl), 0) := by
                unfold decR
                rw [d1 (by assumption), if_pos ⟨by assumption, by omega⟩]
                have e : ansOf vs [] nl = some (vs.getD 0 0, vs.getD 1 0, [], vs.getD 2 0, (vs.getD 3 0, vs.getD 4 0, vs.getD 5 0, vs.getD 6 0), vs.getD 7 0, vs.getD 8 0, nl) := by
                  have hr9 : vs = _ := hr9
                  generalize hv : [vs.getD 0 0, vs.getD 1 0, vs.getD 2 0, vs.getD 3 0, vs.getD 4 0, vs.getD 5 0, vs.getD 6 0, vs.getD 7 0, vs.getD 8 0] = us at hr9
                  rw [hr9, ← hv]; rfl
                rw [e]
              (refine CallN.intro (clipTM []) [] rfl rfl ?_ ?_ ?_; ((repeat' (first | exact rfl | exact trivial | refine And.intro ?_ ?_ | ((conv => whnf); first | exact rfl | exact trivial | refine And.intro ?_ ?_)))); ((repeat' (first | exact rfl | exact trivial | refine And.intro ?_ ?_ | ((conv => whnf); first | exact rfl | exact trivial | refine And.intro ?_ ?_)))); (intro y hy; clear y hy; (repeat' ((conv => whnf); first | refine And.intro ?_ ?_ | exact Cl.mk (by kernel_rfl) | exact Ck.mk (by kernel_rfl) | refine DrawN.mk ?_ | refine CodeN.step hm rfl ?_ | exact trivial | exact rfl | (intro hh; try simp only [decide_eq_true_eq, decide_eq_false_iff_not, beq_iff_eq, beq_eq_false_iff_ne, bne_iff_ne, bne_eq_false_iff_eq, Bool.not_eq_true', Bool.not_eq_false', Bool.not_true, Bool.not_false] at hh; try exact absurd hh (by decide)))); all_goals (conv => whnf); (all_goals first | (exact Ob.mk (by decide)) | skip)))
              refine CallN.frz 3 ?_ (clipNM nl).callable
              (conv => whnf)
              have e5 : List.take nl.length (List.drop 0 nl) = nl := by rw [List.drop_zero, List.take_length]
              simp only [e5]
              (refine CallN.intro (clipNM nl) [] rfl rfl ?_ ?_ ?_; ((repeat' (first | exact rfl | exact trivial | refine And.intro ?_ ?_ | ((conv => whnf); first | exact rfl | exact trivial | refine And.intro ?_ ?_)))); ((repeat' (first | exact rfl | exact trivial | refine And.intro ?_ ?_ | ((conv => whnf); first | exact rfl | exact trivial | refine And.intro ?_ ?_)))); (intro y hy; clear y hy; (repeat' ((conv => whnf); first | refine And.intro ?_ ?_ | exact Cl.mk (by kernel_rfl) | exact Ck.mk (by kernel_rfl) | refine DrawN.mk ?_ | refine CodeN.step hm rfl ?_ | exact trivial | exact rfl | (intro hh; try simp only [decide_eq_true_eq, decide_eq_false_iff_not, beq_iff_eq, beq_eq_false_iff_ne, bne_iff_ne, bne_eq_false_iff_eq, Bool.not_eq_true', Bool.not_eq_false', Bool.not_true, Bool.not_false] at hh; try exact absurd hh (by decide)))); all_goals (conv => whnf); (all_goals first | (exact Ob.mk (by decide)) | skip)))
              (refine RetN.intro () [] rfl rfl ?_ ?_ ?_; ((repeat' (first | exact rfl | exact trivial | refine And.intro ?_ ?_ | ((conv => whnf); first | exact rfl | exact trivial | refine And.intro ?_ ?_)))); ((repeat' (first | exact rfl | exact trivial | refine And.intro ?_ ?_ | ((conv => whnf); first | exact rfl | exact trivial | refine And.intro ?_ ?_))); all_goals (conv => whnf); all_goals (try simp only [])))
              all_goals rw [he]
              all_goals rfl
            all_goals
              have he : decR s = (zeroA, 3) := by
                unfold decR
                first
                  | rw [d2 (by assumption)]
                  | rw [d1 (by assumption), if_neg (by omega)]
              (refine RetN.intro () [] rfl rfl ?_ ?_ ?_; ((repeat' (first | exact rfl | exact trivial | refine And.intro ?_ ?_ | ((conv => whnf); first | exact rfl | exact trivial | refine And.intro ?_ ?_)))); ((repeat' (first | exact rfl | exact trivial | refine And.intro ?_ ?_ | ((conv => whnf); first | exact rfl | exact trivial | refine And.intro ?_ ?_))); all_goals (conv => whnf); all_goals (try simp only [])))
              all_goals rw [he]
              all_goals rfl
    · (repeat' ((conv => whnf); first | refine And.intro ?_ ?_ | exact Cl.mk (by kernel_rfl) | exact Ck.mk (by kernel_rfl) | refine DrawN.mk ?_ | refine CodeN.step hm rfl ?_ | exact trivial | exact rfl | (intro hh; try simp only [decide_eq_true_eq, decide_eq_false_iff_not, beq_iff_eq, beq_eq_false_iff_ne, bne_iff_ne, bne_eq_false_iff_eq, Bool.not_eq_true', Bool.not_eq_false', Bool.not_true, Bool.not_false] at hh))); all_goals (conv => whnf)
      · refine CallN.intro (rtldM s t w hs) [1] rfl rfl ?_ ?_ ?_
        · (repeat' (first | exact rfl | exact trivial | refine And.intro ?_ ?_ | ((conv => whnf); first | exact rfl | exact trivial | refine And.intro ?_ ?_)))
        · (repeat' (first | exact rfl | exact trivial | refine And.intro ?_ ?_ | ((conv => whnf); first | exact rfl | exact trivial | refine And.intro ?_ ?_)))
        rintro ⟨y, t', w'⟩ hy
        (repeat' ((conv => whnf); first | refine And.intro ?_ ?_ | exact Cl.mk (by kernel_rfl) | exact Ck.mk (by kernel_rfl) | refine DrawN.mk ?_ | refine CodeN.step hm rfl ?_ | exact trivial | exact rfl | (intro hh; try simp only [decide_eq_true_eq, decide_eq_false_iff_not, beq_iff_eq, beq_eq_false_iff_ne, bne_iff_ne, bne_eq_false_iff_eq, Bool.not_eq_true', Bool.not_eq_false', Bool.not_true, Bool.not_false] at hh))); all_goals (conv => whnf)
        · refine Ob.mk ?_
          rw [eb]; simp; omega
        · have hi1 : i < m := by omega
          obtain ⟨q1, q2⟩ := rn_step hi1 hok1 hbad1 hy.ok hy.bad
          refine ⟨((i + 1, t', w'), l ++ [y], true), [0, 1, 2, 3], ⟨rfl, rfl, ?_, ?_⟩, ⟨hi1, by simp only []; simp; omega, fun h => (by cases h), q1, q2⟩, by simp only []; omega⟩
          · (repeat' (first | exact rfl | exact trivial | refine And.intro ?_ ?_ | ((conv => whnf); first | exact rfl | exact trivial | refine And.intro ?_ ?_))); all_goals (conv => whnf); all_goals (try simp only [])
            all_goals first | (rw [List.take_length]; rfl) | (simp; done)
          · (repeat' (first | exact rfl | exact trivial | refine And.intro ?_ ?_ | ((conv => whnf); first | exact rfl | exact trivial | refine And.intro ?_ ?_))); all_goals (conv => whnf); all_goals (try simp only [])
            exact wr2 i hi1 (by omega)
      · have hwt : w = false → 0 ≤ t ∧ t ≤ s.length := fun h => by
          obtain ⟨h1, h2⟩ := hok1 h
          obtain ⟨_, k2, k3, _, _⟩ := readN_get (B := fun t => wides (toldNums t)) (W := fun t => bads (toldNums t)) (fun t x t' h0 h => told_get h0 h) i t2 _ t (hw2 h1) h2
          exact ⟨by have := hw2 h1; omega, k3⟩
        have hi : i = m := by omega
        subst hi
        refine CallN.frz 3 ?_ (rcountM s t w hs).callable
        (conv => whnf)
        refine CallN.intro (rcountM s t w hs) [1] rfl rfl ?_ ?_ ?_
        · (repeat' (first | exact rfl | exact trivial | refine And.intro ?_ ?_ | ((conv => whnf); first | exact rfl | exact trivial | refine And.intro ?_ ?_)))
        · (repeat' (first | exact rfl | exact trivial | refine And.intro ?_ ?_ | ((conv => whnf); first | exact rfl | exact trivial | refine And.intro ?_ ?_)))
        rintro ⟨n', t3, w3⟩ hc2
        (repeat' ((conv => whnf); first | refine And.intro ?_ ?_ | exact Cl.mk (by kernel_rfl) | exact Ck.mk (by kernel_rfl) | refine DrawN.mk ?_ | refine CodeN.step hm rfl ?_ | exact trivial | exact rfl | (intro hh; try simp only [decide_eq_true_eq, decide_eq_false_iff_not, beq_iff_eq, beq_eq_false_iff_ne, bne_iff_ne, bne_eq_false_iff_eq, Bool.not_eq_true', Bool.not_eq_false', Bool.not_true, Bool.not_false] at hh))); all_goals (conv => whnf)
        simp only []
        have hn2 := cnt_nat hwt hc2
        obtain ⟨m', rfl⟩ : ∃ m : Nat, n' = m := ⟨n'.toNat, by omega⟩
        have en : (Try.t39.bytes : Nat) = 24 := rfl
        refine LoopN.intro hm (X := (Nat × Int × Bool) × List Name × Bool) (fun x => x.1.1 ≤ m' ∧ x.2.1.length = x.1.1 ∧ (x.2.2 = false → x.2.1 = []) ∧ (x.1.2.2 = false → w3 = false ∧ readN (readName s) x.1.1 t3 = some (x.2.1, x.1.2.1)) ∧ (x.1.2.2 = true → w3 = true ∨ readN (readName s) m' t3 = none)) (fun x => m' - x.1.1)
          (fun x => [(29, .int .i64 fun _ => (x.1.1 : Int)), (28, .int .i64 fun _ => (m' : Int)), (5, .ptr 2 0), (4, .ptr 1 0), (3, .int .i64 fun _ => 0), (2, .ptr 0 0), (0, .str fun _ => s)])
          (fun x => [ans0C, rdC s x.1.2.1 x.1.2.2, .cells 28 [.int .i64 fun _ => vs.getD 0 0, .int .i64 fun _ => vs.getD 1 0, .lst ToldT fun _ => l, .int .i64 fun _ => vs.getD 2 0, .int .i64 fun _ => vs.getD 3 0, .int .i64 fun _ => vs.getD 4 0, .int .i64 fun _ => vs.getD 5 0, .int .i64 fun _ => vs.getD 6 0, .int .i64 fun _ => vs.getD 7 0, .int .i64 fun _ => vs.getD 8 0, (match x.2.2 with | true => .vec 3 2 (fun _ => 0) (fun _ => x.2.1.length) | false => .snil)]] ++ (match x.2.2 with | true => [.vect 39 NameT fun _ => x.2.1] | false => []))
          ((0, t3, w3), [], false) [0, 1, 2] ⟨rfl, rfl, ?_, ?_⟩ ⟨Nat.zero_le _, rfl, fun _ => rfl, fun h => ⟨h, rfl⟩, fun h => .inl h⟩ (fun x hx => ?_)
        · (repeat' (first | exact rfl | exact trivial | refine And.intro ?_ ?_ | ((conv => whnf); first | exact rfl | exact trivial | refine And.intro ?_ ?_))); all_goals (conv => whnf); all_goals (try simp only [])
          all_goals first | (rw [List.drop_zero, List.take_length]; done) | skip
        · (repeat' (first | exact rfl | exact trivial | refine And.intro ?_ ?_ | ((conv => whnf); first | exact rfl | exact trivial | refine And.intro ?_ ?_)))
        · obtain ⟨⟨j, t4, w4⟩, nl, c⟩ := x
          obtain ⟨hj, hnll, hcl2, hok2, hbad2⟩ := hx
          simp only [] at hj hnll hcl2 hok2 hbad2
          cases c
          · have hnl0 := hcl2 rfl
            subst hnl0
            (repeat' ((conv => whnf); first | refine And.intro ?_ ?_ | exact Cl.mk (by kernel_rfl) | exact Ck.mk (by kernel_rfl) | refine DrawN.mk ?_ | refine CodeN.step hm rfl ?_ | exact trivial | exact rfl | (intro hh; try simp only [decide_eq_true_eq, decide_eq_false_iff_not, beq_iff_eq, beq_eq_false_iff_ne, bne_iff_ne, bne_eq_false_iff_eq, Bool.not_eq_true', Bool.not_eq_false', Bool.not_true, Bool.not_false] at hh))); all_goals (conv => whnf)
            · refine CallN.intro (rnamM s t4 w4 hs) [1] rfl rfl ?_ ?_ ?_
              · (repeat' (first | exact rfl | exact trivial | refine And.intro ?_ ?_ | ((conv => whnf); first | exact rfl | exact trivial | refine And.intro ?_ ?_)))
              · (repeat' (first | exact rfl | exact trivial | refine And.intro ?_ ?_ | ((conv => whnf); first | exact rfl | exact trivial | refine And.intro ?_ ?_)))
              rintro ⟨y2, t5, w5⟩ hy2
              (repeat' ((conv => whnf); first | refine And.intro ?_ ?_ | exact Cl.mk (by kernel_rfl) | exact Ck.mk (by kernel_rfl) | refine DrawN.mk ?_ | refine CodeN.step hm rfl ?_ | exact trivial | exact rfl | (intro hh; try simp only [decide_eq_true_eq, decide_eq_false_iff_not, beq_iff_eq, beq_eq_false_iff_ne, bne_iff_ne, bne_eq_false_iff_eq, Bool.not_eq_true', Bool.not_eq_false', Bool.not_true, Bool.not_false] at hh))); all_goals (conv => whnf)
              · refine Ob.mk ?_
                rw [en]; simp
              · have hj1 : j < m' := by omega
                obtain ⟨q1, q2⟩ := rn_step hj1 hok2 hbad2 hy2.ok hy2.bad
                refine ⟨((j + 1, t5, w5), [y2], true), [0, 1, 2, 4], ⟨rfl, rfl, ?_, ?_⟩, ⟨hj1, by simp only [] at hnll ⊢; simp; simp at hnll; omega, fun h => (by cases h), q1, q2⟩, by simp only []; omega⟩
                · (repeat' (first | exact rfl | exact trivial | refine And.intro ?_ ?_ | ((conv => whnf); first | exact rfl | exact trivial | refine And.intro ?_ ?_))); all_goals (conv => whnf); all_goals (try simp only [])
                  all_goals first | (rw [List.take_length]; rfl) | (simp; done) | skip
                · (repeat' (first | exact rfl | exact trivial | refine And.intro ?_ ?_ | ((conv => whnf); first | exact rfl | exact trivial | refine And.intro ?_ ?_))); all_goals (conv => whnf); all_goals (try simp only [])
                  exact wr2 j hj1 (by omega)
            all_goals
              have ej : j = m' := by omega
              subst ej
              obtain ⟨d1, d2⟩ := dec_end hq hc hok1 hbad1 hc2 hok2 hbad2
            · have he : decR s = (zeroA, 3) := by unfold decR; rw [d1 (by assumption), if_neg (by omega)]
              (refine RetN.intro () [] rfl rfl ?_ ?_ ?_; ((repeat' (first | exact rfl | exact trivial | refine And.intro ?_ ?_ | ((conv => whnf); first | exact rfl | exact trivial | refine And.intro ?_ ?_)))); ((repeat' (first | exact rfl | exact trivial | refine And.intro ?_ ?_ | ((conv => whnf); first | exact rfl | exact trivial | refine And.intro ?_ ?_))); all_goals (conv => whnf); all_goals (try simp only [])))
              all_goals rw [he]
              all_goals rfl
            · have hw1f : w1 = false := by
                have h1 := (hok2 (by assumption)).1
                have h2 := (hc2.ok h1).1
                have h3 := (hok1 h2).1
                exact (hc.ok h3).1
              have hr9 := readL_nine (hq.ok hw1f)
              have he : decR s = ((vs.getD 0 0, vs.getD 1 0, l, vs.getD 2 0, (vs.getD 3 0, vs.getD 4 0, vs.getD 5 0, vs.getD 6 0), vs.getD 7 0, vs.getD 8 0, []), 0) := by
                unfold decR
                rw [d1 (by assumption), if_pos ⟨by assumption, by omega⟩]
                have e : ansOf vs l [] = some (vs.getD 0 0, vs.getD 1 0, l, vs.getD 2 0, (vs.getD 3 0, vs.getD 4 0, vs.getD 5 0, vs.getD 6 0), vs.getD 7 0, vs.getD 8 0, []) := by
                  have hr9 : vs = _ := hr9
                  generalize hv : [vs.getD 0 0, vs.getD 1 0, vs.getD 2 0, vs.getD 3 0, vs.getD 4 0, vs.getD 5 0, vs.getD 6 0, vs.getD 7 0, vs.getD 8 0] = us at hr9
                  rw [hr9, ← hv]; rfl
                rw [e]
              (refine CallN.intro (clipTM l) [] rfl rfl ?_ ?_ ?_; ((repeat' (first | exact rfl | exact trivial | refine And.intro ?_ ?_ | ((conv => whnf); first | exact rfl | exact trivial | refine And.intro ?_ ?_)))); ((repeat' (first | exact rfl | exact trivial | refine And.intro ?_ ?_ | ((conv => whnf); first | exact rfl | exact trivial | refine And.intro ?_ ?_)))); (intro y hy; clear y hy; (repeat' ((conv => whnf); first | refine And.intro ?_ ?_ | exact Cl.mk (by kernel_rfl) | exact Ck.mk (by kernel_rfl) | refine DrawN.mk ?_ | refine CodeN.step hm rfl ?_ | exact trivial | exact rfl | (intro hh; try simp only [decide_eq_true_eq, decide_eq_false_iff_not, beq_iff_eq, beq_eq_false_iff_ne, bne_iff_ne, bne_eq_false_iff_eq, Bool.not_eq_true', Bool.not_eq_false', Bool.not_true, Bool.not_false] at hh; try exact absurd hh (by decide)))); all_goals (conv => whnf); (all_goals first | (exact Ob.mk (by decide)) | skip)))
              (refine CallN.intro (clipNM []) [] rfl rfl ?_ ?_ ?_; ((repeat' (first | exact rfl | exact trivial | refine And.intro ?_ ?_ | ((conv => whnf); first | exact rfl | exact trivial | refine And.intro ?_ ?_)))); ((repeat' (first | exact rfl | exact trivial | refine And.intro ?_ ?_ | ((conv => whnf); first | exact rfl | exact trivial | refine And.intro ?_ ?_)))); (intro y hy; clear y hy; (repeat' ((conv => whnf); first | refine And.intro ?_ ?_ | exact Cl.mk (by kernel_rfl) | exact Ck.mk (by kernel_rfl) | refine DrawN.mk ?_ | refine CodeN.step hm rfl ?_ | exact trivial | exact rfl | (intro hh; try simp only [decide_eq_true_eq, decide_eq_false_iff_not, beq_iff_eq, beq_eq_false_iff_ne, bne_iff_ne, bne_eq_false_iff_eq, Bool.not_eq_true', Bool.not_eq_false', Bool.not_true, Bool.not_false] at hh; try exact absurd hh (by decide)))); all_goals (conv => whnf); (all_goals first | (exact Ob.mk (by decide)) | skip)))
              (refine RetN.intro () [] rfl rfl ?_ ?_ ?_; ((repeat' (first | exact rfl | exact trivial | refine And.intro ?_ ?_ | ((conv => whnf); first | exact rfl | exact trivial | refine And.intro ?_ ?_)))); ((repeat' (first | exact rfl | exact trivial | refine And.intro ?_ ?_ | ((conv => whnf); first | exact rfl | exact trivial | refine And.intro ?_ ?_))); all_goals (conv => whnf); all_goals (try simp only [])))
              all_goals rw [he]
              all_goals rfl
            all_goals
              have he : decR s = (zeroA, 3) := by
                unfold decR
                first
                  | rw [d2 (by assumption)]
                  | rw [d1 (by assumption), if_neg (by omega)]
              (refine RetN.intro () [] rfl rfl ?_ ?_ ?_; ((repeat' (first | exact rfl | exact trivial | refine And.intro ?_ ?_ | ((conv => whnf); first | exact rfl | exact trivial | refine And.intro ?_ ?_)))); ((repeat' (first | exact rfl | exact trivial | refine And.intro ?_ ?_ | ((conv => whnf); first | exact rfl | exact trivial | refine And.intro ?_ ?_))); all_goals (conv => whnf); all_goals (try simp only [])))
              all_goals rw [he]
              all_goals rfl
          · skip
            (repeat' ((conv => whnf); first | refine And.intro ?_ ?_ | exact Cl.mk (by kernel_rfl) | exact Ck.mk (by kernel_rfl) | refine DrawN.mk ?_ | refine CodeN.step hm rfl ?_ | exact trivial | exact rfl | (intro hh; try simp only [decide_eq_true_eq, decide_eq_false_iff_not, beq_iff_eq, beq_eq_false_iff_ne, bne_iff_ne, bne_eq_false_iff_eq, Bool.not_eq_true', Bool.not_eq_false', Bool.not_true, Bool.not_false] at hh))); all_goals (conv => whnf)
            · refine CallN.intro (rnamM s t4 w4 hs) [1] rfl rfl ?_ ?_ ?_
              · (repeat' (first | exact rfl | exact trivial | refine And.intro ?_ ?_ | ((conv => whnf); first | exact rfl | exact trivial | refine And.intro ?_ ?_)))
              · (repeat' (first | exact rfl | exact trivial | refine And.intro ?_ ?_ | ((conv => whnf); first | exact rfl | exact trivial | refine And.intro ?_ ?_)))
              rintro ⟨y2, t5, w5⟩ hy2
              (repeat' ((conv => whnf); first | refine And.intro ?_ ?_ | exact Cl.mk (by kernel_rfl) | exact Ck.mk (by kernel_rfl) | refine DrawN.mk ?_ | refine CodeN.step hm rfl ?_ | exact trivial | exact rfl | (intro hh; try simp only [decide_eq_true_eq, decide_eq_false_iff_not, beq_iff_eq, beq_eq_false_iff_ne, bne_iff_ne, bne_eq_false_iff_eq, Bool.not_eq_true', Bool.not_eq_false', Bool.not_true, Bool.not_false] at hh))); all_goals (conv => whnf)
              · refine Ob.mk ?_
                rw [en]; simp; omega
              · have hj1 : j < m' := by omega
                obtain ⟨q1, q2⟩ := rn_step hj1 hok2 hbad2 hy2.ok hy2.bad
                refine ⟨((j + 1, t5, w5), nl ++ [y2], true), [0, 1, 2, 3], ⟨rfl, rfl, ?_, ?_⟩, ⟨hj1, by simp; omega, fun h => (by cases h), q1, q2⟩, by simp only []; omega⟩
                · (repeat' (first | exact rfl | exact trivial | refine And.intro ?_ ?_ | ((conv => whnf); first | exact rfl | exact trivial | refine And.intro ?_ ?_))); all_goals (conv => whnf); all_goals (try simp only [])
                  all_goals first | (rw [List.take_length]; rfl) | (simp; done) | skip
                · (repeat' (first | exact rfl | exact trivial | refine And.intro ?_ ?_ | ((conv => whnf); first | exact rfl | exact trivial | refine And.intro ?_ ?_))); all_goals (conv => whnf); all_goals (try simp only [])
                  exact wr2 j hj1 (by omega)
            all_goals
              have ej : j = m' := by omega
              subst ej
              obtain ⟨d1, d2⟩ := dec_end hq hc hok1 hbad1 hc2 hok2 hbad2
            · have he : decR s = (zeroA, 3) := by unfold decR; rw [d1 (by assumption), if_neg (by omega)]
              (refine RetN.intro () [] rfl rfl ?_ ?_ ?_; ((repeat' (first | exact rfl | exact trivial | refine And.intro ?_ ?_ | ((conv => whnf); first | exact rfl | exact trivial | refine And.intro ?_ ?_)))); ((repeat' (first | exact rfl | exact trivial | refine And.intro ?_ ?_ | ((conv => whnf); first | exact rfl | exact trivial | refine And.intro ?_ ?_))); all_goals (conv => whnf); all_goals (try simp only [])))
              all_goals rw [he]
              all_goals rfl
            · have hw1f : w1 = false := by
                have h1 := (hok2 (by assumption)).1
                have h2 := (hc2.ok h1).1
                have h3 := (hok1 h2).1
                exact (hc.ok h3).1
              have hr9 := readL_nine (hq.ok hw1f)
              have he : decR s = ((vs.getD 0 0, vs.getD 1 0, l, vs.getD 2 0, (vs.getD 3 0, vs.getD 4 0, vs.getD 5 0, vs.getD 6 0), vs.getD 7 0, vs.getD 8 0, nl), 0) := by
                unfold decR
                rw [d1 (by assumption), if_pos ⟨by assumption, by omega⟩]
                have e : ansOf vs l nl = some (vs.getD 0 0, vs.getD 1 0, l, vs.getD 2 0, (vs.getD 3 0, vs.getD 4 0, vs.getD 5 0, vs.getD 6 0), vs.getD 7 0, vs.getD 8 0, nl) := by
                  have hr9 : vs = _ := hr9
                  generalize hv : [vs.getD 0 0, vs.getD 1 0, vs.getD 2 0, vs.getD 3 0, vs.getD 4 0, vs.getD 5 0, vs.getD 6 0, vs.getD 7 0, vs.getD 8 0] = us at hr9
                  rw [hr9, ← hv]; rfl
                rw [e]
              (refine CallN.intro (clipTM l) [] rfl rfl ?_ ?_ ?_; ((repeat' (first | exact rfl | exact trivial | refine And.intro ?_ ?_ | ((conv => whnf); first | exact rfl | exact trivial | refine And.intro ?_ ?_)))); ((repeat' (first | exact rfl | exact trivial | refine And.intro ?_ ?_ | ((conv => whnf); first | exact rfl | exact trivial | refine And.intro ?_ ?_)))); (intro y hy; clear y hy; (repeat' ((conv => whnf); first | refine And.intro ?_ ?_ | exact Cl.mk (by kernel_rfl) | exact Ck.mk (by kernel_rfl) | refine DrawN.mk ?_ | refine CodeN.step hm rfl ?_ | exact trivial | exact rfl | (intro hh; try simp only [decide_eq_true_eq, decide_eq_false_iff_not, beq_iff_eq, beq_eq_false_iff_ne, bne_iff_ne, bne_eq_false_iff_eq, Bool.not_eq_true', Bool.not_eq_false', Bool.not_true, Bool.not_false] at hh; try exact absurd hh (by decide)))); all_goals (conv => whnf); (all_goals first | (exact Ob.mk (by decide)) | skip)))
              refine CallN.frz 3 ?_ (clipNM nl).callable
              (conv => whnf)
              have e5 : List.take nl.length (List.drop 0 nl) = nl := by rw [List.drop_zero, List.take_length]
              simp only [e5]
              (refine CallN.intro (clipNM nl) [] rfl rfl ?_ ?_ ?_; ((repeat' (first | exact rfl | exact trivial | refine And.intro ?_ ?_ | ((conv => whnf); first | exact rfl | exact trivial | refine And.intro ?_ ?_)))); ((repeat' (first | exact rfl | exact trivial | refine And.intro ?_ ?_ | ((conv => whnf); first | exact rfl | exact trivial | refine And.intro ?_ ?_)))); (intro y hy; clear y hy; (repeat' ((conv => whnf); first | refine And.intro ?_ ?_ | exact Cl.mk (by kernel_rfl) | exact Ck.mk (by kernel_rfl) | refine DrawN.mk ?_ | refine CodeN.step hm rfl ?_ | exact trivial | exact rfl | (intro hh; try simp only [decide_eq_true_eq, decide_eq_false_iff_not, beq_iff_eq, beq_eq_false_iff_ne, bne_iff_ne, bne_eq_false_iff_eq, Bool.not_eq_true', Bool.not_eq_false', Bool.not_true, Bool.not_false] at hh; try exact absurd hh (by decide)))); all_goals (conv => whnf); (all_goals first | (exact Ob.mk (by decide)) | skip)))
              (refine RetN.intro () [] rfl rfl ?_ ?_ ?_; ((repeat' (first | exact rfl | exact trivial | refine And.intro ?_ ?_ | ((conv => whnf); first | exact rfl | exact trivial | refine And.intro ?_ ?_)))); ((repeat' (first | exact rfl | exact trivial | refine And.intro ?_ ?_ | ((conv => whnf); first | exact rfl | exact trivial | refine And.intro ?_ ?_))); all_goals (conv => whnf); all_goals (try simp only [])))
              all_goals rw [he]
              all_goals rfl
            all_goals
              have he : decR s = (zeroA, 3) := by
                unfold decR
                first
                  | rw [d2 (by assumption)]
                  | rw [d1 (by assumption), if_neg (by omega)]
              (refine RetN.intro () [] rfl rfl ?_ ?_ ?_; ((repeat' (first | exact rfl | exact trivial | refine And.intro ?_ ?_ | ((conv => whnf); first | exact rfl | exact trivial | refine And.intro ?_ ?_)))); ((repeat' (first | exact rfl | exact trivial | refine And.intro ?_ ?_ | ((conv => whnf); first | exact rfl | exact trivial | refine And.intro ?_ ?_))); all_goals (conv => whnf); all_goals (try simp only [])))
              all_goals rw [he]
              all_goals rfl
end Go.Proofs.Ytoipgandilhdeaa.An
