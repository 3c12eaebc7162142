/- The law HistNeutral holds at every input that its statement lets in; part 3 of its proof. -/
import Derived.Test.YtclfhgfdnnifbaaMHistNeutral1
import Derived.Test.YtclfhgfdnnifbaaProg
set_option linter.unusedVariables false
set_option linter.unusedSimpArgs false
namespace Go.Proofs.Ytclfhgfdnnifbaa.Po
open Go Go.RowKit Fw Hi
theorem hm : Try.prog.follows .mixedOrders = true := by kernel_rfl
theorem withinM (n m : Int) : Meets Try.prog 31 [.int .i64 fun _ => n, .int .i64 fun _ => m] [] (Y := Unit) (fun _ => True) (fun _ => .bool fun _ => decide (1 ≤ n ∧ n ≤ m)) (fun _ => []) := by
  refine Meets.intro hm (fn := Try.f31) Try.func31 rfl (by decide) (Nat.le_of_ble_eq_true rfl) (fun _ => rfl) ?_; intro S hok; (conv => whnf)
  (repeat' ((conv => whnf); first | refine And.intro ?_ ?_ | exact Cl.mk (by kernel_rfl) | exact Ck.mk (by kernel_rfl) | exact trivial | exact rfl | (intro hh; try simp only [decide_eq_true_eq, decide_eq_false_iff_not, beq_iff_eq, beq_eq_false_iff_ne, bne_iff_ne, bne_eq_false_iff_eq, Bool.not_eq_true', Bool.not_eq_false', Bool.not_true, Bool.not_false] at hh))); all_goals (conv => whnf)
  · (refine RetN.intro () [] rfl rfl ?_ ?_ ?_; ((repeat' (first | exact rfl | exact trivial | refine And.intro ?_ ?_ | ((conv => whnf); first | exact rfl | exact trivial | refine And.intro ?_ ?_)))); ((repeat' (first | exact rfl | exact trivial | refine And.intro ?_ ?_ | ((conv => whnf); first | exact rfl | exact trivial | refine And.intro ?_ ?_))); all_goals (conv => whnf); all_goals (try simp only [])))
    simp [hh]
  · (refine RetN.intro () [] rfl rfl ?_ ?_ ?_; ((repeat' (first | exact rfl | exact trivial | refine And.intro ?_ ?_ | ((conv => whnf); first | exact rfl | exact trivial | refine And.intro ?_ ?_)))); ((repeat' (first | exact rfl | exact trivial | refine And.intro ?_ ?_ | ((conv => whnf); first | exact rfl | exact trivial | refine And.intro ?_ ?_))); all_goals (conv => whnf); all_goals (try simp only [])))
    simp [hh]
theorem weighsM (n : Int) : Meets Try.prog 21 [.int .i64 fun _ => n] [] (Y := Unit) (fun _ => True) (fun _ => .bool fun _ => weighs n) (fun _ => []) := by
  refine Meets.intro hm (fn := Try.f21) Try.func21 rfl (by decide) (Nat.le_of_ble_eq_true rfl) (fun _ => rfl) ?_; intro S hok; (conv => whnf)
  (repeat' ((conv => whnf); first | refine And.intro ?_ ?_ | exact Cl.mk (by kernel_rfl) | exact Ck.mk (by kernel_rfl) | exact trivial | exact rfl | (intro hh; try simp only [decide_eq_true_eq, decide_eq_false_iff_not, beq_iff_eq, beq_eq_false_iff_ne, bne_iff_ne, bne_eq_false_iff_eq, Bool.not_eq_true', Bool.not_eq_false', Bool.not_true, Bool.not_false] at hh))); all_goals (conv => whnf)
  (refine CallN.intro (withinM n 1048576) [] rfl rfl ?_ ?_ ?_; ((repeat' (first | exact rfl | exact trivial | refine And.intro ?_ ?_ | ((conv => whnf); first | exact rfl | exact trivial | refine And.intro ?_ ?_)))); ((repeat' (first | exact rfl | exact trivial | refine And.intro ?_ ?_ | ((conv => whnf); first | exact rfl | exact trivial | refine And.intro ?_ ?_)))); (intro y hy; (repeat' ((conv => whnf); first | refine And.intro ?_ ?_ | exact Cl.mk (by kernel_rfl) | exact Ck.mk (by kernel_rfl) | exact trivial | exact rfl | (intro hh; try simp only [decide_eq_true_eq, decide_eq_false_iff_not, beq_iff_eq, beq_eq_false_iff_ne, bne_iff_ne, bne_eq_false_iff_eq, Bool.not_eq_true', Bool.not_eq_false', Bool.not_true, Bool.not_false] at hh))); all_goals (conv => whnf)))
  (refine RetN.intro () [] rfl rfl ?_ ?_ ?_; ((repeat' (first | exact rfl | exact trivial | refine And.intro ?_ ?_ | ((conv => whnf); first | exact rfl | exact trivial | refine And.intro ?_ ?_)))); ((repeat' (first | exact rfl | exact trivial | refine And.intro ?_ ?_ | ((conv => whnf); first | exact rfl | exact trivial | refine And.intro ?_ ?_))); all_goals (conv => whnf); all_goals (try simp only [])))
  simp [weighs]
def rulesAV (i : Nat) : AV := .agg [.fnil, .fnil, .fn (.func 42) [] [], .fn (.func 41) [] [], .fn (.func 42) [] [], .fn (.func 41) [] [],
  .fn (.func 43) [] [], .fn (.func 44) [] [], .fn (.func 45) [] [.ptr i 0], .fn (.func 41) [] []]
def plainC : Chunk := .cells 53 [.fn (.func 42) [] []]
theorem rulesM : Meets Try.prog 39 [] [] (Y := Unit) (fun _ => True) (fun _ => rulesAV 0) (fun _ => [plainC]) := by
  refine Meets.intro hm (fn := Try.f39) Try.func39 rfl (by decide) (Nat.le_of_ble_eq_true rfl) (fun _ => rfl) ?_; intro S hok; (conv => whnf)
  (repeat' ((conv => whnf); first | refine And.intro ?_ ?_ | exact Cl.mk (by kernel_rfl) | exact Ck.mk (by kernel_rfl) | exact trivial | exact rfl | (intro hh; try simp only [decide_eq_true_eq, decide_eq_false_iff_not, beq_iff_eq, beq_eq_false_iff_ne, bne_iff_ne, bne_eq_false_iff_eq, Bool.not_eq_true', Bool.not_eq_false', Bool.not_true, Bool.not_false] at hh))); all_goals (conv => whnf)
  (refine RetN.intro () [1] rfl rfl ?_ ?_ ?_; ((repeat' (first | exact rfl | exact trivial | refine And.intro ?_ ?_ | ((conv => whnf); first | exact rfl | exact trivial | refine And.intro ?_ ?_)))); ((repeat' (first | exact rfl | exact trivial | refine And.intro ?_ ?_ | ((conv => whnf); first | exact rfl | exact trivial | refine And.intro ?_ ?_))); all_goals (conv => whnf); all_goals (try simp only [])))
theorem oneM (p : Pol) : Meets Try.prog 41 [polAV p] [] (Y := Unit) (fun _ => True) (fun _ => .int .i64 fun _ => 1) (fun _ => []) := by
  refine Meets.intro hm (fn := Try.f41) Try.func41 rfl (by decide) (Nat.le_of_ble_eq_true rfl) (fun _ => rfl) ?_; intro S hok; (conv => whnf)
  (repeat' ((conv => whnf); first | refine And.intro ?_ ?_ | exact Cl.mk (by kernel_rfl) | exact Ck.mk (by kernel_rfl) | exact trivial | exact rfl | (intro hh; try simp only [decide_eq_true_eq, decide_eq_false_iff_not, beq_iff_eq, beq_eq_false_iff_ne, bne_iff_ne, bne_eq_false_iff_eq, Bool.not_eq_true', Bool.not_eq_false', Bool.not_true, Bool.not_false] at hh))); all_goals (conv => whnf)
  (refine RetN.intro () [] rfl rfl ?_ ?_ ?_; ((repeat' (first | exact rfl | exact trivial | refine And.intro ?_ ?_ | ((conv => whnf); first | exact rfl | exact trivial | refine And.intro ?_ ?_)))); ((repeat' (first | exact rfl | exact trivial | refine And.intro ?_ ?_ | ((conv => whnf); first | exact rfl | exact trivial | refine And.intro ?_ ?_))); all_goals (conv => whnf); all_goals (try simp only [])))
theorem plainM (p : Pol) : Meets Try.prog 42 [polAV p] [] (Y := Unit) (fun _ => True) (fun _ => .bool fun _ => decide (p.2.2.2 = 0)) (fun _ => []) := by
  refine Meets.intro hm (fn := Try.f42) Try.func42 rfl (by decide) (Nat.le_of_ble_eq_true rfl) (fun _ => rfl) ?_; intro S hok; (conv => whnf)
  (repeat' ((conv => whnf); first | refine And.intro ?_ ?_ | exact Cl.mk (by kernel_rfl) | exact Ck.mk (by kernel_rfl) | exact trivial | exact rfl | (intro hh; try simp only [decide_eq_true_eq, decide_eq_false_iff_not, beq_iff_eq, beq_eq_false_iff_ne, bne_iff_ne, bne_eq_false_iff_eq, Bool.not_eq_true', Bool.not_eq_false', Bool.not_true, Bool.not_false] at hh))); all_goals (conv => whnf)
  (refine RetN.intro () [] rfl rfl ?_ ?_ ?_; ((repeat' (first | exact rfl | exact trivial | refine And.intro ?_ ?_ | ((conv => whnf); first | exact rfl | exact trivial | refine And.intro ?_ ?_)))); ((repeat' (first | exact rfl | exact trivial | refine And.intro ?_ ?_ | ((conv => whnf); first | exact rfl | exact trivial | refine And.intro ?_ ?_))); all_goals (conv => whnf); all_goals (try simp only [])))
theorem ringM (p : Pol) : Meets Try.prog 43 [polAV p] [] (Y := Unit) (fun _ => True) (fun _ => .bool fun _ => decide ((1 ≤ p.2.2.2 ∧ p.2.2.2 ≤ 16) ∧ p.2.2.1.tmod p.2.2.2 = 0)) (fun _ => []) := by
  refine Meets.intro hm (fn := Try.f43) Try.func43 rfl (by decide) (Nat.le_of_ble_eq_true rfl) (fun _ => rfl) ?_; intro S hok; (conv => whnf)
  (repeat' ((conv => whnf); first | refine And.intro ?_ ?_ | exact Cl.mk (by kernel_rfl) | exact Ck.mk (by kernel_rfl) | exact trivial | exact rfl | (intro hh; try simp only [decide_eq_true_eq, decide_eq_false_iff_not, beq_iff_eq, beq_eq_false_iff_ne, bne_iff_ne, bne_eq_false_iff_eq, Bool.not_eq_true', Bool.not_eq_false', Bool.not_true, Bool.not_false] at hh))); all_goals (conv => whnf)
  (refine CallN.intro (withinM p.2.2.2 16) [] rfl rfl ?_ ?_ ?_; ((repeat' (first | exact rfl | exact trivial | refine And.intro ?_ ?_ | ((conv => whnf); first | exact rfl | exact trivial | refine And.intro ?_ ?_)))); ((repeat' (first | exact rfl | exact trivial | refine And.intro ?_ ?_ | ((conv => whnf); first | exact rfl | exact trivial | refine And.intro ?_ ?_)))); (intro y hy; (repeat' ((conv => whnf); first | refine And.intro ?_ ?_ | exact Cl.mk (by kernel_rfl) | exact Ck.mk (by kernel_rfl) | exact trivial | exact rfl | (intro hh; try simp only [decide_eq_true_eq, decide_eq_false_iff_not, beq_iff_eq, beq_eq_false_iff_ne, bne_iff_ne, bne_eq_false_iff_eq, Bool.not_eq_true', Bool.not_eq_false', Bool.not_true, Bool.not_false] at hh))); all_goals (conv => whnf)))
  · refine Ob.mk ?_
    show p.2.2.2 ≠ 0
    omega
  · (refine RetN.intro () [] rfl rfl ?_ ?_ ?_; ((repeat' (first | exact rfl | exact trivial | refine And.intro ?_ ?_ | ((conv => whnf); first | exact rfl | exact trivial | refine And.intro ?_ ?_)))); ((repeat' (first | exact rfl | exact trivial | refine And.intro ?_ ?_ | ((conv => whnf); first | exact rfl | exact trivial | refine And.intro ?_ ?_))); all_goals (conv => whnf); all_goals (try simp only [])))
    rw [Bool.eq_iff_iff]; simp [hh]
  · (refine RetN.intro () [] rfl rfl ?_ ?_ ?_; ((repeat' (first | exact rfl | exact trivial | refine And.intro ?_ ?_ | ((conv => whnf); first | exact rfl | exact trivial | refine And.intro ?_ ?_)))); ((repeat' (first | exact rfl | exact trivial | refine And.intro ?_ ?_ | ((conv => whnf); first | exact rfl | exact trivial | refine And.intro ?_ ?_))); all_goals (conv => whnf); all_goals (try simp only [])))
    simp [hh]
theorem bucketsM (p : Pol) : Meets Try.prog 44 [polAV p] [] (Y := Unit) (fun _ => True) (fun _ => .int .i64 fun _ => p.2.2.2) (fun _ => []) := by
  refine Meets.intro hm (fn := Try.f44) Try.func44 rfl (by decide) (Nat.le_of_ble_eq_true rfl) (fun _ => rfl) ?_; intro S hok; (conv => whnf)
  (repeat' ((conv => whnf); first | refine And.intro ?_ ?_ | exact Cl.mk (by kernel_rfl) | exact Ck.mk (by kernel_rfl) | exact trivial | exact rfl | (intro hh; try simp only [decide_eq_true_eq, decide_eq_false_iff_not, beq_iff_eq, beq_eq_false_iff_ne, bne_iff_ne, bne_eq_false_iff_eq, Bool.not_eq_true', Bool.not_eq_false', Bool.not_true, Bool.not_false] at hh))); all_goals (conv => whnf)
  (refine RetN.intro () [] rfl rfl ?_ ?_ ?_; ((repeat' (first | exact rfl | exact trivial | refine And.intro ?_ ?_ | ((conv => whnf); first | exact rfl | exact trivial | refine And.intro ?_ ?_)))); ((repeat' (first | exact rfl | exact trivial | refine And.intro ?_ ?_ | ((conv => whnf); first | exact rfl | exact trivial | refine And.intro ?_ ?_))); all_goals (conv => whnf); all_goals (try simp only [])))
theorem exactM (p : Pol) : Meets Try.prog 45 [polAV p, .ptr 0 0] [plainC] (Y := Unit) (fun _ => True) (fun _ => .bool fun _ => decide (p.2.2.2 = 0 ∧ p.2.1 ≤ 16)) (fun _ => [plainC]) := by
  refine Meets.intro hm (fn := Try.f45) Try.func45 rfl (by decide) (Nat.le_of_ble_eq_true rfl) (fun _ => rfl) ?_; intro S hok; (conv => whnf)
  (repeat' ((conv => whnf); first | refine And.intro ?_ ?_ | exact Cl.mk (by kernel_rfl) | exact Ck.mk (by kernel_rfl) | exact trivial | exact rfl | (intro hh; try simp only [decide_eq_true_eq, decide_eq_false_iff_not, beq_iff_eq, beq_eq_false_iff_ne, bne_iff_ne, bne_eq_false_iff_eq, Bool.not_eq_true', Bool.not_eq_false', Bool.not_true, Bool.not_false] at hh))); all_goals (conv => whnf)
  (refine CallN.intro (plainM p) [] rfl rfl ?_ ?_ ?_; ((repeat' (first | exact rfl | exact trivial | refine And.intro ?_ ?_ | ((conv => whnf); first | exact rfl | exact trivial | refine And.intro ?_ ?_)))); ((repeat' (first | exact rfl | exact trivial | refine And.intro ?_ ?_ | ((conv => whnf); first | exact rfl | exact trivial | refine And.intro ?_ ?_)))); (intro y hy; (repeat' ((conv => whnf); first | refine And.intro ?_ ?_ | exact Cl.mk (by kernel_rfl) | exact Ck.mk (by kernel_rfl) | exact trivial | exact rfl | (intro hh; try simp only [decide_eq_true_eq, decide_eq_false_iff_not, beq_iff_eq, beq_eq_false_iff_ne, bne_iff_ne, bne_eq_false_iff_eq, Bool.not_eq_true', Bool.not_eq_false', Bool.not_true, Bool.not_false] at hh))); all_goals (conv => whnf)))
  · (refine RetN.intro () [0] rfl rfl ?_ ?_ ?_; ((repeat' (first | exact rfl | exact trivial | refine And.intro ?_ ?_ | ((conv => whnf); first | exact rfl | exact trivial | refine And.intro ?_ ?_)))); ((repeat' (first | exact rfl | exact trivial | refine And.intro ?_ ?_ | ((conv => whnf); first | exact rfl | exact trivial | refine And.intro ?_ ?_))); all_goals (conv => whnf); all_goals (try simp only [])))
    simp [hh]
  · (refine RetN.intro () [0] rfl rfl ?_ ?_ ?_; ((repeat' (first | exact rfl | exact trivial | refine And.intro ?_ ?_ | ((conv => whnf); first | exact rfl | exact trivial | refine And.intro ?_ ?_)))); ((repeat' (first | exact rfl | exact trivial | refine And.intro ?_ ?_ | ((conv => whnf); first | exact rfl | exact trivial | refine And.intro ?_ ?_))); all_goals (conv => whnf); all_goals (try simp only [])))
    simp [hh]
theorem polOk_iff (k L W B : Int) : PolOk (k, L, W, B) ↔ (1 ≤ k ∧ k ≤ 4) ∧ (1 ≤ L ∧ L ≤ 1048576) ∧ (1 ≤ W ∧ W ≤ 1048576) ∧ (k = 3 → 1 ≤ B ∧ B ≤ 16 ∧ W.tmod B = 0) ∧ (k ≠ 3 → B = 0) ∧ (k = 4 → L ≤ 16) :=
  ⟨fun q => ⟨q.1, q.2, q.3, q.4, q.5, q.6⟩, fun h => ⟨h.1, h.2.1, h.2.2.1, h.2.2.2.1, h.2.2.2.2.1, h.2.2.2.2.2⟩⟩
theorem checkM (p : Pol) : Meets Try.prog 30 [polAV p] [] (Y := Unit) (fun _ => True) (fun _ => .int .i64 fun _ => if PolOk p then 0 else 1) (fun _ => []) := by
  by_cases hk : 1 ≤ p.1 ∧ p.1 ≤ 4
  · obtain ⟨k, L, W, B⟩ := p
    simp only [] at hk
    obtain rfl | rfl | rfl | rfl : k = 1 ∨ k = 2 ∨ k = 3 ∨ k = 4 := by omega
    · refine Meets.intro hm (fn := Try.f30) Try.func30 rfl (by decide) (Nat.le_of_ble_eq_true rfl) (fun _ => rfl) ?_; intro S hok; (conv => whnf)
      (repeat' ((conv => whnf); first | refine And.intro ?_ ?_ | exact Cl.mk (by kernel_rfl) | exact Ck.mk (by kernel_rfl) | exact trivial | exact rfl | (intro hh; try simp only [decide_eq_true_eq, decide_eq_false_iff_not, beq_iff_eq, beq_eq_false_iff_ne, bne_iff_ne, bne_eq_false_iff_eq, Bool.not_eq_true', Bool.not_eq_false', Bool.not_true, Bool.not_false] at hh))); all_goals (conv => whnf)
      (refine CallN.intro (withinM 1 4) [] rfl rfl ?_ ?_ ?_; ((repeat' (first | exact rfl | exact trivial | refine And.intro ?_ ?_ | ((conv => whnf); first | exact rfl | exact trivial | refine And.intro ?_ ?_)))); ((repeat' (first | exact rfl | exact trivial | refine And.intro ?_ ?_ | ((conv => whnf); first | exact rfl | exact trivial | refine And.intro ?_ ?_)))); (intro y hy; clear y hy; (repeat' ((conv => whnf); first | refine And.intro ?_ ?_ | exact Cl.mk (by kernel_rfl) | exact Ck.mk (by kernel_rfl) | exact trivial | exact rfl | (intro hh; try simp only [decide_eq_true_eq, decide_eq_false_iff_not, beq_iff_eq, beq_eq_false_iff_ne, bne_iff_ne, bne_eq_false_iff_eq, Bool.not_eq_true', Bool.not_eq_false', Bool.not_true, Bool.not_false] at hh; try exact absurd hh (by decide)))); all_goals (conv => whnf); (all_goals first | (exact Ob.mk (by decide)) | skip)))
      (refine CallN.intro (withinM L 1048576) [] rfl rfl ?_ ?_ ?_; ((repeat' (first | exact rfl | exact trivial | refine And.intro ?_ ?_ | ((conv => whnf); first | exact rfl | exact trivial | refine And.intro ?_ ?_)))); ((repeat' (first | exact rfl | exact trivial | refine And.intro ?_ ?_ | ((conv => whnf); first | exact rfl | exact trivial | refine And.intro ?_ ?_)))); (intro y hy; clear y hy; (repeat' ((conv => whnf); first | refine And.intro ?_ ?_ | exact Cl.mk (by kernel_rfl) | exact Ck.mk (by kernel_rfl) | exact trivial | exact rfl | (intro hh; try simp only [decide_eq_true_eq, decide_eq_false_iff_not, beq_iff_eq, beq_eq_false_iff_ne, bne_iff_ne, bne_eq_false_iff_eq, Bool.not_eq_true', Bool.not_eq_false', Bool.not_true, Bool.not_false] at hh; try exact absurd hh (by decide)))); all_goals (conv => whnf); (all_goals first | (exact Ob.mk (by decide)) | skip)))
      · (refine CallN.intro (withinM W 1048576) [] rfl rfl ?_ ?_ ?_; ((repeat' (first | exact rfl | exact trivial | refine And.intro ?_ ?_ | ((conv => whnf); first | exact rfl | exact trivial | refine And.intro ?_ ?_)))); ((repeat' (first | exact rfl | exact trivial | refine And.intro ?_ ?_ | ((conv => whnf); first | exact rfl | exact trivial | refine And.intro ?_ ?_)))); (intro y hy; clear y hy; (repeat' ((conv => whnf); first | refine And.intro ?_ ?_ | exact Cl.mk (by kernel_rfl) | exact Ck.mk (by kernel_rfl) | exact trivial | exact rfl | (intro hh; try simp only [decide_eq_true_eq, decide_eq_false_iff_not, beq_iff_eq, beq_eq_false_iff_ne, bne_iff_ne, bne_eq_false_iff_eq, Bool.not_eq_true', Bool.not_eq_false', Bool.not_true, Bool.not_false] at hh; try exact absurd hh (by decide)))); all_goals (conv => whnf); (all_goals first | (exact Ob.mk (by decide)) | skip)))
        · (refine CallN.intro rulesM [] rfl rfl ?_ ?_ ?_; ((repeat' (first | exact rfl | exact trivial | refine And.intro ?_ ?_ | ((conv => whnf); first | exact rfl | exact trivial | refine And.intro ?_ ?_)))); ((repeat' (first | exact rfl | exact trivial | refine And.intro ?_ ?_ | ((conv => whnf); first | exact rfl | exact trivial | refine And.intro ?_ ?_)))); (intro y hy; clear y hy; (repeat' ((conv => whnf); first | refine And.intro ?_ ?_ | exact Cl.mk (by kernel_rfl) | exact Ck.mk (by kernel_rfl) | exact trivial | exact rfl | (intro hh; try simp only [decide_eq_true_eq, decide_eq_false_iff_not, beq_iff_eq, beq_eq_false_iff_ne, bne_iff_ne, bne_eq_false_iff_eq, Bool.not_eq_true', Bool.not_eq_false', Bool.not_true, Bool.not_false] at hh; try exact absurd hh (by decide)))); all_goals (conv => whnf); (all_goals first | (exact Ob.mk (by decide)) | skip)))
          · exact Ob.mk (by simp only []; omega)
          (refine CallN.intro (plainM (1, L, W, B)) [] rfl rfl ?_ ?_ ?_; ((repeat' (first | exact rfl | exact trivial | refine And.intro ?_ ?_ | ((conv => whnf); first | exact rfl | exact trivial | refine And.intro ?_ ?_)))); ((repeat' (first | exact rfl | exact trivial | refine And.intro ?_ ?_ | ((conv => whnf); first | exact rfl | exact trivial | refine And.intro ?_ ?_)))); (intro y hy; clear y hy; (repeat' ((conv => whnf); first | refine And.intro ?_ ?_ | exact Cl.mk (by kernel_rfl) | exact Ck.mk (by kernel_rfl) | exact trivial | exact rfl | (intro hh; try simp only [decide_eq_true_eq, decide_eq_false_iff_not, beq_iff_eq, beq_eq_false_iff_ne, bne_iff_ne, bne_eq_false_iff_eq, Bool.not_eq_true', Bool.not_eq_false', Bool.not_true, Bool.not_false] at hh; try exact absurd hh (by decide)))); all_goals (conv => whnf); (all_goals first | (exact Ob.mk (by decide)) | skip)))
          · (refine RetN.intro () [] rfl rfl ?_ ?_ ?_; ((repeat' (first | exact rfl | exact trivial | refine And.intro ?_ ?_ | ((conv => whnf); first | exact rfl | exact trivial | refine And.intro ?_ ?_)))); ((repeat' (first | exact rfl | exact trivial | refine And.intro ?_ ?_ | ((conv => whnf); first | exact rfl | exact trivial | refine And.intro ?_ ?_))); all_goals (conv => whnf); all_goals (try simp only [])))
            rw [if_neg]
            rw [polOk_iff]; omega
          · (refine RetN.intro () [] rfl rfl ?_ ?_ ?_; ((repeat' (first | exact rfl | exact trivial | refine And.intro ?_ ?_ | ((conv => whnf); first | exact rfl | exact trivial | refine And.intro ?_ ?_)))); ((repeat' (first | exact rfl | exact trivial | refine And.intro ?_ ?_ | ((conv => whnf); first | exact rfl | exact trivial | refine And.intro ?_ ?_))); all_goals (conv => whnf); all_goals (try simp only [])))
            rw [if_pos]
            rw [polOk_iff]; omega
        · (refine RetN.intro () [] rfl rfl ?_ ?_ ?_; ((repeat' (first | exact rfl | exact trivial | refine And.intro ?_ ?_ | ((conv => whnf); first | exact rfl | exact trivial | refine And.intro ?_ ?_)))); ((repeat' (first | exact rfl | exact trivial | refine And.intro ?_ ?_ | ((conv => whnf); first | exact rfl | exact trivial | refine And.intro ?_ ?_))); all_goals (conv => whnf); all_goals (try simp only [])))
          rw [if_neg (fun h => hh h.window)]
      · (refine RetN.intro () [] rfl rfl ?_ ?_ ?_; ((repeat' (first | exact rfl | exact trivial | refine And.intro ?_ ?_ | ((conv => whnf); first | exact rfl | exact trivial | refine And.intro ?_ ?_)))); ((repeat' (first | exact rfl | exact trivial | refine And.intro ?_ ?_ | ((conv => whnf); first | exact rfl | exact trivial | refine And.intro ?_ ?_))); all_goals (conv => whnf); all_goals (try simp only [])))
        rw [if_neg (fun h => hh h.limit)]
    · refine Meets.intro hm (fn := Try.f30) Try.func30 rfl (by decide) (Nat.le_of_ble_eq_true rfl) (fun _ => rfl) ?_; intro S hok; (conv => whnf)
      (repeat' ((conv => whnf); first | refine And.intro ?_ ?_ | exact Cl.mk (by kernel_rfl) | exact Ck.mk (by kernel_rfl) | exact trivial | exact rfl | (intro hh; try simp only [decide_eq_true_eq, decide_eq_false_iff_not, beq_iff_eq, beq_eq_false_iff_ne, bne_iff_ne, bne_eq_false_iff_eq, Bool.not_eq_true', Bool.not_eq_false', Bool.not_true, Bool.not_false] at hh))); all_goals (conv => whnf)
      (refine CallN.intro (withinM 2 4) [] rfl rfl ?_ ?_ ?_; ((repeat' (first | exact rfl | exact trivial | refine And.intro ?_ ?_ | ((conv => whnf); first | exact rfl | exact trivial | refine And.intro ?_ ?_)))); ((repeat' (first | exact rfl | exact trivial | refine And.intro ?_ ?_ | ((conv => whnf); first | exact rfl | exact trivial | refine And.intro ?_ ?_)))); (intro y hy; clear y hy; (repeat' ((conv => whnf); first | refine And.intro ?_ ?_ | exact Cl.mk (by kernel_rfl) | exact Ck.mk (by kernel_rfl) | exact trivial | exact rfl | (intro hh; try simp only [decide_eq_true_eq, decide_eq_false_iff_not, beq_iff_eq, beq_eq_false_iff_ne, bne_iff_ne, bne_eq_false_iff_eq, Bool.not_eq_true', Bool.not_eq_false', Bool.not_true, Bool.not_false] at hh; try exact absurd hh (by decide)))); all_goals (conv => whnf); (all_goals first | (exact Ob.mk (by decide)) | skip)))
      (refine CallN.intro (withinM L 1048576) [] rfl rfl ?_ ?_ ?_; ((repeat' (first | exact rfl | exact trivial | refine And.intro ?_ ?_ | ((conv => whnf); first | exact rfl | exact trivial | refine And.intro ?_ ?_)))); ((repeat' (first | exact rfl | exact trivial | refine And.intro ?_ ?_ | ((conv => whnf); first | exact rfl | exact trivial | refine And.intro ?_ ?_)))); (intro y hy; clear y hy; (repeat' ((conv => whnf); first | refine And.intro ?_ ?_ | exact Cl.mk (by kernel_rfl) | exact Ck.mk (by kernel_rfl) | exact trivial | exact rfl | (intro hh; try simp only [decide_eq_true_eq, decide_eq_false_iff_not, beq_iff_eq, beq_eq_false_iff_ne, bne_iff_ne, bne_eq_false_iff_eq, Bool.not_eq_true', Bool.not_eq_false', Bool.not_true, Bool.not_false] at hh; try exact absurd hh (by decide)))); all_goals (conv => whnf); (all_goals first | (exact Ob.mk (by decide)) | skip)))
      · (refine CallN.intro (withinM W 1048576) [] rfl rfl ?_ ?_ ?_; ((repeat' (first | exact rfl | exact trivial | refine And.intro ?_ ?_ | ((conv => whnf); first | exact rfl | exact trivial | refine And.intro ?_ ?_)))); ((repeat' (first | exact rfl | exact trivial | refine And.intro ?_ ?_ | ((conv => whnf); first | exact rfl | exact trivial | refine And.intro ?_ ?_)))); (intro y hy; clear y hy; (repeat' ((conv => whnf); first | refine And.intro ?_ ?_ | exact Cl.mk (by kernel_rfl) | exact Ck.mk (by kernel_rfl) | exact trivial | exact rfl | (intro hh; try simp only [decide_eq_true_eq, decide_eq_false_iff_not, beq_iff_eq, beq_eq_false_iff_ne, bne_iff_ne, bne_eq_false_iff_eq, Bool.not_eq_true', Bool.not_eq_false', Bool.not_true, Bool.not_false] at hh; try exact absurd hh (by decide)))); all_goals (conv => whnf); (all_goals first | (exact Ob.mk (by decide)) | skip)))
        · (refine CallN.intro rulesM [] rfl rfl ?_ ?_ ?_; ((repeat' (first | exact rfl | exact trivial | refine And.intro ?_ ?_ | ((conv => whnf); first | exact rfl | exact trivial | refine And.intro ?_ ?_)))); ((repeat' (first | exact rfl | exact trivial | refine And.intro ?_ ?_ | ((conv => whnf); first | exact rfl | exact trivial | refine And.intro ?_ ?_)))); (intro y hy; clear y hy; (repeat' ((conv => whnf); first | refine And.intro ?_ ?_ | exact Cl.mk (by kernel_rfl) | exact Ck.mk (by kernel_rfl) | exact trivial | exact rfl | (intro hh; try simp only [decide_eq_true_eq, decide_eq_false_iff_not, beq_iff_eq, beq_eq_false_iff_ne, bne_iff_ne, bne_eq_false_iff_eq, Bool.not_eq_true', Bool.not_eq_false', Bool.not_true, Bool.not_false] at hh; try exact absurd hh (by decide)))); all_goals (conv => whnf); (all_goals first | (exact Ob.mk (by decide)) | skip)))
          · exact Ob.mk (by simp only []; omega)
          (refine CallN.intro (plainM (2, L, W, B)) [] rfl rfl ?_ ?_ ?_; ((repeat' (first | exact rfl | exact trivial | refine And.intro ?_ ?_ | ((conv => whnf); first | exact rfl | exact trivial | refine And.intro ?_ ?_)))); ((repeat' (first | exact rfl | exact trivial | refine And.intro ?_ ?_ | ((conv => whnf); first | exact rfl | exact trivial | refine And.intro ?_ ?_)))); (intro y hy; clear y hy; (repeat' ((conv => whnf); first | refine And.intro ?_ ?_ | exact Cl.mk (by kernel_rfl) | exact Ck.mk (by kernel_rfl) | exact trivial | exact rfl | (intro hh; try simp only [decide_eq_true_eq, decide_eq_false_iff_not, beq_iff_eq, beq_eq_false_iff_ne, bne_iff_ne, bne_eq_false_iff_eq, Bool.not_eq_true', Bool.not_eq_false', Bool.not_true, Bool.not_false] at hh; try exact absurd hh (by decide)))); all_goals (conv => whnf); (all_goals first | (exact Ob.mk (by decide)) | skip)))
          · (refine RetN.intro () [] rfl rfl ?_ ?_ ?_; ((repeat' (first | exact rfl | exact trivial | refine And.intro ?_ ?_ | ((conv => whnf); first | exact rfl | exact trivial | refine And.intro ?_ ?_)))); ((repeat' (first | exact rfl | exact trivial | refine And.intro ?_ ?_ | ((conv => whnf); first | exact rfl | exact trivial | refine And.intro ?_ ?_))); all_goals (conv => whnf); all_goals (try simp only [])))
            rw [if_neg]
            rw [polOk_iff]; omega
          · (refine RetN.intro () [] rfl rfl ?_ ?_ ?_; ((repeat' (first | exact rfl | exact trivial | refine And.intro ?_ ?_ | ((conv => whnf); first | exact rfl | exact trivial | refine And.intro ?_ ?_)))); ((repeat' (first | exact rfl | exact trivial | refine And.intro ?_ ?_ | ((conv => whnf); first | exact rfl | exact trivial | refine And.intro ?_ ?_))); all_goals (conv => whnf); all_goals (try simp only [])))
            rw [if_pos]
            rw [polOk_iff]; omega
        · (refine RetN.intro () [] rfl rfl ?_ ?_ ?_; ((repeat' (first | exact rfl | exact trivial | refine And.intro ?_ ?_ | ((conv => whnf); first | exact rfl | exact trivial | refine And.intro ?_ ?_)))); ((repeat' (first | exact rfl | exact trivial | refine And.intro ?_ ?_ | ((conv => whnf); first | exact rfl | exact trivial | refine And.intro ?_ ?_))); all_goals (conv => whnf); all_goals (try simp only [])))
          rw [if_neg (fun h => hh h.window)]
      · (refine RetN.intro () [] rfl rfl ?_ ?_ ?_; ((repeat' (first | exact rfl | exact trivial | refine And.intro ?_ ?_ | ((conv => whnf); first | exact rfl | exact trivial | refine And.intro ?_ ?_)))); ((repeat' (first | exact rfl | exact trivial | refine And.intro ?_ ?_ | ((conv => whnf); first | exact rfl | exact trivial | refine And.intro ?_ ?_))); all_goals (conv => whnf); all_goals (try simp only [])))
        rw [if_neg (fun h => hh h.limit)]
    · refine Meets.intro hm (fn := Try.f30) Try.func30 rfl (by decide) (Nat.le_of_ble_eq_true rfl) (fun _ => rfl) ?_; intro S hok; (conv => whnf)
      (repeat' ((conv => whnf); first | refine And.intro ?_ ?_ | exact Cl.mk (by kernel_rfl) | exact Ck.mk (by kernel_rfl) | exact trivial | exact rfl | (intro hh; try simp only [decide_eq_true_eq, decide_eq_false_iff_not, beq_iff_eq, beq_eq_false_iff_ne, bne_iff_ne, bne_eq_false_iff_eq, Bool.not_eq_true', Bool.not_eq_false', Bool.not_true, Bool.not_false] at hh))); all_goals (conv => whnf)
      (refine CallN.intro (withinM 3 4) [] rfl rfl ?_ ?_ ?_; ((repeat' (first | exact rfl | exact trivial | refine And.intro ?_ ?_ | ((conv => whnf); first | exact rfl | exact trivial | refine And.intro ?_ ?_)))); ((repeat' (first | exact rfl | exact trivial | refine And.intro ?_ ?_ | ((conv => whnf); first | exact rfl | exact trivial | refine And.intro ?_ ?_)))); (intro y hy; clear y hy; (repeat' ((conv => whnf); first | refine And.intro ?_ ?_ | exact Cl.mk (by kernel_rfl) | exact Ck.mk (by kernel_rfl) | exact trivial | exact rfl | (intro hh; try simp only [decide_eq_true_eq, decide_eq_false_iff_not, beq_iff_eq, beq_eq_false_iff_ne, bne_iff_ne, bne_eq_false_iff_eq, Bool.not_eq_true', Bool.not_eq_false', Bool.not_true, Bool.not_false] at hh; try exact absurd hh (by decide)))); all_goals (conv => whnf); (all_goals first | (exact Ob.mk (by decide)) | skip)))
      (refine CallN.intro (withinM L 1048576) [] rfl rfl ?_ ?_ ?_; ((repeat' (first | exact rfl | exact trivial | refine And.intro ?_ ?_ | ((conv => whnf); first | exact rfl | exact trivial | refine And.intro ?_ ?_)))); ((repeat' (first | exact rfl | exact trivial | refine And.intro ?_ ?_ | ((conv => whnf); first | exact rfl | exact trivial | refine And.intro ?_ ?_)))); (intro y hy; clear y hy; (repeat' ((conv => whnf); first | refine And.intro ?_ ?_ | exact Cl.mk (by kernel_rfl) | exact Ck.mk (by kernel_rfl) | exact trivial | exact rfl | (intro hh; try simp only [decide_eq_true_eq, decide_eq_false_iff_not, beq_iff_eq, beq_eq_false_iff_ne, bne_iff_ne, bne_eq_false_iff_eq, Bool.not_eq_true', Bool.not_eq_false', Bool.not_true, Bool.not_false] at hh; try exact absurd hh (by decide)))); all_goals (conv => whnf); (all_goals first | (exact Ob.mk (by decide)) | skip)))
      · (refine CallN.intro (withinM W 1048576) [] rfl rfl ?_ ?_ ?_; ((repeat' (first | exact rfl | exact trivial | refine And.intro ?_ ?_ | ((conv => whnf); first | exact rfl | exact trivial | refine And.intro ?_ ?_)))); ((repeat' (first | exact rfl | exact trivial | refine And.intro ?_ ?_ | ((conv => whnf); first | exact rfl | exact trivial | refine And.intro ?_ ?_)))); (intro y hy; clear y hy; (repeat' ((conv => whnf); first | refine And.intro ?_ ?_ | exact Cl.mk (by kernel_rfl) | exact Ck.mk (by kernel_rfl) | exact trivial | exact rfl | (intro hh; try simp only [decide_eq_true_eq, decide_eq_false_iff_not, beq_iff_eq, beq_eq_false_iff_ne, bne_iff_ne, bne_eq_false_iff_eq, Bool.not_eq_true', Bool.not_eq_false', Bool.not_true, Bool.not_false] at hh; try exact absurd hh (by decide)))); all_goals (conv => whnf); (all_goals first | (exact Ob.mk (by decide)) | skip)))
        · (refine CallN.intro rulesM [] rfl rfl ?_ ?_ ?_; ((repeat' (first | exact rfl | exact trivial | refine And.intro ?_ ?_ | ((conv => whnf); first | exact rfl | exact trivial | refine And.intro ?_ ?_)))); ((repeat' (first | exact rfl | exact trivial | refine And.intro ?_ ?_ | ((conv => whnf); first | exact rfl | exact trivial | refine And.intro ?_ ?_)))); (intro y hy; clear y hy; (repeat' ((conv => whnf); first | refine And.intro ?_ ?_ | exact Cl.mk (by kernel_rfl) | exact Ck.mk (by kernel_rfl) | exact trivial | exact rfl | (intro hh; try simp only [decide_eq_true_eq, decide_eq_false_iff_not, beq_iff_eq, beq_eq_false_iff_ne, bne_iff_ne, bne_eq_false_iff_eq, Bool.not_eq_true', Bool.not_eq_false', Bool.not_true, Bool.not_false] at hh; try exact absurd hh (by decide)))); all_goals (conv => whnf); (all_goals first | (exact Ob.mk (by decide)) | skip)))
          · exact Ob.mk (by simp only []; omega)
          (refine CallN.intro (ringM (3, L, W, B)) [] rfl rfl ?_ ?_ ?_; ((repeat' (first | exact rfl | exact trivial | refine And.intro ?_ ?_ | ((conv => whnf); first | exact rfl | exact trivial | refine And.intro ?_ ?_)))); ((repeat' (first | exact rfl | exact trivial | refine And.intro ?_ ?_ | ((conv => whnf); first | exact rfl | exact trivial | refine And.intro ?_ ?_)))); (intro y hy; clear y hy; (repeat' ((conv => whnf); first | refine And.intro ?_ ?_ | exact Cl.mk (by kernel_rfl) | exact Ck.mk (by kernel_rfl) | exact trivial | exact rfl | (intro hh; try simp only [decide_eq_true_eq, decide_eq_false_iff_not, beq_iff_eq, beq_eq_false_iff_ne, bne_iff_ne, bne_eq_false_iff_eq, Bool.not_eq_true', Bool.not_eq_false', Bool.not_true, Bool.not_false] at hh; try exact absurd hh (by decide)))); all_goals (conv => whnf); (all_goals first | (exact Ob.mk (by decide)) | skip)))
          · (refine RetN.intro () [] rfl rfl ?_ ?_ ?_; ((repeat' (first | exact rfl | exact trivial | refine And.intro ?_ ?_ | ((conv => whnf); first | exact rfl | exact trivial | refine And.intro ?_ ?_)))); ((repeat' (first | exact rfl | exact trivial | refine And.intro ?_ ?_ | ((conv => whnf); first | exact rfl | exact trivial | refine And.intro ?_ ?_))); all_goals (conv => whnf); all_goals (try simp only [])))
            rw [if_neg]
            rw [polOk_iff]; omega
          · (refine RetN.intro () [] rfl rfl ?_ ?_ ?_; ((repeat' (first | exact rfl | exact trivial | refine And.intro ?_ ?_ | ((conv => whnf); first | exact rfl | exact trivial | refine And.intro ?_ ?_)))); ((repeat' (first | exact rfl | exact trivial | refine And.intro ?_ ?_ | ((conv => whnf); first | exact rfl | exact trivial | refine And.intro ?_ ?_))); all_goals (conv => whnf); all_goals (try simp only [])))
            rw [if_pos]
            rw [polOk_iff]; omega
        · (refine RetN.intro () [] rfl rfl ?_ ?_ ?_; ((repeat' (first | exact rfl | exact trivial | refine And.intro ?_ ?_ | ((conv => whnf); first | exact rfl | exact trivial | refine And.intro ?_ ?_)))); ((repeat' (first | exact rfl | exact trivial | refine And.intro ?_ ?_ | ((conv => whnf); first | exact rfl | exact trivial | refine And.intro ?_ ?_))); all_goals (conv => whnf); all_goals (try simp only [])))
          rw [if_neg (fun h => hh h.window)]
      · (refine RetN.intro () [] rfl rfl ?_ ?_ ?_; ((repeat' (first | exact rfl | exact trivial | refine And.intro ?_ ?_ | ((conv => whnf); first | exact rfl | exact trivial | refine And.intro ?_ ?_)))); ((repeat' (first | exact rfl | exact trivial | refine And.intro ?_ ?_ | ((conv => whnf); first | exact rfl | exact trivial | refine And.intro ?_ ?_))); all_goals (conv => whnf); all_goals (try simp only [])))
        rw [if_neg (fun h => hh h.limit)]
    · refine Meets.intro hm (fn := Try.f30) Try.func30 rfl (by decide) (Nat.le_of_ble_eq_true rfl) (fun _ => rfl) ?_; intro S hok; (conv => whnf)
      (repeat' ((conv => whnf); first | refine And.intro ?_ ?_ | exact Cl.mk (by kernel_rfl) | exact Ck.mk (by kernel_rfl) | exact trivial | exact rfl | (intro hh; try simp only [decide_eq_true_eq, decide_eq_false_iff_not, beq_iff_eq, beq_eq_false_iff_ne, bne_iff_ne, bne_eq_false_iff_eq, Bool.not_eq_true', Bool.not_eq_false', Bool.not_true, Bool.not_false] at hh))); all_goals (conv => whnf)
      (refine CallN.intro (withinM 4 4) [] rfl rfl ?_ ?_ ?_; ((repeat' (first | exact rfl | exact trivial | refine And.intro ?_ ?_ | ((conv => whnf); first | exact rfl | exact trivial | refine And.intro ?_ ?_)))); ((repeat' (first | exact rfl | exact trivial | refine And.intro ?_ ?_ | ((conv => whnf); first | exact rfl | exact trivial | refine And.intro ?_ ?_)))); (intro y hy; clear y hy; (repeat' ((conv => whnf); first | refine And.intro ?_ ?_ | exact Cl.mk (by kernel_rfl) | exact Ck.mk (by kernel_rfl) | exact trivial | exact rfl | (intro hh; try simp only [decide_eq_true_eq, decide_eq_false_iff_not, beq_iff_eq, beq_eq_false_iff_ne, bne_iff_ne, bne_eq_false_iff_eq, Bool.not_eq_true', Bool.not_eq_false', Bool.not_true, Bool.not_false] at hh; try exact absurd hh (by decide)))); all_goals (conv => whnf); (all_goals first | (exact Ob.mk (by decide)) | skip)))
      (refine CallN.intro (withinM L 1048576) [] rfl rfl ?_ ?_ ?_; ((repeat' (first | exact rfl | exact trivial | refine And.intro ?_ ?_ | ((conv => whnf); first | exact rfl | exact trivial | refine And.intro ?_ ?_)))); ((repeat' (first | exact rfl | exact trivial | refine And.intro ?_ ?_ | ((conv => whnf); first | exact rfl | exact trivial | refine And.intro ?_ ?_)))); (intro y hy; clear y hy; (repeat' ((conv => whnf); first | refine And.intro ?_ ?_ | exact Cl.mk (by kernel_rfl) | exact Ck.mk (by kernel_rfl) | exact trivial | exact rfl | (intro hh; try simp only [decide_eq_true_eq, decide_eq_false_iff_not, beq_iff_eq, beq_eq_false_iff_ne, bne_iff_ne, bne_eq_false_iff_eq, Bool.not_eq_true', Bool.not_eq_false', Bool.not_true, Bool.not_false] at hh; try exact absurd hh (by decide)))); all_goals (conv => whnf); (all_goals first | (exact Ob.mk (by decide)) | skip)))
      · (refine CallN.intro (withinM W 1048576) [] rfl rfl ?_ ?_ ?_; ((repeat' (first | exact rfl | exact trivial | refine And.intro ?_ ?_ | ((conv => whnf); first | exact rfl | exact trivial | refine And.intro ?_ ?_)))); ((repeat' (first | exact rfl | exact trivial | refine And.intro ?_ ?_ | ((conv => whnf); first | exact rfl | exact trivial | refine And.intro ?_ ?_)))); (intro y hy; clear y hy; (repeat' ((conv => whnf); first | refine And.intro ?_ ?_ | exact Cl.mk (by kernel_rfl) | exact Ck.mk (by kernel_rfl) | exact trivial | exact rfl | (intro hh; try simp only [decide_eq_true_eq, decide_eq_false_iff_not, beq_iff_eq, beq_eq_false_iff_ne, bne_iff_ne, bne_eq_false_iff_eq, Bool.not_eq_true', Bool.not_eq_false', Bool.not_true, Bool.not_false] at hh; try exact absurd hh (by decide)))); all_goals (conv => whnf); (all_goals first | (exact Ob.mk (by decide)) | skip)))
        · (refine CallN.intro rulesM [] rfl rfl ?_ ?_ ?_; ((repeat' (first | exact rfl | exact trivial | refine And.intro ?_ ?_ | ((conv => whnf); first | exact rfl | exact trivial | refine And.intro ?_ ?_)))); ((repeat' (first | exact rfl | exact trivial | refine And.intro ?_ ?_ | ((conv => whnf); first | exact rfl | exact trivial | refine And.intro ?_ ?_)))); (intro y hy; clear y hy; (repeat' ((conv => whnf); first | refine And.intro ?_ ?_ | exact Cl.mk (by kernel_rfl) | exact Ck.mk (by kernel_rfl) | exact trivial | exact rfl | (intro hh; try simp only [decide_eq_true_eq, decide_eq_false_iff_not, beq_iff_eq, beq_eq_false_iff_ne, bne_iff_ne, bne_eq_false_iff_eq, Bool.not_eq_true', Bool.not_eq_false', Bool.not_true, Bool.not_false] at hh; try exact absurd hh (by decide)))); all_goals (conv => whnf); (all_goals first | (exact Ob.mk (by decide)) | skip)))
          · exact Ob.mk (by simp only []; omega)
          (refine CallN.intro (exactM (4, L, W, B)) [1] rfl rfl ?_ ?_ ?_; ((repeat' (first | exact rfl | exact trivial | refine And.intro ?_ ?_ | ((conv => whnf); first | exact rfl | exact trivial | refine And.intro ?_ ?_)))); ((repeat' (first | exact rfl | exact trivial | refine And.intro ?_ ?_ | ((conv => whnf); first | exact rfl | exact trivial | refine And.intro ?_ ?_)))); (intro y hy; clear y hy; (repeat' ((conv => whnf); first | refine And.intro ?_ ?_ | exact Cl.mk (by kernel_rfl) | exact Ck.mk (by kernel_rfl) | exact trivial | exact rfl | (intro hh; try simp only [decide_eq_true_eq, decide_eq_false_iff_not, beq_iff_eq, beq_eq_false_iff_ne, bne_iff_ne, bne_eq_false_iff_eq, Bool.not_eq_true', Bool.not_eq_false', Bool.not_true, Bool.not_false] at hh; try exact absurd hh (by decide)))); all_goals (conv => whnf); (all_goals first | (exact Ob.mk (by decide)) | skip)))
          · (refine RetN.intro () [] rfl rfl ?_ ?_ ?_; ((repeat' (first | exact rfl | exact trivial | refine And.intro ?_ ?_ | ((conv => whnf); first | exact rfl | exact trivial | refine And.intro ?_ ?_)))); ((repeat' (first | exact rfl | exact trivial | refine And.intro ?_ ?_ | ((conv => whnf); first | exact rfl | exact trivial | refine And.intro ?_ ?_))); all_goals (conv => whnf); all_goals (try simp only [])))
            rw [if_neg]
            rw [polOk_iff]; omega
          · (refine RetN.intro () [] rfl rfl ?_ ?_ ?_; ((repeat' (first | exact rfl | exact trivial | refine And.intro ?_ ?_ | ((conv => whnf); first | exact rfl | exact trivial | refine And.intro ?_ ?_)))); ((repeat' (first | exact rfl | exact trivial | refine And.intro ?_ ?_ | ((conv => whnf); first | exact rfl | exact trivial | refine And.intro ?_ ?_))); all_goals (conv => whnf); all_goals (try simp only [])))
            rw [if_pos]
            rw [polOk_iff]; omega
        · (refine RetN.intro () [] rfl rfl ?_ ?_ ?_; ((repeat' (first | exact rfl | exact trivial | refine And.intro ?_ ?_ | ((conv => whnf); first | exact rfl | exact trivial | refine And.intro ?_ ?_)))); ((repeat' (first | exact rfl | exact trivial | refine And.intro ?_ ?_ | ((conv => whnf); first | exact rfl | exact trivial | refine And.intro ?_ ?_))); all_goals (conv => whnf); all_goals (try simp only [])))
          rw [if_neg (fun h => hh h.window)]
      · (refine RetN.intro () [] rfl rfl ?_ ?_ ?_; ((repeat' (first | exact rfl | exact trivial | refine And.intro ?_ ?_ | ((conv => whnf); first | exact rfl | exact trivial | refine And.intro ?_ ?_)))); ((repeat' (first | exact rfl | exact trivial | refine And.intro ?_ ?_ | ((conv => whnf); first | exact rfl | exact trivial | refine And.intro ?_ ?_))); all_goals (conv => whnf); all_goals (try simp only [])))
        rw [if_neg (fun h => hh h.limit)]
  · refine Meets.intro hm (fn := Try.f30) Try.func30 rfl (by decide) (Nat.le_of_ble_eq_true rfl) (fun _ => rfl) ?_; intro S hok; (conv => whnf)
    (repeat' ((conv => whnf); first | refine And.intro ?_ ?_ | exact Cl.mk (by kernel_rfl) | exact Ck.mk (by kernel_rfl) | exact trivial | exact rfl | (intro hh; try simp only [decide_eq_true_eq, decide_eq_false_iff_not, beq_iff_eq, beq_eq_false_iff_ne, bne_iff_ne, bne_eq_false_iff_eq, Bool.not_eq_true', Bool.not_eq_false', Bool.not_true, Bool.not_false] at hh))); all_goals (conv => whnf)
    (refine CallN.intro (withinM p.1 4) [] rfl rfl ?_ ?_ ?_; ((repeat' (first | exact rfl | exact trivial | refine And.intro ?_ ?_ | ((conv => whnf); first | exact rfl | exact trivial | refine And.intro ?_ ?_)))); ((repeat' (first | exact rfl | exact trivial | refine And.intro ?_ ?_ | ((conv => whnf); first | exact rfl | exact trivial | refine And.intro ?_ ?_)))); (intro y hy; (repeat' ((conv => whnf); first | refine And.intro ?_ ?_ | exact Cl.mk (by kernel_rfl) | exact Ck.mk (by kernel_rfl) | exact trivial | exact rfl | (intro hh; try simp only [decide_eq_true_eq, decide_eq_false_iff_not, beq_iff_eq, beq_eq_false_iff_ne, bne_iff_ne, bne_eq_false_iff_eq, Bool.not_eq_true', Bool.not_eq_false', Bool.not_true, Bool.not_false] at hh))); all_goals (conv => whnf)))
    · exact (hk hh).elim
    · (refine RetN.intro () [] rfl rfl ?_ ?_ ?_; ((repeat' (first | exact rfl | exact trivial | refine And.intro ?_ ?_ | ((conv => whnf); first | exact rfl | exact trivial | refine And.intro ?_ ?_)))); ((repeat' (first | exact rfl | exact trivial | refine And.intro ?_ ?_ | ((conv => whnf); first | exact rfl | exact trivial | refine And.intro ?_ ?_))); all_goals (conv => whnf); all_goals (try simp only [])))
      rw [if_neg (fun h => hk h.kind)]
end Go.Proofs.Ytclfhgfdnnifbaa.Po
set_option linter.unusedVariables false
set_option linter.unusedSimpArgs false
namespace Go.Proofs.Ytclfhgfdnnifbaa.Po
open Go Go.RowKit Fw Hi
theorem slotM (p : Pol) : Meets Try.prog 32 [polAV p] [] (Y := Unit) (fun _ => True) (fun _ => .int .i64 fun _ => if PolOk p then slotOf p else 0) (fun _ => []) := by
  by_cases hp : PolOk p
  · obtain ⟨k, L, W, B⟩ := p
    have hk := hp.kind
    have hW := hp.window
    simp only [] at hk hW
    obtain rfl | rfl | rfl | rfl : k = 1 ∨ k = 2 ∨ k = 3 ∨ k = 4 := by omega
    · refine Meets.intro hm (fn := Try.f32) Try.func32 rfl (by decide) (Nat.le_of_ble_eq_true rfl) (fun _ => rfl) ?_; intro S hok; (conv => whnf)
      (repeat' ((conv => whnf); first | refine And.intro ?_ ?_ | exact Cl.mk (by kernel_rfl) | exact Ck.mk (by kernel_rfl) | exact trivial | exact rfl | (intro hh; try simp only [decide_eq_true_eq, decide_eq_false_iff_not, beq_iff_eq, beq_eq_false_iff_ne, bne_iff_ne, bne_eq_false_iff_eq, Bool.not_eq_true', Bool.not_eq_false', Bool.not_true, Bool.not_false] at hh))); all_goals (conv => whnf)
      refine CallN.intro (checkM (1, L, W, B)) [] rfl rfl ?_ ?_ ?_
      · (repeat' (first | exact rfl | exact trivial | refine And.intro ?_ ?_ | ((conv => whnf); first | exact rfl | exact trivial | refine And.intro ?_ ?_)))
      · (repeat' (first | exact rfl | exact trivial | refine And.intro ?_ ?_ | ((conv => whnf); first | exact rfl | exact trivial | refine And.intro ?_ ?_)))
      intro y hy
      rw [if_pos hp]
      (repeat' ((conv => whnf); first | refine And.intro ?_ ?_ | exact Cl.mk (by kernel_rfl) | exact Ck.mk (by kernel_rfl) | exact trivial | exact rfl | (intro hh; try simp only [decide_eq_true_eq, decide_eq_false_iff_not, beq_iff_eq, beq_eq_false_iff_ne, bne_iff_ne, bne_eq_false_iff_eq, Bool.not_eq_true', Bool.not_eq_false', Bool.not_true, Bool.not_false] at hh; try exact absurd hh (by decide)))); all_goals (conv => whnf)
      (refine CallN.intro rulesM [] rfl rfl ?_ ?_ ?_; ((repeat' (first | exact rfl | exact trivial | refine And.intro ?_ ?_ | ((conv => whnf); first | exact rfl | exact trivial | refine And.intro ?_ ?_)))); ((repeat' (first | exact rfl | exact trivial | refine And.intro ?_ ?_ | ((conv => whnf); first | exact rfl | exact trivial | refine And.intro ?_ ?_)))); (intro y hy; clear y hy; (repeat' ((conv => whnf); first | refine And.intro ?_ ?_ | exact Cl.mk (by kernel_rfl) | exact Ck.mk (by kernel_rfl) | exact trivial | exact rfl | (intro hh; try simp only [decide_eq_true_eq, decide_eq_false_iff_not, beq_iff_eq, beq_eq_false_iff_ne, bne_iff_ne, bne_eq_false_iff_eq, Bool.not_eq_true', Bool.not_eq_false', Bool.not_true, Bool.not_false] at hh; try exact absurd hh (by decide)))); all_goals (conv => whnf); (all_goals first | (exact Ob.mk (by decide)) | skip)))
      · exact Ob.mk (by simp only []; omega)
      (refine CallN.intro (oneM (1, L, W, B)) [] rfl rfl ?_ ?_ ?_; ((repeat' (first | exact rfl | exact trivial | refine And.intro ?_ ?_ | ((conv => whnf); first | exact rfl | exact trivial | refine And.intro ?_ ?_)))); ((repeat' (first | exact rfl | exact trivial | refine And.intro ?_ ?_ | ((conv => whnf); first | exact rfl | exact trivial | refine And.intro ?_ ?_)))); (intro y hy; clear y hy; (repeat' ((conv => whnf); first | refine And.intro ?_ ?_ | exact Cl.mk (by kernel_rfl) | exact Ck.mk (by kernel_rfl) | exact trivial | exact rfl | (intro hh; try simp only [decide_eq_true_eq, decide_eq_false_iff_not, beq_iff_eq, beq_eq_false_iff_ne, bne_iff_ne, bne_eq_false_iff_eq, Bool.not_eq_true', Bool.not_eq_false', Bool.not_true, Bool.not_false] at hh; try exact absurd hh (by decide)))); all_goals (conv => whnf); (all_goals first | (exact Ob.mk (by decide)) | skip)))
      all_goals first | (refine Ob.mk ?_; show (B : Int) ≠ 0; have := hp.ring rfl; simp only [] at this; omega) | skip
      (refine RetN.intro () [] rfl rfl ?_ ?_ ?_; ((repeat' (first | exact rfl | exact trivial | refine And.intro ?_ ?_ | ((conv => whnf); first | exact rfl | exact trivial | refine And.intro ?_ ?_)))); ((repeat' (first | exact rfl | exact trivial | refine And.intro ?_ ?_ | ((conv => whnf); first | exact rfl | exact trivial | refine And.intro ?_ ?_))); all_goals (conv => whnf); all_goals (try simp only [])))
      rw [if_pos hp]
      simp only [slotOf]
      rw [if_neg (by omega)]; rw [Int.tdiv_one]; exact wr (by omega)
    · refine Meets.intro hm (fn := Try.f32) Try.func32 rfl (by decide) (Nat.le_of_ble_eq_true rfl) (fun _ => rfl) ?_; intro S hok; (conv => whnf)
      (repeat' ((conv => whnf); first | refine And.intro ?_ ?_ | exact Cl.mk (by kernel_rfl) | exact Ck.mk (by kernel_rfl) | exact trivial | exact rfl | (intro hh; try simp only [decide_eq_true_eq, decide_eq_false_iff_not, beq_iff_eq, beq_eq_false_iff_ne, bne_iff_ne, bne_eq_false_iff_eq, Bool.not_eq_true', Bool.not_eq_false', Bool.not_true, Bool.not_false] at hh))); all_goals (conv => whnf)
      refine CallN.intro (checkM (2, L, W, B)) [] rfl rfl ?_ ?_ ?_
      · (repeat' (first | exact rfl | exact trivial | refine And.intro ?_ ?_ | ((conv => whnf); first | exact rfl | exact trivial | refine And.intro ?_ ?_)))
      · (repeat' (first | exact rfl | exact trivial | refine And.intro ?_ ?_ | ((conv => whnf); first | exact rfl | exact trivial | refine And.intro ?_ ?_)))
      intro y hy
      rw [if_pos hp]
      (repeat' ((conv => whnf); first | refine And.intro ?_ ?_ | exact Cl.mk (by kernel_rfl) | exact Ck.mk (by kernel_rfl) | exact trivial | exact rfl | (intro hh; try simp only [decide_eq_true_eq, decide_eq_false_iff_not, beq_iff_eq, beq_eq_false_iff_ne, bne_iff_ne, bne_eq_false_iff_eq, Bool.not_eq_true', Bool.not_eq_false', Bool.not_true, Bool.not_false] at hh; try exact absurd hh (by decide)))); all_goals (conv => whnf)
      (refine CallN.intro rulesM [] rfl rfl ?_ ?_ ?_; ((repeat' (first | exact rfl | exact trivial | refine And.intro ?_ ?_ | ((conv => whnf); first | exact rfl | exact trivial | refine And.intro ?_ ?_)))); ((repeat' (first | exact rfl | exact trivial | refine And.intro ?_ ?_ | ((conv => whnf); first | exact rfl | exact trivial | refine And.intro ?_ ?_)))); (intro y hy; clear y hy; (repeat' ((conv => whnf); first | refine And.intro ?_ ?_ | exact Cl.mk (by kernel_rfl) | exact Ck.mk (by kernel_rfl) | exact trivial | exact rfl | (intro hh; try simp only [decide_eq_true_eq, decide_eq_false_iff_not, beq_iff_eq, beq_eq_false_iff_ne, bne_iff_ne, bne_eq_false_iff_eq, Bool.not_eq_true', Bool.not_eq_false', Bool.not_true, Bool.not_false] at hh; try exact absurd hh (by decide)))); all_goals (conv => whnf); (all_goals first | (exact Ob.mk (by decide)) | skip)))
      · exact Ob.mk (by simp only []; omega)
      (refine CallN.intro (oneM (2, L, W, B)) [] rfl rfl ?_ ?_ ?_; ((repeat' (first | exact rfl | exact trivial | refine And.intro ?_ ?_ | ((conv => whnf); first | exact rfl | exact trivial | refine And.intro ?_ ?_)))); ((repeat' (first | exact rfl | exact trivial | refine And.intro ?_ ?_ | ((conv => whnf); first | exact rfl | exact trivial | refine And.intro ?_ ?_)))); (intro y hy; clear y hy; (repeat' ((conv => whnf); first | refine And.intro ?_ ?_ | exact Cl.mk (by kernel_rfl) | exact Ck.mk (by kernel_rfl) | exact trivial | exact rfl | (intro hh; try simp only [decide_eq_true_eq, decide_eq_false_iff_not, beq_iff_eq, beq_eq_false_iff_ne, bne_iff_ne, bne_eq_false_iff_eq, Bool.not_eq_true', Bool.not_eq_false', Bool.not_true, Bool.not_false] at hh; try exact absurd hh (by decide)))); all_goals (conv => whnf); (all_goals first | (exact Ob.mk (by decide)) | skip)))
      all_goals first | (refine Ob.mk ?_; show (B : Int) ≠ 0; have := hp.ring rfl; simp only [] at this; omega) | skip
      (refine RetN.intro () [] rfl rfl ?_ ?_ ?_; ((repeat' (first | exact rfl | exact trivial | refine And.intro ?_ ?_ | ((conv => whnf); first | exact rfl | exact trivial | refine And.intro ?_ ?_)))); ((repeat' (first | exact rfl | exact trivial | refine And.intro ?_ ?_ | ((conv => whnf); first | exact rfl | exact trivial | refine And.intro ?_ ?_))); all_goals (conv => whnf); all_goals (try simp only [])))
      rw [if_pos hp]
      simp only [slotOf]
      rw [if_neg (by omega)]; rw [Int.tdiv_one]; exact wr (by omega)
    · refine Meets.intro hm (fn := Try.f32) Try.func32 rfl (by decide) (Nat.le_of_ble_eq_true rfl) (fun _ => rfl) ?_; intro S hok; (conv => whnf)
      (repeat' ((conv => whnf); first | refine And.intro ?_ ?_ | exact Cl.mk (by kernel_rfl) | exact Ck.mk (by kernel_rfl) | exact trivial | exact rfl | (intro hh; try simp only [decide_eq_true_eq, decide_eq_false_iff_not, beq_iff_eq, beq_eq_false_iff_ne, bne_iff_ne, bne_eq_false_iff_eq, Bool.not_eq_true', Bool.not_eq_false', Bool.not_true, Bool.not_false] at hh))); all_goals (conv => whnf)
      refine CallN.intro (checkM (3, L, W, B)) [] rfl rfl ?_ ?_ ?_
      · (repeat' (first | exact rfl | exact trivial | refine And.intro ?_ ?_ | ((conv => whnf); first | exact rfl | exact trivial | refine And.intro ?_ ?_)))
      · (repeat' (first | exact rfl | exact trivial | refine And.intro ?_ ?_ | ((conv => whnf); first | exact rfl | exact trivial | refine And.intro ?_ ?_)))
      intro y hy
      rw [if_pos hp]
      (repeat' ((conv => whnf); first | refine And.intro ?_ ?_ | exact Cl.mk (by kernel_rfl) | exact Ck.mk (by kernel_rfl) | exact trivial | exact rfl | (intro hh; try simp only [decide_eq_true_eq, decide_eq_false_iff_not, beq_iff_eq, beq_eq_false_iff_ne, bne_iff_ne, bne_eq_false_iff_eq, Bool.not_eq_true', Bool.not_eq_false', Bool.not_true, Bool.not_false] at hh; try exact absurd hh (by decide)))); all_goals (conv => whnf)
      (refine CallN.intro rulesM [] rfl rfl ?_ ?_ ?_; ((repeat' (first | exact rfl | exact trivial | refine And.intro ?_ ?_ | ((conv => whnf); first | exact rfl | exact trivial | refine And.intro ?_ ?_)))); ((repeat' (first | exact rfl | exact trivial | refine And.intro ?_ ?_ | ((conv => whnf); first | exact rfl | exact trivial | refine And.intro ?_ ?_)))); (intro y hy; clear y hy; (repeat' ((conv => whnf); first | refine And.intro ?_ ?_ | exact Cl.mk (by kernel_rfl) | exact Ck.mk (by kernel_rfl) | exact trivial | exact rfl | (intro hh; try simp only [decide_eq_true_eq, decide_eq_false_iff_not, beq_iff_eq, beq_eq_false_iff_ne, bne_iff_ne, bne_eq_false_iff_eq, Bool.not_eq_true', Bool.not_eq_false', Bool.not_true, Bool.not_false] at hh; try exact absurd hh (by decide)))); all_goals (conv => whnf); (all_goals first | (exact Ob.mk (by decide)) | skip)))
      · exact Ob.mk (by simp only []; omega)
      (refine CallN.intro (bucketsM (3, L, W, B)) [] rfl rfl ?_ ?_ ?_; ((repeat' (first | exact rfl | exact trivial | refine And.intro ?_ ?_ | ((conv => whnf); first | exact rfl | exact trivial | refine And.intro ?_ ?_)))); ((repeat' (first | exact rfl | exact trivial | refine And.intro ?_ ?_ | ((conv => whnf); first | exact rfl | exact trivial | refine And.intro ?_ ?_)))); (intro y hy; clear y hy; (repeat' ((conv => whnf); first | refine And.intro ?_ ?_ | exact Cl.mk (by kernel_rfl) | exact Ck.mk (by kernel_rfl) | exact trivial | exact rfl | (intro hh; try simp only [decide_eq_true_eq, decide_eq_false_iff_not, beq_iff_eq, beq_eq_false_iff_ne, bne_iff_ne, bne_eq_false_iff_eq, Bool.not_eq_true', Bool.not_eq_false', Bool.not_true, Bool.not_false] at hh; try exact absurd hh (by decide)))); all_goals (conv => whnf); (all_goals first | (exact Ob.mk (by decide)) | skip)))
      all_goals first | (refine Ob.mk ?_; show (B : Int) ≠ 0; have := hp.ring rfl; simp only [] at this; omega) | skip
      (refine RetN.intro () [] rfl rfl ?_ ?_ ?_; ((repeat' (first | exact rfl | exact trivial | refine And.intro ?_ ?_ | ((conv => whnf); first | exact rfl | exact trivial | refine And.intro ?_ ?_)))); ((repeat' (first | exact rfl | exact trivial | refine And.intro ?_ ?_ | ((conv => whnf); first | exact rfl | exact trivial | refine And.intro ?_ ?_))); all_goals (conv => whnf); all_goals (try simp only [])))
      rw [if_pos hp]
      simp only [slotOf]
      have h1 := slot_bound hp; simp only [slotOf] at h1; simp only [if_true] at h1 ⊢; exact wr (by omega)
    · refine Meets.intro hm (fn := Try.f32) Try.func32 rfl (by decide) (Nat.le_of_ble_eq_true rfl) (fun _ => rfl) ?_; intro S hok; (conv => whnf)
      (repeat' ((conv => whnf); first | refine And.intro ?_ ?_ | exact Cl.mk (by kernel_rfl) | exact Ck.mk (by kernel_rfl) | exact trivial | exact rfl | (intro hh; try simp only [decide_eq_true_eq, decide_eq_false_iff_not, beq_iff_eq, beq_eq_false_iff_ne, bne_iff_ne, bne_eq_false_iff_eq, Bool.not_eq_true', Bool.not_eq_false', Bool.not_true, Bool.not_false] at hh))); all_goals (conv => whnf)
      refine CallN.intro (checkM (4, L, W, B)) [] rfl rfl ?_ ?_ ?_
      · (repeat' (first | exact rfl | exact trivial | refine And.intro ?_ ?_ | ((conv => whnf); first | exact rfl | exact trivial | refine And.intro ?_ ?_)))
      · (repeat' (first | exact rfl | exact trivial | refine And.intro ?_ ?_ | ((conv => whnf); first | exact rfl | exact trivial | refine And.intro ?_ ?_)))
      intro y hy
      rw [if_pos hp]
      (repeat' ((conv => whnf); first | refine And.intro ?_ ?_ | exact Cl.mk (by kernel_rfl) | exact Ck.mk (by kernel_rfl) | exact trivial | exact rfl | (intro hh; try simp only [decide_eq_true_eq, decide_eq_false_iff_not, beq_iff_eq, beq_eq_false_iff_ne, bne_iff_ne, bne_eq_false_iff_eq, Bool.not_eq_true', Bool.not_eq_false', Bool.not_true, Bool.not_false] at hh; try exact absurd hh (by decide)))); all_goals (conv => whnf)
      (refine CallN.intro rulesM [] rfl rfl ?_ ?_ ?_; ((repeat' (first | exact rfl | exact trivial | refine And.intro ?_ ?_ | ((conv => whnf); first | exact rfl | exact trivial | refine And.intro ?_ ?_)))); ((repeat' (first | exact rfl | exact trivial | refine And.intro ?_ ?_ | ((conv => whnf); first | exact rfl | exact trivial | refine And.intro ?_ ?_)))); (intro y hy; clear y hy; (repeat' ((conv => whnf); first | refine And.intro ?_ ?_ | exact Cl.mk (by kernel_rfl) | exact Ck.mk (by kernel_rfl) | exact trivial | exact rfl | (intro hh; try simp only [decide_eq_true_eq, decide_eq_false_iff_not, beq_iff_eq, beq_eq_false_iff_ne, bne_iff_ne, bne_eq_false_iff_eq, Bool.not_eq_true', Bool.not_eq_false', Bool.not_true, Bool.not_false] at hh; try exact absurd hh (by decide)))); all_goals (conv => whnf); (all_goals first | (exact Ob.mk (by decide)) | skip)))
      · exact Ob.mk (by simp only []; omega)
      (refine CallN.intro (oneM (4, L, W, B)) [] rfl rfl ?_ ?_ ?_; ((repeat' (first | exact rfl | exact trivial | refine And.intro ?_ ?_ | ((conv => whnf); first | exact rfl | exact trivial | refine And.intro ?_ ?_)))); ((repeat' (first | exact rfl | exact trivial | refine And.intro ?_ ?_ | ((conv => whnf); first | exact rfl | exact trivial | refine And.intro ?_ ?_)))); (intro y hy; clear y hy; (repeat' ((conv => whnf); first | refine And.intro ?_ ?_ | exact Cl.mk (by kernel_rfl) | exact Ck.mk (by kernel_rfl) | exact trivial | exact rfl | (intro hh; try simp only [decide_eq_true_eq, decide_eq_false_iff_not, beq_iff_eq, beq_eq_false_iff_ne, bne_iff_ne, bne_eq_false_iff_eq, Bool.not_eq_true', Bool.not_eq_false', Bool.not_true, Bool.not_false] at hh; try exact absurd hh (by decide)))); all_goals (conv => whnf); (all_goals first | (exact Ob.mk (by decide)) | skip)))
      all_goals first | (refine Ob.mk ?_; show (B : Int) ≠ 0; have := hp.ring rfl; simp only [] at this; omega) | skip
      (refine RetN.intro () [] rfl rfl ?_ ?_ ?_; ((repeat' (first | exact rfl | exact trivial | refine And.intro ?_ ?_ | ((conv => whnf); first | exact rfl | exact trivial | refine And.intro ?_ ?_)))); ((repeat' (first | exact rfl | exact trivial | refine And.intro ?_ ?_ | ((conv => whnf); first | exact rfl | exact trivial | refine And.intro ?_ ?_))); all_goals (conv => whnf); all_goals (try simp only [])))
      rw [if_pos hp]
      simp only [slotOf]
      rw [if_neg (by omega)]; rw [Int.tdiv_one]; exact wr (by omega)
  · refine Meets.intro hm (fn := Try.f32) Try.func32 rfl (by decide) (Nat.le_of_ble_eq_true rfl) (fun _ => rfl) ?_; intro S hok; (conv => whnf)
    (repeat' ((conv => whnf); first | refine And.intro ?_ ?_ | exact Cl.mk (by kernel_rfl) | exact Ck.mk (by kernel_rfl) | exact trivial | exact rfl | (intro hh; try simp only [decide_eq_true_eq, decide_eq_false_iff_not, beq_iff_eq, beq_eq_false_iff_ne, bne_iff_ne, bne_eq_false_iff_eq, Bool.not_eq_true', Bool.not_eq_false', Bool.not_true, Bool.not_false] at hh))); all_goals (conv => whnf)
    refine CallN.intro (checkM p) [] rfl rfl ?_ ?_ ?_
    · (repeat' (first | exact rfl | exact trivial | refine And.intro ?_ ?_ | ((conv => whnf); first | exact rfl | exact trivial | refine And.intro ?_ ?_)))
    · (repeat' (first | exact rfl | exact trivial | refine And.intro ?_ ?_ | ((conv => whnf); first | exact rfl | exact trivial | refine And.intro ?_ ?_)))
    intro y hy
    rw [if_neg hp]
    (repeat' ((conv => whnf); first | refine And.intro ?_ ?_ | exact Cl.mk (by kernel_rfl) | exact Ck.mk (by kernel_rfl) | exact trivial | exact rfl | (intro hh; try simp only [decide_eq_true_eq, decide_eq_false_iff_not, beq_iff_eq, beq_eq_false_iff_ne, bne_iff_ne, bne_eq_false_iff_eq, Bool.not_eq_true', Bool.not_eq_false', Bool.not_true, Bool.not_false] at hh; try exact absurd hh (by decide)))); all_goals (conv => whnf)
    (refine RetN.intro () [] rfl rfl ?_ ?_ ?_; ((repeat' (first | exact rfl | exact trivial | refine And.intro ?_ ?_ | ((conv => whnf); first | exact rfl | exact trivial | refine And.intro ?_ ?_)))); ((repeat' (first | exact rfl | exact trivial | refine And.intro ?_ ?_ | ((conv => whnf); first | exact rfl | exact trivial | refine And.intro ?_ ?_))); all_goals (conv => whnf); all_goals (try simp only [])))
    rw [if_neg hp]
theorem rcheckM (p : Pol) : Meets Try.prog 18 [polAV p] [] (Y := Unit) (fun _ => True) (fun _ => .int .i64 fun _ => if PolOk p then 0 else 1) (fun _ => []) := by
  obtain ⟨k, L, W, B⟩ := p
  refine Meets.intro hm (fn := Try.f18) Try.func18 rfl (by decide) (Nat.le_of_ble_eq_true rfl) (fun _ => rfl) ?_; intro S hok; (conv => whnf)
  (repeat' ((conv => whnf); first | refine And.intro ?_ ?_ | exact Cl.mk (by kernel_rfl) | exact Ck.mk (by kernel_rfl) | exact trivial | exact rfl | (intro hh; try simp only [decide_eq_true_eq, decide_eq_false_iff_not, beq_iff_eq, beq_eq_false_iff_ne, bne_iff_ne, bne_eq_false_iff_eq, Bool.not_eq_true', Bool.not_eq_false', Bool.not_true, Bool.not_false] at hh))); all_goals (conv => whnf)
  all_goals first
    | (exfalso; omega)
    | (refine Ob.mk ?_; show (B : Int) ≠ 0; omega)
    | ((refine RetN.intro () [] rfl rfl ?_ ?_ ?_; ((repeat' (first | exact rfl | exact trivial | refine And.intro ?_ ?_ | ((conv => whnf); first | exact rfl | exact trivial | refine And.intro ?_ ?_)))); ((repeat' (first | exact rfl | exact trivial | refine And.intro ?_ ?_ | ((conv => whnf); first | exact rfl | exact trivial | refine And.intro ?_ ?_))); all_goals (conv => whnf); all_goals (try simp only []))); rw [if_pos (by rw [polOk_iff]; omega)])
    | ((refine RetN.intro () [] rfl rfl ?_ ?_ ?_; ((repeat' (first | exact rfl | exact trivial | refine And.intro ?_ ?_ | ((conv => whnf); first | exact rfl | exact trivial | refine And.intro ?_ ?_)))); ((repeat' (first | exact rfl | exact trivial | refine And.intro ?_ ?_ | ((conv => whnf); first | exact rfl | exact trivial | refine And.intro ?_ ?_))); all_goals (conv => whnf); all_goals (try simp only []))); rw [if_neg (by rw [polOk_iff]; omega)])
theorem rweighsM (n : Int) : Meets Try.prog 19 [.int .i64 fun _ => n] [] (Y := Unit) (fun _ => True) (fun _ => .bool fun _ => weighs n) (fun _ => []) := by
  refine Meets.intro hm (fn := Try.f19) Try.func19 rfl (by decide) (Nat.le_of_ble_eq_true rfl) (fun _ => rfl) ?_; intro S hok; (conv => whnf)
  (repeat' ((conv => whnf); first | refine And.intro ?_ ?_ | exact Cl.mk (by kernel_rfl) | exact Ck.mk (by kernel_rfl) | exact trivial | exact rfl | (intro hh; try simp only [decide_eq_true_eq, decide_eq_false_iff_not, beq_iff_eq, beq_eq_false_iff_ne, bne_iff_ne, bne_eq_false_iff_eq, Bool.not_eq_true', Bool.not_eq_false', Bool.not_true, Bool.not_false] at hh))); all_goals (conv => whnf)
  · (refine RetN.intro () [] rfl rfl ?_ ?_ ?_; ((repeat' (first | exact rfl | exact trivial | refine And.intro ?_ ?_ | ((conv => whnf); first | exact rfl | exact trivial | refine And.intro ?_ ?_)))); ((repeat' (first | exact rfl | exact trivial | refine And.intro ?_ ?_ | ((conv => whnf); first | exact rfl | exact trivial | refine And.intro ?_ ?_))); all_goals (conv => whnf); all_goals (try simp only [])))
    simp [weighs, hh]
  · (refine RetN.intro () [] rfl rfl ?_ ?_ ?_; ((repeat' (first | exact rfl | exact trivial | refine And.intro ?_ ?_ | ((conv => whnf); first | exact rfl | exact trivial | refine And.intro ?_ ?_)))); ((repeat' (first | exact rfl | exact trivial | refine And.intro ?_ ?_ | ((conv => whnf); first | exact rfl | exact trivial | refine And.intro ?_ ?_))); all_goals (conv => whnf); all_goals (try simp only [])))
    simp [weighs, hh]
theorem worthM (p : Pol) (hp : PolOk p) (w : Int) (hw : 1 ≤ w ∧ w ≤ 1048576) : Meets Try.prog 22 [polAV p, .int .i64 fun _ => w] [] (Y := Unit) (fun _ => True) (fun _ => .int .i64 fun _ => worth p w) (fun _ => []) := by
  have hb := worth_bound hp hw
  refine Meets.intro hm (fn := Try.f22) Try.func22 rfl (by decide) (Nat.le_of_ble_eq_true rfl) (fun _ => rfl) ?_; intro S hok; (conv => whnf)
  (repeat' ((conv => whnf); first | refine And.intro ?_ ?_ | exact Cl.mk (by kernel_rfl) | exact Ck.mk (by kernel_rfl) | exact trivial | exact rfl | (intro hh; try simp only [decide_eq_true_eq, decide_eq_false_iff_not, beq_iff_eq, beq_eq_false_iff_ne, bne_iff_ne, bne_eq_false_iff_eq, Bool.not_eq_true', Bool.not_eq_false', Bool.not_true, Bool.not_false] at hh))); all_goals (conv => whnf)
  · (refine RetN.intro () [] rfl rfl ?_ ?_ ?_; ((repeat' (first | exact rfl | exact trivial | refine And.intro ?_ ?_ | ((conv => whnf); first | exact rfl | exact trivial | refine And.intro ?_ ?_)))); ((repeat' (first | exact rfl | exact trivial | refine And.intro ?_ ?_ | ((conv => whnf); first | exact rfl | exact trivial | refine And.intro ?_ ?_))); all_goals (conv => whnf); all_goals (try simp only [])))
    unfold worth at hb ⊢
    rw [if_pos hh] at hb ⊢
    exact wr (by omega)
  · (refine RetN.intro () [] rfl rfl ?_ ?_ ?_; ((repeat' (first | exact rfl | exact trivial | refine And.intro ?_ ?_ | ((conv => whnf); first | exact rfl | exact trivial | refine And.intro ?_ ?_)))); ((repeat' (first | exact rfl | exact trivial | refine And.intro ?_ ?_ | ((conv => whnf); first | exact rfl | exact trivial | refine And.intro ?_ ?_))); all_goals (conv => whnf); all_goals (try simp only [])))
    unfold worth
    rw [if_neg hh]
theorem rworthM (p : Pol) (hp : PolOk p) (w : Int) (hw : 1 ≤ w ∧ w ≤ 1048576) : Meets Try.prog 27 [polAV p, .int .i64 fun _ => w] [] (Y := Unit) (fun _ => True) (fun _ => .int .i64 fun _ => worth p w) (fun _ => []) := by
  have hb := worth_bound hp hw
  refine Meets.intro hm (fn := Try.f27) Try.func27 rfl (by decide) (Nat.le_of_ble_eq_true rfl) (fun _ => rfl) ?_; intro S hok; (conv => whnf)
  (repeat' ((conv => whnf); first | refine And.intro ?_ ?_ | exact Cl.mk (by kernel_rfl) | exact Ck.mk (by kernel_rfl) | exact trivial | exact rfl | (intro hh; try simp only [decide_eq_true_eq, decide_eq_false_iff_not, beq_iff_eq, beq_eq_false_iff_ne, bne_iff_ne, bne_eq_false_iff_eq, Bool.not_eq_true', Bool.not_eq_false', Bool.not_true, Bool.not_false] at hh))); all_goals (conv => whnf)
  · (refine RetN.intro () [] rfl rfl ?_ ?_ ?_; ((repeat' (first | exact rfl | exact trivial | refine And.intro ?_ ?_ | ((conv => whnf); first | exact rfl | exact trivial | refine And.intro ?_ ?_)))); ((repeat' (first | exact rfl | exact trivial | refine And.intro ?_ ?_ | ((conv => whnf); first | exact rfl | exact trivial | refine And.intro ?_ ?_))); all_goals (conv => whnf); all_goals (try simp only [])))
    unfold worth at hb ⊢
    rw [if_pos hh] at hb ⊢
    exact wr (by omega)
  · (refine RetN.intro () [] rfl rfl ?_ ?_ ?_; ((repeat' (first | exact rfl | exact trivial | refine And.intro ?_ ?_ | ((conv => whnf); first | exact rfl | exact trivial | refine And.intro ?_ ?_)))); ((repeat' (first | exact rfl | exact trivial | refine And.intro ?_ ?_ | ((conv => whnf); first | exact rfl | exact trivial | refine And.intro ?_ ?_))); all_goals (conv => whnf); all_goals (try simp only [])))
    unfold worth
    rw [if_neg hh]
end Go.Proofs.Ytclfhgfdnnifbaa.Po
set_option linter.unusedVariables false
set_option linter.unusedSimpArgs false
namespace Go.Proofs.Ytclfhgfdnnifbaa.Hi
open Go Go.RowKit Fw Po
/-- The tick ahead of the i-th hit. -/
def lastOf (l : List Hit) : Nat → Int
  | 0 => 0 | i + 1 => (l.getD i (0, 0)).1
theorem wr2 {n : Nat} (i : Nat) (h : i < n) (hn : n ≤ 1000000000) : IntKind.i64.wrap ((i : Int) + 1) = ((i + 1 : Nat) : Int) := by rw [wr (by omega)]; omega
theorem hit_eta (x : Hit) : (x.1, x.2) = x := rfl
theorem drop_at {l : List Hit} {i : Nat} (h : i < l.length) : l.drop i = l.getD i (0, 0) :: l.drop (i + 1) := by
  rw [List.drop_eq_getElem_cons h]; simp [List.getD_eq_getElem?_getD, h]
theorem may_at {l : List Hit} {i : Nat} (h : i < l.length) : mayGo (lastOf l i) (l.drop i) = (decide (lastOf l i ≤ (l.getD i (0, 0)).1) && decide ((l.getD i (0, 0)).1 ≤ 1099511627776) && weighs (l.getD i (0, 0)).2 && mayGo (lastOf l (i + 1)) (l.drop (i + 1))) := by
  rw [drop_at h, mayGo]; rfl
theorem eqHit (x y : Hit) : eqD HitT (x.1, x.2) (y.1, y.2) = decide (x = y) := by
  obtain ⟨a, b⟩ := x
  obtain ⟨c, d⟩ := y
  have h : eqD HitT (a, b) (c, d) = (@BEq.beq Int _ a c && @BEq.beq Int _ b d) := rfl
  rw [h, Bool.eq_iff_iff]
  simp
theorem mayM (l : List Hit) (hl : l.length ≤ 100000) : Meets Try.prog 12 [.lst HitT fun _ => l] [] (Y := Unit) (fun _ => True) (fun _ => .bool fun _ => may l) (fun _ => []) := by
  refine Meets.intro hm (fn := Try.f12) Try.func12 rfl (by decide) (Nat.le_of_ble_eq_true rfl) (fun _ => rfl) ?_; intro S hok; (conv => whnf)
  (repeat' ((conv => whnf); first | refine And.intro ?_ ?_ | exact Cl.mk (by kernel_rfl) | exact Ck.mk (by kernel_rfl) | exact trivial | exact rfl | (intro hh; try simp only [decide_eq_true_eq, decide_eq_false_iff_not, beq_iff_eq, beq_eq_false_iff_ne, bne_iff_ne, bne_eq_false_iff_eq, Bool.not_eq_true', Bool.not_eq_false', Bool.not_true, Bool.not_false] at hh))); all_goals (conv => whnf)
  refine LoopN.intro hm (X := Nat) (fun i => i ≤ l.length ∧ may l = mayGo (lastOf l i) (l.drop i)) (fun i => l.length - i)
      (fun i => [(8, .int .i64 fun _ => (i : Int)), (7, .int .i64 fun _ => (l.length : Int)), (6, .lst HitT fun _ => l), (3, .int .i64 fun _ => lastOf l i)]) (fun i => []) 0 [] ⟨rfl, rfl, ?_, ?_⟩ ⟨Nat.zero_le _, rfl⟩ (fun i hi => ?_)
  · (repeat' (first | exact rfl | exact trivial | refine And.intro ?_ ?_ | ((conv => whnf); first | exact rfl | exact trivial | refine And.intro ?_ ?_)))
  · (repeat' (first | exact rfl | exact trivial | refine And.intro ?_ ?_ | ((conv => whnf); first | exact rfl | exact trivial | refine And.intro ?_ ?_)))
  · obtain ⟨hi, hmy⟩ := hi
    have hma := fun h => hmy.trans (may_at (l := l) (i := i) h)
    generalize hx : l.getD i (0, 0) = x at hma
    have hx' : l.getD (i : Int).toNat HitT.dflt = x := hx
    (repeat' ((conv => whnf); first | refine And.intro ?_ ?_ | exact Cl.mk (by kernel_rfl) | exact Ck.mk (by kernel_rfl) | exact trivial | exact rfl | (intro hh; try simp only [decide_eq_true_eq, decide_eq_false_iff_not, beq_iff_eq, beq_eq_false_iff_ne, bne_iff_ne, bne_eq_false_iff_eq, Bool.not_eq_true', Bool.not_eq_false', Bool.not_true, Bool.not_false] at hh))); all_goals (conv => whnf)
    all_goals (try simp only [hx'] at *)
    · (refine Ob.mk ?_; (try simp only [Ty.dflt, Nat.zero_add, Nat.add_zero, Int.toNat_natCast, Int.toNat_zero, Int.toNat_one, List.length_take, List.length_drop, List.length_append, List.length_replicate, List.length_cons, List.length_nil, List.length_set, List.length_map, true_and, and_true]); omega)
    · (refine CallN.intro (weighsM x.2) [] rfl rfl ?_ ?_ ?_; ((repeat' (first | exact rfl | exact trivial | refine And.intro ?_ ?_ | ((conv => whnf); first | exact rfl | exact trivial | refine And.intro ?_ ?_)))); ((repeat' (first | exact rfl | exact trivial | refine And.intro ?_ ?_ | ((conv => whnf); first | exact rfl | exact trivial | refine And.intro ?_ ?_)))); (intro y hy; clear y hy; (repeat' ((conv => whnf); first | refine And.intro ?_ ?_ | exact Cl.mk (by kernel_rfl) | exact Ck.mk (by kernel_rfl) | exact trivial | exact rfl | (intro hh; try simp only [decide_eq_true_eq, decide_eq_false_iff_not, beq_iff_eq, beq_eq_false_iff_ne, bne_iff_ne, bne_eq_false_iff_eq, Bool.not_eq_true', Bool.not_eq_false', Bool.not_true, Bool.not_false] at hh; try exact absurd hh (by decide)))); all_goals (conv => whnf); (all_goals first | (exact Ob.mk (by decide)) | skip)))
      rotate_left
      · have hi1 : i < l.length := by omega
        refine ⟨i + 1, [], ⟨rfl, rfl, ?_, ?_⟩, ⟨hi1, ?_⟩, by omega⟩
        · (repeat' (first | exact rfl | exact trivial | refine And.intro ?_ ?_ | ((conv => whnf); first | exact rfl | exact trivial | refine And.intro ?_ ?_)))
        · (repeat' (first | exact rfl | exact trivial | refine And.intro ?_ ?_ | ((conv => whnf); first | exact rfl | exact trivial | refine And.intro ?_ ?_))); all_goals (conv => whnf); all_goals (try simp only [])
          all_goals first | exact wr2 i hi1 (by omega) | skip
          show x.1 = (l.getD i (0, 0)).1
          rw [hx]
        · rw [hma hi1, hh]
          simp; omega
      · (refine RetN.intro () [] rfl rfl ?_ ?_ ?_; ((repeat' (first | exact rfl | exact trivial | refine And.intro ?_ ?_ | ((conv => whnf); first | exact rfl | exact trivial | refine And.intro ?_ ?_)))); ((repeat' (first | exact rfl | exact trivial | refine And.intro ?_ ?_ | ((conv => whnf); first | exact rfl | exact trivial | refine And.intro ?_ ?_))); all_goals (conv => whnf); all_goals (try simp only [])))
        rw [hma (by omega), hh]; simp
    · (refine RetN.intro () [] rfl rfl ?_ ?_ ?_; ((repeat' (first | exact rfl | exact trivial | refine And.intro ?_ ?_ | ((conv => whnf); first | exact rfl | exact trivial | refine And.intro ?_ ?_)))); ((repeat' (first | exact rfl | exact trivial | refine And.intro ?_ ?_ | ((conv => whnf); first | exact rfl | exact trivial | refine And.intro ?_ ?_))); all_goals (conv => whnf); all_goals (try simp only [])))
      rw [hma (by omega)]; simp; omega
    · (refine RetN.intro () [] rfl rfl ?_ ?_ ?_; ((repeat' (first | exact rfl | exact trivial | refine And.intro ?_ ?_ | ((conv => whnf); first | exact rfl | exact trivial | refine And.intro ?_ ?_)))); ((repeat' (first | exact rfl | exact trivial | refine And.intro ?_ ?_ | ((conv => whnf); first | exact rfl | exact trivial | refine And.intro ?_ ?_))); all_goals (conv => whnf); all_goals (try simp only [])))
      rw [hma (by omega)]; simp; omega
    · have e : i = l.length := by omega
      (refine RetN.intro () [] rfl rfl ?_ ?_ ?_; ((repeat' (first | exact rfl | exact trivial | refine And.intro ?_ ?_ | ((conv => whnf); first | exact rfl | exact trivial | refine And.intro ?_ ?_)))); ((repeat' (first | exact rfl | exact trivial | refine And.intro ?_ ?_ | ((conv => whnf); first | exact rfl | exact trivial | refine And.intro ?_ ?_))); all_goals (conv => whnf); all_goals (try simp only [])))
      rw [hmy, e, List.drop_length]; rfl
theorem rmayM (l : List Hit) (hl : l.length ≤ 100000) : Meets Try.prog 13 [.lst HitT fun _ => l] [] (Y := Unit) (fun _ => True) (fun _ => .bool fun _ => may l) (fun _ => []) := by
  refine Meets.intro hm (fn := Try.f13) Try.func13 rfl (by decide) (Nat.le_of_ble_eq_true rfl) (fun _ => rfl) ?_; intro S hok; (conv => whnf)
  (repeat' ((conv => whnf); first | refine And.intro ?_ ?_ | exact Cl.mk (by kernel_rfl) | exact Ck.mk (by kernel_rfl) | exact trivial | exact rfl | (intro hh; try simp only [decide_eq_true_eq, decide_eq_false_iff_not, beq_iff_eq, beq_eq_false_iff_ne, bne_iff_ne, bne_eq_false_iff_eq, Bool.not_eq_true', Bool.not_eq_false', Bool.not_true, Bool.not_false] at hh))); all_goals (conv => whnf)
  refine LoopN.intro hm (X := Nat) (fun i => i ≤ l.length ∧ may l = mayGo (lastOf l i) (l.drop i) ∧ 0 ≤ lastOf l i) (fun i => l.length - i)
      (fun i => [(3, .int .i64 fun _ => (i : Int)), (0, .lst HitT fun _ => l)]) (fun i => []) 0 [] ⟨rfl, rfl, ?_, ?_⟩ ⟨Nat.zero_le _, rfl, Int.le_refl _⟩ (fun i hi => ?_)
  · (repeat' (first | exact rfl | exact trivial | refine And.intro ?_ ?_ | ((conv => whnf); first | exact rfl | exact trivial | refine And.intro ?_ ?_)))
  · (repeat' (first | exact rfl | exact trivial | refine And.intro ?_ ?_ | ((conv => whnf); first | exact rfl | exact trivial | refine And.intro ?_ ?_)))
  · obtain ⟨hi, hmy, h0⟩ := hi
    have hma := fun h => hmy.trans (may_at (l := l) (i := i) h)
    have hlast : 0 < i → (l.getD (i - 1) (0, 0)).1 = lastOf l i := fun h => by cases i with
      | zero => omega
      | succ i => rfl
    generalize hx : l.getD i (0, 0) = x at hma
    have hx' : l.getD (i : Int).toNat HitT.dflt = x := hx
    (repeat' ((conv => whnf); first | refine And.intro ?_ ?_ | exact Cl.mk (by kernel_rfl) | exact Ck.mk (by kernel_rfl) | exact trivial | exact rfl | (intro hh; try simp only [decide_eq_true_eq, decide_eq_false_iff_not, beq_iff_eq, beq_eq_false_iff_ne, bne_iff_ne, bne_eq_false_iff_eq, Bool.not_eq_true', Bool.not_eq_false', Bool.not_true, Bool.not_false] at hh))); all_goals (conv => whnf)
    all_goals (try simp only [hx'] at *)
    · (refine Ob.mk ?_; (try simp only [Ty.dflt, Nat.zero_add, Nat.add_zero, Int.toNat_natCast, Int.toNat_zero, Int.toNat_one, List.length_take, List.length_drop, List.length_append, List.length_replicate, List.length_cons, List.length_nil, List.length_set, List.length_map, true_and, and_true]); omega)
    · (refine Ob.mk ?_; (try simp only [Ty.dflt, Nat.zero_add, Nat.add_zero, Int.toNat_natCast, Int.toNat_zero, Int.toNat_one, List.length_take, List.length_drop, List.length_append, List.length_replicate, List.length_cons, List.length_nil, List.length_set, List.length_map, true_and, and_true]); omega)
    · (refine Ob.mk ?_; (try simp only [Ty.dflt, Nat.zero_add, Nat.add_zero, Int.toNat_natCast, Int.toNat_zero, Int.toNat_one, List.length_take, List.length_drop, List.length_append, List.length_replicate, List.length_cons, List.length_nil, List.length_set, List.length_map, true_and, and_true]); omega)
    · (refine CallN.intro (rweighsM x.2) [] rfl rfl ?_ ?_ ?_; ((repeat' (first | exact rfl | exact trivial | refine And.intro ?_ ?_ | ((conv => whnf); first | exact rfl | exact trivial | refine And.intro ?_ ?_)))); ((repeat' (first | exact rfl | exact trivial | refine And.intro ?_ ?_ | ((conv => whnf); first | exact rfl | exact trivial | refine And.intro ?_ ?_)))); (intro y hy; clear y hy; (repeat' ((conv => whnf); first | refine And.intro ?_ ?_ | exact Cl.mk (by kernel_rfl) | exact Ck.mk (by kernel_rfl) | exact trivial | exact rfl | (intro hh; try simp only [decide_eq_true_eq, decide_eq_false_iff_not, beq_iff_eq, beq_eq_false_iff_ne, bne_iff_ne, bne_eq_false_iff_eq, Bool.not_eq_true', Bool.not_eq_false', Bool.not_true, Bool.not_false] at hh; try exact absurd hh (by decide)))); all_goals (conv => whnf); (all_goals first | (exact Ob.mk (by decide)) | skip)))
      · refine Ob.mk ?_
        have e : IntKind.i64.wrap ((i : Int) - 1) = (i : Int) - 1 := wr (by omega)
        simp only [e]; omega
      · (refine Ob.mk ?_; (try simp only [Ty.dflt, Nat.zero_add, Nat.add_zero, Int.toNat_natCast, Int.toNat_zero, Int.toNat_one, List.length_take, List.length_drop, List.length_append, List.length_replicate, List.length_cons, List.length_nil, List.length_set, List.length_map, true_and, and_true]); omega)
      · have hi0 : 0 < i := by omega
        rw [show (IntKind.i64.wrap ((i : Int) - 1)).toNat = i - 1 by rw [wr (by omega)]; omega] at hh
        have hh : (l.getD i (0, 0)).1 < (l.getD (i - 1) (0, 0)).1 := hh
        rw [hlast hi0, hx] at hh
        (refine RetN.intro () [] rfl rfl ?_ ?_ ?_; ((repeat' (first | exact rfl | exact trivial | refine And.intro ?_ ?_ | ((conv => whnf); first | exact rfl | exact trivial | refine And.intro ?_ ?_)))); ((repeat' (first | exact rfl | exact trivial | refine And.intro ?_ ?_ | ((conv => whnf); first | exact rfl | exact trivial | refine And.intro ?_ ?_))); all_goals (conv => whnf); all_goals (try simp only [])))
        rw [hma (by omega)]; simp; omega
      · have hi0 : 0 < i := by omega
        have hi1 : i < l.length := by omega
        rw [show (IntKind.i64.wrap ((i : Int) - 1)).toNat = i - 1 by rw [wr (by omega)]; omega] at hh
        have hh : ¬ (l.getD i (0, 0)).1 < (l.getD (i - 1) (0, 0)).1 := hh
        rw [hlast hi0, hx] at hh
        refine ⟨i + 1, [], ⟨rfl, rfl, ?_, ?_⟩, ⟨hi1, ?_, by show 0 ≤ (l.getD i (0, 0)).1; rw [hx]; omega⟩, by omega⟩
        · (repeat' (first | exact rfl | exact trivial | refine And.intro ?_ ?_ | ((conv => whnf); first | exact rfl | exact trivial | refine And.intro ?_ ?_)))
        · (repeat' (first | exact rfl | exact trivial | refine And.intro ?_ ?_ | ((conv => whnf); first | exact rfl | exact trivial | refine And.intro ?_ ?_))); all_goals (conv => whnf); all_goals (try simp only [])
          exact wr2 i hi1 (by omega)
        · rw [hma hi1]
          simp only [*]
          simp; omega
      · have hi0 : i = 0 := by omega
        have hi1 : i < l.length := by omega
        refine ⟨i + 1, [], ⟨rfl, rfl, ?_, ?_⟩, ⟨hi1, ?_, by show 0 ≤ (l.getD i (0, 0)).1; rw [hx]; omega⟩, by omega⟩
        · (repeat' (first | exact rfl | exact trivial | refine And.intro ?_ ?_ | ((conv => whnf); first | exact rfl | exact trivial | refine And.intro ?_ ?_)))
        · (repeat' (first | exact rfl | exact trivial | refine And.intro ?_ ?_ | ((conv => whnf); first | exact rfl | exact trivial | refine And.intro ?_ ?_))); all_goals (conv => whnf); all_goals (try simp only [])
          exact wr2 i hi1 (by omega)
        · rw [hma hi1]
          subst hi0
          simp only [*]
          simp [lastOf]
          intro _
          exact ⟨decide_eq_true (show lastOf l 0 ≤ x.1 by show (0 : Int) ≤ x.1; omega), by omega⟩
      · (refine RetN.intro () [] rfl rfl ?_ ?_ ?_; ((repeat' (first | exact rfl | exact trivial | refine And.intro ?_ ?_ | ((conv => whnf); first | exact rfl | exact trivial | refine And.intro ?_ ?_)))); ((repeat' (first | exact rfl | exact trivial | refine And.intro ?_ ?_ | ((conv => whnf); first | exact rfl | exact trivial | refine And.intro ?_ ?_))); all_goals (conv => whnf); all_goals (try simp only [])))
        rw [hma (by omega), hh]; simp
    · (refine RetN.intro () [] rfl rfl ?_ ?_ ?_; ((repeat' (first | exact rfl | exact trivial | refine And.intro ?_ ?_ | ((conv => whnf); first | exact rfl | exact trivial | refine And.intro ?_ ?_)))); ((repeat' (first | exact rfl | exact trivial | refine And.intro ?_ ?_ | ((conv => whnf); first | exact rfl | exact trivial | refine And.intro ?_ ?_))); all_goals (conv => whnf); all_goals (try simp only [])))
      rw [hma (by omega)]; simp; omega
    · (refine RetN.intro () [] rfl rfl ?_ ?_ ?_; ((repeat' (first | exact rfl | exact trivial | refine And.intro ?_ ?_ | ((conv => whnf); first | exact rfl | exact trivial | refine And.intro ?_ ?_)))); ((repeat' (first | exact rfl | exact trivial | refine And.intro ?_ ?_ | ((conv => whnf); first | exact rfl | exact trivial | refine And.intro ?_ ?_))); all_goals (conv => whnf); all_goals (try simp only [])))
      rw [hma (by omega)]; simp; omega
    · have e : i = l.length := by omega
      (refine RetN.intro () [] rfl rfl ?_ ?_ ?_; ((repeat' (first | exact rfl | exact trivial | refine And.intro ?_ ?_ | ((conv => whnf); first | exact rfl | exact trivial | refine And.intro ?_ ?_)))); ((repeat' (first | exact rfl | exact trivial | refine And.intro ?_ ?_ | ((conv => whnf); first | exact rfl | exact trivial | refine And.intro ?_ ?_))); all_goals (conv => whnf); all_goals (try simp only [])))
      rw [hmy, e, List.drop_length]; rfl
theorem hitsM (a b : List Hit) (ha : a.length ≤ 1000000) : Meets Try.prog 11 [.lst HitT fun _ => a, .lst HitT fun _ => b] [] (Y := Unit) (fun _ => True) (fun _ => .bool fun _ => decide (a = b)) (fun _ => []) := by
  refine Meets.intro hm (fn := Try.f11) Try.func11 rfl (by decide) (Nat.le_of_ble_eq_true rfl) (fun _ => rfl) ?_; intro S hok; (conv => whnf)
  (repeat' ((conv => whnf); first | refine And.intro ?_ ?_ | exact Cl.mk (by kernel_rfl) | exact Ck.mk (by kernel_rfl) | exact trivial | exact rfl | (intro hh; try simp only [decide_eq_true_eq, decide_eq_false_iff_not, beq_iff_eq, beq_eq_false_iff_ne, bne_iff_ne, bne_eq_false_iff_eq, Bool.not_eq_true', Bool.not_eq_false', Bool.not_true, Bool.not_false] at hh))); all_goals (conv => whnf)
  · (refine RetN.intro () [] rfl rfl ?_ ?_ ?_; ((repeat' (first | exact rfl | exact trivial | refine And.intro ?_ ?_ | ((conv => whnf); first | exact rfl | exact trivial | refine And.intro ?_ ?_)))); ((repeat' (first | exact rfl | exact trivial | refine And.intro ?_ ?_ | ((conv => whnf); first | exact rfl | exact trivial | refine And.intro ?_ ?_))); all_goals (conv => whnf); all_goals (try simp only [])))
    have : a ≠ b := fun e => by rw [e] at hh; exact hh rfl
    simp [this]
  · have hl : a.length = b.length := by omega
    refine LoopN.intro hm (X := Nat) (fun i => i ≤ a.length ∧ a.take i = b.take i) (fun i => a.length - i)
      (fun i => [(5, .int .i64 fun _ => (i : Int)), (0, .lst HitT fun _ => a), (1, .lst HitT fun _ => b)]) (fun _ => []) 0 [] ⟨rfl, rfl, ?_, ?_⟩ ⟨Nat.zero_le _, rfl⟩ (fun i hi => ?_)
    · (repeat' (first | exact rfl | exact trivial | refine And.intro ?_ ?_ | ((conv => whnf); first | exact rfl | exact trivial | refine And.intro ?_ ?_)))
    · (repeat' (first | exact rfl | exact trivial | refine And.intro ?_ ?_ | ((conv => whnf); first | exact rfl | exact trivial | refine And.intro ?_ ?_)))
    · (repeat' ((conv => whnf); first | refine And.intro ?_ ?_ | exact Cl.mk (by kernel_rfl) | exact Ck.mk (by kernel_rfl) | exact trivial | exact rfl | (intro hh; try simp only [decide_eq_true_eq, decide_eq_false_iff_not, beq_iff_eq, beq_eq_false_iff_ne, bne_iff_ne, bne_eq_false_iff_eq, Bool.not_eq_true', Bool.not_eq_false', Bool.not_true, Bool.not_false] at hh))); all_goals (conv => whnf)
      · (refine Ob.mk ?_; (try simp only [Ty.dflt, Nat.zero_add, Nat.add_zero, Int.toNat_natCast, Int.toNat_zero, Int.toNat_one, List.length_take, List.length_drop, List.length_append, List.length_replicate, List.length_cons, List.length_nil, List.length_set, List.length_map, true_and, and_true]); omega)
      · (refine Ob.mk ?_; (try simp only [Ty.dflt, Nat.zero_add, Nat.add_zero, Int.toNat_natCast, Int.toNat_zero, Int.toNat_one, List.length_take, List.length_drop, List.length_append, List.length_replicate, List.length_cons, List.length_nil, List.length_set, List.length_map, true_and, and_true]); omega)
      · have hne : a ≠ b := by rintro rfl; rw [eqHit] at hh; simp at hh
        (refine RetN.intro () [] rfl rfl ?_ ?_ ?_; ((repeat' (first | exact rfl | exact trivial | refine And.intro ?_ ?_ | ((conv => whnf); first | exact rfl | exact trivial | refine And.intro ?_ ?_)))); ((repeat' (first | exact rfl | exact trivial | refine And.intro ?_ ?_ | ((conv => whnf); first | exact rfl | exact trivial | refine And.intro ?_ ?_))); all_goals (conv => whnf); all_goals (try simp only [])))
        simp [hne]
      · have hi1 : i < a.length := by omega
        refine ⟨i + 1, [], ⟨rfl, rfl, ?_, ?_⟩, ⟨hi1, ?_⟩, by omega⟩
        · (repeat' (first | exact rfl | exact trivial | refine And.intro ?_ ?_ | ((conv => whnf); first | exact rfl | exact trivial | refine And.intro ?_ ?_)))
        · (repeat' (first | exact rfl | exact trivial | refine And.intro ?_ ?_ | ((conv => whnf); first | exact rfl | exact trivial | refine And.intro ?_ ?_))); all_goals (conv => whnf); all_goals (try simp only [])
          exact wr2 i hi1 (by omega)
        · rw [eqHit] at hh; have hh := of_decide_eq_true hh
          rw [List.take_add_one, List.take_add_one, hi.2, List.getElem?_eq_getElem hi1, List.getElem?_eq_getElem (by omega)]
          have hh : a.getD i (0, 0) = b.getD i (0, 0) := hh
          rw [List.getD_eq_getElem?_getD, List.getD_eq_getElem?_getD, List.getElem?_eq_getElem hi1, List.getElem?_eq_getElem (by omega)] at hh
          have hh : a[i]'hi1 = b[i]'(by omega) := hh
          simp [hh]
      · have e : i = a.length := by omega
        have hab : a = b := by
          have := hi.2
          rw [e, List.take_length, hl, List.take_length] at this
          exact this
        (refine RetN.intro () [] rfl rfl ?_ ?_ ?_; ((repeat' (first | exact rfl | exact trivial | refine And.intro ?_ ?_ | ((conv => whnf); first | exact rfl | exact trivial | refine And.intro ?_ ?_)))); ((repeat' (first | exact rfl | exact trivial | refine And.intro ?_ ?_ | ((conv => whnf); first | exact rfl | exact trivial | refine And.intro ?_ ?_))); all_goals (conv => whnf); all_goals (try simp only [])))
        simp [hab]
end Go.Proofs.Ytclfhgfdnnifbaa.Hi
set_option linter.unusedVariables false
set_option linter.unusedSimpArgs false
namespace Go.Proofs.Ytclfhgfdnnifbaa.Hi
open Go Go.RowKit Fw Po
theorem those_take (q : Int → Bool) : ∀ (l : List Hit) (i : Nat), i < l.length → those q (l.take (i + 1)) = those q (l.take i) + (if q (l.getD i (0, 0)).1 then (l.getD i (0, 0)).2 else 0)
  | [], i, h => by simp at h
  | x :: r, 0, h => by simp [those]
  | x :: r, i + 1, h => by
    have ih := those_take q r i (by simpa using h)
    have e : (x :: r).getD (i + 1) (0, 0) = r.getD i (0, 0) := by simp
    rw [e]
    simp only [List.take_succ_cons, those, ih]
    omega
theorem HOk.take {l : List Hit} {t : Int} (q : HOk l t) (i : Nat) : HOk (l.take i) t := q.sub (fun h hh => List.mem_of_mem_take hh) (by have := q.len; rw [List.length_take]; omega)
/-- What the ways to count have at hand. -/
def chC (p : Pol) (t s : Int) : List Chunk := [.cells 23 [.int .i64 fun _ => p.1, .int .i64 fun _ => p.2.1, .int .i64 fun _ => p.2.2.1, .int .i64 fun _ => p.2.2.2], .cells 3 [.int .i64 fun _ => t], .cells 3 [.int .i64 fun _ => s]]
theorem tdiv_bound {a s : Int} (h0 : 0 ≤ a) (h1 : a ≤ 4611686018427387904) (hs : 1 ≤ s) : 0 ≤ a.tdiv s ∧ a.tdiv s ≤ 4611686018427387904 := by
  refine ⟨Int.tdiv_nonneg h0 (by omega), ?_⟩
  rw [Int.tdiv_eq_ediv_of_nonneg h0]
  exact Int.le_trans (Int.ediv_le_self _ h0) h1
theorem closA (p : Pol) (t s x : Int) (ht : 0 ≤ t ∧ t ≤ 1125899906842624) (hs : 1 ≤ s ∧ s ≤ 1048576) (hx : 0 ≤ x ∧ x ≤ 1125899906842624) (hW : 1 ≤ p.2.2.1 ∧ p.2.2.1 ≤ 1048576) (hB : 0 ≤ p.2.2.2 ∧ p.2.2.2 ≤ 16) : Meets Try.prog 35 [.int .i64 fun _ => x, .ptr 2 0, .ptr 1 0] (chC p t s) (Y := Unit) (fun _ => True) (fun _ => .bool fun _ => decide (x.tdiv s = t.tdiv s)) (fun _ => chC p t s) := by
  have b1 := tdiv_bound (a := t) (s := s) ht.1 (by omega) hs.1
  have b2 := tdiv_bound (a := x) (s := s) hx.1 (by omega) hs.1
  refine Meets.intro hm (fn := Try.f35) Try.func35 rfl (by decide) (Nat.le_of_ble_eq_true rfl) (fun _ => rfl) ?_; intro S hok; (conv => whnf)
  (repeat' ((conv => whnf); first | refine And.intro ?_ ?_ | exact Cl.mk (by kernel_rfl) | exact Ck.mk (by kernel_rfl) | exact trivial | exact rfl | (intro hh; try simp only [decide_eq_true_eq, decide_eq_false_iff_not, beq_iff_eq, beq_eq_false_iff_ne, bne_iff_ne, bne_eq_false_iff_eq, Bool.not_eq_true', Bool.not_eq_false', Bool.not_true, Bool.not_false] at hh))); all_goals (conv => whnf)
  all_goals first | (refine Ob.mk ?_; simp only []; omega) | skip
  (refine RetN.intro () [0, 1, 2] rfl rfl ?_ ?_ ?_; ((repeat' (first | exact rfl | exact trivial | refine And.intro ?_ ?_ | ((conv => whnf); first | exact rfl | exact trivial | refine And.intro ?_ ?_)))); ((repeat' (first | exact rfl | exact trivial | refine And.intro ?_ ?_ | ((conv => whnf); first | exact rfl | exact trivial | refine And.intro ?_ ?_))); all_goals (conv => whnf); all_goals (try simp only [])))
  all_goals simp (disch := omega) only [wr]
  all_goals first | (rw [Bool.eq_iff_iff]; simp; done) | skip
theorem thoseA (p : Pol) (t s : Int) (l : List Hit) (hl : HOk l 1125899906842624) (ht : 0 ≤ t ∧ t ≤ 1125899906842624) (hs : 1 ≤ s ∧ s ≤ 1048576) (hW : 1 ≤ p.2.2.1 ∧ p.2.2.1 ≤ 1048576) (hB : 0 ≤ p.2.2.2 ∧ p.2.2.2 ≤ 16) : Meets Try.prog 34 [.lst HitT fun _ => l, .fn (.func 35) [] [.ptr 2 0, .ptr 1 0]] (chC p t s) (Y := Unit) (fun _ => True) (fun _ => .int .i64 fun _ => those (fun x => decide (x.tdiv s = t.tdiv s)) l) (fun _ => chC p t s) := by
  refine Meets.intro hm (fn := Try.f34) Try.func34 rfl (by decide) (Nat.le_of_ble_eq_true rfl) (fun _ => rfl) ?_; intro S hok; (conv => whnf)
  (repeat' ((conv => whnf); first | refine And.intro ?_ ?_ | exact Cl.mk (by kernel_rfl) | exact Ck.mk (by kernel_rfl) | exact trivial | exact rfl | (intro hh; try simp only [decide_eq_true_eq, decide_eq_false_iff_not, beq_iff_eq, beq_eq_false_iff_ne, bne_iff_ne, bne_eq_false_iff_eq, Bool.not_eq_true', Bool.not_eq_false', Bool.not_true, Bool.not_false] at hh))); all_goals (conv => whnf)
  have hlen := hl.len
  refine LoopN.intro hm (X := Nat) (fun i => i ≤ l.length) (fun i => l.length - i)
    (fun i => [(10, .int .i64 fun _ => (i : Int)), (9, .int .i64 fun _ => (l.length : Int)), (8, .lst HitT fun _ => l), (5, .int .i64 fun _ => those (fun x => decide (x.tdiv s = t.tdiv s)) (l.take i)), (1, .fn (.func 35) [] [.ptr 2 0, .ptr 1 0])]) (fun i => chC p t s) 0 [0, 1, 2] ⟨rfl, rfl, ?_, ?_⟩ (Nat.zero_le _) (fun i hi => ?_)
  · (repeat' (first | exact rfl | exact trivial | refine And.intro ?_ ?_ | ((conv => whnf); first | exact rfl | exact trivial | refine And.intro ?_ ?_)))
  · (repeat' (first | exact rfl | exact trivial | refine And.intro ?_ ?_ | ((conv => whnf); first | exact rfl | exact trivial | refine And.intro ?_ ?_)))
  · have hb := those_bound (q := fun x => decide (x.tdiv s = t.tdiv s)) _ (hl.take i)
    have hb2 : ((l.take i).length : Int) ≤ 64 := by rw [List.length_take]; omega
    have hst := those_take (fun x => decide (x.tdiv s = t.tdiv s)) l i
    have hmem : i < l.length → l.getD i (0, 0) ∈ l := fun h => by rw [List.getD_eq_getElem?_getD, List.getElem?_eq_getElem h]; exact List.getElem_mem h
    generalize hx : l.getD i (0, 0) = x at hst hmem
    have hx' : l.getD (i : Int).toNat HitT.dflt = x := hx
    generalize hn : those (fun x => decide (x.tdiv s = t.tdiv s)) (l.take i) = n at hb hst
    (repeat' ((conv => whnf); first | refine And.intro ?_ ?_ | exact Cl.mk (by kernel_rfl) | exact Ck.mk (by kernel_rfl) | exact trivial | exact rfl | (intro hh; try simp only [decide_eq_true_eq, decide_eq_false_iff_not, beq_iff_eq, beq_eq_false_iff_ne, bne_iff_ne, bne_eq_false_iff_eq, Bool.not_eq_true', Bool.not_eq_false', Bool.not_true, Bool.not_false] at hh))); all_goals (conv => whnf)
    all_goals (try simp only [hx'] at *)
    · (refine Ob.mk ?_; (try simp only [Ty.dflt, Nat.zero_add, Nat.add_zero, Int.toNat_natCast, Int.toNat_zero, Int.toNat_one, List.length_take, List.length_drop, List.length_append, List.length_replicate, List.length_cons, List.length_nil, List.length_set, List.length_map, true_and, and_true]); omega)
    · have hi1 : i < l.length := by omega
      have ht2 := hl.tick x (hmem hi1)
      have hw2 := hl.weight x (hmem hi1)
      (refine CallN.intro (closA p t s x.1 ht hs ht2 hW hB) [0, 1, 2] rfl rfl ?_ ?_ ?_; ((repeat' (first | exact rfl | exact trivial | refine And.intro ?_ ?_ | ((conv => whnf); first | exact rfl | exact trivial | refine And.intro ?_ ?_)))); ((repeat' (first | exact rfl | exact trivial | refine And.intro ?_ ?_ | ((conv => whnf); first | exact rfl | exact trivial | refine And.intro ?_ ?_)))); (intro y hy; clear y hy; (repeat' ((conv => whnf); first | refine And.intro ?_ ?_ | exact Cl.mk (by kernel_rfl) | exact Ck.mk (by kernel_rfl) | exact trivial | exact rfl | (intro hh; try simp only [decide_eq_true_eq, decide_eq_false_iff_not, beq_iff_eq, beq_eq_false_iff_ne, bne_iff_ne, bne_eq_false_iff_eq, Bool.not_eq_true', Bool.not_eq_false', Bool.not_true, Bool.not_false] at hh; try exact absurd hh (by decide)))); all_goals (conv => whnf); (all_goals first | (exact Ob.mk (by decide)) | skip)))
      all_goals (refine ⟨i + 1, [0, 1, 2], ⟨rfl, rfl, ?_, ?_⟩, hi1, by omega⟩)
      all_goals (repeat' (first | exact rfl | exact trivial | refine And.intro ?_ ?_ | ((conv => whnf); first | exact rfl | exact trivial | refine And.intro ?_ ?_))); all_goals (conv => whnf); all_goals (try simp only [])
      all_goals first | exact wr2 i hi1 (by omega) | (rw [hst hi1, if_neg (by simpa using hh), Int.add_zero]; done) | (rw [hst hi1, if_pos (by simpa using hh)]; exact wr (by omega))
    · have e : i = l.length := by omega
      (refine RetN.intro () [0, 1, 2] rfl rfl ?_ ?_ ?_; ((repeat' (first | exact rfl | exact trivial | refine And.intro ?_ ?_ | ((conv => whnf); first | exact rfl | exact trivial | refine And.intro ?_ ?_)))); ((repeat' (first | exact rfl | exact trivial | refine And.intro ?_ ?_ | ((conv => whnf); first | exact rfl | exact trivial | refine And.intro ?_ ?_))); all_goals (conv => whnf); all_goals (try simp only [])))
      rw [← hn, e, List.take_length]
theorem closB (p : Pol) (t s x : Int) (ht : 0 ≤ t ∧ t ≤ 1125899906842624) (hs : 1 ≤ s ∧ s ≤ 1048576) (hx : 0 ≤ x ∧ x ≤ 1125899906842624) (hW : 1 ≤ p.2.2.1 ∧ p.2.2.1 ≤ 1048576) (hB : 0 ≤ p.2.2.2 ∧ p.2.2.2 ≤ 16) : Meets Try.prog 36 [.int .i64 fun _ => x, .ptr 2 0, .ptr 1 0, .ptr 0 0] (chC p t s) (Y := Unit) (fun _ => True) (fun _ => .bool fun _ => decide (t.tdiv s - p.2.2.2 < x.tdiv s)) (fun _ => chC p t s) := by
  have b1 := tdiv_bound (a := t) (s := s) ht.1 (by omega) hs.1
  have b2 := tdiv_bound (a := x) (s := s) hx.1 (by omega) hs.1
  refine Meets.intro hm (fn := Try.f36) Try.func36 rfl (by decide) (Nat.le_of_ble_eq_true rfl) (fun _ => rfl) ?_; intro S hok; (conv => whnf)
  (repeat' ((conv => whnf); first | refine And.intro ?_ ?_ | exact Cl.mk (by kernel_rfl) | exact Ck.mk (by kernel_rfl) | exact trivial | exact rfl | (intro hh; try simp only [decide_eq_true_eq, decide_eq_false_iff_not, beq_iff_eq, beq_eq_false_iff_ne, bne_iff_ne, bne_eq_false_iff_eq, Bool.not_eq_true', Bool.not_eq_false', Bool.not_true, Bool.not_false] at hh))); all_goals (conv => whnf)
  all_goals first | (refine Ob.mk ?_; simp only []; omega) | skip
  (refine RetN.intro () [0, 1, 2] rfl rfl ?_ ?_ ?_; ((repeat' (first | exact rfl | exact trivial | refine And.intro ?_ ?_ | ((conv => whnf); first | exact rfl | exact trivial | refine And.intro ?_ ?_)))); ((repeat' (first | exact rfl | exact trivial | refine And.intro ?_ ?_ | ((conv => whnf); first | exact rfl | exact trivial | refine And.intro ?_ ?_))); all_goals (conv => whnf); all_goals (try simp only [])))
  all_goals simp (disch := omega) only [wr]
  all_goals first | (rw [Bool.eq_iff_iff]; simp; done) | skip
theorem thoseB (p : Pol) (t s : Int) (l : List Hit) (hl : HOk l 1125899906842624) (ht : 0 ≤ t ∧ t ≤ 1125899906842624) (hs : 1 ≤ s ∧ s ≤ 1048576) (hW : 1 ≤ p.2.2.1 ∧ p.2.2.1 ≤ 1048576) (hB : 0 ≤ p.2.2.2 ∧ p.2.2.2 ≤ 16) : Meets Try.prog 34 [.lst HitT fun _ => l, .fn (.func 36) [] [.ptr 2 0, .ptr 1 0, .ptr 0 0]] (chC p t s) (Y := Unit) (fun _ => True) (fun _ => .int .i64 fun _ => those (fun x => decide (t.tdiv s - p.2.2.2 < x.tdiv s)) l) (fun _ => chC p t s) := by
  refine Meets.intro hm (fn := Try.f34) Try.func34 rfl (by decide) (Nat.le_of_ble_eq_true rfl) (fun _ => rfl) ?_; intro S hok; (conv => whnf)
  (repeat' ((conv => whnf); first | refine And.intro ?_ ?_ | exact Cl.mk (by kernel_rfl) | exact Ck.mk (by kernel_rfl) | exact trivial | exact rfl | (intro hh; try simp only [decide_eq_true_eq, decide_eq_false_iff_not, beq_iff_eq, beq_eq_false_iff_ne, bne_iff_ne, bne_eq_false_iff_eq, Bool.not_eq_true', Bool.not_eq_false', Bool.not_true, Bool.not_false] at hh))); all_goals (conv => whnf)
  have hlen := hl.len
  refine LoopN.intro hm (X := Nat) (fun i => i ≤ l.length) (fun i => l.length - i)
    (fun i => [(10, .int .i64 fun _ => (i : Int)), (9, .int .i64 fun _ => (l.length : Int)), (8, .lst HitT fun _ => l), (5, .int .i64 fun _ => those (fun x => decide (t.tdiv s - p.2.2.2 < x.tdiv s)) (l.take i)), (1, .fn (.func 36) [] [.ptr 2 0, .ptr 1 0, .ptr 0 0])]) (fun i => chC p t s) 0 [0, 1, 2] ⟨rfl, rfl, ?_, ?_⟩ (Nat.zero_le _) (fun i hi => ?_)
  · (repeat' (first | exact rfl | exact trivial | refine And.intro ?_ ?_ | ((conv => whnf); first | exact rfl | exact trivial | refine And.intro ?_ ?_)))
  · (repeat' (first | exact rfl | exact trivial | refine And.intro ?_ ?_ | ((conv => whnf); first | exact rfl | exact trivial | refine And.intro ?_ ?_)))
  · have hb := those_bound (q := fun x => decide (t.tdiv s - p.2.2.2 < x.tdiv s)) _ (hl.take i)
    have hb2 : ((l.take i).length : Int) ≤ 64 := by rw [List.length_take]; omega
    have hst := those_take (fun x => decide (t.tdiv s - p.2.2.2 < x.tdiv s)) l i
    have hmem : i < l.length → l.getD i (0, 0) ∈ l := fun h => by rw [List.getD_eq_getElem?_getD, List.getElem?_eq_getElem h]; exact List.getElem_mem h
    generalize hx : l.getD i (0, 0) = x at hst hmem
    have hx' : l.getD (i : Int).toNat HitT.dflt = x := hx
    generalize hn : those (fun x => decide (t.tdiv s - p.2.2.2 < x.tdiv s)) (l.take i) = n at hb hst
    (repeat' ((conv => whnf); first | refine And.intro ?_ ?_ | exact Cl.mk (by kernel_rfl) | exact Ck.mk (by kernel_rfl) | exact trivial | exact rfl | (intro hh; try simp only [decide_eq_true_eq, decide_eq_false_iff_not, beq_iff_eq, beq_eq_false_iff_ne, bne_iff_ne, bne_eq_false_iff_eq, Bool.not_eq_true', Bool.not_eq_false', Bool.not_true, Bool.not_false] at hh))); all_goals (conv => whnf)
    all_goals (try simp only [hx'] at *)
    · (refine Ob.mk ?_; (try simp only [Ty.dflt, Nat.zero_add, Nat.add_zero, Int.toNat_natCast, Int.toNat_zero, Int.toNat_one, List.length_take, List.length_drop, List.length_append, List.length_replicate, List.length_cons, List.length_nil, List.length_set, List.length_map, true_and, and_true]); omega)
    · have hi1 : i < l.length := by omega
      have ht2 := hl.tick x (hmem hi1)
      have hw2 := hl.weight x (hmem hi1)
      (refine CallN.intro (closB p t s x.1 ht hs ht2 hW hB) [0, 1, 2] rfl rfl ?_ ?_ ?_; ((repeat' (first | exact rfl | exact trivial | refine And.intro ?_ ?_ | ((conv => whnf); first | exact rfl | exact trivial | refine And.intro ?_ ?_)))); ((repeat' (first | exact rfl | exact trivial | refine And.intro ?_ ?_ | ((conv => whnf); first | exact rfl | exact trivial | refine And.intro ?_ ?_)))); (intro y hy; clear y hy; (repeat' ((conv => whnf); first | refine And.intro ?_ ?_ | exact Cl.mk (by kernel_rfl) | exact Ck.mk (by kernel_rfl) | exact trivial | exact rfl | (intro hh; try simp only [decide_eq_true_eq, decide_eq_false_iff_not, beq_iff_eq, beq_eq_false_iff_ne, bne_iff_ne, bne_eq_false_iff_eq, Bool.not_eq_true', Bool.not_eq_false', Bool.not_true, Bool.not_false] at hh; try exact absurd hh (by decide)))); all_goals (conv => whnf); (all_goals first | (exact Ob.mk (by decide)) | skip)))
      all_goals (refine ⟨i + 1, [0, 1, 2], ⟨rfl, rfl, ?_, ?_⟩, hi1, by omega⟩)
      all_goals (repeat' (first | exact rfl | exact trivial | refine And.intro ?_ ?_ | ((conv => whnf); first | exact rfl | exact trivial | refine And.intro ?_ ?_))); all_goals (conv => whnf); all_goals (try simp only [])
      all_goals first | exact wr2 i hi1 (by omega) | (rw [hst hi1, if_neg (by simpa using hh), Int.add_zero]; done) | (rw [hst hi1, if_pos (by simpa using hh)]; exact wr (by omega))
    · have e : i = l.length := by omega
      (refine RetN.intro () [0, 1, 2] rfl rfl ?_ ?_ ?_; ((repeat' (first | exact rfl | exact trivial | refine And.intro ?_ ?_ | ((conv => whnf); first | exact rfl | exact trivial | refine And.intro ?_ ?_)))); ((repeat' (first | exact rfl | exact trivial | refine And.intro ?_ ?_ | ((conv => whnf); first | exact rfl | exact trivial | refine And.intro ?_ ?_))); all_goals (conv => whnf); all_goals (try simp only [])))
      rw [← hn, e, List.take_length]
theorem closC (p : Pol) (t s x : Int) (ht : 0 ≤ t ∧ t ≤ 1125899906842624) (hs : 1 ≤ s ∧ s ≤ 1048576) (hx : 0 ≤ x ∧ x ≤ 1125899906842624) (hW : 1 ≤ p.2.2.1 ∧ p.2.2.1 ≤ 1048576) (hB : 0 ≤ p.2.2.2 ∧ p.2.2.2 ≤ 16) : Meets Try.prog 37 [.int .i64 fun _ => x, .ptr 1 0, .ptr 0 0] (chC p t s) (Y := Unit) (fun _ => True) (fun _ => .bool fun _ => decide (t - p.2.2.1 < x)) (fun _ => chC p t s) := by
  have b1 := tdiv_bound (a := t) (s := s) ht.1 (by omega) hs.1
  have b2 := tdiv_bound (a := x) (s := s) hx.1 (by omega) hs.1
  refine Meets.intro hm (fn := Try.f37) Try.func37 rfl (by decide) (Nat.le_of_ble_eq_true rfl) (fun _ => rfl) ?_; intro S hok; (conv => whnf)
  (repeat' ((conv => whnf); first | refine And.intro ?_ ?_ | exact Cl.mk (by kernel_rfl) | exact Ck.mk (by kernel_rfl) | exact trivial | exact rfl | (intro hh; try simp only [decide_eq_true_eq, decide_eq_false_iff_not, beq_iff_eq, beq_eq_false_iff_ne, bne_iff_ne, bne_eq_false_iff_eq, Bool.not_eq_true', Bool.not_eq_false', Bool.not_true, Bool.not_false] at hh))); all_goals (conv => whnf)
  all_goals first | (refine Ob.mk ?_; simp only []; omega) | skip
  (refine RetN.intro () [0, 1, 2] rfl rfl ?_ ?_ ?_; ((repeat' (first | exact rfl | exact trivial | refine And.intro ?_ ?_ | ((conv => whnf); first | exact rfl | exact trivial | refine And.intro ?_ ?_)))); ((repeat' (first | exact rfl | exact trivial | refine And.intro ?_ ?_ | ((conv => whnf); first | exact rfl | exact trivial | refine And.intro ?_ ?_))); all_goals (conv => whnf); all_goals (try simp only [])))
  all_goals simp (disch := omega) only [wr]
  all_goals first | (rw [Bool.eq_iff_iff]; simp; done) | skip
theorem thoseC (p : Pol) (t s : Int) (l : List Hit) (hl : HOk l 1125899906842624) (ht : 0 ≤ t ∧ t ≤ 1125899906842624) (hs : 1 ≤ s ∧ s ≤ 1048576) (hW : 1 ≤ p.2.2.1 ∧ p.2.2.1 ≤ 1048576) (hB : 0 ≤ p.2.2.2 ∧ p.2.2.2 ≤ 16) : Meets Try.prog 34 [.lst HitT fun _ => l, .fn (.func 37) [] [.ptr 1 0, .ptr 0 0]] (chC p t s) (Y := Unit) (fun _ => True) (fun _ => .int .i64 fun _ => those (fun x => decide (t - p.2.2.1 < x)) l) (fun _ => chC p t s) := by
  refine Meets.intro hm (fn := Try.f34) Try.func34 rfl (by decide) (Nat.le_of_ble_eq_true rfl) (fun _ => rfl) ?_; intro S hok; (conv => whnf)
  (repeat' ((conv => whnf); first | refine And.intro ?_ ?_ | exact Cl.mk (by kernel_rfl) | exact Ck.mk (by kernel_rfl) | exact trivial | exact rfl | (intro hh; try simp only [decide_eq_true_eq, decide_eq_false_iff_not, beq_iff_eq, beq_eq_false_iff_ne, bne_iff_ne, bne_eq_false_iff_eq, Bool.not_eq_true', Bool.not_eq_false', Bool.not_true, Bool.not_false] at hh))); all_goals (conv => whnf)
  have hlen := hl.len
  refine LoopN.intro hm (X := Nat) (fun i => i ≤ l.length) (fun i => l.length - i)
    (fun i => [(10, .int .i64 fun _ => (i : Int)), (9, .int .i64 fun _ => (l.length : Int)), (8, .lst HitT fun _ => l), (5, .int .i64 fun _ => those (fun x => decide (t - p.2.2.1 < x)) (l.take i)), (1, .fn (.func 37) [] [.ptr 1 0, .ptr 0 0])]) (fun i => chC p t s) 0 [0, 1, 2] ⟨rfl, rfl, ?_, ?_⟩ (Nat.zero_le _) (fun i hi => ?_)
  · (repeat' (first | exact rfl | exact trivial | refine And.intro ?_ ?_ | ((conv => whnf); first | exact rfl | exact trivial | refine And.intro ?_ ?_)))
  · (repeat' (first | exact rfl | exact trivial | refine And.intro ?_ ?_ | ((conv => whnf); first | exact rfl | exact trivial | refine And.intro ?_ ?_)))
  · have hb := those_bound (q := fun x => decide (t - p.2.2.1 < x)) _ (hl.take i)
    have hb2 : ((l.take i).length : Int) ≤ 64 := by rw [List.length_take]; omega
    have hst := those_take (fun x => decide (t - p.2.2.1 < x)) l i
    have hmem : i < l.length → l.getD i (0, 0) ∈ l := fun h => by rw [List.getD_eq_getElem?_getD, List.getElem?_eq_getElem h]; exact List.getElem_mem h
    generalize hx : l.getD i (0, 0) = x at hst hmem
    have hx' : l.getD (i : Int).toNat HitT.dflt = x := hx
    generalize hn : those (fun x => decide (t - p.2.2.1 < x)) (l.take i) = n at hb hst
    (repeat' ((conv => whnf); first | refine And.intro ?_ ?_ | exact Cl.mk (by kernel_rfl) | exact Ck.mk (by kernel_rfl) | exact trivial | exact rfl | (intro hh; try simp only [decide_eq_true_eq, decide_eq_false_iff_not, beq_iff_eq, beq_eq_false_iff_ne, bne_iff_ne, bne_eq_false_iff_eq, Bool.not_eq_true', Bool.not_eq_false', Bool.not_true, Bool.not_false] at hh))); all_goals (conv => whnf)
    all_goals (try simp only [hx'] at *)
    · (refine Ob.mk ?_; (try simp only [Ty.dflt, Nat.zero_add, Nat.add_zero, Int.toNat_natCast, Int.toNat_zero, Int.toNat_one, List.length_take, List.length_drop, List.length_append, List.length_replicate, List.length_cons, List.length_nil, List.length_set, List.length_map, true_and, and_true]); omega)
    · have hi1 : i < l.length := by omega
      have ht2 := hl.tick x (hmem hi1)
      have hw2 := hl.weight x (hmem hi1)
      (refine CallN.intro (closC p t s x.1 ht hs ht2 hW hB) [0, 1, 2] rfl rfl ?_ ?_ ?_; ((repeat' (first | exact rfl | exact trivial | refine And.intro ?_ ?_ | ((conv => whnf); first | exact rfl | exact trivial | refine And.intro ?_ ?_)))); ((repeat' (first | exact rfl | exact trivial | refine And.intro ?_ ?_ | ((conv => whnf); first | exact rfl | exact trivial | refine And.intro ?_ ?_)))); (intro y hy; clear y hy; (repeat' ((conv => whnf); first | refine And.intro ?_ ?_ | exact Cl.mk (by kernel_rfl) | exact Ck.mk (by kernel_rfl) | exact trivial | exact rfl | (intro hh; try simp only [decide_eq_true_eq, decide_eq_false_iff_not, beq_iff_eq, beq_eq_false_iff_ne, bne_iff_ne, bne_eq_false_iff_eq, Bool.not_eq_true', Bool.not_eq_false', Bool.not_true, Bool.not_false] at hh; try exact absurd hh (by decide)))); all_goals (conv => whnf); (all_goals first | (exact Ob.mk (by decide)) | skip)))
      all_goals (refine ⟨i + 1, [0, 1, 2], ⟨rfl, rfl, ?_, ?_⟩, hi1, by omega⟩)
      all_goals (repeat' (first | exact rfl | exact trivial | refine And.intro ?_ ?_ | ((conv => whnf); first | exact rfl | exact trivial | refine And.intro ?_ ?_))); all_goals (conv => whnf); all_goals (try simp only [])
      all_goals first | exact wr2 i hi1 (by omega) | (rw [hst hi1, if_neg (by simpa using hh), Int.add_zero]; done) | (rw [hst hi1, if_pos (by simpa using hh)]; exact wr (by omega))
    · have e : i = l.length := by omega
      (refine RetN.intro () [0, 1, 2] rfl rfl ?_ ?_ ?_; ((repeat' (first | exact rfl | exact trivial | refine And.intro ?_ ?_ | ((conv => whnf); first | exact rfl | exact trivial | refine And.intro ?_ ?_)))); ((repeat' (first | exact rfl | exact trivial | refine And.intro ?_ ?_ | ((conv => whnf); first | exact rfl | exact trivial | refine And.intro ?_ ?_))); all_goals (conv => whnf); all_goals (try simp only [])))
      rw [← hn, e, List.take_length]
end Go.Proofs.Ytclfhgfdnnifbaa.Hi
set_option linter.unusedVariables false
set_option linter.unusedSimpArgs false
namespace Go.Proofs.Ytclfhgfdnnifbaa.Hi
open Go Go.RowKit Fw Po
/-- The hits from the last one back. -/
def backs (l : List Hit) : List (Int × Hit) := (List.range l.length).map fun k => (((l.length - 1 - k : Nat) : Int), l.getD (l.length - 1 - k) (0, 0))
theorem backs_len (l : List Hit) : (backs l).length = l.length := by simp [backs]
theorem backs_at {l : List Hit} {k : Nat} (h : k < l.length) : (backs l)[k]? = some (((l.length - 1 - k : Nat) : Int), l.getD (l.length - 1 - k) (0, 0)) := by simp [backs, h]
theorem RL.ints {g g' : Gh} : ∀ {cs : List AV} {us : List Value}, (∀ c ∈ cs, ∃ k n, c = .int k n) → RL g cs us → RL g' cs us
  | [], [], _, _ => trivial
  | [], _ :: _, _, h => h.elim
  | _ :: _, [], _, h => h.elim
  | c :: r, u :: us, hc, h => by
    obtain ⟨k, n, rfl⟩ := hc c (List.mem_cons_self ..)
    refine ⟨by rw [h.1.int_iff]; exact .int _ _, RL.ints (fun c hm => hc c (List.mem_cons_of_mem _ hm)) h.2⟩
theorem RL.hit {g g' : Gh} {a b c : Unit → Int} {us : List Value} (h : RL g [.int .i64 a, .agg [.int .i64 b, .int .i64 c]] us) : RL g' [.int .i64 a, .agg [.int .i64 b, .int .i64 c]] us := by
  match us, h with
  | [u, v], h =>
    obtain ⟨vs, rfl, hl⟩ := h.2.1.agg_iff
    refine ⟨by rw [h.1.int_iff]; exact .int _ _, ?_, trivial⟩
    have h2 := R.mkAgg (RL.ints (g' := g') (by simp) hl)
    simpa using h2
theorem backIt (l : List Hit) (hl : l.length ≤ 1000000) : ItMeets Try.prog 46 [.cptr [.lst HitT fun _ => l] 0] (fun x : Int × Hit => [.int .i64 fun _ => x.1, .agg [.int .i64 fun _ => x.2.1, .int .i64 fun _ => x.2.2]]) (backs l) := by
  refine ItMeets.intro hm (fn := Try.f46) Try.func46 rfl (by decide) (Nat.le_of_ble_eq_true rfl) (fun x g g' us h => ?_) ?_
  · exact RL.hit h
  · intro S ll hyi
    (conv => whnf)
    refine LoopN.intro hm (X := Nat) (fun k => k ≤ l.length) (fun k => l.length - k)
      (fun k => [(3, .int .i64 fun _ => (l.length : Int) - 1 - k), (1, .cptr [.lst HitT fun _ => l] 0), (0, .fn (.yield ll) [] [])]) (fun k => [.count fun _ => k]) 0 [0] ⟨rfl, rfl, ?_, ?_⟩ (Nat.zero_le _) (fun k hk => ?_)
    · (repeat' (first | exact rfl | exact trivial | refine And.intro ?_ ?_ | ((conv => whnf); first | exact rfl | exact trivial | refine And.intro ?_ ?_)))
    · (repeat' (first | exact rfl | exact trivial | refine And.intro ?_ ?_ | ((conv => whnf); first | exact rfl | exact trivial | refine And.intro ?_ ?_))); all_goals (conv => whnf); all_goals (try simp only [])
      · rw [wr (by omega)]; simp
      all_goals first | (split <;> first | exact ⟨trivial, trivial⟩ | (rename_i h _; exact (h rfl).elim)) | skip
    · (repeat' ((conv => whnf); first | refine And.intro ?_ ?_ | exact Cl.mk (by kernel_rfl) | exact Ck.mk (by kernel_rfl) | exact trivial | exact rfl | (intro hh; try simp only [decide_eq_true_eq, decide_eq_false_iff_not, beq_iff_eq, beq_eq_false_iff_ne, bne_iff_ne, bne_eq_false_iff_eq, Bool.not_eq_true', Bool.not_eq_false', Bool.not_true, Bool.not_false] at hh))); all_goals (conv => whnf)
      · (refine Ob.mk ?_; (try simp only [Ty.dflt, Nat.zero_add, Nat.add_zero, Int.toNat_natCast, Int.toNat_zero, Int.toNat_one, List.length_take, List.length_drop, List.length_append, List.length_replicate, List.length_cons, List.length_nil, List.length_set, List.length_map, true_and, and_true]); omega)
      · have hk1 : k < l.length := by omega
        have e : ((l.length - 1 - k : Nat) : Int) = (l.length : Int) - 1 - k := by omega
        refine hyi k (((l.length - 1 - k : Nat) : Int), l.getD (l.length - 1 - k) (0, 0)) [(3, .int .i64 fun _ => (l.length : Int) - 1 - k), (1, .cptr [.lst HitT fun _ => l] 0), (0, .fn (.yield ll) [] [])] (backs_at hk1) ?_ ⟨rfl, rfl, ?_, ?_⟩ ?_ ?_
        · rw [← e]
          (repeat' (first | exact rfl | exact trivial | refine And.intro ?_ ?_ | ((conv => whnf); first | exact rfl | exact trivial | refine And.intro ?_ ?_))); all_goals (conv => whnf); all_goals (try simp only [])
          all_goals rfl
        · (repeat' (first | exact rfl | exact trivial | refine And.intro ?_ ?_ | ((conv => whnf); first | exact rfl | exact trivial | refine And.intro ?_ ?_))); all_goals (conv => whnf); all_goals (try simp only [])
        · (repeat' (first | exact rfl | exact trivial | refine And.intro ?_ ?_ | ((conv => whnf); first | exact rfl | exact trivial | refine And.intro ?_ ?_))); all_goals (conv => whnf); all_goals (try simp only [])
          all_goals first | (split <;> first | exact ⟨trivial, trivial⟩ | (rename_i h _; exact (h rfl).elim)) | skip
        · (repeat' ((conv => whnf); first | refine And.intro ?_ ?_ | exact Cl.mk (by kernel_rfl) | exact Ck.mk (by kernel_rfl) | exact trivial | exact rfl | (intro hh; try simp only [decide_eq_true_eq, decide_eq_false_iff_not, beq_iff_eq, beq_eq_false_iff_ne, bne_iff_ne, bne_eq_false_iff_eq, Bool.not_eq_true', Bool.not_eq_false', Bool.not_true, Bool.not_false] at hh))); all_goals (conv => whnf)
          refine ⟨k + 1, [0], ⟨rfl, rfl, ?_, ?_⟩, hk1, by omega⟩
          · (repeat' (first | exact rfl | exact trivial | refine And.intro ?_ ?_ | ((conv => whnf); first | exact rfl | exact trivial | refine And.intro ?_ ?_))); all_goals (conv => whnf); all_goals (try simp only [])
          · (repeat' (first | exact rfl | exact trivial | refine And.intro ?_ ?_ | ((conv => whnf); first | exact rfl | exact trivial | refine And.intro ?_ ?_))); all_goals (conv => whnf); all_goals (try simp only [])
            · rw [wr (by omega)]; omega
            all_goals first | (split <;> first | exact ⟨trivial, trivial⟩ | (rename_i h _; exact (h rfl).elim)) | skip
        · (repeat' ((conv => whnf); first | refine And.intro ?_ ?_ | exact Cl.mk (by kernel_rfl) | exact Ck.mk (by kernel_rfl) | exact trivial | exact rfl | (intro hh; try simp only [decide_eq_true_eq, decide_eq_false_iff_not, beq_iff_eq, beq_eq_false_iff_ne, bne_iff_ne, bne_eq_false_iff_eq, Bool.not_eq_true', Bool.not_eq_false', Bool.not_true, Bool.not_false] at hh))); all_goals (conv => whnf)
          exact ⟨_, ⟨rfl, trivial⟩, .inr rfl⟩
      · have e : k = l.length := by omega
        exact ⟨k, ⟨rfl, trivial⟩, .inl (by rw [backs_len, e])⟩
theorem backM (l : List Hit) : Meets Try.prog 40 [.lst HitT fun _ => l] [] (Y := Unit) (fun _ => True)
    (fun _ => .fn (.func 46) [] [.ptr 0 0]) (fun _ => [.cells 24 [.lst HitT fun _ => l]]) := by
  refine Meets.intro hm (fn := Try.f40) Try.func40 rfl (by decide) (Nat.le_of_ble_eq_true rfl) (fun _ => rfl) ?_; intro S hok; (conv => whnf)
  (repeat' ((conv => whnf); first | refine And.intro ?_ ?_ | exact Cl.mk (by kernel_rfl) | exact Ck.mk (by kernel_rfl) | exact trivial | exact rfl | (intro hh; try simp only [decide_eq_true_eq, decide_eq_false_iff_not, beq_iff_eq, beq_eq_false_iff_ne, bne_iff_ne, bne_eq_false_iff_eq, Bool.not_eq_true', Bool.not_eq_false', Bool.not_true, Bool.not_false] at hh))); all_goals (conv => whnf)
  (refine RetN.intro () [0] rfl rfl ?_ ?_ ?_; ((repeat' (first | exact rfl | exact trivial | refine And.intro ?_ ?_ | ((conv => whnf); first | exact rfl | exact trivial | refine And.intro ?_ ?_)))); ((repeat' (first | exact rfl | exact trivial | refine And.intro ?_ ?_ | ((conv => whnf); first | exact rfl | exact trivial | refine And.intro ?_ ?_))); all_goals (conv => whnf); all_goals (try simp only [])))
theorem backs_inv {l : List Hit} {k : Nat} (h : k < l.length) : l.drop (l.length - (k + 1)) = l.getD (l.length - 1 - k) (0, 0) :: l.drop (l.length - k) := by
  rw [show l.length - (k + 1) = l.length - 1 - k by omega, drop_at (by omega), show l.length - 1 - k + 1 = l.length - k by omega]
theorem HOk.drop {l : List Hit} {t : Int} (q : HOk l t) (i : Nat) : HOk (l.drop i) t := q.sub (fun h hh => List.mem_of_mem_drop hh) (by have := q.len; rw [List.length_drop]; omega)
theorem levelM (p : Pol) (l : List Hit) (t : Int) (hp : PolOk p) (hl : HOk l t) (ht : 0 ≤ t ∧ t ≤ 2199023255552) : Meets Try.prog 33 [polAV p, .lst HitT fun _ => l, .int .i64 fun _ => t] [] (Y := Unit) (fun _ => True) (fun _ => .int .i64 fun _ => (lev p t l).2) (fun _ => []) := by
  refine Meets.intro hm (fn := Try.f33) Try.func33 rfl (by decide) (Nat.le_of_ble_eq_true rfl) (fun _ => rfl) ?_; intro S hok; (conv => whnf)
  (repeat' ((conv => whnf); first | refine And.intro ?_ ?_ | exact Cl.mk (by kernel_rfl) | exact Ck.mk (by kernel_rfl) | exact trivial | exact rfl | (intro hh; try simp only [decide_eq_true_eq, decide_eq_false_iff_not, beq_iff_eq, beq_eq_false_iff_ne, bne_iff_ne, bne_eq_false_iff_eq, Bool.not_eq_true', Bool.not_eq_false', Bool.not_true, Bool.not_false] at hh))); all_goals (conv => whnf)
  (refine CallN.intro (backM l) [] rfl rfl ?_ ?_ ?_; ((repeat' (first | exact rfl | exact trivial | refine And.intro ?_ ?_ | ((conv => whnf); first | exact rfl | exact trivial | refine And.intro ?_ ?_)))); ((repeat' (first | exact rfl | exact trivial | refine And.intro ?_ ?_ | ((conv => whnf); first | exact rfl | exact trivial | refine And.intro ?_ ?_)))); (intro y hy; (repeat' ((conv => whnf); first | refine And.intro ?_ ?_ | exact Cl.mk (by kernel_rfl) | exact Ck.mk (by kernel_rfl) | exact trivial | exact rfl | (intro hh; try simp only [decide_eq_true_eq, decide_eq_false_iff_not, beq_iff_eq, beq_eq_false_iff_ne, bne_iff_ne, bne_eq_false_iff_eq, Bool.not_eq_true', Bool.not_eq_false', Bool.not_true, Bool.not_false] at hh))); all_goals (conv => whnf)))
  refine CodeN.range hm hok [0, 1, 4] ?_
  (conv => whnf)
  have hlen := hl.len
  refine RangeQ.intro (backIt l (by omega)) _ (X := Int × Int) (fun k x => x = lev p t (l.drop (l.length - k))) (fun _ _ => False)
    (fun x => [.none, .none, .cells 3 [.int .i64 fun _ => x.2], .cells 3 [.int .i64 fun _ => x.1], .none]) (0, 0) rfl ?_ (fun _ => rfl) ?_ ?_ (fun _ => rfl) ⟨rfl, rfl⟩ (by simp [lev]) ?_ ?_ ?_
  · (repeat' (first | exact rfl | exact trivial | refine And.intro ?_ ?_ | ((conv => whnf); first | exact rfl | exact trivial | refine And.intro ?_ ?_))); all_goals (conv => whnf); all_goals (try simp only [])
  · intro p hp; simp at hp; rcases hp with rfl | rfl <;> decide
  · (repeat' (first | exact rfl | exact trivial | refine And.intro ?_ ?_ | ((conv => whnf); first | exact rfl | exact trivial | refine And.intro ?_ ?_)))
  · intro S1 S2 k x y hy hx
    obtain ⟨hk, hye⟩ : k < l.length ∧ y = (((l.length - 1 - k : Nat) : Int), l.getD (l.length - 1 - k) (0, 0)) := by
      have hk : k < l.length := by
        have := (List.getElem?_eq_some_iff.1 hy).1
        rwa [backs_len] at this
      rw [backs_at hk] at hy
      exact ⟨hk, by simpa using hy.symm⟩
    have hbi := backs_inv hk
    have hb := lev_bound hp _ (hl.drop (l.length - k))
    have hdl : (l.drop (l.length - k)).length ≤ 64 := by rw [List.length_drop]; omega
    rw [← hx] at hb
    have hmem : l.getD (l.length - 1 - k) (0, 0) ∈ l := by rw [List.getD_eq_getElem?_getD, List.getElem?_eq_getElem (by omega)]; exact List.getElem_mem _
    have htk := hl.tick _ hmem
    have hwt := hl.weight _ hmem
    have hlv : lev p t (l.drop (l.length - (k + 1))) = (x.1 + (l.getD (l.length - 1 - k) (0, 0)).2 * p.2.2.1, max x.2 (x.1 + (l.getD (l.length - 1 - k) (0, 0)).2 * p.2.2.1 - p.2.1 * (t - (l.getD (l.length - 1 - k) (0, 0)).1))) := by
      rw [hbi, lev, ← hx]
    generalize l.getD (l.length - 1 - k) (0, 0) = z at *
    subst hye
    have hL := hp.limit
    have hW := hp.window
    have h1 : 0 ≤ z.2 * p.2.2.1 := Int.mul_nonneg (by omega) (by omega)
    have h2 : z.2 * p.2.2.1 ≤ 1048576 * 1048576 := Int.mul_le_mul hwt.2 hW.2 (by omega) (by omega)
    have h3 : 0 ≤ p.2.1 * (t - z.1) := Int.mul_nonneg (by omega) (by omega)
    have h4 : p.2.1 * (t - z.1) ≤ 1048576 * 2199023255552 := Int.mul_le_mul hL.2 (by omega) (by omega) (by omega)
    have hdl' : ((l.drop (l.length - k)).length : Int) ≤ 64 := by omega
    have e1 : IntKind.i64.wrap (z.2 * p.2.2.1) = z.2 * p.2.2.1 := wr (by omega)
    have e2 : IntKind.i64.wrap (x.1 + z.2 * p.2.2.1) = x.1 + z.2 * p.2.2.1 := wr (by omega)
    have e3 : IntKind.i64.wrap (t - z.1) = t - z.1 := wr (by omega)
    have e4 : IntKind.i64.wrap (p.2.1 * (t - z.1)) = p.2.1 * (t - z.1) := wr (by omega)
    have e5 : IntKind.i64.wrap (x.1 + z.2 * p.2.2.1 - p.2.1 * (t - z.1)) = x.1 + z.2 * p.2.2.1 - p.2.1 * (t - z.1) := wr (by omega)
    (repeat' ((conv => whnf); first | refine And.intro ?_ ?_ | exact Cl.mk (by kernel_rfl) | exact Ck.mk (by kernel_rfl) | exact trivial | exact rfl | (intro hh; try simp only [decide_eq_true_eq, decide_eq_false_iff_not, beq_iff_eq, beq_eq_false_iff_ne, bne_iff_ne, bne_eq_false_iff_eq, Bool.not_eq_true', Bool.not_eq_false', Bool.not_true, Bool.not_false] at hh))); all_goals (conv => whnf)
    refine ⟨_, [0, 1, 2, 3, 4], rfl, rfl, ?_, rfl⟩
    rw [hlv]
    (repeat' (first | exact rfl | exact trivial | refine And.intro ?_ ?_ | ((conv => whnf); first | exact rfl | exact trivial | refine And.intro ?_ ?_))); all_goals (conv => whnf); all_goals (try simp only [])
    all_goals (simp only [e1, e2, e3, e4, e5])
    all_goals first | (split <;> omega) | skip
  · intro x hx
    refine ⟨rfl, ?_⟩
    rw [backs_len, Nat.sub_self, List.drop_zero] at hx
    (repeat' ((conv => whnf); first | refine And.intro ?_ ?_ | exact Cl.mk (by kernel_rfl) | exact Ck.mk (by kernel_rfl) | exact trivial | exact rfl | (intro hh; try simp only [decide_eq_true_eq, decide_eq_false_iff_not, beq_iff_eq, beq_eq_false_iff_ne, bne_iff_ne, bne_eq_false_iff_eq, Bool.not_eq_true', Bool.not_eq_false', Bool.not_true, Bool.not_false] at hh))); all_goals (conv => whnf)
    (refine RetN.intro () [] rfl rfl ?_ ?_ ?_; ((repeat' (first | exact rfl | exact trivial | refine And.intro ?_ ?_ | ((conv => whnf); first | exact rfl | exact trivial | refine And.intro ?_ ?_)))); ((repeat' (first | exact rfl | exact trivial | refine And.intro ?_ ?_ | ((conv => whnf); first | exact rfl | exact trivial | refine And.intro ?_ ?_))); all_goals (conv => whnf); all_goals (try simp only [])))
    rw [hx]
  · intro e x h; exact h.elim
end Go.Proofs.Ytclfhgfdnnifbaa.Hi
set_option linter.unusedVariables false
set_option linter.unusedSimpArgs false
namespace Go.Proofs.Ytclfhgfdnnifbaa.Hi
open Go Go.RowKit Fw Po
theorem PolOk.ringB {p : Pol} (hp : PolOk p) : 0 ≤ p.2.2.2 ∧ p.2.2.2 ≤ 16 := by
  by_cases h : p.1 = 3
  · have := hp.ring h; omega
  · have := hp.plain h; omega
theorem HOk.up {l : List Hit} {t t' : Int} (q : HOk l t) (h : t ≤ t') : HOk l t' := q.later h
theorem countsM (p : Pol) (l : List Hit) (t : Int) (hp : PolOk p) (hl : HOk l t) (ht : 0 ≤ t ∧ t ≤ 2199023255552) : Meets Try.prog 23 [polAV p, .lst HitT fun _ => l, .int .i64 fun _ => t] [] (Y := Unit) (fun _ => True) (fun _ => .int .i64 fun _ => counts p l t) (fun _ => []) := by
  have hs := slot_bound hp
  have hk := hp.kind
  have ht' : 0 ≤ t ∧ t ≤ 1125899906842624 := by omega
  refine Meets.intro hm (fn := Try.f23) Try.func23 rfl (by decide) (Nat.le_of_ble_eq_true rfl) (fun _ => rfl) ?_; intro S hok; (conv => whnf)
  (repeat' ((conv => whnf); first | refine And.intro ?_ ?_ | exact Cl.mk (by kernel_rfl) | exact Ck.mk (by kernel_rfl) | exact trivial | exact rfl | (intro hh; try simp only [decide_eq_true_eq, decide_eq_false_iff_not, beq_iff_eq, beq_eq_false_iff_ne, bne_iff_ne, bne_eq_false_iff_eq, Bool.not_eq_true', Bool.not_eq_false', Bool.not_true, Bool.not_false] at hh))); all_goals (conv => whnf)
  refine CallN.intro (slotM p) [] rfl rfl ?_ ?_ ?_
  · (repeat' (first | exact rfl | exact trivial | refine And.intro ?_ ?_ | ((conv => whnf); first | exact rfl | exact trivial | refine And.intro ?_ ?_)))
  · (repeat' (first | exact rfl | exact trivial | refine And.intro ?_ ?_ | ((conv => whnf); first | exact rfl | exact trivial | refine And.intro ?_ ?_)))
  intro y hy
  rw [if_pos hp]
  (repeat' ((conv => whnf); first | refine And.intro ?_ ?_ | exact Cl.mk (by kernel_rfl) | exact Ck.mk (by kernel_rfl) | exact trivial | exact rfl | (intro hh; try simp only [decide_eq_true_eq, decide_eq_false_iff_not, beq_iff_eq, beq_eq_false_iff_ne, bne_iff_ne, bne_eq_false_iff_eq, Bool.not_eq_true', Bool.not_eq_false', Bool.not_true, Bool.not_false] at hh))); all_goals (conv => whnf)
  · (refine CallN.intro (levelM p l t hp hl ht) [] rfl rfl ?_ ?_ ?_; ((repeat' (first | exact rfl | exact trivial | refine And.intro ?_ ?_ | ((conv => whnf); first | exact rfl | exact trivial | refine And.intro ?_ ?_)))); ((repeat' (first | exact rfl | exact trivial | refine And.intro ?_ ?_ | ((conv => whnf); first | exact rfl | exact trivial | refine And.intro ?_ ?_)))); (intro y hy; clear y hy; (repeat' ((conv => whnf); first | refine And.intro ?_ ?_ | exact Cl.mk (by kernel_rfl) | exact Ck.mk (by kernel_rfl) | exact trivial | exact rfl | (intro hh; try simp only [decide_eq_true_eq, decide_eq_false_iff_not, beq_iff_eq, beq_eq_false_iff_ne, bne_iff_ne, bne_eq_false_iff_eq, Bool.not_eq_true', Bool.not_eq_false', Bool.not_true, Bool.not_false] at hh; try exact absurd hh (by decide)))); all_goals (conv => whnf); (all_goals first | (exact Ob.mk (by decide)) | skip)))
    (refine RetN.intro () [] rfl rfl ?_ ?_ ?_; ((repeat' (first | exact rfl | exact trivial | refine And.intro ?_ ?_ | ((conv => whnf); first | exact rfl | exact trivial | refine And.intro ?_ ?_)))); ((repeat' (first | exact rfl | exact trivial | refine And.intro ?_ ?_ | ((conv => whnf); first | exact rfl | exact trivial | refine And.intro ?_ ?_))); all_goals (conv => whnf); all_goals (try simp only [])))
    simp [counts, hh]
  · (refine CallN.intro (thoseA p t (slotOf p) l (hl.up ht'.2) ht' hs hp.window hp.ringB) [0, 1, 2] rfl rfl ?_ ?_ ?_; ((repeat' (first | exact rfl | exact trivial | refine And.intro ?_ ?_ | ((conv => whnf); first | exact rfl | exact trivial | refine And.intro ?_ ?_)))); ((repeat' (first | exact rfl | exact trivial | refine And.intro ?_ ?_ | ((conv => whnf); first | exact rfl | exact trivial | refine And.intro ?_ ?_)))); (intro y hy; clear y hy; (repeat' ((conv => whnf); first | refine And.intro ?_ ?_ | exact Cl.mk (by kernel_rfl) | exact Ck.mk (by kernel_rfl) | exact trivial | exact rfl | (intro hh; try simp only [decide_eq_true_eq, decide_eq_false_iff_not, beq_iff_eq, beq_eq_false_iff_ne, bne_iff_ne, bne_eq_false_iff_eq, Bool.not_eq_true', Bool.not_eq_false', Bool.not_true, Bool.not_false] at hh; try exact absurd hh (by decide)))); all_goals (conv => whnf); (all_goals first | (exact Ob.mk (by decide)) | skip)))
    (refine RetN.intro () [] rfl rfl ?_ ?_ ?_; ((repeat' (first | exact rfl | exact trivial | refine And.intro ?_ ?_ | ((conv => whnf); first | exact rfl | exact trivial | refine And.intro ?_ ?_)))); ((repeat' (first | exact rfl | exact trivial | refine And.intro ?_ ?_ | ((conv => whnf); first | exact rfl | exact trivial | refine And.intro ?_ ?_))); all_goals (conv => whnf); all_goals (try simp only [])))
    simp only [counts, if_neg ‹¬p.1 = 1›]
    congr 1
    funext x
    simp [cq, hh]
  · (refine CallN.intro (thoseB p t (slotOf p) l (hl.up ht'.2) ht' hs hp.window hp.ringB) [0, 1, 2] rfl rfl ?_ ?_ ?_; ((repeat' (first | exact rfl | exact trivial | refine And.intro ?_ ?_ | ((conv => whnf); first | exact rfl | exact trivial | refine And.intro ?_ ?_)))); ((repeat' (first | exact rfl | exact trivial | refine And.intro ?_ ?_ | ((conv => whnf); first | exact rfl | exact trivial | refine And.intro ?_ ?_)))); (intro y hy; clear y hy; (repeat' ((conv => whnf); first | refine And.intro ?_ ?_ | exact Cl.mk (by kernel_rfl) | exact Ck.mk (by kernel_rfl) | exact trivial | exact rfl | (intro hh; try simp only [decide_eq_true_eq, decide_eq_false_iff_not, beq_iff_eq, beq_eq_false_iff_ne, bne_iff_ne, bne_eq_false_iff_eq, Bool.not_eq_true', Bool.not_eq_false', Bool.not_true, Bool.not_false] at hh; try exact absurd hh (by decide)))); all_goals (conv => whnf); (all_goals first | (exact Ob.mk (by decide)) | skip)))
    (refine RetN.intro () [] rfl rfl ?_ ?_ ?_; ((repeat' (first | exact rfl | exact trivial | refine And.intro ?_ ?_ | ((conv => whnf); first | exact rfl | exact trivial | refine And.intro ?_ ?_)))); ((repeat' (first | exact rfl | exact trivial | refine And.intro ?_ ?_ | ((conv => whnf); first | exact rfl | exact trivial | refine And.intro ?_ ?_))); all_goals (conv => whnf); all_goals (try simp only [])))
    simp only [counts, if_neg ‹¬p.1 = 1›]
    congr 1
    funext x
    simp [cq, hh]
  · (refine CallN.intro (thoseC p t (slotOf p) l (hl.up ht'.2) ht' hs hp.window hp.ringB) [0, 1, 2] rfl rfl ?_ ?_ ?_; ((repeat' (first | exact rfl | exact trivial | refine And.intro ?_ ?_ | ((conv => whnf); first | exact rfl | exact trivial | refine And.intro ?_ ?_)))); ((repeat' (first | exact rfl | exact trivial | refine And.intro ?_ ?_ | ((conv => whnf); first | exact rfl | exact trivial | refine And.intro ?_ ?_)))); (intro y hy; clear y hy; (repeat' ((conv => whnf); first | refine And.intro ?_ ?_ | exact Cl.mk (by kernel_rfl) | exact Ck.mk (by kernel_rfl) | exact trivial | exact rfl | (intro hh; try simp only [decide_eq_true_eq, decide_eq_false_iff_not, beq_iff_eq, beq_eq_false_iff_ne, bne_iff_ne, bne_eq_false_iff_eq, Bool.not_eq_true', Bool.not_eq_false', Bool.not_true, Bool.not_false] at hh; try exact absurd hh (by decide)))); all_goals (conv => whnf); (all_goals first | (exact Ob.mk (by decide)) | skip)))
    (refine RetN.intro () [] rfl rfl ?_ ?_ ?_; ((repeat' (first | exact rfl | exact trivial | refine And.intro ?_ ?_ | ((conv => whnf); first | exact rfl | exact trivial | refine And.intro ?_ ?_)))); ((repeat' (first | exact rfl | exact trivial | refine And.intro ?_ ?_ | ((conv => whnf); first | exact rfl | exact trivial | refine And.intro ?_ ?_))); all_goals (conv => whnf); all_goals (try simp only [])))
    simp only [counts, if_neg ‹¬p.1 = 1›]
    congr 1
    funext x
    simp only [cq]
    rw [if_neg (by omega), if_neg (by omega)]
theorem getD_mem {l : List Hit} {i : Nat} (h : i < l.length) : l.getD i (0, 0) ∈ l := by rw [List.getD_eq_getElem?_getD, List.getElem?_eq_getElem h]; exact List.getElem_mem h
theorem mem_take_at {l : List Hit} {i : Nat} {x : Hit} (h : x ∈ l.take i) : ∃ j, j < i ∧ j < l.length ∧ x = l.getD j (0, 0) := by
  obtain ⟨j, hj, e⟩ := List.getElem_of_mem h
  rw [List.length_take] at hj
  refine ⟨j, by omega, by omega, ?_⟩
  rw [← e, List.getElem_take, List.getD_eq_getElem?_getD, List.getElem?_eq_getElem (by omega)]; rfl
theorem may_tick {l : List Hit} (h : may l = true) {i : Nat} (hi : i < l.length) : 0 ≤ (l.getD i (0, 0)).1 ∧ (l.getD i (0, 0)).1 ≤ 1099511627776 := by
  have := (mayGo_ok l 0 h (Int.le_refl _)).1 _ (getD_mem hi); omega
theorem may_take {l : List Hit} (h : may l = true) (hl : l.length ≤ 64) {i : Nat} (hi : i < l.length) : HOk (l.take (i + 1)) (l.getD i (0, 0)).1 := by
  obtain ⟨h1, h2⟩ := mayGo_ok l 0 h (Int.le_refl _)
  refine ⟨fun x hx => ?_, fun x hx => ?_, by rw [List.length_take]; omega⟩
  · obtain ⟨j, hj, hj2, rfl⟩ := mem_take_at hx
    exact ⟨(h1 _ (getD_mem hj2)).1, h2 j i (by omega) hi⟩
  · have := h1 x (List.mem_of_mem_take hx); omega
theorem last_at {l : List Hit} (h : 0 < l.length) (t : Int) : lastOk l t = decide ((l.getD (l.length - 1) (0, 0)).1 ≤ t) := by
  unfold lastOk
  rw [List.getLast?_eq_getElem?, List.getD_eq_getElem?_getD, List.getElem?_eq_getElem (by omega)]
  rfl
theorem fitsTo_stop {p : Pol} {l : List Hit} {i : Nat} (h : fitsTo p l i = false) : ∀ n, i ≤ n → fitsTo p l n = false := by
  intro n hn
  induction n with
  | zero => rw [show i = 0 by omega] at h; exact h
  | succ n ih =>
    by_cases e : i = n + 1
    · rw [← e]; exact h
    · rw [fitsTo, ih (by omega)]; rfl
theorem fitsM (p : Pol) (l : List Hit) (t : Int) (hl : l.length ≤ 64) : Meets Try.prog 20 [polAV p, .lst HitT fun _ => l, .int .i64 fun _ => t] [] (Y := Unit) (fun _ => True) (fun _ => .bool fun _ => fits p l t) (fun _ => []) := by
  by_cases hp : PolOk p
  · refine Meets.intro hm (fn := Try.f20) Try.func20 rfl (by decide) (Nat.le_of_ble_eq_true rfl) (fun _ => rfl) ?_; intro S hok; (conv => whnf)
    (repeat' ((conv => whnf); first | refine And.intro ?_ ?_ | exact Cl.mk (by kernel_rfl) | exact Ck.mk (by kernel_rfl) | exact trivial | exact rfl | (intro hh; try simp only [decide_eq_true_eq, decide_eq_false_iff_not, beq_iff_eq, beq_eq_false_iff_ne, bne_iff_ne, bne_eq_false_iff_eq, Bool.not_eq_true', Bool.not_eq_false', Bool.not_true, Bool.not_false] at hh))); all_goals (conv => whnf)
    refine CallN.intro (checkM p) [] rfl rfl ?_ ?_ ?_
    · (repeat' (first | exact rfl | exact trivial | refine And.intro ?_ ?_ | ((conv => whnf); first | exact rfl | exact trivial | refine And.intro ?_ ?_)))
    · (repeat' (first | exact rfl | exact trivial | refine And.intro ?_ ?_ | ((conv => whnf); first | exact rfl | exact trivial | refine And.intro ?_ ?_)))
    intro y hy
    rw [if_pos hp]
    clear y hy
    (repeat' ((conv => whnf); first | refine And.intro ?_ ?_ | exact Cl.mk (by kernel_rfl) | exact Ck.mk (by kernel_rfl) | exact trivial | exact rfl | (intro hh; try simp only [decide_eq_true_eq, decide_eq_false_iff_not, beq_iff_eq, beq_eq_false_iff_ne, bne_iff_ne, bne_eq_false_iff_eq, Bool.not_eq_true', Bool.not_eq_false', Bool.not_true, Bool.not_false] at hh; try exact absurd hh (by decide)))); all_goals (conv => whnf)
    have hlst : 0 < l.length → (l.getD (IntKind.i64.wrap ((l.length : Int) - 1)).toNat HitT.dflt) = l.getD (l.length - 1) (0, 0) := fun h => by
      rw [wr (by omega), show ((l.length : Int) - 1).toNat = l.length - 1 by omega]; rfl
    (refine CallN.intro (mayM l (by omega)) [] rfl rfl ?_ ?_ ?_; ((repeat' (first | exact rfl | exact trivial | refine And.intro ?_ ?_ | ((conv => whnf); first | exact rfl | exact trivial | refine And.intro ?_ ?_)))); ((repeat' (first | exact rfl | exact trivial | refine And.intro ?_ ?_ | ((conv => whnf); first | exact rfl | exact trivial | refine And.intro ?_ ?_)))); (intro y hy; clear y hy; (repeat' ((conv => whnf); first | refine And.intro ?_ ?_ | exact Cl.mk (by kernel_rfl) | exact Ck.mk (by kernel_rfl) | exact trivial | exact rfl | (intro hh; try simp only [decide_eq_true_eq, decide_eq_false_iff_not, beq_iff_eq, beq_eq_false_iff_ne, bne_iff_ne, bne_eq_false_iff_eq, Bool.not_eq_true', Bool.not_eq_false', Bool.not_true, Bool.not_false] at hh; try exact absurd hh (by decide)))); all_goals (conv => whnf); (all_goals first | (exact Ob.mk (by decide)) | skip)))
    · refine Ob.mk ?_
      have e : IntKind.i64.wrap ((l.length : Int) - 1) = (l.length : Int) - 1 := wr (by omega)
      simp only [e]; omega
    · rw [hlst (by omega)] at hh
      (refine RetN.intro () [] rfl rfl ?_ ?_ ?_; ((repeat' (first | exact rfl | exact trivial | refine And.intro ?_ ?_ | ((conv => whnf); first | exact rfl | exact trivial | refine And.intro ?_ ?_)))); ((repeat' (first | exact rfl | exact trivial | refine And.intro ?_ ?_ | ((conv => whnf); first | exact rfl | exact trivial | refine And.intro ?_ ?_))); all_goals (conv => whnf); all_goals (try simp only [])))
      have := last_at (l := l) (by omega) t
      have hh : t < (l.getD (l.length - 1) (0, 0)).1 := hh
      have hf : lastOk l t = false := by rw [this]; exact decide_eq_false (by omega)
      simp [fits, hf]
    all_goals first
      | ((refine RetN.intro () [] rfl rfl ?_ ?_ ?_; ((repeat' (first | exact rfl | exact trivial | refine And.intro ?_ ?_ | ((conv => whnf); first | exact rfl | exact trivial | refine And.intro ?_ ?_)))); ((repeat' (first | exact rfl | exact trivial | refine And.intro ?_ ?_ | ((conv => whnf); first | exact rfl | exact trivial | refine And.intro ?_ ?_))); all_goals (conv => whnf); all_goals (try simp only []))); simp [fits, *]; done)
      | ((refine RetN.intro () [] rfl rfl ?_ ?_ ?_; ((repeat' (first | exact rfl | exact trivial | refine And.intro ?_ ?_ | ((conv => whnf); first | exact rfl | exact trivial | refine And.intro ?_ ?_)))); ((repeat' (first | exact rfl | exact trivial | refine And.intro ?_ ?_ | ((conv => whnf); first | exact rfl | exact trivial | refine And.intro ?_ ?_))); all_goals (conv => whnf); all_goals (try simp only []))); have : ¬ (0 ≤ t ∧ t ≤ 1099511627776) := by omega
         simp [fits]; omega)
      | skip
    all_goals
      have hlo : lastOk l t = true := by
        by_cases h0 : 0 < l.length
        · rw [last_at h0]
          first
            | exact absurd h0 (by omega)
            | (rw [hlst h0] at hh
               have hh : ¬ t < (l.getD (l.length - 1) (0, 0)).1 := hh
               exact decide_eq_true (by omega))
        · have : l = [] := List.eq_nil_of_length_eq_zero (by omega)
          rw [this]; rfl
      have hma : may l = true := by assumption
      have hft : fits p l t = fitsTo p l l.length := by
        unfold fits
        rw [hlo, hma, decide_eq_true hp, decide_eq_true (show (0 : Int) ≤ t by omega), decide_eq_true (show t ≤ 1099511627776 by omega)]
        rfl
      clear hlo hlst hh
      refine LoopN.intro hm (X := Nat) (fun i => i ≤ l.length ∧ fitsTo p l i = true) (fun i => l.length - i)
        (fun i => [(43, .int .i64 fun _ => (i : Int)), (42, .int .i64 fun _ => (l.length : Int)), (41, .lst HitT fun _ => l), (3, .ptr 0 0), (1, .lst HitT fun _ => l)])
        (fun i => [.cells 23 [.int .i64 fun _ => p.1, .int .i64 fun _ => p.2.1, .int .i64 fun _ => p.2.2.1, .int .i64 fun _ => p.2.2.2]]) 0 [0] ⟨rfl, rfl, ?_, ?_⟩ ⟨Nat.zero_le _, rfl⟩ (fun i hi => ?_)
      · (repeat' (first | exact rfl | exact trivial | refine And.intro ?_ ?_ | ((conv => whnf); first | exact rfl | exact trivial | refine And.intro ?_ ?_)))
      · (repeat' (first | exact rfl | exact trivial | refine And.intro ?_ ?_ | ((conv => whnf); first | exact rfl | exact trivial | refine And.intro ?_ ?_)))
      · obtain ⟨hi, hfi⟩ := hi
        have hx' : l.getD (i : Int).toNat HitT.dflt = l.getD i (0, 0) := rfl
        (repeat' ((conv => whnf); first | refine And.intro ?_ ?_ | exact Cl.mk (by kernel_rfl) | exact Ck.mk (by kernel_rfl) | exact trivial | exact rfl | (intro hh; try simp only [decide_eq_true_eq, decide_eq_false_iff_not, beq_iff_eq, beq_eq_false_iff_ne, bne_iff_ne, bne_eq_false_iff_eq, Bool.not_eq_true', Bool.not_eq_false', Bool.not_true, Bool.not_false] at hh))); all_goals (conv => whnf)
        all_goals (try simp only [hx'] at *)
        · (refine Ob.mk ?_; (try simp only [Ty.dflt, Nat.zero_add, Nat.add_zero, Int.toNat_natCast, Int.toNat_zero, Int.toNat_one, List.length_take, List.length_drop, List.length_append, List.length_replicate, List.length_cons, List.length_nil, List.length_set, List.length_map, true_and, and_true]); omega)
        · refine Ob.mk ?_
          have e := wr2 i (n := l.length) (by omega) (by omega)
          simp only [e]; omega
        · have hi1 : i < l.length := by omega
          have e := wr2 i hi1 (by omega)
          have e0 : List.drop (Int.toNat 0) (List.take ((i + 1 : Nat) : Int).toNat l) = l.take (i + 1) := rfl
          simp only [e, e0]
          have hH := may_take hma hl hi1
          have hT := may_tick hma hi1
          have hst : fitsTo p l (i + 1) = decide (counts p (l.take (i + 1)) (l.getD i (0, 0)).1 ≤ worth p p.2.1) := by rw [fitsTo, hfi, Bool.true_and]
          (refine CallN.intro (countsM p (l.take (i + 1)) (l.getD i (0, 0)).1 hp hH (by omega)) [] rfl rfl ?_ ?_ ?_; ((repeat' (first | exact rfl | exact trivial | refine And.intro ?_ ?_ | ((conv => whnf); first | exact rfl | exact trivial | refine And.intro ?_ ?_)))); ((repeat' (first | exact rfl | exact trivial | refine And.intro ?_ ?_ | ((conv => whnf); first | exact rfl | exact trivial | refine And.intro ?_ ?_)))); (intro y hy; clear y hy; (repeat' ((conv => whnf); first | refine And.intro ?_ ?_ | exact Cl.mk (by kernel_rfl) | exact Ck.mk (by kernel_rfl) | exact trivial | exact rfl | (intro hh; try simp only [decide_eq_true_eq, decide_eq_false_iff_not, beq_iff_eq, beq_eq_false_iff_ne, bne_iff_ne, bne_eq_false_iff_eq, Bool.not_eq_true', Bool.not_eq_false', Bool.not_true, Bool.not_false] at hh; try exact absurd hh (by decide)))); all_goals (conv => whnf); (all_goals first | (exact Ob.mk (by decide)) | skip)))
          (refine CallN.intro (worthM p hp p.2.1 hp.limit) [] rfl rfl ?_ ?_ ?_; ((repeat' (first | exact rfl | exact trivial | refine And.intro ?_ ?_ | ((conv => whnf); first | exact rfl | exact trivial | refine And.intro ?_ ?_)))); ((repeat' (first | exact rfl | exact trivial | refine And.intro ?_ ?_ | ((conv => whnf); first | exact rfl | exact trivial | refine And.intro ?_ ?_)))); (intro y hy; clear y hy; (repeat' ((conv => whnf); first | refine And.intro ?_ ?_ | exact Cl.mk (by kernel_rfl) | exact Ck.mk (by kernel_rfl) | exact trivial | exact rfl | (intro hh; try simp only [decide_eq_true_eq, decide_eq_false_iff_not, beq_iff_eq, beq_eq_false_iff_ne, bne_iff_ne, bne_eq_false_iff_eq, Bool.not_eq_true', Bool.not_eq_false', Bool.not_true, Bool.not_false] at hh; try exact absurd hh (by decide)))); all_goals (conv => whnf); (all_goals first | (exact Ob.mk (by decide)) | skip)))
          · have hs := fitsTo_stop (i := i + 1) (p := p) (l := l) (by rw [hst]; exact decide_eq_false (by omega)) l.length hi1
            (refine RetN.intro () [] rfl rfl ?_ ?_ ?_; ((repeat' (first | exact rfl | exact trivial | refine And.intro ?_ ?_ | ((conv => whnf); first | exact rfl | exact trivial | refine And.intro ?_ ?_)))); ((repeat' (first | exact rfl | exact trivial | refine And.intro ?_ ?_ | ((conv => whnf); first | exact rfl | exact trivial | refine And.intro ?_ ?_))); all_goals (conv => whnf); all_goals (try simp only [])))
            rw [hft, hs]
          · refine ⟨i + 1, [0], ⟨rfl, rfl, ?_, ?_⟩, ⟨hi1, by rw [hst]; exact decide_eq_true (by omega)⟩, by omega⟩
            · (repeat' (first | exact rfl | exact trivial | refine And.intro ?_ ?_ | ((conv => whnf); first | exact rfl | exact trivial | refine And.intro ?_ ?_)))
            · (repeat' (first | exact rfl | exact trivial | refine And.intro ?_ ?_ | ((conv => whnf); first | exact rfl | exact trivial | refine And.intro ?_ ?_))); all_goals (conv => whnf); all_goals (try simp only [])
              exact wr2 i hi1 (by omega)
        · have e : i = l.length := by omega
          (refine RetN.intro () [] rfl rfl ?_ ?_ ?_; ((repeat' (first | exact rfl | exact trivial | refine And.intro ?_ ?_ | ((conv => whnf); first | exact rfl | exact trivial | refine And.intro ?_ ?_)))); ((repeat' (first | exact rfl | exact trivial | refine And.intro ?_ ?_ | ((conv => whnf); first | exact rfl | exact trivial | refine And.intro ?_ ?_))); all_goals (conv => whnf); all_goals (try simp only [])))
          rw [hft, ← e, hfi]
  · refine Meets.intro hm (fn := Try.f20) Try.func20 rfl (by decide) (Nat.le_of_ble_eq_true rfl) (fun _ => rfl) ?_; intro S hok; (conv => whnf)
    (repeat' ((conv => whnf); first | refine And.intro ?_ ?_ | exact Cl.mk (by kernel_rfl) | exact Ck.mk (by kernel_rfl) | exact trivial | exact rfl | (intro hh; try simp only [decide_eq_true_eq, decide_eq_false_iff_not, beq_iff_eq, beq_eq_false_iff_ne, bne_iff_ne, bne_eq_false_iff_eq, Bool.not_eq_true', Bool.not_eq_false', Bool.not_true, Bool.not_false] at hh))); all_goals (conv => whnf)
    refine CallN.intro (checkM p) [] rfl rfl ?_ ?_ ?_
    · (repeat' (first | exact rfl | exact trivial | refine And.intro ?_ ?_ | ((conv => whnf); first | exact rfl | exact trivial | refine And.intro ?_ ?_)))
    · (repeat' (first | exact rfl | exact trivial | refine And.intro ?_ ?_ | ((conv => whnf); first | exact rfl | exact trivial | refine And.intro ?_ ?_)))
    intro y hy
    rw [if_neg hp]
    (repeat' ((conv => whnf); first | refine And.intro ?_ ?_ | exact Cl.mk (by kernel_rfl) | exact Ck.mk (by kernel_rfl) | exact trivial | exact rfl | (intro hh; try simp only [decide_eq_true_eq, decide_eq_false_iff_not, beq_iff_eq, beq_eq_false_iff_ne, bne_iff_ne, bne_eq_false_iff_eq, Bool.not_eq_true', Bool.not_eq_false', Bool.not_true, Bool.not_false] at hh; try exact absurd hh (by decide)))); all_goals (conv => whnf)
    (refine RetN.intro () [] rfl rfl ?_ ?_ ?_; ((repeat' (first | exact rfl | exact trivial | refine And.intro ?_ ?_ | ((conv => whnf); first | exact rfl | exact trivial | refine And.intro ?_ ?_)))); ((repeat' (first | exact rfl | exact trivial | refine And.intro ?_ ?_ | ((conv => whnf); first | exact rfl | exact trivial | refine And.intro ?_ ?_))); all_goals (conv => whnf); all_goals (try simp only [])))
    simp [fits, hp]
end Go.Proofs.Ytclfhgfdnnifbaa.Hi
set_option linter.unusedVariables false
set_option linter.unusedSimpArgs false
namespace Go.Proofs.Ytclfhgfdnnifbaa.Hi
open Go Go.RowKit Fw Po
theorem waitM (p : Pol) (l : List Hit) (t most : Int) (hp : PolOk p) (hl : HOk l t) (ht : 0 ≤ t ∧ t ≤ 1099511627776) : Meets Try.prog 25 [polAV p, .lst HitT fun _ => l, .int .i64 fun _ => t, .int .i64 fun _ => most] [] (Y := Unit) (fun _ => True) (fun _ => .int .i64 fun _ => wait p l t most) (fun _ => []) := by
  have hW := hp.window
  refine Meets.intro hm (fn := Try.f25) Try.func25 rfl (by decide) (Nat.le_of_ble_eq_true rfl) (fun _ => rfl) ?_; intro S hok; (conv => whnf)
  (repeat' ((conv => whnf); first | refine And.intro ?_ ?_ | exact Cl.mk (by kernel_rfl) | exact Ck.mk (by kernel_rfl) | exact trivial | exact rfl | (intro hh; try simp only [decide_eq_true_eq, decide_eq_false_iff_not, beq_iff_eq, beq_eq_false_iff_ne, bne_iff_ne, bne_eq_false_iff_eq, Bool.not_eq_true', Bool.not_eq_false', Bool.not_true, Bool.not_false] at hh))); all_goals (conv => whnf)
  refine LoopN.intro hm (X := Int × Int) (fun x => 0 ≤ x.1 ∧ x.1 ≤ x.2 ∧ x.2 ≤ p.2.2.1 ∧ (x.1 = 0 ∨ most < counts p l (t + (x.1 - 1))) ∧ (x.2 = p.2.2.1 ∨ counts p l (t + x.2) ≤ most)) (fun x => (x.2 - x.1).toNat)
    (fun x => [(9, .int .i64 fun _ => x.1), (10, .int .i64 fun _ => x.2), (4, .ptr 0 0), (1, .lst HitT fun _ => l), (2, .int .i64 fun _ => t), (3, .int .i64 fun _ => most)])
    (fun i => [.cells 23 [.int .i64 fun _ => p.1, .int .i64 fun _ => p.2.1, .int .i64 fun _ => p.2.2.1, .int .i64 fun _ => p.2.2.2]]) (0, p.2.2.1) [0] ⟨rfl, rfl, ?_, ?_⟩ ⟨by simp, by simp; omega, by simp, .inl rfl, .inl rfl⟩ (fun x hx => ?_)
  · (repeat' (first | exact rfl | exact trivial | refine And.intro ?_ ?_ | ((conv => whnf); first | exact rfl | exact trivial | refine And.intro ?_ ?_)))
  · (repeat' (first | exact rfl | exact trivial | refine And.intro ?_ ?_ | ((conv => whnf); first | exact rfl | exact trivial | refine And.intro ?_ ?_)))
  · obtain ⟨a, b⟩ := x
    simp only [] at hx
    obtain ⟨h0, h1, h2, h3, h4⟩ := hx
    have e1 : IntKind.i64.wrap (a + b) = a + b := wr (by omega)
    have hh0 : 0 ≤ (a + b).tdiv 2 := Int.tdiv_nonneg (by omega) (by omega)
    have hh1 : (a + b).tdiv 2 = (a + b) / 2 := Int.tdiv_eq_ediv_of_nonneg (by omega)
    have e2 : IntKind.i64.wrap ((a + b).tdiv 2) = (a + b) / 2 := by rw [hh1]; exact wr (by omega)
    have e3 : IntKind.i64.wrap (t + (a + b) / 2) = t + (a + b) / 2 := wr (by omega)
    (repeat' ((conv => whnf); first | refine And.intro ?_ ?_ | exact Cl.mk (by kernel_rfl) | exact Ck.mk (by kernel_rfl) | exact trivial | exact rfl | (intro hh; try simp only [decide_eq_true_eq, decide_eq_false_iff_not, beq_iff_eq, beq_eq_false_iff_ne, bne_iff_ne, bne_eq_false_iff_eq, Bool.not_eq_true', Bool.not_eq_false', Bool.not_true, Bool.not_false] at hh))); all_goals (conv => whnf)
    all_goals (try simp only [e1, e2, e3])
    · exact Ob.mk (by decide)
    · (refine CallN.intro (countsM p l (t + (a + b) / 2) hp (hl.up (by omega)) (by omega)) [] rfl rfl ?_ ?_ ?_; ((repeat' (first | exact rfl | exact trivial | refine And.intro ?_ ?_ | ((conv => whnf); first | exact rfl | exact trivial | refine And.intro ?_ ?_)))); ((repeat' (first | exact rfl | exact trivial | refine And.intro ?_ ?_ | ((conv => whnf); first | exact rfl | exact trivial | refine And.intro ?_ ?_)))); (intro y hy; clear y hy; (repeat' ((conv => whnf); first | refine And.intro ?_ ?_ | exact Cl.mk (by kernel_rfl) | exact Ck.mk (by kernel_rfl) | exact trivial | exact rfl | (intro hh; try simp only [decide_eq_true_eq, decide_eq_false_iff_not, beq_iff_eq, beq_eq_false_iff_ne, bne_iff_ne, bne_eq_false_iff_eq, Bool.not_eq_true', Bool.not_eq_false', Bool.not_true, Bool.not_false] at hh; try exact absurd hh (by decide)))); all_goals (conv => whnf); (all_goals first | (exact Ob.mk (by decide)) | skip)))
      · refine ⟨(a, (a + b) / 2), [0], ⟨rfl, rfl, ?_, ?_⟩, ⟨h0, ?_, ?_, h3, .inr hh⟩, ?_⟩
        · (repeat' (first | exact rfl | exact trivial | refine And.intro ?_ ?_ | ((conv => whnf); first | exact rfl | exact trivial | refine And.intro ?_ ?_)))
        · (repeat' (first | exact rfl | exact trivial | refine And.intro ?_ ?_ | ((conv => whnf); first | exact rfl | exact trivial | refine And.intro ?_ ?_)))
        · simp only []; omega
        · simp only []; omega
        · simp only []; omega
      · refine ⟨((a + b) / 2 + 1, b), [0], ⟨rfl, rfl, ?_, ?_⟩, ⟨?_, ?_, h2, .inr ?_, h4⟩, ?_⟩
        · (repeat' (first | exact rfl | exact trivial | refine And.intro ?_ ?_ | ((conv => whnf); first | exact rfl | exact trivial | refine And.intro ?_ ?_)))
        · (repeat' (first | exact rfl | exact trivial | refine And.intro ?_ ?_ | ((conv => whnf); first | exact rfl | exact trivial | refine And.intro ?_ ?_))); all_goals (conv => whnf); all_goals (try simp only [])
          exact wr (by omega)
        · simp only []; omega
        · simp only []; omega
        · simp only []
          rw [show t + ((a + b) / 2 + 1 - 1) = t + (a + b) / 2 by omega]; omega
        · simp only []; omega
    · have e : a = b := by omega
      subst e
      (refine RetN.intro () [] rfl rfl ?_ ?_ ?_; ((repeat' (first | exact rfl | exact trivial | refine And.intro ?_ ?_ | ((conv => whnf); first | exact rfl | exact trivial | refine And.intro ?_ ?_)))); ((repeat' (first | exact rfl | exact trivial | refine And.intro ?_ ?_ | ((conv => whnf); first | exact rfl | exact trivial | refine And.intro ?_ ?_))); all_goals (conv => whnf); all_goals (try simp only [])))
      exact (wait_eq hp hl h0 h2 h3 h4).symm
theorem growM (n : Int) (hn : 1 ≤ n ∧ n ≤ 1000000) : Meets Try.prog 38 [.snil, .int .i64 fun _ => n] [] (Y := Unit) (fun _ => True) (fun _ => .vec 0 2 (fun _ => 0) (fun _ => 0)) (fun _ => [.vect 39 HitT fun _ => List.replicate n.toNat (0, 0)]) := by
  have e0 : IntKind.i64.wrap (n - IntKind.i64.wrap (0 - 0)) = n := by
    rw [show IntKind.i64.wrap (0 - 0) = 0 from wr (by omega), wr (by omega)]; omega
  refine Meets.intro hm (fn := Try.f38) Try.func38 rfl (by decide) (Nat.le_of_ble_eq_true rfl) (fun _ => rfl) ?_; intro S hok; (conv => whnf)
  (repeat' ((conv => whnf); first | refine And.intro ?_ ?_ | exact Cl.mk (by kernel_rfl) | exact Ck.mk (by kernel_rfl) | exact trivial | exact rfl | (intro hh; try simp only [decide_eq_true_eq, decide_eq_false_iff_not, beq_iff_eq, beq_eq_false_iff_ne, bne_iff_ne, bne_eq_false_iff_eq, Bool.not_eq_true', Bool.not_eq_false', Bool.not_true, Bool.not_false] at hh))); all_goals (conv => whnf)
  all_goals (try simp only [e0] at *)
  · exact absurd hh (by omega)
  · exact Ob.mk (by decide)
  · refine Ob.mk ?_
    have e : ((Try.t39.bytes : Nat) : Int) = 16 := rfl
    rw [e]; omega
  · exact absurd hh (by omega)
  · exact absurd hh (by omega)
  · exact Ob.mk ⟨Int.le_refl _, Int.le_refl _, Int.natCast_nonneg _⟩
  · (refine RetN.intro () [0] rfl rfl ?_ ?_ ?_; ((repeat' (first | exact rfl | exact trivial | refine And.intro ?_ ?_ | ((conv => whnf); first | exact rfl | exact trivial | refine And.intro ?_ ?_)))); ((repeat' (first | exact rfl | exact trivial | refine And.intro ?_ ?_ | ((conv => whnf); first | exact rfl | exact trivial | refine And.intro ?_ ?_))); all_goals (conv => whnf); all_goals (try simp only [])))
  · exact absurd hh (by omega)
theorem concatM (ls : List (List Hit)) (hn : 1 ≤ ls.flatten.length ∧ ls.flatten.length ≤ 1000000) (hls : ls.length ≤ 1000) : Meets Try.prog 24 [.lst (.list HitT) fun _ => ls] [] (Y := Unit) (fun _ => True) (fun _ => .vec 0 2 (fun _ => 0) (fun _ => ls.flatten.length)) (fun _ => [.vect 39 HitT fun _ => ls.flatten]) := by
  refine Meets.intro hm (fn := Try.f24) Try.func24 rfl (by decide) (Nat.le_of_ble_eq_true rfl) (fun _ => rfl) ?_; intro S hok; (conv => whnf)
  (repeat' ((conv => whnf); first | refine And.intro ?_ ?_ | exact Cl.mk (by kernel_rfl) | exact Ck.mk (by kernel_rfl) | exact trivial | exact rfl | (intro hh; try simp only [decide_eq_true_eq, decide_eq_false_iff_not, beq_iff_eq, beq_eq_false_iff_ne, bne_iff_ne, bne_eq_false_iff_eq, Bool.not_eq_true', Bool.not_eq_false', Bool.not_true, Bool.not_false] at hh))); all_goals (conv => whnf)
  have hsz : ∀ i, (ls.take i).flatten.length ≤ ls.flatten.length := fun i => by
    conv => rhs; rw [← List.take_append_drop i ls]
    rw [List.flatten_append, List.length_append]; omega
  have hst : ∀ i, i < ls.length → (ls.take (i + 1)).flatten = (ls.take i).flatten ++ ls.getD i [] := fun i hi => by
    rw [List.take_add_one, List.getElem?_eq_getElem hi, List.flatten_append]; simp [List.getD_eq_getElem?_getD, hi]
  refine LoopN.intro hm (X := Nat) (fun i => i ≤ ls.length) (fun i => ls.length - i)
    (fun i => [(11, .int .i64 fun _ => (i : Int)), (10, .int .i64 fun _ => (ls.length : Int)), (9, .lst (.list HitT) fun _ => ls), (3, .int .i64 fun _ => ((ls.take i).flatten.length : Int)), (0, .lst (.list HitT) fun _ => ls), (2, .snil)])
    (fun i => []) 0 [] ⟨rfl, rfl, ?_, ?_⟩ (Nat.zero_le _) (fun i hi => ?_)
  · (repeat' (first | exact rfl | exact trivial | refine And.intro ?_ ?_ | ((conv => whnf); first | exact rfl | exact trivial | refine And.intro ?_ ?_)))
  · (repeat' (first | exact rfl | exact trivial | refine And.intro ?_ ?_ | ((conv => whnf); first | exact rfl | exact trivial | refine And.intro ?_ ?_)))
  · have h1 := hsz (i + 1)
    have hst := hst i
    have hx' : ls.getD (i : Int).toNat (Ty.list HitT).dflt = ls.getD i [] := rfl
    (repeat' ((conv => whnf); first | refine And.intro ?_ ?_ | exact Cl.mk (by kernel_rfl) | exact Ck.mk (by kernel_rfl) | exact trivial | exact rfl | (intro hh; try simp only [decide_eq_true_eq, decide_eq_false_iff_not, beq_iff_eq, beq_eq_false_iff_ne, bne_iff_ne, bne_eq_false_iff_eq, Bool.not_eq_true', Bool.not_eq_false', Bool.not_true, Bool.not_false] at hh))); all_goals (conv => whnf)
    all_goals (try simp only [hx'] at *)
    · (refine Ob.mk ?_; (try simp only [Ty.dflt, Nat.zero_add, Nat.add_zero, Int.toNat_natCast, Int.toNat_zero, Int.toNat_one, List.length_take, List.length_drop, List.length_append, List.length_replicate, List.length_cons, List.length_nil, List.length_set, List.length_map, true_and, and_true]); omega)
    · rw [hst (by omega), List.length_append] at h1
      rw [wr (by omega)] at hh
      exact absurd hh (by omega)
    · have hi1 : i < ls.length := by omega
      refine ⟨i + 1, [], ⟨rfl, rfl, ?_, ?_⟩, hi1, by omega⟩
      · (repeat' (first | exact rfl | exact trivial | refine And.intro ?_ ?_ | ((conv => whnf); first | exact rfl | exact trivial | refine And.intro ?_ ?_)))
      · rw [hst hi1, List.length_append] at h1
        (repeat' (first | exact rfl | exact trivial | refine And.intro ?_ ?_ | ((conv => whnf); first | exact rfl | exact trivial | refine And.intro ?_ ?_))); all_goals (conv => whnf); all_goals (try simp only [])
        · exact wr2 i hi1 (by omega)
        · rw [hst hi1, List.length_append, wr (by omega)]; omega
    · have e : i = ls.length := by omega
      subst e
      rw [List.take_length]
      (refine CallN.intro (growM ls.flatten.length (by omega)) [] rfl rfl ?_ ?_ ?_; ((repeat' (first | exact rfl | exact trivial | refine And.intro ?_ ?_ | ((conv => whnf); first | exact rfl | exact trivial | refine And.intro ?_ ?_)))); ((repeat' (first | exact rfl | exact trivial | refine And.intro ?_ ?_ | ((conv => whnf); first | exact rfl | exact trivial | refine And.intro ?_ ?_)))); (intro y hy; clear y hy; (repeat' ((conv => whnf); first | refine And.intro ?_ ?_ | exact Cl.mk (by kernel_rfl) | exact Ck.mk (by kernel_rfl) | exact trivial | exact rfl | (intro hh; try simp only [decide_eq_true_eq, decide_eq_false_iff_not, beq_iff_eq, beq_eq_false_iff_ne, bne_iff_ne, bne_eq_false_iff_eq, Bool.not_eq_true', Bool.not_eq_false', Bool.not_true, Bool.not_false] at hh; try exact absurd hh (by decide)))); all_goals (conv => whnf); (all_goals first | (exact Ob.mk (by decide)) | skip)))
      clear hi h1 hst hh
      refine LoopN.intro hm (X := Nat × List Hit) (fun x => x.1 ≤ ls.length ∧ (0 < x.1 → x.2 = (ls.take x.1).flatten)) (fun x => ls.length - x.1)
        (fun x => [(27, .int .i64 fun _ => (x.1 : Int)), (26, .int .i64 fun _ => (ls.length : Int)), (25, .lst (.list HitT) fun _ => ls), (6, .vec 0 2 (fun _ => 0) fun _ => (ls.take x.1).flatten.length)])
        (fun x => [.vect 39 HitT fun _ => x.2]) (0, List.replicate ls.flatten.length (0, 0)) [0] ⟨rfl, rfl, ?_, ?_⟩ ⟨Nat.zero_le _, fun h => by simp at h⟩ (fun x hx => ?_)
      · (repeat' (first | exact rfl | exact trivial | refine And.intro ?_ ?_ | ((conv => whnf); first | exact rfl | exact trivial | refine And.intro ?_ ?_)))
      · (repeat' (first | exact rfl | exact trivial | refine And.intro ?_ ?_ | ((conv => whnf); first | exact rfl | exact trivial | refine And.intro ?_ ?_)))
      · obtain ⟨i, xs⟩ := x
        obtain ⟨hi, hxs⟩ := hx
        simp only [] at hi hxs
        have h1 := hsz (i + 1)
        have hst := ‹∀ i, i < ls.length → _› i
        have hx' : ls.getD (i : Int).toNat (Ty.list HitT).dflt = ls.getD i [] := rfl
        (repeat' ((conv => whnf); first | refine And.intro ?_ ?_ | exact Cl.mk (by kernel_rfl) | exact Ck.mk (by kernel_rfl) | exact trivial | exact rfl | (intro hh; try simp only [decide_eq_true_eq, decide_eq_false_iff_not, beq_iff_eq, beq_eq_false_iff_ne, bne_iff_ne, bne_eq_false_iff_eq, Bool.not_eq_true', Bool.not_eq_false', Bool.not_true, Bool.not_false] at hh))); all_goals (conv => whnf)
        all_goals (try simp only [hx'] at *)
        · (refine Ob.mk ?_; (try simp only [Ty.dflt, Nat.zero_add, Nat.add_zero, Int.toNat_natCast, Int.toNat_zero, Int.toNat_one, List.length_take, List.length_drop, List.length_append, List.length_replicate, List.length_cons, List.length_nil, List.length_set, List.length_map, true_and, and_true]); omega)
        · refine Ob.mk ?_
          have e : (Try.t39.bytes : Nat) = 16 := rfl
          rw [hst (by omega), List.length_append] at h1
          rw [e]
          exact ⟨trivial, by omega, by omega⟩
        · have hi1 : i < ls.length := by omega
          have hap : xs.take (ls.take i).flatten.length ++ ls.getD i [] = (ls.take (i + 1)).flatten := by
            rw [hst hi1]
            by_cases h0 : 0 < i
            · rw [hxs h0, List.take_length]
            · have e : i = 0 := by omega
              subst e; simp
          refine ⟨(i + 1, xs.take (ls.take i).flatten.length ++ ls.getD i []), [0], ⟨rfl, rfl, ?_, ?_⟩, ⟨hi1, fun _ => hap⟩, by simp only []; omega⟩
          · (repeat' (first | exact rfl | exact trivial | refine And.intro ?_ ?_ | ((conv => whnf); first | exact rfl | exact trivial | refine And.intro ?_ ?_)))
          · (repeat' (first | exact rfl | exact trivial | refine And.intro ?_ ?_ | ((conv => whnf); first | exact rfl | exact trivial | refine And.intro ?_ ?_))); all_goals (conv => whnf); all_goals (try simp only [])
            · exact wr2 i hi1 (by omega)
            · rw [hst hi1, List.length_append]
        · have e : i = ls.length := by omega
          have h0 : 0 < i := by
            rcases Nat.eq_zero_or_pos i with h0 | h0
            · exfalso
              have : ls = [] := List.eq_nil_of_length_eq_zero (by omega)
              rw [this] at hn; simp at hn
            · exact h0
          have hxs := hxs h0
          (refine RetN.intro () [0] rfl rfl ?_ ?_ ?_; ((repeat' (first | exact rfl | exact trivial | refine And.intro ?_ ?_ | ((conv => whnf); first | exact rfl | exact trivial | refine And.intro ?_ ?_)))); ((repeat' (first | exact rfl | exact trivial | refine And.intro ?_ ?_ | ((conv => whnf); first | exact rfl | exact trivial | refine And.intro ?_ ?_))); all_goals (conv => whnf); all_goals (try simp only [])))
          · rw [hxs, e, List.take_length]
          · rw [e, List.take_length]
end Go.Proofs.Ytclfhgfdnnifbaa.Hi
set_option linter.unusedVariables false
set_option linter.unusedSimpArgs false
namespace Go.Proofs.Ytclfhgfdnnifbaa.Hi
open Go Go.RowKit Fw Po
theorem fits_iff {p : Pol} {l : List Hit} {t : Int} (h : fits p l t = true) (hl : l.length ≤ 64) : PolOk p ∧ may l = true ∧ 0 ≤ t ∧ t ≤ 1099511627776 ∧ HOk l t := by
  simp only [fits, Bool.and_eq_true, decide_eq_true_eq] at h
  obtain ⟨⟨⟨⟨⟨h1, h2⟩, h3⟩, h4⟩, h5⟩, h6⟩ := h
  refine ⟨h1, h2, h3, h4, ?_⟩
  by_cases h0 : 0 < l.length
  · have := may_take h2 hl (i := l.length - 1) (by omega)
    rw [show l.length - 1 + 1 = l.length by omega, List.take_length] at this
    rw [last_at h0] at h5
    exact this.up (of_decide_eq_true h5)
  · have : l = [] := List.eq_nil_of_length_eq_zero (by omega)
    subst this
    exact ⟨by simp, by simp, by simp⟩
theorem countsRM (p : Pol) (l : List Hit) (t : Int) (hl : l.length ≤ 64) : Meets Try.prog 14 [polAV p, .lst HitT fun _ => l, .int .i64 fun _ => t] [] (Y := Unit) (fun _ => True) (fun _ => .int .i64 fun _ => countsR p l t) (fun _ => []) := by
  refine Meets.intro hm (fn := Try.f14) Try.func14 rfl (by decide) (Nat.le_of_ble_eq_true rfl) (fun _ => rfl) ?_; intro S hok; (conv => whnf)
  (repeat' ((conv => whnf); first | refine And.intro ?_ ?_ | exact Cl.mk (by kernel_rfl) | exact Ck.mk (by kernel_rfl) | exact trivial | exact rfl | (intro hh; try simp only [decide_eq_true_eq, decide_eq_false_iff_not, beq_iff_eq, beq_eq_false_iff_ne, bne_iff_ne, bne_eq_false_iff_eq, Bool.not_eq_true', Bool.not_eq_false', Bool.not_true, Bool.not_false] at hh))); all_goals (conv => whnf)
  (refine CallN.intro (fitsM p l t hl) [] rfl rfl ?_ ?_ ?_; ((repeat' (first | exact rfl | exact trivial | refine And.intro ?_ ?_ | ((conv => whnf); first | exact rfl | exact trivial | refine And.intro ?_ ?_)))); ((repeat' (first | exact rfl | exact trivial | refine And.intro ?_ ?_ | ((conv => whnf); first | exact rfl | exact trivial | refine And.intro ?_ ?_)))); (intro y hy; clear y hy; (repeat' ((conv => whnf); first | refine And.intro ?_ ?_ | exact Cl.mk (by kernel_rfl) | exact Ck.mk (by kernel_rfl) | exact trivial | exact rfl | (intro hh; try simp only [decide_eq_true_eq, decide_eq_false_iff_not, beq_iff_eq, beq_eq_false_iff_ne, bne_iff_ne, bne_eq_false_iff_eq, Bool.not_eq_true', Bool.not_eq_false', Bool.not_true, Bool.not_false] at hh; try exact absurd hh (by decide)))); all_goals (conv => whnf); (all_goals first | (exact Ob.mk (by decide)) | skip)))
  · (refine RetN.intro () [] rfl rfl ?_ ?_ ?_; ((repeat' (first | exact rfl | exact trivial | refine And.intro ?_ ?_ | ((conv => whnf); first | exact rfl | exact trivial | refine And.intro ?_ ?_)))); ((repeat' (first | exact rfl | exact trivial | refine And.intro ?_ ?_ | ((conv => whnf); first | exact rfl | exact trivial | refine And.intro ?_ ?_))); all_goals (conv => whnf); all_goals (try simp only [])))
    simp [countsR, hh]
  · obtain ⟨h1, h2, h3, h4, h5⟩ := fits_iff hh hl
    (refine CallN.intro (countsM p l t h1 h5 (by omega)) [] rfl rfl ?_ ?_ ?_; ((repeat' (first | exact rfl | exact trivial | refine And.intro ?_ ?_ | ((conv => whnf); first | exact rfl | exact trivial | refine And.intro ?_ ?_)))); ((repeat' (first | exact rfl | exact trivial | refine And.intro ?_ ?_ | ((conv => whnf); first | exact rfl | exact trivial | refine And.intro ?_ ?_)))); (intro y hy; clear y hy; (repeat' ((conv => whnf); first | refine And.intro ?_ ?_ | exact Cl.mk (by kernel_rfl) | exact Ck.mk (by kernel_rfl) | exact trivial | exact rfl | (intro hh; try simp only [decide_eq_true_eq, decide_eq_false_iff_not, beq_iff_eq, beq_eq_false_iff_ne, bne_iff_ne, bne_eq_false_iff_eq, Bool.not_eq_true', Bool.not_eq_false', Bool.not_true, Bool.not_false] at hh; try exact absurd hh (by decide)))); all_goals (conv => whnf); (all_goals first | (exact Ob.mk (by decide)) | skip)))
    (refine RetN.intro () [] rfl rfl ?_ ?_ ?_; ((repeat' (first | exact rfl | exact trivial | refine And.intro ?_ ?_ | ((conv => whnf); first | exact rfl | exact trivial | refine And.intro ?_ ?_)))); ((repeat' (first | exact rfl | exact trivial | refine And.intro ?_ ?_ | ((conv => whnf); first | exact rfl | exact trivial | refine And.intro ?_ ?_))); all_goals (conv => whnf); all_goals (try simp only [])))
    simp [countsR, hh]
theorem neutralM (p : Pol) (l : List Hit) (t : Int) (hl : l.length ≤ 64) : Meets Try.prog 16 [polAV p, .lst HitT fun _ => l, .int .i64 fun _ => t] [] (Y := Unit) (fun _ => True) (fun _ => .bool fun _ => neutral p l t) (fun _ => []) := by
  refine Meets.intro hm (fn := Try.f16) Try.func16 rfl (by decide) (Nat.le_of_ble_eq_true rfl) (fun _ => rfl) ?_; intro S hok; (conv => whnf)
  (repeat' ((conv => whnf); first | refine And.intro ?_ ?_ | exact Cl.mk (by kernel_rfl) | exact Ck.mk (by kernel_rfl) | exact trivial | exact rfl | (intro hh; try simp only [decide_eq_true_eq, decide_eq_false_iff_not, beq_iff_eq, beq_eq_false_iff_ne, bne_iff_ne, bne_eq_false_iff_eq, Bool.not_eq_true', Bool.not_eq_false', Bool.not_true, Bool.not_false] at hh))); all_goals (conv => whnf)
  (refine CallN.intro (fitsM p l t hl) [] rfl rfl ?_ ?_ ?_; ((repeat' (first | exact rfl | exact trivial | refine And.intro ?_ ?_ | ((conv => whnf); first | exact rfl | exact trivial | refine And.intro ?_ ?_)))); ((repeat' (first | exact rfl | exact trivial | refine And.intro ?_ ?_ | ((conv => whnf); first | exact rfl | exact trivial | refine And.intro ?_ ?_)))); (intro y hy; clear y hy; (repeat' ((conv => whnf); first | refine And.intro ?_ ?_ | exact Cl.mk (by kernel_rfl) | exact Ck.mk (by kernel_rfl) | exact trivial | exact rfl | (intro hh; try simp only [decide_eq_true_eq, decide_eq_false_iff_not, beq_iff_eq, beq_eq_false_iff_ne, bne_iff_ne, bne_eq_false_iff_eq, Bool.not_eq_true', Bool.not_eq_false', Bool.not_true, Bool.not_false] at hh; try exact absurd hh (by decide)))); all_goals (conv => whnf); (all_goals first | (exact Ob.mk (by decide)) | skip)))
  · obtain ⟨h1, h2, h3, h4, h5⟩ := fits_iff hh hl
    (refine CallN.intro (countsM p l t h1 h5 (by omega)) [] rfl rfl ?_ ?_ ?_; ((repeat' (first | exact rfl | exact trivial | refine And.intro ?_ ?_ | ((conv => whnf); first | exact rfl | exact trivial | refine And.intro ?_ ?_)))); ((repeat' (first | exact rfl | exact trivial | refine And.intro ?_ ?_ | ((conv => whnf); first | exact rfl | exact trivial | refine And.intro ?_ ?_)))); (intro y hy; clear y hy; (repeat' ((conv => whnf); first | refine And.intro ?_ ?_ | exact Cl.mk (by kernel_rfl) | exact Ck.mk (by kernel_rfl) | exact trivial | exact rfl | (intro hh; try simp only [decide_eq_true_eq, decide_eq_false_iff_not, beq_iff_eq, beq_eq_false_iff_ne, bne_iff_ne, bne_eq_false_iff_eq, Bool.not_eq_true', Bool.not_eq_false', Bool.not_true, Bool.not_false] at hh; try exact absurd hh (by decide)))); all_goals (conv => whnf); (all_goals first | (exact Ob.mk (by decide)) | skip)))
    (refine RetN.intro () [] rfl rfl ?_ ?_ ?_; ((repeat' (first | exact rfl | exact trivial | refine And.intro ?_ ?_ | ((conv => whnf); first | exact rfl | exact trivial | refine And.intro ?_ ?_)))); ((repeat' (first | exact rfl | exact trivial | refine And.intro ?_ ?_ | ((conv => whnf); first | exact rfl | exact trivial | refine And.intro ?_ ?_))); all_goals (conv => whnf); all_goals (try simp only [])))
    rw [neutral, hh, Bool.true_and]; rfl
  · (refine RetN.intro () [] rfl rfl ?_ ?_ ?_; ((repeat' (first | exact rfl | exact trivial | refine And.intro ?_ ?_ | ((conv => whnf); first | exact rfl | exact trivial | refine And.intro ?_ ?_)))); ((repeat' (first | exact rfl | exact trivial | refine And.intro ?_ ?_ | ((conv => whnf); first | exact rfl | exact trivial | refine And.intro ?_ ?_))); all_goals (conv => whnf); all_goals (try simp only [])))
    simp [neutral, hh]
theorem rem_eq {m c d : Int} (hm : 0 ≤ m ∧ m ≤ 1099511627776) (hc : 0 ≤ c ∧ c ≤ 70368744177664) (hd : 1 ≤ d) :
    IntKind.i64.wrap ((if IntKind.i64.wrap (m - c) > 0 then IntKind.i64.wrap (m - c) else 0).tdiv d) = (max 0 (m - c)).tdiv d := by
  rw [wr (x := m - c) (by omega)]
  have e : (if m - c > 0 then m - c else 0) = max 0 (m - c) := by split <;> omega
  rw [e]
  have := tdiv_bound (a := max 0 (m - c)) (s := d) (by omega) (by omega) hd
  exact wr (by omega)
theorem askM (p : Pol) (l : List Hit) (t w : Int) (hl : l.length ≤ 63) : Meets Try.prog 9 [polAV p, .lst HitT fun _ => l, .int .i64 fun _ => t, .int .i64 fun _ => w] [] (Y := Unit) (fun _ => True) (fun _ => .tup [.lst HitT fun _ => (ask p l t w).1, verAV (ask p l t w).2]) (fun _ => []) := by
  refine Meets.intro hm (fn := Try.f9) Try.func9 rfl (by decide) (Nat.le_of_ble_eq_true rfl) (fun _ => rfl) ?_; intro S hok; (conv => whnf)
  (repeat' ((conv => whnf); first | refine And.intro ?_ ?_ | exact Cl.mk (by kernel_rfl) | exact Ck.mk (by kernel_rfl) | exact trivial | exact rfl | (intro hh; try simp only [decide_eq_true_eq, decide_eq_false_iff_not, beq_iff_eq, beq_eq_false_iff_ne, bne_iff_ne, bne_eq_false_iff_eq, Bool.not_eq_true', Bool.not_eq_false', Bool.not_true, Bool.not_false] at hh))); all_goals (conv => whnf)
  (refine CallN.intro (fitsM p l t (by omega)) [] rfl rfl ?_ ?_ ?_; ((repeat' (first | exact rfl | exact trivial | refine And.intro ?_ ?_ | ((conv => whnf); first | exact rfl | exact trivial | refine And.intro ?_ ?_)))); ((repeat' (first | exact rfl | exact trivial | refine And.intro ?_ ?_ | ((conv => whnf); first | exact rfl | exact trivial | refine And.intro ?_ ?_)))); (intro y hy; clear y hy; (repeat' ((conv => whnf); first | refine And.intro ?_ ?_ | exact Cl.mk (by kernel_rfl) | exact Ck.mk (by kernel_rfl) | exact trivial | exact rfl | (intro hh; try simp only [decide_eq_true_eq, decide_eq_false_iff_not, beq_iff_eq, beq_eq_false_iff_ne, bne_iff_ne, bne_eq_false_iff_eq, Bool.not_eq_true', Bool.not_eq_false', Bool.not_true, Bool.not_false] at hh; try exact absurd hh (by decide)))); all_goals (conv => whnf); (all_goals first | (exact Ob.mk (by decide)) | skip)))
  · (refine CallN.intro (weighsM w) [] rfl rfl ?_ ?_ ?_; ((repeat' (first | exact rfl | exact trivial | refine And.intro ?_ ?_ | ((conv => whnf); first | exact rfl | exact trivial | refine And.intro ?_ ?_)))); ((repeat' (first | exact rfl | exact trivial | refine And.intro ?_ ?_ | ((conv => whnf); first | exact rfl | exact trivial | refine And.intro ?_ ?_)))); (intro y hy; clear y hy; (repeat' ((conv => whnf); first | refine And.intro ?_ ?_ | exact Cl.mk (by kernel_rfl) | exact Ck.mk (by kernel_rfl) | exact trivial | exact rfl | (intro hh; try simp only [decide_eq_true_eq, decide_eq_false_iff_not, beq_iff_eq, beq_eq_false_iff_ne, bne_iff_ne, bne_eq_false_iff_eq, Bool.not_eq_true', Bool.not_eq_false', Bool.not_true, Bool.not_false] at hh; try exact absurd hh (by decide)))); all_goals (conv => whnf); (all_goals first | (exact Ob.mk (by decide)) | skip)))
    · have ha : ask p l t w = (l, false, 0, 0, 0) := by
        unfold ask; rw [hh, Bool.and_false]; rfl
      (refine RetN.intro () [] rfl rfl ?_ ?_ ?_; ((repeat' (first | exact rfl | exact trivial | refine And.intro ?_ ?_ | ((conv => whnf); first | exact rfl | exact trivial | refine And.intro ?_ ?_)))); ((repeat' (first | exact rfl | exact trivial | refine And.intro ?_ ?_ | ((conv => whnf); first | exact rfl | exact trivial | refine And.intro ?_ ?_))); all_goals (conv => whnf); all_goals (try simp only [])))
      all_goals rw [ha]
    · obtain ⟨h1, h2, h3, h4, h5⟩ := fits_iff ‹_› (by omega)
      have hw : 1 ≤ w ∧ w ≤ 1048576 := by simpa [weighs] using hh
      have hfw : (fits p l t && weighs w) = true := by rw [‹fits p l t = true›, hh]; rfl
      clear hh
      have hwb := worth_bound h1 hw
      have hcb := counts_bound h1 h5
      have hmb := worth_bound h1 h1.limit
      have h1b := worth_bound h1 (w := 1) (by omega)
      have e1 : IntKind.i64.wrap (counts p l t + worth p w) = counts p l t + worth p w := wr (by omega)
      have e3 : IntKind.i64.wrap (worth p p.2.1 - worth p w) = worth p p.2.1 - worth p w := wr (by omega)
      (refine CallN.intro (worthM p h1 p.2.1 h1.limit) [] rfl rfl ?_ ?_ ?_; ((repeat' (first | exact rfl | exact trivial | refine And.intro ?_ ?_ | ((conv => whnf); first | exact rfl | exact trivial | refine And.intro ?_ ?_)))); ((repeat' (first | exact rfl | exact trivial | refine And.intro ?_ ?_ | ((conv => whnf); first | exact rfl | exact trivial | refine And.intro ?_ ?_)))); (intro y hy; clear y hy; (repeat' ((conv => whnf); first | refine And.intro ?_ ?_ | exact Cl.mk (by kernel_rfl) | exact Ck.mk (by kernel_rfl) | exact trivial | exact rfl | (intro hh; try simp only [decide_eq_true_eq, decide_eq_false_iff_not, beq_iff_eq, beq_eq_false_iff_ne, bne_iff_ne, bne_eq_false_iff_eq, Bool.not_eq_true', Bool.not_eq_false', Bool.not_true, Bool.not_false] at hh; try exact absurd hh (by decide)))); all_goals (conv => whnf); (all_goals first | (exact Ob.mk (by decide)) | skip)))
      (refine CallN.intro (countsM p l t h1 h5 (by omega)) [] rfl rfl ?_ ?_ ?_; ((repeat' (first | exact rfl | exact trivial | refine And.intro ?_ ?_ | ((conv => whnf); first | exact rfl | exact trivial | refine And.intro ?_ ?_)))); ((repeat' (first | exact rfl | exact trivial | refine And.intro ?_ ?_ | ((conv => whnf); first | exact rfl | exact trivial | refine And.intro ?_ ?_)))); (intro y hy; clear y hy; (repeat' ((conv => whnf); first | refine And.intro ?_ ?_ | exact Cl.mk (by kernel_rfl) | exact Ck.mk (by kernel_rfl) | exact trivial | exact rfl | (intro hh; try simp only [decide_eq_true_eq, decide_eq_false_iff_not, beq_iff_eq, beq_eq_false_iff_ne, bne_iff_ne, bne_eq_false_iff_eq, Bool.not_eq_true', Bool.not_eq_false', Bool.not_true, Bool.not_false] at hh; try exact absurd hh (by decide)))); all_goals (conv => whnf); (all_goals first | (exact Ob.mk (by decide)) | skip)))
      (refine CallN.intro (worthM p h1 w hw) [] rfl rfl ?_ ?_ ?_; ((repeat' (first | exact rfl | exact trivial | refine And.intro ?_ ?_ | ((conv => whnf); first | exact rfl | exact trivial | refine And.intro ?_ ?_)))); ((repeat' (first | exact rfl | exact trivial | refine And.intro ?_ ?_ | ((conv => whnf); first | exact rfl | exact trivial | refine And.intro ?_ ?_)))); (intro y hy; clear y hy; (repeat' ((conv => whnf); first | refine And.intro ?_ ?_ | exact Cl.mk (by kernel_rfl) | exact Ck.mk (by kernel_rfl) | exact trivial | exact rfl | (intro hh; try simp only [decide_eq_true_eq, decide_eq_false_iff_not, beq_iff_eq, beq_eq_false_iff_ne, bne_iff_ne, bne_eq_false_iff_eq, Bool.not_eq_true', Bool.not_eq_false', Bool.not_true, Bool.not_false] at hh; try exact absurd hh (by decide)))); all_goals (conv => whnf); (all_goals first | (exact Ob.mk (by decide)) | skip)))
      all_goals (try simp only [e1] at hh ⊢)
      · refine CallN.frz 4 ?_ (concatM [[(t, w)]] (by simp) (by simp)).callable
        (conv => whnf)
        have e : ((((List.take 2 (List.drop 0 [l, List.take 1 (List.drop 0 [(t, w)])]))) : List (List Hit))) = [l, [(t, w)]] := rfl
        have hl' : HOk (l ++ [(t, w)]) t := ⟨fun x hx => by
          rcases List.mem_append.1 hx with hx | hx
          · exact h5.tick x hx
          · simp at hx; subst hx; simp; omega, fun x hx => by
          rcases List.mem_append.1 hx with hx | hx
          · exact h5.weight x hx
          · simp at hx; subst hx; exact hw, by simp; omega⟩
        have ef : [l, [(t, w)]].flatten = l ++ [(t, w)] := by simp
        (refine CallN.intro (concatM [l, [(t, w)]] (by rw [ef]; have := hl'.len; simp at this ⊢; omega) (by simp)) [] rfl rfl ?_ ?_ ?_; ((repeat' (first | exact rfl | exact trivial | refine And.intro ?_ ?_ | ((conv => whnf); first | exact rfl | exact trivial | refine And.intro ?_ ?_)))); ((repeat' (first | exact rfl | exact trivial | refine And.intro ?_ ?_ | ((conv => whnf); first | exact rfl | exact trivial | refine And.intro ?_ ?_)))); (intro y hy; clear y hy; (repeat' ((conv => whnf); first | refine And.intro ?_ ?_ | exact Cl.mk (by kernel_rfl) | exact Ck.mk (by kernel_rfl) | exact trivial | exact rfl | (intro hh; try simp only [decide_eq_true_eq, decide_eq_false_iff_not, beq_iff_eq, beq_eq_false_iff_ne, bne_iff_ne, bne_eq_false_iff_eq, Bool.not_eq_true', Bool.not_eq_false', Bool.not_true, Bool.not_false] at hh; try exact absurd hh (by decide)))); all_goals (conv => whnf); (all_goals first | (exact Ob.mk (by decide)) | skip)))
        rw [ef]
        have hcb' := counts_bound h1 hl'
        have e5 : (List.take (l ++ [(t, w)]).length (List.drop 0 (l ++ [(t, w)]))) = l ++ [(t, w)] := by rw [List.drop_zero, List.take_length]
        refine CallN.frz 5 ?_ (countsM p l t h1 h5 (by omega)).callable
        (conv => whnf)
        simp only [e5]
        have ha : ask p l t w = (l ++ [(t, w)], true, (max 0 (worth p p.2.1 - counts p (l ++ [(t, w)]) t)).tdiv (worth p 1), 0, wait p (l ++ [(t, w)]) t 0) := by
          unfold ask; rw [if_pos hfw]; simp only [if_pos hh, decide_eq_true hh]
        (refine CallN.intro (countsM p (l ++ [(t, w)]) t h1 hl' (by omega)) [] rfl rfl ?_ ?_ ?_; ((repeat' (first | exact rfl | exact trivial | refine And.intro ?_ ?_ | ((conv => whnf); first | exact rfl | exact trivial | refine And.intro ?_ ?_)))); ((repeat' (first | exact rfl | exact trivial | refine And.intro ?_ ?_ | ((conv => whnf); first | exact rfl | exact trivial | refine And.intro ?_ ?_)))); (intro y hy; clear y hy; (repeat' ((conv => whnf); first | refine And.intro ?_ ?_ | exact Cl.mk (by kernel_rfl) | exact Ck.mk (by kernel_rfl) | exact trivial | exact rfl | (intro hh; try simp only [decide_eq_true_eq, decide_eq_false_iff_not, beq_iff_eq, beq_eq_false_iff_ne, bne_iff_ne, bne_eq_false_iff_eq, Bool.not_eq_true', Bool.not_eq_false', Bool.not_true, Bool.not_false] at hh; try exact absurd hh (by decide)))); all_goals (conv => whnf); (all_goals first | (exact Ob.mk (by decide)) | skip)))
        (refine CallN.intro (worthM p h1 1 (by omega)) [] rfl rfl ?_ ?_ ?_; ((repeat' (first | exact rfl | exact trivial | refine And.intro ?_ ?_ | ((conv => whnf); first | exact rfl | exact trivial | refine And.intro ?_ ?_)))); ((repeat' (first | exact rfl | exact trivial | refine And.intro ?_ ?_ | ((conv => whnf); first | exact rfl | exact trivial | refine And.intro ?_ ?_)))); (intro y hy; clear y hy; (repeat' ((conv => whnf); first | refine And.intro ?_ ?_ | exact Cl.mk (by kernel_rfl) | exact Ck.mk (by kernel_rfl) | exact trivial | exact rfl | (intro hh; try simp only [decide_eq_true_eq, decide_eq_false_iff_not, beq_iff_eq, beq_eq_false_iff_ne, bne_iff_ne, bne_eq_false_iff_eq, Bool.not_eq_true', Bool.not_eq_false', Bool.not_true, Bool.not_false] at hh; try exact absurd hh (by decide)))); all_goals (conv => whnf); (all_goals first | (exact Ob.mk (by decide)) | skip)))
        · exact Ob.mk (by simp only []; omega)
        (refine CallN.intro (waitM p (l ++ [(t, w)]) t 0 h1 hl' (by omega)) [] rfl rfl ?_ ?_ ?_; ((repeat' (first | exact rfl | exact trivial | refine And.intro ?_ ?_ | ((conv => whnf); first | exact rfl | exact trivial | refine And.intro ?_ ?_)))); ((repeat' (first | exact rfl | exact trivial | refine And.intro ?_ ?_ | ((conv => whnf); first | exact rfl | exact trivial | refine And.intro ?_ ?_)))); (intro y hy; clear y hy; (repeat' ((conv => whnf); first | refine And.intro ?_ ?_ | exact Cl.mk (by kernel_rfl) | exact Ck.mk (by kernel_rfl) | exact trivial | exact rfl | (intro hh; try simp only [decide_eq_true_eq, decide_eq_false_iff_not, beq_iff_eq, beq_eq_false_iff_ne, bne_iff_ne, bne_eq_false_iff_eq, Bool.not_eq_true', Bool.not_eq_false', Bool.not_true, Bool.not_false] at hh; try exact absurd hh (by decide)))); all_goals (conv => whnf); (all_goals first | (exact Ob.mk (by decide)) | skip)))
        (refine RetN.intro () [] rfl rfl ?_ ?_ ?_; ((repeat' (first | exact rfl | exact trivial | refine And.intro ?_ ?_ | ((conv => whnf); first | exact rfl | exact trivial | refine And.intro ?_ ?_)))); ((repeat' (first | exact rfl | exact trivial | refine And.intro ?_ ?_ | ((conv => whnf); first | exact rfl | exact trivial | refine And.intro ?_ ?_))); all_goals (conv => whnf); all_goals (try simp only [])))
        all_goals rw [ha]
        exact rem_eq (by omega) hcb' h1b.1
      · have hn : ¬ counts p l t + worth p w ≤ worth p p.2.1 := by rw [← e1]; assumption
        have ha : ask p l t w = (l, false, (max 0 (worth p p.2.1 - counts p l t)).tdiv (worth p 1), 2199023255552, wait p l t 0) := by
          unfold ask; rw [if_pos hfw]; simp only [if_neg hn, decide_eq_false hn, if_pos hh]
        (refine CallN.intro (countsM p l t h1 h5 (by omega)) [] rfl rfl ?_ ?_ ?_; ((repeat' (first | exact rfl | exact trivial | refine And.intro ?_ ?_ | ((conv => whnf); first | exact rfl | exact trivial | refine And.intro ?_ ?_)))); ((repeat' (first | exact rfl | exact trivial | refine And.intro ?_ ?_ | ((conv => whnf); first | exact rfl | exact trivial | refine And.intro ?_ ?_)))); (intro y hy; clear y hy; (repeat' ((conv => whnf); first | refine And.intro ?_ ?_ | exact Cl.mk (by kernel_rfl) | exact Ck.mk (by kernel_rfl) | exact trivial | exact rfl | (intro hh; try simp only [decide_eq_true_eq, decide_eq_false_iff_not, beq_iff_eq, beq_eq_false_iff_ne, bne_iff_ne, bne_eq_false_iff_eq, Bool.not_eq_true', Bool.not_eq_false', Bool.not_true, Bool.not_false] at hh; try exact absurd hh (by decide)))); all_goals (conv => whnf); (all_goals first | (exact Ob.mk (by decide)) | skip)))
        (refine CallN.intro (worthM p h1 1 (by omega)) [] rfl rfl ?_ ?_ ?_; ((repeat' (first | exact rfl | exact trivial | refine And.intro ?_ ?_ | ((conv => whnf); first | exact rfl | exact trivial | refine And.intro ?_ ?_)))); ((repeat' (first | exact rfl | exact trivial | refine And.intro ?_ ?_ | ((conv => whnf); first | exact rfl | exact trivial | refine And.intro ?_ ?_)))); (intro y hy; clear y hy; (repeat' ((conv => whnf); first | refine And.intro ?_ ?_ | exact Cl.mk (by kernel_rfl) | exact Ck.mk (by kernel_rfl) | exact trivial | exact rfl | (intro hh; try simp only [decide_eq_true_eq, decide_eq_false_iff_not, beq_iff_eq, beq_eq_false_iff_ne, bne_iff_ne, bne_eq_false_iff_eq, Bool.not_eq_true', Bool.not_eq_false', Bool.not_true, Bool.not_false] at hh; try exact absurd hh (by decide)))); all_goals (conv => whnf); (all_goals first | (exact Ob.mk (by decide)) | skip)))
        · exact Ob.mk (by simp only []; omega)
        (refine CallN.intro (waitM p l t 0 h1 h5 (by omega)) [] rfl rfl ?_ ?_ ?_; ((repeat' (first | exact rfl | exact trivial | refine And.intro ?_ ?_ | ((conv => whnf); first | exact rfl | exact trivial | refine And.intro ?_ ?_)))); ((repeat' (first | exact rfl | exact trivial | refine And.intro ?_ ?_ | ((conv => whnf); first | exact rfl | exact trivial | refine And.intro ?_ ?_)))); (intro y hy; clear y hy; (repeat' ((conv => whnf); first | refine And.intro ?_ ?_ | exact Cl.mk (by kernel_rfl) | exact Ck.mk (by kernel_rfl) | exact trivial | exact rfl | (intro hh; try simp only [decide_eq_true_eq, decide_eq_false_iff_not, beq_iff_eq, beq_eq_false_iff_ne, bne_iff_ne, bne_eq_false_iff_eq, Bool.not_eq_true', Bool.not_eq_false', Bool.not_true, Bool.not_false] at hh; try exact absurd hh (by decide)))); all_goals (conv => whnf); (all_goals first | (exact Ob.mk (by decide)) | skip)))
        (refine RetN.intro () [] rfl rfl ?_ ?_ ?_; ((repeat' (first | exact rfl | exact trivial | refine And.intro ?_ ?_ | ((conv => whnf); first | exact rfl | exact trivial | refine And.intro ?_ ?_)))); ((repeat' (first | exact rfl | exact trivial | refine And.intro ?_ ?_ | ((conv => whnf); first | exact rfl | exact trivial | refine And.intro ?_ ?_))); all_goals (conv => whnf); all_goals (try simp only [])))
        all_goals rw [ha]
        exact rem_eq (by omega) hcb h1b.1
      · have hn : ¬ counts p l t + worth p w ≤ worth p p.2.1 := by rw [← e1]; assumption
        have ha : ask p l t w = (l, false, (max 0 (worth p p.2.1 - counts p l t)).tdiv (worth p 1), wait p l t (worth p p.2.1 - worth p w), wait p l t 0) := by
          unfold ask; rw [if_pos hfw]; simp only [if_neg hn, decide_eq_false hn, if_neg hh]
        (refine CallN.intro (worthM p h1 w hw) [] rfl rfl ?_ ?_ ?_; ((repeat' (first | exact rfl | exact trivial | refine And.intro ?_ ?_ | ((conv => whnf); first | exact rfl | exact trivial | refine And.intro ?_ ?_)))); ((repeat' (first | exact rfl | exact trivial | refine And.intro ?_ ?_ | ((conv => whnf); first | exact rfl | exact trivial | refine And.intro ?_ ?_)))); (intro y hy; clear y hy; (repeat' ((conv => whnf); first | refine And.intro ?_ ?_ | exact Cl.mk (by kernel_rfl) | exact Ck.mk (by kernel_rfl) | exact trivial | exact rfl | (intro hh; try simp only [decide_eq_true_eq, decide_eq_false_iff_not, beq_iff_eq, beq_eq_false_iff_ne, bne_iff_ne, bne_eq_false_iff_eq, Bool.not_eq_true', Bool.not_eq_false', Bool.not_true, Bool.not_false] at hh; try exact absurd hh (by decide)))); all_goals (conv => whnf); (all_goals first | (exact Ob.mk (by decide)) | skip)))
        simp only [e3]
        (refine CallN.intro (waitM p l t (worth p p.2.1 - worth p w) h1 h5 (by omega)) [] rfl rfl ?_ ?_ ?_; ((repeat' (first | exact rfl | exact trivial | refine And.intro ?_ ?_ | ((conv => whnf); first | exact rfl | exact trivial | refine And.intro ?_ ?_)))); ((repeat' (first | exact rfl | exact trivial | refine And.intro ?_ ?_ | ((conv => whnf); first | exact rfl | exact trivial | refine And.intro ?_ ?_)))); (intro y hy; clear y hy; (repeat' ((conv => whnf); first | refine And.intro ?_ ?_ | exact Cl.mk (by kernel_rfl) | exact Ck.mk (by kernel_rfl) | exact trivial | exact rfl | (intro hh; try simp only [decide_eq_true_eq, decide_eq_false_iff_not, beq_iff_eq, beq_eq_false_iff_ne, bne_iff_ne, bne_eq_false_iff_eq, Bool.not_eq_true', Bool.not_eq_false', Bool.not_true, Bool.not_false] at hh; try exact absurd hh (by decide)))); all_goals (conv => whnf); (all_goals first | (exact Ob.mk (by decide)) | skip)))
        (refine CallN.intro (countsM p l t h1 h5 (by omega)) [] rfl rfl ?_ ?_ ?_; ((repeat' (first | exact rfl | exact trivial | refine And.intro ?_ ?_ | ((conv => whnf); first | exact rfl | exact trivial | refine And.intro ?_ ?_)))); ((repeat' (first | exact rfl | exact trivial | refine And.intro ?_ ?_ | ((conv => whnf); first | exact rfl | exact trivial | refine And.intro ?_ ?_)))); (intro y hy; clear y hy; (repeat' ((conv => whnf); first | refine And.intro ?_ ?_ | exact Cl.mk (by kernel_rfl) | exact Ck.mk (by kernel_rfl) | exact trivial | exact rfl | (intro hh; try simp only [decide_eq_true_eq, decide_eq_false_iff_not, beq_iff_eq, beq_eq_false_iff_ne, bne_iff_ne, bne_eq_false_iff_eq, Bool.not_eq_true', Bool.not_eq_false', Bool.not_true, Bool.not_false] at hh; try exact absurd hh (by decide)))); all_goals (conv => whnf); (all_goals first | (exact Ob.mk (by decide)) | skip)))
        (refine CallN.intro (worthM p h1 1 (by omega)) [] rfl rfl ?_ ?_ ?_; ((repeat' (first | exact rfl | exact trivial | refine And.intro ?_ ?_ | ((conv => whnf); first | exact rfl | exact trivial | refine And.intro ?_ ?_)))); ((repeat' (first | exact rfl | exact trivial | refine And.intro ?_ ?_ | ((conv => whnf); first | exact rfl | exact trivial | refine And.intro ?_ ?_)))); (intro y hy; clear y hy; (repeat' ((conv => whnf); first | refine And.intro ?_ ?_ | exact Cl.mk (by kernel_rfl) | exact Ck.mk (by kernel_rfl) | exact trivial | exact rfl | (intro hh; try simp only [decide_eq_true_eq, decide_eq_false_iff_not, beq_iff_eq, beq_eq_false_iff_ne, bne_iff_ne, bne_eq_false_iff_eq, Bool.not_eq_true', Bool.not_eq_false', Bool.not_true, Bool.not_false] at hh; try exact absurd hh (by decide)))); all_goals (conv => whnf); (all_goals first | (exact Ob.mk (by decide)) | skip)))
        · exact Ob.mk (by simp only []; omega)
        (refine CallN.intro (waitM p l t 0 h1 h5 (by omega)) [] rfl rfl ?_ ?_ ?_; ((repeat' (first | exact rfl | exact trivial | refine And.intro ?_ ?_ | ((conv => whnf); first | exact rfl | exact trivial | refine And.intro ?_ ?_)))); ((repeat' (first | exact rfl | exact trivial | refine And.intro ?_ ?_ | ((conv => whnf); first | exact rfl | exact trivial | refine And.intro ?_ ?_)))); (intro y hy; clear y hy; (repeat' ((conv => whnf); first | refine And.intro ?_ ?_ | exact Cl.mk (by kernel_rfl) | exact Ck.mk (by kernel_rfl) | exact trivial | exact rfl | (intro hh; try simp only [decide_eq_true_eq, decide_eq_false_iff_not, beq_iff_eq, beq_eq_false_iff_ne, bne_iff_ne, bne_eq_false_iff_eq, Bool.not_eq_true', Bool.not_eq_false', Bool.not_true, Bool.not_false] at hh; try exact absurd hh (by decide)))); all_goals (conv => whnf); (all_goals first | (exact Ob.mk (by decide)) | skip)))
        (refine RetN.intro () [] rfl rfl ?_ ?_ ?_; ((repeat' (first | exact rfl | exact trivial | refine And.intro ?_ ?_ | ((conv => whnf); first | exact rfl | exact trivial | refine And.intro ?_ ?_)))); ((repeat' (first | exact rfl | exact trivial | refine And.intro ?_ ?_ | ((conv => whnf); first | exact rfl | exact trivial | refine And.intro ?_ ?_))); all_goals (conv => whnf); all_goals (try simp only [])))
        all_goals rw [ha]
        exact rem_eq (by omega) hcb h1b.1
  · have ha : ask p l t w = (l, false, 0, 0, 0) := by
      unfold ask; rw [hh, Bool.false_and]; rfl
    (refine RetN.intro () [] rfl rfl ?_ ?_ ?_; ((repeat' (first | exact rfl | exact trivial | refine And.intro ?_ ?_ | ((conv => whnf); first | exact rfl | exact trivial | refine And.intro ?_ ?_)))); ((repeat' (first | exact rfl | exact trivial | refine And.intro ?_ ?_ | ((conv => whnf); first | exact rfl | exact trivial | refine And.intro ?_ ?_))); all_goals (conv => whnf); all_goals (try simp only [])))
    all_goals rw [ha]
end Go.Proofs.Ytclfhgfdnnifbaa.Hi
set_option linter.unusedVariables false
set_option linter.unusedSimpArgs false
namespace Go.Proofs.Ytclfhgfdnnifbaa.Hi
open Go Go.RowKit Fw Po
/-- The weights of all, and what counts. -/
def rc (p : Pol) (t : Int) (l : List Hit) : Int × Int := (if p.1 = 1 then those (fun _ => true) l else 0, counts p l t)
theorem lev_sum (p : Pol) (t : Int) (l : List Hit) : (lev p t l).1 = p.2.2.1 * those (fun _ => true) l := by
  induction l with
  | nil => simp [lev, those]
  | cons x r ih =>
    simp only [lev, those, ih, if_true, Int.mul_add]
    rw [Int.mul_comm x.2, Int.add_comm]
theorem counts_cons (p : Pol) (t : Int) (x : Hit) (l : List Hit) (h : p.1 ≠ 1) : counts p (x :: l) t = if cq p t x.1 then counts p l t + x.2 else counts p l t := by
  unfold counts; rw [if_neg h, those]; rw [if_neg h]; split <;> omega
theorem rc_one {p : Pol} (h : p.1 = 1) (t : Int) (z : Hit) (D : List Hit) : rc p t (z :: D) = (those (fun _ => true) D + z.2, max (counts p D t) (p.2.2.1 * (those (fun _ => true) D + z.2) - p.2.1 * (t - z.1))) := by
  have e := lev_sum p t D
  simp only [rc, counts, if_pos h, lev, those, if_true, e, Int.mul_add]
  rw [Int.mul_comm z.2, Int.add_comm]
theorem rc_other {p : Pol} (h : p.1 ≠ 1) (t : Int) (z : Hit) (D : List Hit) : rc p t (z :: D) = (0, if cq p t z.1 then counts p D t + z.2 else counts p D t) := by
  simp only [rc, if_neg h, counts_cons p t z D h]
theorem rcountsM (p : Pol) (l : List Hit) (t : Int) (hp : PolOk p) (hl : HOk l t) (ht : 0 ≤ t ∧ t ≤ 2199023255552) : Meets Try.prog 28 [polAV p, .lst HitT fun _ => l, .int .i64 fun _ => t] [] (Y := Unit) (fun _ => True) (fun _ => .int .i64 fun _ => counts p l t) (fun _ => []) := by
  have hs := slot_bound hp
  have hk := hp.kind
  have hL := hp.limit
  have hW := hp.window
  have hlen := hl.len
  refine Meets.intro hm (fn := Try.f28) Try.func28 rfl (by decide) (Nat.le_of_ble_eq_true rfl) (fun _ => rfl) ?_; intro S hok; (conv => whnf)
  (repeat' ((conv => whnf); first | refine And.intro ?_ ?_ | exact Cl.mk (by kernel_rfl) | exact Ck.mk (by kernel_rfl) | exact trivial | exact rfl | (intro hh; try simp only [decide_eq_true_eq, decide_eq_false_iff_not, beq_iff_eq, beq_eq_false_iff_ne, bne_iff_ne, bne_eq_false_iff_eq, Bool.not_eq_true', Bool.not_eq_false', Bool.not_true, Bool.not_false] at hh))); all_goals (conv => whnf)
  refine LoopN.intro hm (X := Nat) (fun k => k ≤ l.length) (fun k => l.length - k)
    (fun k => [(9, .int .i64 fun _ => (l.length : Int) - 1 - k), (8, .int .i64 fun _ => (rc p t (l.drop (l.length - k))).1), (7, .int .i64 fun _ => (rc p t (l.drop (l.length - k))).2), (3, .ptr 0 0), (1, .lst HitT fun _ => l), (2, .int .i64 fun _ => t)])
    (fun i => [.cells 23 [.int .i64 fun _ => p.1, .int .i64 fun _ => p.2.1, .int .i64 fun _ => p.2.2.1, .int .i64 fun _ => p.2.2.2]]) 0 [0] ⟨rfl, rfl, ?_, ?_⟩ (Nat.zero_le _) (fun k hk => ?_)
  · (repeat' (first | exact rfl | exact trivial | refine And.intro ?_ ?_ | ((conv => whnf); first | exact rfl | exact trivial | refine And.intro ?_ ?_)))
  · (repeat' (first | exact rfl | exact trivial | refine And.intro ?_ ?_ | ((conv => whnf); first | exact rfl | exact trivial | refine And.intro ?_ ?_))); all_goals (conv => whnf); all_goals (try simp only [])
    · rw [wr (by omega)]; simp
    · simp [rc, those]
    · simp [rc, counts, those, lev]
  · have hB := hp.ringB
    have hR := hp.ring
    have hD := hl.drop (l.length - k)
    have hbi := backs_inv (l := l) (k := k)
    have hdl : ((l.drop (l.length - k)).length : Int) ≤ 64 := by rw [List.length_drop]; omega
    have hx' : k < l.length → l.getD ((l.length : Int) - 1 - k).toNat HitT.dflt = l.getD (l.length - 1 - k) (0, 0) := fun h => by
      rw [show ((l.length : Int) - 1 - k).toNat = l.length - 1 - k by omega]; rfl
    have hmem : k < l.length → l.getD (l.length - 1 - k) (0, 0) ∈ l := fun h => getD_mem (by omega)
    by_cases hkl : k < l.length
    · have hx' := hx' hkl
      have hmem := hmem hkl
      have hbi := hbi hkl
      have htk := hl.tick _ hmem
      have hwt := hl.weight _ hmem
      generalize l.getD (l.length - 1 - k) (0, 0) = z at *
      generalize l.drop (l.length - k) = D at *
      have hS := those_bound (q := fun _ => true) D hD
      have hC := counts_bound hp hD
      have hT := those_bound (q := cq p t) D hD
      have eI : IntKind.i64.wrap ((l.length : Int) - 1 - k - 1) = (l.length : Int) - 1 - ((k + 1 : Nat) : Int) := by rw [wr (by omega)]; omega
      have eS : p.1 = 3 → IntKind.i64.wrap (p.2.2.1.tdiv p.2.2.2) = slotOf p := fun h => by
        have : slotOf p = p.2.2.1.tdiv p.2.2.2 := if_pos h
        rw [← this]; exact wr (by omega)
      have e2 : p.1 ≠ 3 → slotOf p = p.2.2.1 := fun h => if_neg h
      (repeat' ((conv => whnf); first | refine And.intro ?_ ?_ | exact Cl.mk (by kernel_rfl) | exact Ck.mk (by kernel_rfl) | exact trivial | exact rfl | (intro hh; try simp only [decide_eq_true_eq, decide_eq_false_iff_not, beq_iff_eq, beq_eq_false_iff_ne, bne_iff_ne, bne_eq_false_iff_eq, Bool.not_eq_true', Bool.not_eq_false', Bool.not_true, Bool.not_false] at hh))); all_goals (conv => whnf)
      all_goals (try simp only [hx', eI] at *)
      all_goals first | (exact Ob.mk (by simp only []; omega)) | skip
      all_goals first | (refine Ob.mk ?_; (try simp only [eS hh]); omega) | skip
      all_goals first | (refine Ob.mk ?_; (try simp only [eS ‹p.1 = 3›]); omega) | skip
      · have b1 : 0 ≤ p.2.2.1 * (those (fun _ => true) D + z.2) := Int.mul_nonneg (by omega) (by omega)
        have b2 : p.2.2.1 * (those (fun _ => true) D + z.2) ≤ 1048576 * 134217728 := Int.mul_le_mul hW.2 (by omega) (by omega) (by omega)
        have b3 : 0 ≤ p.2.1 * (t - z.1) := Int.mul_nonneg (by omega) (by omega)
        have b4 : p.2.1 * (t - z.1) ≤ 1048576 * 2199023255552 := Int.mul_le_mul hL.2 (by omega) (by omega) (by omega)
        have f1 : rc p t D = (those (fun _ => true) D, counts p D t) := by rw [rc, if_pos hh]
        refine ⟨k + 1, [0], ⟨rfl, rfl, ?_, ?_⟩, hkl, by omega⟩
        · (repeat' (first | exact rfl | exact trivial | refine And.intro ?_ ?_ | ((conv => whnf); first | exact rfl | exact trivial | refine And.intro ?_ ?_)))
        · rw [hbi, rc_one hh]
          (repeat' (first | exact rfl | exact trivial | refine And.intro ?_ ?_ | ((conv => whnf); first | exact rfl | exact trivial | refine And.intro ?_ ?_))); all_goals (conv => whnf); all_goals (try simp only [])
          all_goals simp only [f1]
          · exact wr (by omega)
          · simp (disch := omega) only [wr]
            split <;> omega
      all_goals try (exfalso; omega)
      all_goals have f2 := rc_other ‹p.1 ≠ 1› t z D
      all_goals have f1 : rc p t D = (0, counts p D t) := by rw [rc, if_neg ‹p.1 ≠ 1›]
      all_goals have b1 := tdiv_bound (a := t) (s := slotOf p) (by omega) (by omega) hs.1
      all_goals have b2 := tdiv_bound (a := z.1) (s := slotOf p) (by omega) (by omega) hs.1
      · have hc : cq p t z.1 = true := by
          unfold cq; rw [if_pos ‹p.1 = 2›, e2 (by omega)]; exact decide_eq_true (by rw [e2 (by omega)] at b1 b2; rw [wr (by omega), wr (by omega)] at hh; exact hh)
        refine ⟨k + 1, [0], ⟨rfl, rfl, ?_, ?_⟩, hkl, by omega⟩
        · (repeat' (first | exact rfl | exact trivial | refine And.intro ?_ ?_ | ((conv => whnf); first | exact rfl | exact trivial | refine And.intro ?_ ?_)))
        · rw [hbi, f2, hc]
          (repeat' (first | exact rfl | exact trivial | refine And.intro ?_ ?_ | ((conv => whnf); first | exact rfl | exact trivial | refine And.intro ?_ ?_))); all_goals (conv => whnf); all_goals (try simp only [])
          all_goals simp only [f1]
          rw [if_pos trivial]; exact wr (by omega)
      · have hc : cq p t z.1 = false := by
          unfold cq; rw [if_pos ‹p.1 = 2›, e2 (by omega)]; exact decide_eq_false (by rw [e2 (by omega)] at b1 b2; rw [wr (by omega), wr (by omega)] at hh; exact hh)
        refine ⟨k + 1, [0], ⟨rfl, rfl, ?_, ?_⟩, hkl, by omega⟩
        · (repeat' (first | exact rfl | exact trivial | refine And.intro ?_ ?_ | ((conv => whnf); first | exact rfl | exact trivial | refine And.intro ?_ ?_)))
        · rw [hbi, f2, hc]
          (repeat' (first | exact rfl | exact trivial | refine And.intro ?_ ?_ | ((conv => whnf); first | exact rfl | exact trivial | refine And.intro ?_ ?_))); all_goals (conv => whnf); all_goals (try simp only [])
          all_goals simp only [f1]
      · have hc : cq p t z.1 = true := by
          unfold cq; rw [if_neg (by omega), if_pos ‹p.1 = 3›]; exact decide_eq_true (by have hh3 := eS ‹p.1 = 3›; rw [hh3] at hh; rw [wr (x := t.tdiv (slotOf p)) (by omega), wr (x := z.1.tdiv (slotOf p)) (by omega), wr (by omega)] at hh; omega)
        refine ⟨k + 1, [0], ⟨rfl, rfl, ?_, ?_⟩, hkl, by omega⟩
        · (repeat' (first | exact rfl | exact trivial | refine And.intro ?_ ?_ | ((conv => whnf); first | exact rfl | exact trivial | refine And.intro ?_ ?_)))
        · rw [hbi, f2, hc]
          (repeat' (first | exact rfl | exact trivial | refine And.intro ?_ ?_ | ((conv => whnf); first | exact rfl | exact trivial | refine And.intro ?_ ?_))); all_goals (conv => whnf); all_goals (try simp only [])
          all_goals simp only [f1]
          rw [if_pos trivial]; exact wr (by omega)
      · have hc : cq p t z.1 = false := by
          unfold cq; rw [if_neg (by omega), if_pos ‹p.1 = 3›]; exact decide_eq_false (by have hh3 := eS ‹p.1 = 3›; rw [hh3] at hh; rw [wr (x := t.tdiv (slotOf p)) (by omega), wr (x := z.1.tdiv (slotOf p)) (by omega), wr (by omega)] at hh; omega)
        refine ⟨k + 1, [0], ⟨rfl, rfl, ?_, ?_⟩, hkl, by omega⟩
        · (repeat' (first | exact rfl | exact trivial | refine And.intro ?_ ?_ | ((conv => whnf); first | exact rfl | exact trivial | refine And.intro ?_ ?_)))
        · rw [hbi, f2, hc]
          (repeat' (first | exact rfl | exact trivial | refine And.intro ?_ ?_ | ((conv => whnf); first | exact rfl | exact trivial | refine And.intro ?_ ?_))); all_goals (conv => whnf); all_goals (try simp only [])
          all_goals simp only [f1]
      · have hc : cq p t z.1 = true := by
          unfold cq; rw [if_neg (by omega), if_neg (by omega)]; exact decide_eq_true (by rw [wr (by omega)] at hh; omega)
        refine ⟨k + 1, [0], ⟨rfl, rfl, ?_, ?_⟩, hkl, by omega⟩
        · (repeat' (first | exact rfl | exact trivial | refine And.intro ?_ ?_ | ((conv => whnf); first | exact rfl | exact trivial | refine And.intro ?_ ?_)))
        · rw [hbi, f2, hc]
          (repeat' (first | exact rfl | exact trivial | refine And.intro ?_ ?_ | ((conv => whnf); first | exact rfl | exact trivial | refine And.intro ?_ ?_))); all_goals (conv => whnf); all_goals (try simp only [])
          all_goals simp only [f1]
          rw [if_pos trivial]; exact wr (by omega)
      · have hc : cq p t z.1 = false := by
          unfold cq; rw [if_neg (by omega), if_neg (by omega)]; exact decide_eq_false (by rw [wr (by omega)] at hh; omega)
        refine ⟨k + 1, [0], ⟨rfl, rfl, ?_, ?_⟩, hkl, by omega⟩
        · (repeat' (first | exact rfl | exact trivial | refine And.intro ?_ ?_ | ((conv => whnf); first | exact rfl | exact trivial | refine And.intro ?_ ?_)))
        · rw [hbi, f2, hc]
          (repeat' (first | exact rfl | exact trivial | refine And.intro ?_ ?_ | ((conv => whnf); first | exact rfl | exact trivial | refine And.intro ?_ ?_))); all_goals (conv => whnf); all_goals (try simp only [])
          all_goals simp only [f1]
    · (repeat' ((conv => whnf); first | refine And.intro ?_ ?_ | exact Cl.mk (by kernel_rfl) | exact Ck.mk (by kernel_rfl) | exact trivial | exact rfl | (intro hh; try simp only [decide_eq_true_eq, decide_eq_false_iff_not, beq_iff_eq, beq_eq_false_iff_ne, bne_iff_ne, bne_eq_false_iff_eq, Bool.not_eq_true', Bool.not_eq_false', Bool.not_true, Bool.not_false] at hh))); all_goals (conv => whnf)
      all_goals try (exfalso; omega)
      have e : k = l.length := by omega
      (refine RetN.intro () [] rfl rfl ?_ ?_ ?_; ((repeat' (first | exact rfl | exact trivial | refine And.intro ?_ ?_ | ((conv => whnf); first | exact rfl | exact trivial | refine And.intro ?_ ?_)))); ((repeat' (first | exact rfl | exact trivial | refine And.intro ?_ ?_ | ((conv => whnf); first | exact rfl | exact trivial | refine And.intro ?_ ?_))); all_goals (conv => whnf); all_goals (try simp only [])))
      rw [e, Nat.sub_self, List.drop_zero]; rfl
end Go.Proofs.Ytclfhgfdnnifbaa.Hi
