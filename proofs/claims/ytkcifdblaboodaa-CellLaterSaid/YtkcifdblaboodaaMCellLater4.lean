/- The law CellLater holds at every input that its statement lets in; part 5 of its proof. -/
import Derived.Test.YtkcifdblaboodaaMCellLater3
import Derived.ProofKit
import Derived.OpenShut
import Derived.JoinedCond
import Derived.Test.YtkcifdblaboodaaRows
set_option linter.unusedVariables false
set_option linter.unusedSimpArgs false
namespace Go.Proofs.Ytkcifdblaboodaa.Hi
open Go Go.RowKit Fw Po
theorem fits_iff {p : Pol} {l : List Hit} {t : Int} (h : fits p l t = true) (hl : l.length ≤ 64) : PolOk p ∧ may l = true ∧ 0 ≤ t ∧ t ≤ 1099511627776 ∧ HOk l t := by
  simp only [fits, Bool.and_eq_true, decide_eq_true_eq] at h
  obtain ⟨⟨⟨⟨⟨h1, h2⟩, h3⟩, h4⟩, h5⟩, h6⟩ := h
  refine ⟨h1, h2, h3, h4, ?_⟩
  by_cases h0 : 0 < l.length
  · have := may_take h2 hl (i := l.length - 1) (by omega)
    rw [show l.length - 1 + 1 = l.length by omega, List.take_length] at this
    rw [last_at h0] at h5
    exact this.up (of_decide_eq_true h5)
  · have : l = [] := List.eq_nil_of_length_eq_zero (by omega)
    subst this
    exact ⟨by simp, by simp, by simp⟩
theorem countsRM (p : Pol) (l : List Hit) (t : Int) (hl : l.length ≤ 64) : Meets Try.prog 25 [polAV p, .lst HitT fun _ => l, .int .i64 fun _ => t] [] (Y := Unit) (fun _ => True) (fun _ => .int .i64 fun _ => countsR p l t) (fun _ => []) := by
  refine Meets.intro hm (fn := Try.f25) Try.func25 rfl (by decide) (Nat.le_of_ble_eq_true rfl) (fun _ => rfl) ?_; intro S hok; (conv => whnf)
  (repeat' ((conv => whnf); first | apply And.intro | exact ⟨by kernel_rfl⟩ | apply DrawN.mk | apply CodeN.step hm rfl | exact trivial | exact rfl | (intro hh; try simp only [bs] at hh))); all_goals (conv => whnf)
  (refine CallN.q (fitsM p l t hl) [] (fun _ _ => ?_); (repeat' ((conv => whnf); first | apply And.intro | exact ⟨by kernel_rfl⟩ | apply DrawN.mk | apply CodeN.step hm rfl | exact trivial | exact rfl | (intro hh; try simp only [bs] at hh; try exact absurd hh (by decide)))); all_goals (conv => whnf); all_goals try exact ⟨by decide⟩)
  · (refine RetN.q () [] ?_ ?_ ?_ <;> (repeat' ((conv => whnf) <;> first | exact rfl | exact trivial | apply And.intro | exact Nat.zero_add _)); all_goals ((conv => whnf); try simp only []))
    simp [countsR, hh]
  · obtain ⟨h1, h2, h3, h4, h5⟩ := fits_iff hh hl
    (refine CallN.q (countsM p l t h1 h5 (by omega)) [] (fun _ _ => ?_); (repeat' ((conv => whnf); first | apply And.intro | exact ⟨by kernel_rfl⟩ | apply DrawN.mk | apply CodeN.step hm rfl | exact trivial | exact rfl | (intro hh; try simp only [bs] at hh; try exact absurd hh (by decide)))); all_goals (conv => whnf); all_goals try exact ⟨by decide⟩)
    (refine RetN.q () [] ?_ ?_ ?_ <;> (repeat' ((conv => whnf) <;> first | exact rfl | exact trivial | apply And.intro | exact Nat.zero_add _)); all_goals ((conv => whnf); try simp only []))
    simp [countsR, hh]
theorem neutralM (p : Pol) (l : List Hit) (t : Int) (hl : l.length ≤ 64) : Meets Try.prog 15 [polAV p, .lst HitT fun _ => l, .int .i64 fun _ => t] [] (Y := Unit) (fun _ => True) (fun _ => .bool fun _ => neutral p l t) (fun _ => []) := by
  refine Meets.intro hm (fn := Try.f15) Try.func15 rfl (by decide) (Nat.le_of_ble_eq_true rfl) (fun _ => rfl) ?_; intro S hok; (conv => whnf)
  (repeat' ((conv => whnf); first | apply And.intro | exact ⟨by kernel_rfl⟩ | apply DrawN.mk | apply CodeN.step hm rfl | exact trivial | exact rfl | (intro hh; try simp only [bs] at hh))); all_goals (conv => whnf)
  (refine CallN.q (fitsM p l t hl) [] (fun _ _ => ?_); (repeat' ((conv => whnf); first | apply And.intro | exact ⟨by kernel_rfl⟩ | apply DrawN.mk | apply CodeN.step hm rfl | exact trivial | exact rfl | (intro hh; try simp only [bs] at hh; try exact absurd hh (by decide)))); all_goals (conv => whnf); all_goals try exact ⟨by decide⟩)
  · obtain ⟨h1, h2, h3, h4, h5⟩ := fits_iff hh hl
    (refine CallN.q (countsM p l t h1 h5 (by omega)) [] (fun _ _ => ?_); (repeat' ((conv => whnf); first | apply And.intro | exact ⟨by kernel_rfl⟩ | apply DrawN.mk | apply CodeN.step hm rfl | exact trivial | exact rfl | (intro hh; try simp only [bs] at hh; try exact absurd hh (by decide)))); all_goals (conv => whnf); all_goals try exact ⟨by decide⟩)
    (refine RetN.q () [] ?_ ?_ ?_ <;> (repeat' ((conv => whnf) <;> first | exact rfl | exact trivial | apply And.intro | exact Nat.zero_add _)); all_goals ((conv => whnf); try simp only []))
    rw [neutral, hh, Bool.true_and]; rfl
  · (refine RetN.q () [] ?_ ?_ ?_ <;> (repeat' ((conv => whnf) <;> first | exact rfl | exact trivial | apply And.intro | exact Nat.zero_add _)); all_goals ((conv => whnf); try simp only []))
    simp [neutral, hh]
theorem rem_eq {m c d : Int} (hm : 0 ≤ m ∧ m ≤ 1099511627776) (hc : 0 ≤ c ∧ c ≤ 70368744177664) (hd : 1 ≤ d) :
    IntKind.i64.wrap ((if IntKind.i64.wrap (m - c) > 0 then IntKind.i64.wrap (m - c) else 0).tdiv d) = (max 0 (m - c)).tdiv d := by
  rw [wr (x := m - c) (by omega)]
  have e : (if m - c > 0 then m - c else 0) = max 0 (m - c) := by split <;> omega
  rw [e]
  have := tdiv_bound (a := max 0 (m - c)) (s := d) (by omega) (by omega) hd
  exact wr (by omega)
theorem askM (p : Pol) (l : List Hit) (t w : Int) (hl : l.length ≤ 63) : Meets Try.prog 13 [polAV p, .lst HitT fun _ => l, .int .i64 fun _ => t, .int .i64 fun _ => w] [] (Y := Unit) (fun _ => True) (fun _ => .tup [.lst HitT fun _ => (ask p l t w).1, verAV (ask p l t w).2]) (fun _ => []) := by
  refine Meets.intro hm (fn := Try.f13) Try.func13 rfl (by decide) (Nat.le_of_ble_eq_true rfl) (fun _ => rfl) ?_; intro S hok; (conv => whnf)
  (repeat' ((conv => whnf); first | apply And.intro | exact ⟨by kernel_rfl⟩ | apply DrawN.mk | apply CodeN.step hm rfl | exact trivial | exact rfl | (intro hh; try simp only [bs] at hh))); all_goals (conv => whnf)
  (refine CallN.q (fitsM p l t (by omega)) [] (fun _ _ => ?_); (repeat' ((conv => whnf); first | apply And.intro | exact ⟨by kernel_rfl⟩ | apply DrawN.mk | apply CodeN.step hm rfl | exact trivial | exact rfl | (intro hh; try simp only [bs] at hh; try exact absurd hh (by decide)))); all_goals (conv => whnf); all_goals try exact ⟨by decide⟩)
  · (refine CallN.q (weighsM w) [] (fun _ _ => ?_); (repeat' ((conv => whnf); first | apply And.intro | exact ⟨by kernel_rfl⟩ | apply DrawN.mk | apply CodeN.step hm rfl | exact trivial | exact rfl | (intro hh; try simp only [bs] at hh; try exact absurd hh (by decide)))); all_goals (conv => whnf); all_goals try exact ⟨by decide⟩)
    · have ha : ask p l t w = (l, false, 0, 0, 0) := by
        unfold ask; rw [hh, Bool.and_false]; rfl
      (refine RetN.q () [] ?_ ?_ ?_ <;> (repeat' ((conv => whnf) <;> first | exact rfl | exact trivial | apply And.intro | exact Nat.zero_add _)); all_goals ((conv => whnf); try simp only []))
      all_goals rw [ha]
    · obtain ⟨h1, h2, h3, h4, h5⟩ := fits_iff ‹_› (by omega)
      have hw : 1 ≤ w ∧ w ≤ 1048576 := by simpa [weighs] using hh
      have hfw : (fits p l t && weighs w) = true := by rw [‹fits p l t = true›, hh]; rfl
      clear hh
      have hwb := worth_bound h1 hw
      have hcb := counts_bound h1 h5
      have hmb := worth_bound h1 h1.limit
      have h1b := worth_bound h1 (w := 1) (by omega)
      have e1 : IntKind.i64.wrap (counts p l t + worth p w) = counts p l t + worth p w := wr (by omega)
      have e3 : IntKind.i64.wrap (worth p p.2.1 - worth p w) = worth p p.2.1 - worth p w := wr (by omega)
      (refine CallN.q (worthM p h1 p.2.1 h1.limit) [] (fun _ _ => ?_); (repeat' ((conv => whnf); first | apply And.intro | exact ⟨by kernel_rfl⟩ | apply DrawN.mk | apply CodeN.step hm rfl | exact trivial | exact rfl | (intro hh; try simp only [bs] at hh; try exact absurd hh (by decide)))); all_goals (conv => whnf); all_goals try exact ⟨by decide⟩)
      (refine CallN.q (countsM p l t h1 h5 (by omega)) [] (fun _ _ => ?_); (repeat' ((conv => whnf); first | apply And.intro | exact ⟨by kernel_rfl⟩ | apply DrawN.mk | apply CodeN.step hm rfl | exact trivial | exact rfl | (intro hh; try simp only [bs] at hh; try exact absurd hh (by decide)))); all_goals (conv => whnf); all_goals try exact ⟨by decide⟩)
      (refine CallN.q (worthM p h1 w hw) [] (fun _ _ => ?_); (repeat' ((conv => whnf); first | apply And.intro | exact ⟨by kernel_rfl⟩ | apply DrawN.mk | apply CodeN.step hm rfl | exact trivial | exact rfl | (intro hh; try simp only [bs] at hh; try exact absurd hh (by decide)))); all_goals (conv => whnf); all_goals try exact ⟨by decide⟩)
      all_goals (try simp only [e1] at hh ⊢)
      · refine CallN.frz 4 ?_ (concatM [[(t, w)]] (by simp) (by simp)).callable
        (conv => whnf)
        have e : ((((List.take 2 (List.drop 0 [l, List.take 1 (List.drop 0 [(t, w)])]))) : List (List Hit))) = [l, [(t, w)]] := rfl
        have hl' : HOk (l ++ [(t, w)]) t := ⟨fun x hx => by
          rcases List.mem_append.1 hx with hx | hx
          · exact h5.tick x hx
          · simp at hx; subst hx; simp; omega, fun x hx => by
          rcases List.mem_append.1 hx with hx | hx
          · exact h5.weight x hx
          · simp at hx; subst hx; exact hw, by simp; omega⟩
        have ef : [l, [(t, w)]].flatten = l ++ [(t, w)] := by simp
        (refine CallN.q (concatM [l, [(t, w)]] (by rw [ef]; have := hl'.len; simp at this ⊢; omega) (by simp)) [] (fun _ _ => ?_); (repeat' ((conv => whnf); first | apply And.intro | exact ⟨by kernel_rfl⟩ | apply DrawN.mk | apply CodeN.step hm rfl | exact trivial | exact rfl | (intro hh; try simp only [bs] at hh; try exact absurd hh (by decide)))); all_goals (conv => whnf); all_goals try exact ⟨by decide⟩)
        rw [ef]
        have hcb' := counts_bound h1 hl'
        have e5 : (List.take (l ++ [(t, w)]).length (List.drop 0 (l ++ [(t, w)]))) = l ++ [(t, w)] := by rw [List.drop_zero, List.take_length]
        refine CallN.frz 5 ?_ (countsM p l t h1 h5 (by omega)).callable
        (conv => whnf)
        simp only [e5]
        have ha : ask p l t w = (l ++ [(t, w)], true, (max 0 (worth p p.2.1 - counts p (l ++ [(t, w)]) t)).tdiv (worth p 1), 0, wait p (l ++ [(t, w)]) t 0) := by
          unfold ask; rw [if_pos hfw]; simp only [if_pos hh, decide_eq_true hh]
        (refine CallN.q (countsM p (l ++ [(t, w)]) t h1 hl' (by omega)) [] (fun _ _ => ?_); (repeat' ((conv => whnf); first | apply And.intro | exact ⟨by kernel_rfl⟩ | apply DrawN.mk | apply CodeN.step hm rfl | exact trivial | exact rfl | (intro hh; try simp only [bs] at hh; try exact absurd hh (by decide)))); all_goals (conv => whnf); all_goals try exact ⟨by decide⟩)
        (refine CallN.q (worthM p h1 1 (by omega)) [] (fun _ _ => ?_); (repeat' ((conv => whnf); first | apply And.intro | exact ⟨by kernel_rfl⟩ | apply DrawN.mk | apply CodeN.step hm rfl | exact trivial | exact rfl | (intro hh; try simp only [bs] at hh; try exact absurd hh (by decide)))); all_goals (conv => whnf); all_goals try exact ⟨by decide⟩)
        · exact Ob.mk (by simp only []; omega)
        (refine CallN.q (waitM p (l ++ [(t, w)]) t 0 h1 hl' (by omega)) [] (fun _ _ => ?_); (repeat' ((conv => whnf); first | apply And.intro | exact ⟨by kernel_rfl⟩ | apply DrawN.mk | apply CodeN.step hm rfl | exact trivial | exact rfl | (intro hh; try simp only [bs] at hh; try exact absurd hh (by decide)))); all_goals (conv => whnf); all_goals try exact ⟨by decide⟩)
        (refine RetN.q () [] ?_ ?_ ?_ <;> (repeat' ((conv => whnf) <;> first | exact rfl | exact trivial | apply And.intro | exact Nat.zero_add _)); all_goals ((conv => whnf); try simp only []))
        all_goals rw [ha]
        exact rem_eq (by omega) hcb' h1b.1
      · have hn : ¬ counts p l t + worth p w ≤ worth p p.2.1 := by rw [← e1]; assumption
        have ha : ask p l t w = (l, false, (max 0 (worth p p.2.1 - counts p l t)).tdiv (worth p 1), 2199023255552, wait p l t 0) := by
          unfold ask; rw [if_pos hfw]; simp only [if_neg hn, decide_eq_false hn, if_pos hh]
        (refine CallN.q (countsM p l t h1 h5 (by omega)) [] (fun _ _ => ?_); (repeat' ((conv => whnf); first | apply And.intro | exact ⟨by kernel_rfl⟩ | apply DrawN.mk | apply CodeN.step hm rfl | exact trivial | exact rfl | (intro hh; try simp only [bs] at hh; try exact absurd hh (by decide)))); all_goals (conv => whnf); all_goals try exact ⟨by decide⟩)
        (refine CallN.q (worthM p h1 1 (by omega)) [] (fun _ _ => ?_); (repeat' ((conv => whnf); first | apply And.intro | exact ⟨by kernel_rfl⟩ | apply DrawN.mk | apply CodeN.step hm rfl | exact trivial | exact rfl | (intro hh; try simp only [bs] at hh; try exact absurd hh (by decide)))); all_goals (conv => whnf); all_goals try exact ⟨by decide⟩)
        · exact Ob.mk (by simp only []; omega)
        (refine CallN.q (waitM p l t 0 h1 h5 (by omega)) [] (fun _ _ => ?_); (repeat' ((conv => whnf); first | apply And.intro | exact ⟨by kernel_rfl⟩ | apply DrawN.mk | apply CodeN.step hm rfl | exact trivial | exact rfl | (intro hh; try simp only [bs] at hh; try exact absurd hh (by decide)))); all_goals (conv => whnf); all_goals try exact ⟨by decide⟩)
        (refine RetN.q () [] ?_ ?_ ?_ <;> (repeat' ((conv => whnf) <;> first | exact rfl | exact trivial | apply And.intro | exact Nat.zero_add _)); all_goals ((conv => whnf); try simp only []))
        all_goals rw [ha]
        exact rem_eq (by omega) hcb h1b.1
      · have hn : ¬ counts p l t + worth p w ≤ worth p p.2.1 := by rw [← e1]; assumption
        have ha : ask p l t w = (l, false, (max 0 (worth p p.2.1 - counts p l t)).tdiv (worth p 1), wait p l t (worth p p.2.1 - worth p w), wait p l t 0) := by
          unfold ask; rw [if_pos hfw]; simp only [if_neg hn, decide_eq_false hn, if_neg hh]
        (refine CallN.q (worthM p h1 w hw) [] (fun _ _ => ?_); (repeat' ((conv => whnf); first | apply And.intro | exact ⟨by kernel_rfl⟩ | apply DrawN.mk | apply CodeN.step hm rfl | exact trivial | exact rfl | (intro hh; try simp only [bs] at hh; try exact absurd hh (by decide)))); all_goals (conv => whnf); all_goals try exact ⟨by decide⟩)
        simp only [e3]
        (refine CallN.q (waitM p l t (worth p p.2.1 - worth p w) h1 h5 (by omega)) [] (fun _ _ => ?_); (repeat' ((conv => whnf); first | apply And.intro | exact ⟨by kernel_rfl⟩ | apply DrawN.mk | apply CodeN.step hm rfl | exact trivial | exact rfl | (intro hh; try simp only [bs] at hh; try exact absurd hh (by decide)))); all_goals (conv => whnf); all_goals try exact ⟨by decide⟩)
        (refine CallN.q (countsM p l t h1 h5 (by omega)) [] (fun _ _ => ?_); (repeat' ((conv => whnf); first | apply And.intro | exact ⟨by kernel_rfl⟩ | apply DrawN.mk | apply CodeN.step hm rfl | exact trivial | exact rfl | (intro hh; try simp only [bs] at hh; try exact absurd hh (by decide)))); all_goals (conv => whnf); all_goals try exact ⟨by decide⟩)
        (refine CallN.q (worthM p h1 1 (by omega)) [] (fun _ _ => ?_); (repeat' ((conv => whnf); first | apply And.intro | exact ⟨by kernel_rfl⟩ | apply DrawN.mk | apply CodeN.step hm rfl | exact trivial | exact rfl | (intro hh; try simp only [bs] at hh; try exact absurd hh (by decide)))); all_goals (conv => whnf); all_goals try exact ⟨by decide⟩)
        · exact Ob.mk (by simp only []; omega)
        (refine CallN.q (waitM p l t 0 h1 h5 (by omega)) [] (fun _ _ => ?_); (repeat' ((conv => whnf); first | apply And.intro | exact ⟨by kernel_rfl⟩ | apply DrawN.mk | apply CodeN.step hm rfl | exact trivial | exact rfl | (intro hh; try simp only [bs] at hh; try exact absurd hh (by decide)))); all_goals (conv => whnf); all_goals try exact ⟨by decide⟩)
        (refine RetN.q () [] ?_ ?_ ?_ <;> (repeat' ((conv => whnf) <;> first | exact rfl | exact trivial | apply And.intro | exact Nat.zero_add _)); all_goals ((conv => whnf); try simp only []))
        all_goals rw [ha]
        exact rem_eq (by omega) hcb h1b.1
  · have ha : ask p l t w = (l, false, 0, 0, 0) := by
      unfold ask; rw [hh, Bool.false_and]; rfl
    (refine RetN.q () [] ?_ ?_ ?_ <;> (repeat' ((conv => whnf) <;> first | exact rfl | exact trivial | apply And.intro | exact Nat.zero_add _)); all_goals ((conv => whnf); try simp only []))
    all_goals rw [ha]
end Go.Proofs.Ytkcifdblaboodaa.Hi
set_option linter.unusedVariables false
set_option linter.unusedSimpArgs false
namespace Go.Proofs.Ytkcifdblaboodaa.Hi
open Go Go.RowKit Fw Po
/-- The weights of all, and what counts. -/
def rc (p : Pol) (t : Int) (l : List Hit) : Int × Int := (if p.1 = 1 then those (fun _ => true) l else 0, counts p l t)
theorem lev_sum (p : Pol) (t : Int) (l : List Hit) : (lev p t l).1 = p.2.2.1 * those (fun _ => true) l := by
  induction l with
  | nil => simp [lev, those]
  | cons x r ih =>
    simp only [lev, those, ih, if_true, Int.mul_add]
    rw [Int.mul_comm x.2, Int.add_comm]
theorem counts_cons (p : Pol) (t : Int) (x : Hit) (l : List Hit) (h : p.1 ≠ 1) : counts p (x :: l) t = if cq p t x.1 then counts p l t + x.2 else counts p l t := by
  unfold counts; rw [if_neg h, those]; rw [if_neg h]; split <;> omega
theorem rc_one {p : Pol} (h : p.1 = 1) (t : Int) (z : Hit) (D : List Hit) : rc p t (z :: D) = (those (fun _ => true) D + z.2, max (counts p D t) (p.2.2.1 * (those (fun _ => true) D + z.2) - p.2.1 * (t - z.1))) := by
  have e := lev_sum p t D
  simp only [rc, counts, if_pos h, lev, those, if_true, e, Int.mul_add]
  rw [Int.mul_comm z.2, Int.add_comm]
theorem rc_other {p : Pol} (h : p.1 ≠ 1) (t : Int) (z : Hit) (D : List Hit) : rc p t (z :: D) = (0, if cq p t z.1 then counts p D t + z.2 else counts p D t) := by
  simp only [rc, if_neg h, counts_cons p t z D h]
end Go.Proofs.Ytkcifdblaboodaa.Hi
set_option linter.unusedVariables false
set_option linter.unusedSimpArgs false
namespace Go.Proofs.Ytkcifdblaboodaa.Hi
open Go Go.RowKit Fw Po
end Go.Proofs.Ytkcifdblaboodaa.Hi
set_option linter.unusedVariables false
set_option linter.unusedSimpArgs false
namespace Go.Proofs.Ytkcifdblaboodaa.Hi
open Go Go.RowKit Fw Po
abbrev exP : Pol := (1, 2, 10, 0)
abbrev exQ : Pol := (3, 2, 30, 3)
theorem ex1 : ask exP [] 100 2 = ([(100, 2)], true, 0, 0, 10) := by kernel_rfl
theorem ex2 : ask exP [(100, 2)] 101 1 = ([(100, 2)], false, 0, 4, 9) := by kernel_rfl
theorem ex3 : ask exP [(100, 2)] 105 1 = ([(100, 2), (105, 1)], true, 0, 0, 10) := by kernel_rfl
theorem ex4 : ask exP [(100, 2)] 99 1 = ([(100, 2)], false, 0, 0, 0) := by kernel_rfl
theorem ex5 : ask exQ [(5, 1), (14, 1)] 29 1 = ([(5, 1), (14, 1)], false, 0, 1, 11) := by kernel_rfl
theorem ex6 : countsR exP [(100, 2)] 104 = 12 := by kernel_rfl
theorem ex7 : neutral exP [(100, 2)] 110 = true := by kernel_rfl
theorem ex8 : neutral exP [(100, 2)] 109 = false := by kernel_rfl
theorem ex9 : may [(100, 2)] = true := by kernel_rfl
theorem ex10 : may [(5, 1), (4, 1)] = false := by kernel_rfl
set_option maxRecDepth 4000 in
theorem liveM : Meets Try.prog 10 [] [] (Y := Unit) (fun _ => True) (fun _ => .tt) (fun _ => []) := by
  have M1 := askM exP [] 100 2 (by simp)
  have M2 := askM exP [(100, 2)] 101 1 (by simp)
  have M3 := askM exP [(100, 2)] 105 1 (by simp)
  have M4 := askM exP [(100, 2)] 99 1 (by simp)
  have M5 := askM exQ [(5, 1), (14, 1)] 29 1 (by simp)
  have M6 := countsRM exP [(100, 2)] 104 (by simp)
  have M7 := neutralM exP [(100, 2)] 110 (by simp)
  have M8 := neutralM exP [(100, 2)] 109 (by simp)
  have M9 := mayM [(100, 2)] (by simp)
  have M10 := mayM [(5, 1), (4, 1)] (by simp)
  rw [ex1] at M1
  rw [ex2] at M2
  rw [ex3] at M3
  rw [ex4] at M4
  rw [ex5] at M5
  rw [ex6] at M6
  rw [ex7] at M7
  rw [ex8] at M8
  rw [ex9] at M9
  rw [ex10] at M10
  refine Meets.intro hm (fn := Try.f10) Try.func10 rfl (by decide) (Nat.le_of_ble_eq_true rfl) (fun _ => rfl) ?_; intro S hok; (conv => whnf)
  (repeat' ((conv => whnf); first | apply And.intro | exact ⟨by kernel_rfl⟩ | apply DrawN.mk | apply CodeN.step hm rfl | exact trivial | exact rfl | (intro hh; try simp only [bs] at hh))); all_goals (conv => whnf)
  (refine CallN.q M1 [] (fun _ _ => ?_); (repeat' ((conv => whnf); first | apply And.intro | exact ⟨by kernel_rfl⟩ | apply DrawN.mk | apply CodeN.step hm rfl | exact trivial | exact rfl | (intro hh; try simp only [bs] at hh; try exact absurd hh (by decide)))); all_goals (conv => whnf); all_goals try exact ⟨by decide⟩)
  (refine CallN.q M2 [] (fun _ _ => ?_); (repeat' ((conv => whnf); first | apply And.intro | exact ⟨by kernel_rfl⟩ | apply DrawN.mk | apply CodeN.step hm rfl | exact trivial | exact rfl | (intro hh; try simp only [bs] at hh; try exact absurd hh (by decide)))); all_goals (conv => whnf); all_goals try exact ⟨by decide⟩)
  (refine CallN.q M3 [] (fun _ _ => ?_); (repeat' ((conv => whnf); first | apply And.intro | exact ⟨by kernel_rfl⟩ | apply DrawN.mk | apply CodeN.step hm rfl | exact trivial | exact rfl | (intro hh; try simp only [bs] at hh; try exact absurd hh (by decide)))); all_goals (conv => whnf); all_goals try exact ⟨by decide⟩)
  (refine CallN.q M4 [] (fun _ _ => ?_); (repeat' ((conv => whnf); first | apply And.intro | exact ⟨by kernel_rfl⟩ | apply DrawN.mk | apply CodeN.step hm rfl | exact trivial | exact rfl | (intro hh; try simp only [bs] at hh; try exact absurd hh (by decide)))); all_goals (conv => whnf); all_goals try exact ⟨by decide⟩)
  refine CallN.frz 6 ?_ M5.callable
  (conv => whnf)
  (refine CallN.q M5 [] (fun _ _ => ?_); (repeat' ((conv => whnf); first | apply And.intro | exact ⟨by kernel_rfl⟩ | apply DrawN.mk | apply CodeN.step hm rfl | exact trivial | exact rfl | (intro hh; try simp only [bs] at hh; try exact absurd hh (by decide)))); all_goals (conv => whnf); all_goals try exact ⟨by decide⟩)
  (refine CallN.q M6 [] (fun _ _ => ?_); (repeat' ((conv => whnf); first | apply And.intro | exact ⟨by kernel_rfl⟩ | apply DrawN.mk | apply CodeN.step hm rfl | exact trivial | exact rfl | (intro hh; try simp only [bs] at hh; try exact absurd hh (by decide)))); all_goals (conv => whnf); all_goals try exact ⟨by decide⟩)
  (refine CallN.q M7 [] (fun _ _ => ?_); (repeat' ((conv => whnf); first | apply And.intro | exact ⟨by kernel_rfl⟩ | apply DrawN.mk | apply CodeN.step hm rfl | exact trivial | exact rfl | (intro hh; try simp only [bs] at hh; try exact absurd hh (by decide)))); all_goals (conv => whnf); all_goals try exact ⟨by decide⟩)
  (refine CallN.q M8 [] (fun _ _ => ?_); (repeat' ((conv => whnf); first | apply And.intro | exact ⟨by kernel_rfl⟩ | apply DrawN.mk | apply CodeN.step hm rfl | exact trivial | exact rfl | (intro hh; try simp only [bs] at hh; try exact absurd hh (by decide)))); all_goals (conv => whnf); all_goals try exact ⟨by decide⟩)
  (refine CallN.q M9 [] (fun _ _ => ?_); (repeat' ((conv => whnf); first | apply And.intro | exact ⟨by kernel_rfl⟩ | apply DrawN.mk | apply CodeN.step hm rfl | exact trivial | exact rfl | (intro hh; try simp only [bs] at hh; try exact absurd hh (by decide)))); all_goals (conv => whnf); all_goals try exact ⟨by decide⟩)
  refine CallN.frz 8 ?_ M10.callable
  (conv => whnf)
  (refine CallN.q M10 [] (fun _ _ => ?_); (repeat' ((conv => whnf); first | apply And.intro | exact ⟨by kernel_rfl⟩ | apply DrawN.mk | apply CodeN.step hm rfl | exact trivial | exact rfl | (intro hh; try simp only [bs] at hh; try exact absurd hh (by decide)))); all_goals (conv => whnf); all_goals try exact ⟨by decide⟩)
  (refine RetN.q () [] ?_ ?_ ?_ <;> (repeat' ((conv => whnf) <;> first | exact rfl | exact trivial | apply And.intro | exact Nat.zero_add _)); all_goals ((conv => whnf); try simp only []))
abbrev ArrT : Ty := .pair (.int .i64) (.int .i64)
def arrAV (n : Int × Int) : AV := .agg [.int .i64 fun _ => n.1, .int .i64 fun _ => n.2]
/-- Are two verdicts the same? -/
theorem eqVer (x y : Ver) : eqD VerT (x.1, x.2.1, x.2.2.1, x.2.2.2) (y.1, y.2.1, y.2.2.1, y.2.2.2) = decide (x = y) := by
  obtain ⟨a, b, c, d⟩ := x
  obtain ⟨a', b', c', d'⟩ := y
  have h : eqD VerT (a, b, c, d) (a', b', c', d') = (@BEq.beq Bool _ a a' && (@BEq.beq Int _ b b' && (@BEq.beq Int _ c c' && @BEq.beq Int _ d d'))) := rfl
  simp only [h]
  rw [Bool.eq_iff_iff]
  simp
theorem ask_len (p : Pol) (l : List Hit) (t w : Int) : (ask p l t w).1.length ≤ l.length + 1 := by
  unfold ask
  split
  · simp only []; split <;> simp
  · simp
end Go.Proofs.Ytkcifdblaboodaa.Hi
set_option linter.unusedVariables false
set_option linter.unusedSimpArgs false
namespace Go.Proofs.Ytkcifdblaboodaa.Ce
open Go Go.RowKit Fw Hi Po
theorem may_level {p : Pol} {c : Cell} (h : mayC p c = true) : -9223372036854775808 ≤ c.2.1 ∧ c.2.1 ≤ 9223372036854775807 := by
  obtain ⟨hp, _⟩ := may_pol h
  have hL := hp.limit
  have hW := hp.window
  have hLW : p.2.1 * p.2.2.1 ≤ 1048576 * 1048576 := Int.mul_le_mul hL.2 hW.2 (by omega) (by omega)
  rcases kind_of hp with k | k | k | k
  · have := (may1 k).1 h; omega
  · have := (may2 k).1 h; omega
  · have := ((may3 k).1 h).level; omega
  · have := ((may4 k).1 h).level; omega
set_option maxHeartbeats 4000000 in
set_option maxRecDepth 4000 in
theorem sameM (p : Pol) (l : List Hit) (b : Int) : Meets Try.prog 3 [polAV p, .lst HitT fun _ => l, .int .i64 fun _ => b] [] (Y := Unit) (fun _ => True) (fun _ => .tt) (fun _ => []) := by
  refine Meets.intro hm (fn := Try.f3) Try.func3 rfl (by decide) (Nat.le_of_ble_eq_true rfl) (fun _ => rfl) ?_; intro S hok; (conv => whnf)
  (repeat' ((conv => whnf); first | apply And.intro | exact ⟨by kernel_rfl⟩ | apply DrawN.mk | apply CodeN.step hm rfl | exact trivial | exact rfl | (intro hh; try simp only [bs] at hh))); all_goals (conv => whnf)
  all_goals first | (exact Ob.mk (by decide)) | skip
  · by_cases hp : PolOk p
    · refine CallN.intro (rcheckM p) [] rfl rfl ?_ ?_ ?_
      · (repeat' ((conv => whnf) <;> first | exact rfl | exact trivial | apply And.intro | exact Nat.zero_add _))
      · (repeat' ((conv => whnf) <;> first | exact rfl | exact trivial | apply And.intro | exact Nat.zero_add _))
      intro y hy
      rw [if_pos hp]
      clear y hy
      (repeat' ((conv => whnf); first | apply And.intro | exact ⟨by kernel_rfl⟩ | apply DrawN.mk | apply CodeN.step hm rfl | exact trivial | exact rfl | (intro hh; try simp only [bs] at hh; try exact absurd hh (by decide)))); all_goals (conv => whnf)
      all_goals first | (exact Ob.mk (by decide)) | skip
      all_goals first
        | ((refine CallN.q liveM [] (fun _ _ => ?_); (repeat' ((conv => whnf); first | apply And.intro | exact ⟨by kernel_rfl⟩ | apply DrawN.mk | apply CodeN.step hm rfl | exact trivial | exact rfl | (intro hh; try simp only [bs] at hh; try exact absurd hh (by decide)))); all_goals (conv => whnf); all_goals try exact ⟨by decide⟩)
           (refine RetN.q () [] ?_ ?_ ?_ <;> (repeat' ((conv => whnf) <;> first | exact rfl | exact trivial | apply And.intro | exact Nat.zero_add _)); all_goals ((conv => whnf); try simp only [])))
        | skip
      have hl : l.length ≤ 30 := by omega
      have hb : 0 ≤ b ∧ b ≤ 2097152 := by omega
      refine LoopN.intro hm (X := Nat × Cell × List Hit × Int) (fun x => x.1 ≤ l.length ∧ x.2.2.1.length ≤ x.1 ∧ 0 ≤ x.2.2.2 ∧ x.2.2.2 ≤ 1048576 * x.1 ∧ Rel p x.2.1 x.2.2.1 ∧ x.2.1.1 ≤ x.2.2.2) (fun x => l.length - x.1)
        (fun x => [(10, .int .i64 fun _ => (x.1 : Int)), (9, .int .i64 fun _ => x.2.2.2), (8, .lst HitT fun _ => x.2.2.1), (7, .ptr 1 0), (3, .ptr 0 0), (1, .lst HitT fun _ => l), (2, .int .i64 fun _ => b)])
        (fun x => [.cells 23 [.int .i64 fun _ => p.1, .int .i64 fun _ => p.2.1, .int .i64 fun _ => p.2.2.1, .int .i64 fun _ => p.2.2.2], .cells 31 [.int .i64 fun _ => x.2.1.1, .int .i64 fun _ => x.2.1.2.1, .lst (.int .i64) fun _ => x.2.1.2.2.1, .lst HitT fun _ => x.2.1.2.2.2]])
        (0, (0, 0, [], []), [], 0) [0, 1] ⟨rfl, rfl, ?_, ?_⟩ ⟨Nat.zero_le _, Nat.zero_le _, Int.le_refl _, Int.le_refl _, Rel.nil hp, Int.le_refl _⟩ (fun x hx => ?_)
      · (repeat' ((conv => whnf) <;> first | exact rfl | exact trivial | apply And.intro | exact Nat.zero_add _))
      · (repeat' ((conv => whnf) <;> first | exact rfl | exact trivial | apply And.intro | exact Nat.zero_add _))
      · obtain ⟨i, c, h, t⟩ := x
        obtain ⟨hi, hlh, ht0, htb, hr, hct⟩ := hx
        simp only [] at hi hlh ht0 htb hr hct
        have hx' : l.getD (i : Int).toNat HitT.dflt = l.getD i (0, 0) := rfl
        generalize hz : l.getD i (0, 0) = z at hx'
        have hcl := may_level hr.may
        (repeat' ((conv => whnf); first | apply And.intro | exact ⟨by kernel_rfl⟩ | apply DrawN.mk | apply CodeN.step hm rfl | exact trivial | exact rfl | (intro hh; try simp only [bs] at hh))); all_goals (conv => whnf)
        all_goals (try simp only [hx'] at hh ⊢)
        all_goals first | (exact Ob.mk (by decide)) | skip
        all_goals first | ((refine Ob.mk ?_; (try simp only [Ty.dflt, Nat.zero_add, Nat.add_zero, Int.toNat_natCast, Int.toNat_zero, Int.toNat_one, List.length_take, List.length_drop, List.length_append, List.length_replicate, List.length_cons, List.length_nil, List.length_set, List.length_map, true_and, and_true]); omega)) | skip
        all_goals first
          | ((refine CallN.q liveM [] (fun _ _ => ?_); (repeat' ((conv => whnf); first | apply And.intro | exact ⟨by kernel_rfl⟩ | apply DrawN.mk | apply CodeN.step hm rfl | exact trivial | exact rfl | (intro hh; try simp only [bs] at hh; try exact absurd hh (by decide)))); all_goals (conv => whnf); all_goals try exact ⟨by decide⟩)
             (refine RetN.q () [] ?_ ?_ ?_ <;> (repeat' ((conv => whnf) <;> first | exact rfl | exact trivial | apply And.intro | exact Nat.zero_add _)); all_goals ((conv => whnf); try simp only [])))
          | skip
        have hz0 : ¬ (l.getD (i : Int).toNat HitT.dflt).1 < 0 := by assumption
        rw [hx'] at hz0
        have hi1 : i < l.length := by omega
        have e1 : IntKind.i64.wrap (t + z.1) = t + z.1 := wr (by omega)
        have e2 : IntKind.i64.wrap (t + z.1 + b) = t + z.1 + b := wr (by omega)
        have MW := rweighsM z.2
        by_cases hww : weighs z.2 = true
        rotate_left
        · rw [Bool.eq_false_iff.2 hww] at MW
          (refine CallN.q MW [] (fun _ _ => ?_); (repeat' ((conv => whnf); first | apply And.intro | exact ⟨by kernel_rfl⟩ | apply DrawN.mk | apply CodeN.step hm rfl | exact trivial | exact rfl | (intro hh; try simp only [bs] at hh; try exact absurd hh (by decide)))); all_goals (conv => whnf); all_goals try exact ⟨by decide⟩)
          (refine CallN.q liveM [] (fun _ _ => ?_); (repeat' ((conv => whnf); first | apply And.intro | exact ⟨by kernel_rfl⟩ | apply DrawN.mk | apply CodeN.step hm rfl | exact trivial | exact rfl | (intro hh; try simp only [bs] at hh; try exact absurd hh (by decide)))); all_goals (conv => whnf); all_goals try exact ⟨by decide⟩)
          (refine RetN.q () [] ?_ ?_ ?_ <;> (repeat' ((conv => whnf) <;> first | exact rfl | exact trivial | apply And.intro | exact Nat.zero_add _)); all_goals ((conv => whnf); try simp only []))
        rw [hww] at MW
        obtain ⟨q1, q2, q3⟩ := ask_same hr (t := t + z.1) (w := z.2) (by omega) (by omega) hww (by omega)
        have hcl2 := may_level q2.may
        have hlen := ask_len p h (t + z.1) z.2
        have qn1 := neutral_same q2 (t := t + z.1) (by omega) (by omega)
        have qn2 := neutral_same q2 (t := t + z.1 + b) (by omega) (by omega)
        have MC := caskM p c (t + z.1) z.2 hcl
        have MA := askM p h (t + z.1) z.2 (by omega)
        have MN1 := cneutralM p (askC p c (t + z.1) z.2).1 (t + z.1) hcl2
        have MN2 := cneutralM p (askC p c (t + z.1) z.2).1 (t + z.1 + b) hcl2
        have MH1 := neutralM p (Hi.ask p h (t + z.1) z.2).1 (t + z.1) (by omega)
        have MH2 := neutralM p (Hi.ask p h (t + z.1) z.2).1 (t + z.1 + b) (by omega)
        generalize askC p c (t + z.1) z.2 = A at *
        obtain ⟨c1, u⟩ := A
        generalize Hi.ask p h (t + z.1) z.2 = B at *
        obtain ⟨h1, v⟩ := B
        simp only [] at q1 q2 q3 hlen qn1 qn2 MC MA MN1 MN2 MH1 MH2
        subst q1
        rw [← qn1] at MH1
        rw [← qn2] at MH2
        (refine CallN.q MW [] (fun _ _ => ?_); (repeat' ((conv => whnf); first | apply And.intro | exact ⟨by kernel_rfl⟩ | apply DrawN.mk | apply CodeN.step hm rfl | exact trivial | exact rfl | (intro hh; try simp only [bs] at hh; try exact absurd hh (by decide)))); all_goals (conv => whnf); all_goals try exact ⟨by decide⟩)
        all_goals (try simp only [hx', e1, e2])
        all_goals first | ((refine Ob.mk ?_; (try simp only [Ty.dflt, Nat.zero_add, Nat.add_zero, Int.toNat_natCast, Int.toNat_zero, Int.toNat_one, List.length_take, List.length_drop, List.length_append, List.length_replicate, List.length_cons, List.length_nil, List.length_set, List.length_map, true_and, and_true]); omega)) | skip
        all_goals
          (refine CallN.q MC [] (fun _ _ => ?_); (repeat' ((conv => whnf); first | apply And.intro | exact ⟨by kernel_rfl⟩ | apply DrawN.mk | apply CodeN.step hm rfl | exact trivial | exact rfl | (intro hh; try simp only [bs] at hh; try exact absurd hh (by decide)))); all_goals (conv => whnf); all_goals try exact ⟨by decide⟩)
        all_goals (try simp only [hx', e1, e2])
        all_goals first | ((refine Ob.mk ?_; (try simp only [Ty.dflt, Nat.zero_add, Nat.add_zero, Int.toNat_natCast, Int.toNat_zero, Int.toNat_one, List.length_take, List.length_drop, List.length_append, List.length_replicate, List.length_cons, List.length_nil, List.length_set, List.length_map, true_and, and_true]); omega)) | skip
        all_goals
          (refine CallN.q MA [] (fun _ _ => ?_); (repeat' ((conv => whnf); first | apply And.intro | exact ⟨by kernel_rfl⟩ | apply DrawN.mk | apply CodeN.step hm rfl | exact trivial | exact rfl | (intro hh; try simp only [bs] at hh; try exact absurd hh (by decide)))); all_goals (conv => whnf); all_goals try exact ⟨by decide⟩)
        all_goals first | (exfalso; exact (eqD_no (.pair .bool (.pair (.int .i64) (.pair (.int .i64) (.int .i64)))) rfl _ _).1 hh rfl) | skip
        all_goals (try simp only [e2])
        all_goals first
          | ((refine CallN.q MN2 [] (fun _ _ => ?_); (repeat' ((conv => whnf); first | apply And.intro | exact ⟨by kernel_rfl⟩ | apply DrawN.mk | apply CodeN.step hm rfl | exact trivial | exact rfl | (intro hh; try simp only [bs] at hh; try exact absurd hh (by decide)))); all_goals (conv => whnf); all_goals try exact ⟨by decide⟩))
          | skip
        all_goals (try simp only [e2])
        all_goals first
          | ((refine CallN.q MH2 [] (fun _ _ => ?_); (repeat' ((conv => whnf); first | apply And.intro | exact ⟨by kernel_rfl⟩ | apply DrawN.mk | apply CodeN.step hm rfl | exact trivial | exact rfl | (intro hh; try simp only [bs] at hh; try exact absurd hh (by decide)))); all_goals (conv => whnf); all_goals try exact ⟨by decide⟩))
          | skip
        all_goals first | (exfalso; exact hh rfl) | (exfalso; simp at hh; done) | skip
        all_goals (try simp only [e2])
        all_goals first
          | ((refine CallN.q MN1 [] (fun _ _ => ?_); (repeat' ((conv => whnf); first | apply And.intro | exact ⟨by kernel_rfl⟩ | apply DrawN.mk | apply CodeN.step hm rfl | exact trivial | exact rfl | (intro hh; try simp only [bs] at hh; try exact absurd hh (by decide)))); all_goals (conv => whnf); all_goals try exact ⟨by decide⟩))
          | skip
        all_goals first
          | ((refine CallN.q MH1 [] (fun _ _ => ?_); (repeat' ((conv => whnf); first | apply And.intro | exact ⟨by kernel_rfl⟩ | apply DrawN.mk | apply CodeN.step hm rfl | exact trivial | exact rfl | (intro hh; try simp only [bs] at hh; try exact absurd hh (by decide)))); all_goals (conv => whnf); all_goals try exact ⟨by decide⟩))
          | skip
        all_goals first | (exfalso; exact hh rfl) | (exfalso; simp at hh; done) | skip
        all_goals
          first
            | (refine ⟨(i + 1, c1, h1, t + z.1), [0, 1], ⟨rfl, rfl, ?_, ?_⟩, ⟨by simp only []; omega, by simp only []; omega, by simp only []; omega, by simp only []; omega, q2, by simp only []; omega⟩, by simp only []; omega⟩
               · (repeat' ((conv => whnf) <;> first | exact rfl | exact trivial | apply And.intro | exact Nat.zero_add _))
               · (repeat' ((conv => whnf) <;> first | exact rfl | exact trivial | apply And.intro | exact Nat.zero_add _)); all_goals ((conv => whnf); try simp only [])
                 exact wr2 (n := l.length) i (by omega) (by omega))
    · refine CallN.intro (rcheckM p) [] rfl rfl ?_ ?_ ?_
      · (repeat' ((conv => whnf) <;> first | exact rfl | exact trivial | apply And.intro | exact Nat.zero_add _))
      · (repeat' ((conv => whnf) <;> first | exact rfl | exact trivial | apply And.intro | exact Nat.zero_add _))
      intro y hy
      rw [if_neg hp]
      clear y hy
      (repeat' ((conv => whnf); first | apply And.intro | exact ⟨by kernel_rfl⟩ | apply DrawN.mk | apply CodeN.step hm rfl | exact trivial | exact rfl | (intro hh; try simp only [bs] at hh; try exact absurd hh (by decide)))); all_goals (conv => whnf)
      (refine CallN.q liveM [] (fun _ _ => ?_); (repeat' ((conv => whnf); first | apply And.intro | exact ⟨by kernel_rfl⟩ | apply DrawN.mk | apply CodeN.step hm rfl | exact trivial | exact rfl | (intro hh; try simp only [bs] at hh; try exact absurd hh (by decide)))); all_goals (conv => whnf); all_goals try exact ⟨by decide⟩)
      (refine RetN.q () [] ?_ ?_ ?_ <;> (repeat' ((conv => whnf) <;> first | exact rfl | exact trivial | apply And.intro | exact Nat.zero_add _)); all_goals ((conv => whnf); try simp only []))
  · (refine CallN.q liveM [] (fun _ _ => ?_); (repeat' ((conv => whnf); first | apply And.intro | exact ⟨by kernel_rfl⟩ | apply DrawN.mk | apply CodeN.step hm rfl | exact trivial | exact rfl | (intro hh; try simp only [bs] at hh; try exact absurd hh (by decide)))); all_goals (conv => whnf); all_goals try exact ⟨by decide⟩)
    (refine RetN.q () [] ?_ ?_ ?_ <;> (repeat' ((conv => whnf) <;> first | exact rfl | exact trivial | apply And.intro | exact Nat.zero_add _)); all_goals ((conv => whnf); try simp only []))
end Go.Proofs.Ytkcifdblaboodaa.Ce
set_option linter.unusedVariables false
set_option linter.unusedSimpArgs false
namespace Go.Proofs.Ytkcifdblaboodaa.Ce
open Go Go.RowKit Fw Hi Bt
def hitsV : List Hit → List Int
  | [] => []
  | h :: r => h.1 :: h.2 :: hitsV r
def padS (l : List Int) : List Int := l ++ List.replicate (16 - l.length) 0
def padH (l : List Hit) : List Hit := l ++ List.replicate (16 - l.length) (0, 0)
/-- What is packed of a cell, field by field. -/
def vals (c : Cell) : List Int := [c.1, c.2.1] ++ padS c.2.2.1 ++ [(c.2.2.2.length : Int)] ++ hitsV (padH c.2.2.2) ++ [0]
/-- What fits. -/
structure Packs (c : Cell) : Prop where
  at_ : 0 ≤ c.1 ∧ c.1 ≤ 1099511627776
  level : 0 ≤ c.2.1 ∧ c.2.1 ≤ 1099511627776
  slen : c.2.2.1.length ≤ 16
  sums : ∀ x ∈ c.2.2.1, 0 ≤ x ∧ x ≤ 1048576
  hlen : c.2.2.2.length ≤ 16
  hits : ∀ h ∈ c.2.2.2, (0 ≤ h.1 ∧ h.1 ≤ 1099511627776) ∧ 0 ≤ h.2 ∧ h.2 ≤ 16
theorem times_succ (l : List Int) (n : Nat) : times l (n + 1) = l ++ times l n := by simp [times, List.replicate_succ]
theorem fit_sums : ∀ {l : List Int}, (∀ x ∈ l, 0 ≤ x ∧ x ≤ 1048576) → Fit (times [21] l.length) l
  | [], _ => Fit.nil
  | x :: r, h => by
    have h1 := h x (List.mem_cons_self ..)
    rw [List.length_cons, times_succ]
    exact Fit.mk (by decide) ⟨h1.1, by show x.toNat < 2097152; omega⟩ (fit_sums fun y hy => h y (List.mem_cons_of_mem _ hy))
theorem fit_hits : ∀ {l : List Hit}, (∀ h ∈ l, (0 ≤ h.1 ∧ h.1 ≤ 1099511627776) ∧ 0 ≤ h.2 ∧ h.2 ≤ 16) → Fit (times [41, 5] l.length) (hitsV l)
  | [], _ => Fit.nil
  | x :: r, h => by
    have h1 := h x (List.mem_cons_self ..)
    rw [List.length_cons, times_succ]
    exact Fit.mk (by decide) ⟨h1.1.1, by show x.1.toNat < 2199023255552; omega⟩ (Fit.mk (by decide) ⟨h1.2.1, by show x.2.toNat < 32; omega⟩ (fit_hits fun y hy => h y (List.mem_cons_of_mem _ hy)))
theorem padS_len {l : List Int} (h : l.length ≤ 16) : (padS l).length = 16 := by
  rw [padS, List.length_append, List.length_replicate]; omega
theorem padH_len {l : List Hit} (h : l.length ≤ 16) : (padH l).length = 16 := by
  rw [padH, List.length_append, List.length_replicate]; omega
theorem hitsV_len : ∀ l : List Hit, (hitsV l).length = 2 * l.length
  | [] => rfl
  | h :: r => by rw [hitsV, List.length_cons, List.length_cons, List.length_cons, hitsV_len r]; omega
theorem vals_len {c : Cell} (h : Packs c) : (vals c).length = 52 := by
  have h1 := padS_len h.slen
  have h2 := hitsV_len (padH c.2.2.2)
  have h3 := padH_len h.hlen
  simp only [vals, List.length_append, List.length_cons, List.length_nil]
  omega
theorem vals_fit {c : Cell} (h : Packs c) : Fit widthsL (vals c) := by
  have h1 : Fit (times [21] 16) (padS c.2.2.1) := by
    have := fit_sums (l := padS c.2.2.1) fun x hx => by
      rcases List.mem_append.1 hx with hx | hx
      · exact h.sums x hx
      · rw [List.eq_of_mem_replicate hx]; omega
    rwa [padS_len h.slen] at this
  have h2 : Fit (times [41, 5] 16) (hitsV (padH c.2.2.2)) := by
    have := fit_hits (l := padH c.2.2.2) fun x hx => by
      rcases List.mem_append.1 hx with hx | hx
      · exact h.hits x hx
      · rw [List.eq_of_mem_replicate hx]; decide
    rwa [padH_len h.hlen] at this
  have ha := h.at_
  have hl := h.level
  have hh := h.hlen
  exact (((Fit.mk (w := 41) (by decide) ⟨ha.1, by show c.1.toNat < 2199023255552; omega⟩ (Fit.mk (w := 41) (by decide) ⟨hl.1, by show c.2.1.toNat < 2199023255552; omega⟩ Fit.nil)).append h1).append (Fit.mk (w := 5) (by decide) ⟨Int.natCast_nonneg _, by show ((c.2.2.2.length : Int)).toNat < 32; omega⟩ Fit.nil) |>.append h2).append (Fit.mk (w := 57) (v := 0) (by decide) (by decide) Fit.nil)
/-- The number that a cell is, packed. -/
def packC (c : Cell) : Nat := packN widthsL (vals c)
theorem vals_sums {c : Cell} (h : Packs c) {i : Nat} (hi : i < 16) : (vals c).getD (2 + i) 0 = c.2.2.1.getD i 0 := by
  have hl := padS_len h.slen
  have e : vals c = [c.1, c.2.1] ++ (padS c.2.2.1 ++ ([(c.2.2.2.length : Int)] ++ hitsV (padH c.2.2.2) ++ [0])) := by simp [vals]
  rw [e, getD_app, if_neg (by simp), getD_app, if_pos (by simp; omega)]
  rw [show 2 + i - [c.1, c.2.1].length = i by simp, padS, getD_app]
  split
  · rfl
  · rename_i hq
    rw [List.getD_eq_getElem?_getD, List.getElem?_replicate, List.getD_eq_getElem?_getD, List.getElem?_eq_none (by omega)]
    split <;> rfl
theorem vals_n {c : Cell} (h : Packs c) : (vals c).getD 18 0 = c.2.2.2.length := by
  have hl := padS_len h.slen
  have e : vals c = ([c.1, c.2.1] ++ padS c.2.2.1) ++ ((c.2.2.2.length : Int) :: (hitsV (padH c.2.2.2) ++ [0])) := by simp [vals]
  rw [e, getD_app, if_neg (by simp; omega), show 18 - ([c.1, c.2.1] ++ padS c.2.2.1).length = 0 by simp; omega]
  rfl
theorem hitsV_at : ∀ {l : List Hit} {i : Nat}, (hitsV l).getD (2 * i) 0 = (l.getD i (0, 0)).1 ∧ (hitsV l).getD (2 * i + 1) 0 = (l.getD i (0, 0)).2
  | [], i => by simp [hitsV]
  | h :: r, 0 => ⟨rfl, rfl⟩
  | h :: r, i + 1 => by
    have ih := hitsV_at (l := r) (i := i)
    rw [hitsV, show 2 * (i + 1) = 2 * i + 1 + 1 by omega, List.getD_cons_succ, List.getD_cons_succ, List.getD_cons_succ, List.getD_cons_succ, List.getD_cons_succ]
    exact ih
theorem padH_at {l : List Hit} {i : Nat} : (padH l).getD i (0, 0) = l.getD i (0, 0) := by
  rw [padH, List.getD_eq_getElem?_getD, List.getElem?_append]
  split
  · rfl
  · rw [List.getElem?_replicate, List.getD_eq_getElem?_getD, List.getElem?_eq_none (by omega)]
    split <;> rfl
theorem vals_hits {c : Cell} (h : Packs c) {i : Nat} (hi : i < 16) : (vals c).getD (19 + 2 * i) 0 = (c.2.2.2.getD i (0, 0)).1 ∧ (vals c).getD (20 + 2 * i) 0 = (c.2.2.2.getD i (0, 0)).2 := by
  have hl := padS_len h.slen
  have hl2 := padH_len h.hlen
  have hl3 := hitsV_len (padH c.2.2.2)
  have e : vals c = ([c.1, c.2.1] ++ padS c.2.2.1 ++ [(c.2.2.2.length : Int)]) ++ (hitsV (padH c.2.2.2) ++ [0]) := by simp [vals]
  have el : ([c.1, c.2.1] ++ padS c.2.2.1 ++ [(c.2.2.2.length : Int)]).length = 19 := by simp; omega
  have hv := hitsV_at (l := padH c.2.2.2) (i := i)
  rw [padH_at] at hv
  constructor
  · rw [e, getD_app, if_neg (by omega), el, show 19 + 2 * i - 19 = 2 * i by omega, getD_app, if_pos (by omega)]; exact hv.1
  · rw [e, getD_app, if_neg (by omega), el, show 20 + 2 * i - 19 = 2 * i + 1 by omega, getD_app, if_pos (by omega)]; exact hv.2
/-! ### Packed, and unpacked -/
theorem mayH_num {a L : Int} : ∀ (l : List Hit) (last : Int), mayHGo a L last l = true → (l.length : Int) ≤ sumH l
  | [], _, _ => Int.le_refl _
  | h :: r, last, hm => by
    simp only [mayHGo, Bool.and_eq_true, decide_eq_true_eq] at hm
    have := mayH_num r h.1 hm.2
    rw [sumH_cons, List.length_cons]; omega
theorem may_packs {p : Pol} {c : Cell} (h : mayC p c = true) : Packs c := by
  obtain ⟨hp, h0, h1⟩ := may_pol h
  have hL := hp.limit
  have hW := hp.window
  have hLW : p.2.1 * p.2.2.1 ≤ 1048576 * 1048576 := Int.mul_le_mul hL.2 hW.2 (by omega) (by omega)
  rcases kind_of hp with k | k | k | k
  · have g := (may1 k).1 h
    refine ⟨⟨h0, h1⟩, ⟨by omega, by omega⟩, ?_, ?_, ?_, ?_⟩
    · rw [g.2.2.2.2.1]; decide
    · rw [g.2.2.2.2.1]; simp
    · rw [g.2.2.2.2.2]; decide
    · rw [g.2.2.2.2.2]; simp
  · have g := (may2 k).1 h
    refine ⟨⟨h0, h1⟩, ⟨by omega, by omega⟩, ?_, ?_, ?_, ?_⟩
    · rw [g.2.2.2.2.1]; decide
    · rw [g.2.2.2.2.1]; simp
    · rw [g.2.2.2.2.2]; decide
    · rw [g.2.2.2.2.2]; simp
  · have g := (may3 k).1 h
    have hB := ring_B hp k
    have hv := g.val
    refine ⟨⟨h0, h1⟩, ⟨by rw [g.level]; omega, by rw [g.level]; omega⟩, ?_, fun x hx => ?_, ?_, ?_⟩
    · rcases g.len with e | e
      · rw [e]; decide
      · omega
    · have := hv x hx
      omega
    · rw [g.hits]; decide
    · rw [g.hits]; simp
  · have g := (may4 k).1 h
    have hl := mayH_num _ _ g.go
    have hs := g.sum
    have hx := hp.exact_ k
    refine ⟨⟨h0, h1⟩, ⟨by rw [g.level]; omega, by rw [g.level]; omega⟩, ?_, ?_, by omega, fun x hx => ?_⟩
    · rw [g.sums]; decide
    · rw [g.sums]; simp
    · have := mayH_mem _ _ g.go x hx
      omega
def cellOf (p : Pol) (v : List Int) : Cell := (v.getD 0 0, v.getD 1 0, (if p.1 = 3 then (List.range (min (max p.2.2.2 0) 16).toNat).map (fun i => v.getD (2 + i) 0) else []), (List.range (min (v.getD 18 0) 16).toNat).map fun i => (v.getD (19 + 2 * i) 0, v.getD (20 + 2 * i) 0))
def unpackC (p : Pol) (w : List Int) : Cell × Bool := if w.length = 19 ∧ mayC p (cellOf p (flds widthsL (numOf w))) = true ∧ wordsOf 19 (packC (cellOf p (flds widthsL (numOf w)))) = w then (cellOf p (flds widthsL (numOf w)), true) else ((0, 0, [], []), false)
/-- A cell as it is unpacked: a ring's sums are all there. -/
def norm (p : Pol) (c : Cell) : Cell := (c.1, c.2.1, (if p.1 = 3 then (List.range p.2.2.2.toNat).map (fun i => c.2.2.1.getD i 0) else []), c.2.2.2)
theorem cellOf_vals {p : Pol} {c : Cell} (h : mayC p c = true) : cellOf p (vals c) = norm p c := by
  have hk := may_packs h
  obtain ⟨hp, _⟩ := may_pol h
  have hh : (List.range (min ((vals c).getD 18 0) 16).toNat).map (fun i => ((vals c).getD (19 + 2 * i) 0, (vals c).getD (20 + 2 * i) 0)) = c.2.2.2 := by
    rw [vals_n hk]
    have hl := hk.hlen
    rw [show (min (c.2.2.2.length : Int) 16).toNat = c.2.2.2.length by omega]
    apply List.ext_getElem (by simp)
    intro i h1 h2
    have hv := vals_hits hk (i := i) (by omega)
    rw [List.getElem_map, List.getElem_range, hv.1, hv.2, List.getD_eq_getElem?_getD, List.getElem?_eq_getElem h2]
    rfl
  suffices hs : (if p.1 = 3 then (List.range (min (max p.2.2.2 0) 16).toNat).map (fun i => (vals c).getD (2 + i) 0) else []) = if p.1 = 3 then (List.range p.2.2.2.toNat).map (fun i => c.2.2.1.getD i 0) else [] by
    unfold cellOf norm
    rw [hh, hs]; rfl
  by_cases k : p.1 = 3
  · rw [if_pos k, if_pos k]
    have hB := ring_B hp k
    rw [show (min (max p.2.2.2 0) 16).toNat = p.2.2.2.toNat by omega]
    refine List.map_congr_left fun i hi => ?_
    rw [vals_sums hk (by have := List.mem_range.1 hi; omega)]
  · rw [if_neg k, if_neg k]
theorem norm_eq {p : Pol} {c : Cell} (h : mayC p c = true) : norm p c = c ∨ (p.1 = 3 ∧ c.2.2.1 = [] ∧ norm p c = (c.1, c.2.1, List.replicate p.2.2.2.toNat 0, c.2.2.2)) := by
  obtain ⟨hp, _⟩ := may_pol h
  obtain ⟨a, l, s, hs⟩ := c
  rcases kind_of hp with k | k | k | k
  · have g := ((may1 k).1 h).2.2.2.2.1
    simp only [] at g
    left; unfold norm; rw [if_neg (by omega), g]
  · have g := ((may2 k).1 h).2.2.2.2.1
    simp only [] at g
    left; unfold norm; rw [if_neg (by omega), g]
  · have g := ((may3 k).1 h).len
    simp only [] at g
    unfold norm
    rw [if_pos k]
    rcases g with e | e
    · right
      refine ⟨k, e, ?_⟩
      simp only [e]
      congr 3
      apply List.ext_getElem (by simp)
      intro i h1 h2
      simp
    · left
      simp only []
      rw [show p.2.2.2.toNat = s.length by omega, ← list_range s]
  · have g := ((may4 k).1 h).sums
    simp only [] at g
    left; unfold norm; rw [if_neg (by omega), g]
theorem norm_vals {p : Pol} {c : Cell} (h : mayC p c = true) : vals (norm p c) = vals c := by
  obtain ⟨hp, _⟩ := may_pol h
  rcases norm_eq h with e | ⟨k, e, e2⟩
  · rw [e]
  · rw [e2]
    have hB := ring_B hp k
    unfold vals
    simp only [e]
    congr 4
    unfold padS
    rw [List.length_replicate, List.replicate_append_replicate, List.length_nil, List.nil_append]
    congr 1
    omega
theorem norm_may {p : Pol} {c : Cell} (h : mayC p c = true) : mayC p (norm p c) = true := by
  obtain ⟨hp, h0, h1⟩ := may_pol h
  rcases norm_eq h with e | ⟨k, e, e2⟩
  · rw [e]; exact h
  · rw [e2]
    have g := (may3 k).1 h
    have hB := ring_B hp k
    have hL := hp.limit
    refine (may3 k).2 ⟨hp, g.time, g.level, g.hits, .inr ?_, ?_, ?_, fun j _ => ?_⟩
    · simp only [List.length_replicate]; omega
    · intro x hx
      rw [List.eq_of_mem_replicate hx]
      omega
    · simp; omega
    · simp [List.getD_eq_getElem?_getD, List.getElem?_replicate]
      split <;> rfl
theorem norm_moved {p : Pol} {c : Cell} (h : mayC p c = true) (t : Int) : moved p (norm p c) t = moved p c t ∧ cnt p (norm p c) t = cnt p c t := by
  rcases norm_eq h with e | ⟨k, e, e2⟩
  · rw [e]; exact ⟨rfl, rfl⟩
  · have ea : atR p (norm p c) t = atR p c t := by
      unfold atR
      refine List.map_congr_left fun j hj => ?_
      rw [e2]
      simp only [e]
      congr 1
      simp [List.getD_eq_getElem?_getD, List.getElem?_replicate]
      split <;> rfl
    unfold moved cnt
    simp only [if_neg (show ¬ p.1 = 1 by omega), if_neg (show ¬ p.1 = 2 by omega), if_neg (show ¬ (p.1 = 1 ∨ p.1 = 2) by omega), if_pos k, ea]
    exact ⟨trivial, trivial⟩
theorem norm_ask {p : Pol} {c : Cell} (h : mayC p c = true) (t w : Int) : (askC p (norm p c) t w).2 = (askC p c t w).2 := by
  unfold askC
  rw [norm_may h, h, show (norm p c).1 = c.1 from rfl, (norm_moved h _).1]
  split <;> first | rfl | (split <;> rfl)
theorem norm_ends {p : Pol} {c : Cell} (h : mayC p c = true) : endsC p (norm p c) = endsC p c := by
  unfold endsC
  rw [norm_may h, h, show (norm p c).1 = c.1 from rfl, (norm_moved h _).1]
theorem widths_nonneg : ∀ w ∈ widthsL, 0 ≤ w ∧ w ≤ 64 := by decide
theorem widths_sum : widthsL.sum = 1216 := by decide
set_option exponentiation.threshold 2000 in
theorem pack_lt {c : Cell} (h : Packs c) : packC c < 2 ^ (64 * 19) := by
  have := packN_lt (vals_fit h) widthsL.length (Nat.le_refl _)
  rw [List.take_length, (vals_fit h).1, List.take_length, widths_sum] at this
  exact this
theorem unpack_pack {p : Pol} {c : Cell} (h : mayC p c = true) : unpackC p (wordsOf 19 (packC c)) = (norm p c, true) := by
  have hk := may_packs h
  have e : flds widthsL (numOf (wordsOf 19 (packC c))) = vals c := by
    rw [num_words (pack_lt hk)]
    exact flds_pack (vals_fit hk)
  unfold unpackC
  rw [e, cellOf_vals h, if_pos]
  refine ⟨words_len _ _, norm_may h, ?_⟩
  unfold packC
  rw [norm_vals h]
theorem unpack_back {p : Pol} {w : List Int} (h : (unpackC p w).2 = true) : mayC p (unpackC p w).1 = true ∧ wordsOf 19 (packC (unpackC p w).1) = w := by
  unfold unpackC at h ⊢
  split at h
  · rename_i hh
    rw [if_pos hh]
    exact hh.2
  · exact absurd h (by decide)
end Go.Proofs.Ytkcifdblaboodaa.Ce
set_option linter.unusedVariables false
set_option linter.unusedSimpArgs false
namespace Go.Proofs.Ytkcifdblaboodaa.Ce
open Go Go.RowKit Fw Hi Po Bt
theorem cpackM_no (p : Pol) (c : Cell) (hc : -9223372036854775808 ≤ c.2.1 ∧ c.2.1 ≤ 9223372036854775807) (h : mayC p c = false) : Meets Try.prog 18 [polAV p, cellAV c] [] (Y := Unit) (fun _ => True) (fun _ => .tup [.snil, .ff]) (fun _ => []) := by
  have MM := cmayM p c hc
  rw [h] at MM
  refine Meets.intro hm (fn := Try.f18) Try.func18 rfl (by decide) (Nat.le_of_ble_eq_true rfl) (fun _ => rfl) ?_; intro S hok; (conv => whnf)
  (repeat' ((conv => whnf); first | apply And.intro | exact ⟨by kernel_rfl⟩ | apply DrawN.mk | apply CodeN.step hm rfl | exact trivial | exact rfl | (intro hh; try simp only [bs] at hh))); all_goals (conv => whnf)
  (refine CallN.q MM [] (fun _ _ => ?_); (repeat' ((conv => whnf); first | apply And.intro | exact ⟨by kernel_rfl⟩ | apply DrawN.mk | apply CodeN.step hm rfl | exact trivial | exact rfl | (intro hh; try simp only [bs] at hh; try exact absurd hh (by decide)))); all_goals (conv => whnf); all_goals try exact ⟨by decide⟩)
  (refine RetN.q () [] ?_ ?_ ?_ <;> (repeat' ((conv => whnf) <;> first | exact rfl | exact trivial | apply And.intro | exact Nat.zero_add _)); all_goals ((conv => whnf); try simp only []))
theorem vals_last {c : Cell} (h : Packs c) : (vals c).getD 51 0 = 0 := by
  have hl := padS_len h.slen
  have hl2 := padH_len h.hlen
  have hl3 := hitsV_len (padH c.2.2.2)
  have el : ([c.1, c.2.1] ++ padS c.2.2.1 ++ [(c.2.2.2.length : Int)] ++ hitsV (padH c.2.2.2)).length = 51 := by simp; omega
  show ([c.1, c.2.1] ++ padS c.2.2.1 ++ [(c.2.2.2.length : Int)] ++ hitsV (padH c.2.2.2) ++ [0]).getD 51 0 = 0
  rw [getD_app, if_neg (by omega), el]; rfl
theorem widths_len : widthsL.length = 52 := by decide
theorem cpackM (p : Pol) (c : Cell) (h : mayC p c = true) : Meets Try.prog 18 [polAV p, cellAV c] [] (Y := Unit) (fun _ => True) (fun _ => .tup [.lst (.int .u64) fun _ => wordsOf 19 (packC c), .tt]) (fun _ => []) := by
  have MM := cmayM p c (may_level h)
  rw [h] at MM
  have hk := may_packs h
  refine Meets.intro hm (fn := Try.f18) Try.func18 rfl (by decide) (Nat.le_of_ble_eq_true rfl) (fun _ => rfl) ?_; intro S hok; (conv => whnf)
  (repeat' ((conv => whnf); first | apply And.intro | exact ⟨by kernel_rfl⟩ | apply DrawN.mk | apply CodeN.step hm rfl | exact trivial | exact rfl | (intro hh; try simp only [bs] at hh))); all_goals (conv => whnf)
  (refine CallN.q MM [] (fun _ _ => ?_); (repeat' ((conv => whnf); first | apply And.intro | exact ⟨by kernel_rfl⟩ | apply DrawN.mk | apply CodeN.step hm rfl | exact trivial | exact rfl | (intro hh; try simp only [bs] at hh; try exact absurd hh (by decide)))); all_goals (conv => whnf); all_goals try exact ⟨by decide⟩)
  (refine CallN.q widthsM [] (fun _ _ => ?_); (repeat' ((conv => whnf); first | apply And.intro | exact ⟨by kernel_rfl⟩ | apply DrawN.mk | apply CodeN.step hm rfl | exact trivial | exact rfl | (intro hh; try simp only [bs] at hh; try exact absurd hh (by decide)))); all_goals (conv => whnf); all_goals try exact ⟨by decide⟩)
  have hat := hk.at_
  have hlv := hk.level
  have eu1 : IntKind.u64.wrap c.1 = c.1 := by rw [IntKind.wrap_u64]; omega
  have eu2 : IntKind.u64.wrap c.2.1 = c.2.1 := by rw [IntKind.wrap_u64]; omega
  have hsl := hk.slen
  have hhl := hk.hlen
  refine LoopN.intro hm (X := Nat × List Int) (fun x => x.1 ≤ c.2.2.1.length ∧ x.2.length = 52 ∧ ∀ j, x.2.getD j 0 = if j < 2 + x.1 then (vals c).getD j 0 else 0) (fun x => c.2.2.1.length - x.1)
    (fun x => [(36, .int .i64 fun _ => (x.1 : Int)), (35, .int .i64 fun _ => (c.2.2.1.length : Int)), (34, .lst (.int .i64) fun _ => c.2.2.1), (8, .vec 1 1 (fun _ => 2) fun _ => 50), (7, .vec 1 1 (fun _ => 0) fun _ => 52), (6, .lst (.int .i64) fun _ => widthsL), (3, .ptr 0 0)])
    (fun x => [.cells 31 [.int .i64 fun _ => c.1, .int .i64 fun _ => c.2.1, .lst (.int .i64) fun _ => c.2.2.1, .lst HitT fun _ => c.2.2.2], .vect 73 (.int .u64) fun _ => x.2]) (0, c.1 :: c.2.1 :: List.replicate 50 0) [1, 2] ⟨rfl, rfl, ?_, ?_⟩ ⟨Nat.zero_le _, rfl, fun j => ?_⟩ (fun x hx => ?_)
  · (repeat' ((conv => whnf) <;> first | exact rfl | exact trivial | apply And.intro | exact Nat.zero_add _)); all_goals ((conv => whnf); try simp only [])
    rw [eu1, eu2]; rfl
  · (repeat' ((conv => whnf) <;> first | exact rfl | exact trivial | apply And.intro | exact Nat.zero_add _)); all_goals ((conv => whnf); try simp only [])
  · match j with
    | 0 => rfl
    | 1 => rfl
    | j + 2 =>
      rw [if_neg (by simp), List.getD_cons_succ, List.getD_cons_succ, List.getD_eq_getElem?_getD, List.getElem?_replicate]
      split <;> rfl
  obtain ⟨i, V⟩ := x
  obtain ⟨hi, hVl, hV⟩ := hx
  simp only [] at hi hVl hV
  have hsv := fun hi2 : i < c.2.2.1.length => hk.sums (c.2.2.1.getD i 0) (by rw [List.getD_eq_getElem?_getD, List.getElem?_eq_getElem hi2]; exact List.getElem_mem hi2)
  have en : IntKind.u64.wrap (c.2.2.2.length : Int) = (c.2.2.2.length : Int) := by rw [IntKind.wrap_u64]; omega
  (repeat' ((conv => whnf); first | apply And.intro | exact ⟨by kernel_rfl⟩ | apply DrawN.mk | apply CodeN.step hm rfl | exact trivial | exact rfl | (intro hh; try simp only [bs] at hh))); all_goals (conv => whnf)
  · refine Ob.mk ?_
    simp only []; omega
  · refine Ob.mk ?_
    simp only []; omega
  · have hi2 : i < c.2.2.1.length := by omega
    have es : IntKind.u64.wrap (c.2.2.1.getD i 0) = c.2.2.1.getD i 0 := by have := hsv hi2; rw [IntKind.wrap_u64]; omega
    refine ⟨(i + 1, V.set (2 + i) (c.2.2.1.getD i 0)), [0, 1], ⟨rfl, rfl, ?_, ?_⟩, ⟨hi2, by rw [List.length_set]; exact hVl, fun j => ?_⟩, Nat.sub_lt_sub_left hi2 (Nat.lt_succ_self _)⟩
    · (repeat' ((conv => whnf) <;> first | exact rfl | exact trivial | apply And.intro | exact Nat.zero_add _)); all_goals ((conv => whnf); try simp only [])
      exact congrArg _ es
    · (repeat' ((conv => whnf) <;> first | exact rfl | exact trivial | apply And.intro | exact Nat.zero_add _)); all_goals ((conv => whnf); try simp only [])
      exact wr (by omega)
    · show (V.set (2 + i) (c.2.2.1.getD i 0)).getD j 0 = if j < 2 + (i + 1) then (vals c).getD j 0 else 0
      rw [getD_set, hV]
      by_cases hj : 2 + i = j
      · rw [if_pos ⟨hj, by omega⟩, if_pos (by omega), ← hj, vals_sums hk (by omega)]
      · rw [if_neg (by omega)]
        by_cases hj2 : j < 2 + i
        · rw [if_pos hj2, if_pos (by omega)]
        · rw [if_neg hj2, if_neg (by omega)]
  · exact Ob.mk (by decide)
  · exact Ob.mk (by decide)
  have hie : i = c.2.2.1.length := by omega
  subst hie
  refine LoopN.intro hm (X := Nat × List Int) (fun x => x.1 ≤ c.2.2.2.length ∧ x.2.length = 52 ∧ ∀ j, x.2.getD j 0 = if j < 19 + 2 * x.1 then (vals c).getD j 0 else 0) (fun x => c.2.2.2.length - x.1)
    (fun x => [(58, .int .i64 fun _ => (x.1 : Int)), (57, .int .i64 fun _ => (c.2.2.2.length : Int)), (56, .lst HitT fun _ => c.2.2.2), (8, .vec 0 1 (fun _ => 18) fun _ => 34), (7, .vec 0 1 (fun _ => 0) fun _ => 52), (6, .lst (.int .i64) fun _ => widthsL)])
    (fun x => [.vect 73 (.int .u64) fun _ => x.2]) (0, V.set 18 (c.2.2.2.length : Int)) [1] ⟨rfl, rfl, ?_, ?_⟩ ⟨Nat.zero_le _, by rw [List.length_set]; exact hVl, fun j => ?_⟩ (fun x hx => ?_)
  · (repeat' ((conv => whnf) <;> first | exact rfl | exact trivial | apply And.intro | exact Nat.zero_add _)); all_goals ((conv => whnf); try simp only [])
    exact congrArg _ en
  · (repeat' ((conv => whnf) <;> first | exact rfl | exact trivial | apply And.intro | exact Nat.zero_add _)); all_goals ((conv => whnf); try simp only [])
  · show (V.set 18 (c.2.2.2.length : Int)).getD j 0 = if j < 19 + 2 * 0 then (vals c).getD j 0 else 0
    rw [getD_set, hV]
    by_cases hj : 18 = j
    · rw [if_pos ⟨hj, by omega⟩, if_pos (by omega), ← hj, vals_n hk]
    · rw [if_neg (by omega)]
      by_cases hj2 : j < 2 + c.2.2.1.length
      · rw [if_pos hj2, if_pos (by omega)]
      · rw [if_neg hj2]
        by_cases hj3 : j < 19
        · have := vals_sums hk (i := j - 2) (by omega)
          rw [show 2 + (j - 2) = j by omega, List.getD_eq_getElem?_getD (l := c.2.2.1), List.getElem?_eq_none (by omega)] at this
          rw [if_pos (by omega), this]; rfl
        · rw [if_neg (by omega)]
  clear hVl hV V
  obtain ⟨i, V⟩ := x
  obtain ⟨hi, hVl, hV⟩ := hx
  simp only [] at hi hVl hV
  have hsv := fun hi2 : i < c.2.2.2.length => hk.hits (c.2.2.2.getD i (0, 0)) (by rw [List.getD_eq_getElem?_getD, List.getElem?_eq_getElem hi2]; exact List.getElem_mem hi2)
  have w2 : IntKind.i64.wrap (2 * (i : Int)) = 2 * i := wr (by omega)
  have w3 : IntKind.i64.wrap (1 + 2 * (i : Int)) = 1 + 2 * i := wr (by omega)
  have w4 : IntKind.i64.wrap (2 + 2 * (i : Int)) = 2 + 2 * i := wr (by omega)
  have M := packM widthsL (vals c) (vals_fit hk) (by decide)
  rw [show (widthsL.sum.toNat + 63) / 64 = 19 by decide] at M
  (repeat' ((conv => whnf); first | apply And.intro | exact ⟨by kernel_rfl⟩ | apply DrawN.mk | apply CodeN.step hm rfl | exact trivial | exact rfl | (intro hh; try simp only [bs] at hh))); all_goals (conv => whnf)
  · refine Ob.mk ?_
    simp only []; omega
  · refine Ob.mk ?_
    simp only [w2, w3]; omega
  · refine Ob.mk ?_
    simp only [w2, w4]; omega
  · have hi2 : i < c.2.2.2.length := by omega
    have hb := hsv hi2
    have hv := vals_hits hk (i := i) (by omega)
    have es1 : IntKind.u64.wrap (c.2.2.2.getD (i : Int).toNat HitT.dflt).1 = (c.2.2.2.getD i (0, 0)).1 := by
      show IntKind.u64.wrap (c.2.2.2.getD i (0, 0)).1 = _
      rw [IntKind.wrap_u64]; omega
    have es2 : IntKind.u64.wrap (c.2.2.2.getD (i : Int).toNat HitT.dflt).2 = (c.2.2.2.getD i (0, 0)).2 := by
      show IntKind.u64.wrap (c.2.2.2.getD i (0, 0)).2 = _
      rw [IntKind.wrap_u64]; omega
    have i1 : 18 + (1 + 2 * (i : Int)).toNat = 19 + 2 * i := by omega
    have i2 : 18 + (2 + 2 * (i : Int)).toNat = 20 + 2 * i := by omega
    refine ⟨(i + 1, (V.set (19 + 2 * i) (c.2.2.2.getD i (0, 0)).1).set (20 + 2 * i) (c.2.2.2.getD i (0, 0)).2), [0], ⟨rfl, rfl, ?_, ?_⟩, ⟨hi2, by rw [List.length_set, List.length_set]; exact hVl, fun j => ?_⟩, Nat.sub_lt_sub_left hi2 (Nat.lt_succ_self _)⟩
    · (repeat' ((conv => whnf) <;> first | exact rfl | exact trivial | apply And.intro | exact Nat.zero_add _)); all_goals ((conv => whnf); try simp only [])
      simp only [w2, w3, w4, es1, es2, i1, i2]
    · (repeat' ((conv => whnf) <;> first | exact rfl | exact trivial | apply And.intro | exact Nat.zero_add _)); all_goals ((conv => whnf); try simp only [])
      exact wr (by omega)
    · show ((V.set (19 + 2 * i) (c.2.2.2.getD i (0, 0)).1).set (20 + 2 * i) (c.2.2.2.getD i (0, 0)).2).getD j 0 = if j < 19 + 2 * (i + 1) then (vals c).getD j 0 else 0
      rw [getD_set, getD_set, hV, List.length_set]
      by_cases hj : 20 + 2 * i = j
      · rw [if_pos ⟨hj, by omega⟩, if_pos (by omega), ← hj, hv.2]
      · rw [if_neg (by omega)]
        by_cases hj1 : 19 + 2 * i = j
        · rw [if_pos ⟨hj1, by omega⟩, if_pos (by omega), ← hj1, hv.1]
        · rw [if_neg (by omega)]
          by_cases hj2 : j < 19 + 2 * i
          · rw [if_pos hj2, if_pos (by omega)]
          · rw [if_neg hj2, if_neg (by omega)]
  · have hie : i = c.2.2.2.length := by omega
    have hVe : V = vals c := getD_ext (by rw [hVl, vals_len hk]) fun j hj => by
      rw [hV]
      split
      · rfl
      · rename_i hj2
        by_cases hj3 : j < 51
        · by_cases ho : j % 2 = 1
          · have := (vals_hits hk (i := (j - 19) / 2) (by omega)).1
            rw [show 19 + 2 * ((j - 19) / 2) = j by omega, List.getD_eq_getElem?_getD (l := c.2.2.2), List.getElem?_eq_none (by omega)] at this
            rw [this]; rfl
          · have := (vals_hits hk (i := (j - 20) / 2) (by omega)).2
            rw [show 20 + 2 * ((j - 20) / 2) = j by omega, List.getD_eq_getElem?_getD (l := c.2.2.2), List.getElem?_eq_none (by omega)] at this
            rw [this]; rfl
        · rw [show j = 51 by omega, vals_last hk]
    rw [hVe]
    refine CallN.frz 0 ?_ M.callable
    (conv => whnf)
    have ev : List.take 52 (List.drop 0 (vals c)) = vals c := by
      rw [List.drop_zero]; exact List.take_of_length_le (by rw [vals_len hk]; decide)
    simp only [ev]
    (refine CallN.q M [] (fun _ _ => ?_); (repeat' ((conv => whnf); first | apply And.intro | exact ⟨by kernel_rfl⟩ | apply DrawN.mk | apply CodeN.step hm rfl | exact trivial | exact rfl | (intro hh; try simp only [bs] at hh; try exact absurd hh (by decide)))); all_goals (conv => whnf); all_goals try exact ⟨by decide⟩)
    (refine RetN.q () [] ?_ ?_ ?_ <;> (repeat' ((conv => whnf) <;> first | exact rfl | exact trivial | apply And.intro | exact Nat.zero_add _)); all_goals ((conv => whnf); try simp only []))
def sumsO (d : List Int) (k : Nat) : List Int := (List.range k).map fun i => d.getD (2 + i) 0
def hitsO (d : List Int) (k : Nat) : List Hit := (List.range k).map fun i => (d.getD (19 + 2 * i) 0, d.getD (20 + 2 * i) 0)
theorem sumsO_succ (d : List Int) (k : Nat) : sumsO d (k + 1) = sumsO d k ++ [d.getD (2 + k) 0] := by simp [sumsO, List.range_succ]
theorem hitsO_succ (d : List Int) (k : Nat) : hitsO d (k + 1) = hitsO d k ++ [(d.getD (19 + 2 * k) 0, d.getD (20 + 2 * k) 0)] := by simp [hitsO, List.range_succ]
theorem sumsO_len (d : List Int) (k : Nat) : (sumsO d k).length = k := by simp [sumsO]
theorem hitsO_len (d : List Int) (k : Nat) : (hitsO d k).length = k := by simp [hitsO]
theorem take_step {a b : List Int} {i : Nat} (h1 : i < a.length) (h2 : i < b.length) (h : a.take i = b.take i) (hx : a.getD i 0 = b.getD i 0) : a.take (i + 1) = b.take (i + 1) := by
  rw [List.getD_eq_getElem?_getD, List.getD_eq_getElem?_getD, List.getElem?_eq_getElem h1, List.getElem?_eq_getElem h2] at hx
  rw [List.take_add_one, List.take_add_one, h, List.getElem?_eq_getElem h1, List.getElem?_eq_getElem h2]
  simp only [Option.getD_some] at hx
  rw [hx]
theorem cequalM (a b : List Int) (ha : a.length ≤ 1000) (hb : b.length ≤ 1000) : Meets Try.prog 37 [.lst (.int .u64) fun _ => a, .lst (.int .u64) fun _ => b] [] (Y := Unit) (fun _ => True) (fun _ => .bool fun _ => decide (a = b)) (fun _ => []) := by
  refine Meets.intro hm (fn := Try.f37) Try.func37 rfl (by decide) (Nat.le_of_ble_eq_true rfl) (fun _ => rfl) ?_; intro S hok; (conv => whnf)
  (repeat' ((conv => whnf); first | apply And.intro | exact ⟨by kernel_rfl⟩ | apply DrawN.mk | apply CodeN.step hm rfl | exact trivial | exact rfl | (intro hh; try simp only [bs] at hh))); all_goals (conv => whnf)
  · (refine RetN.q () [] ?_ ?_ ?_ <;> (repeat' ((conv => whnf) <;> first | exact rfl | exact trivial | apply And.intro | exact Nat.zero_add _)); all_goals ((conv => whnf); try simp only []))
    refine decide_eq_false ?_; intro e
    exact hh (by rw [e])
  · have hl : a.length = b.length := by omega
    refine LoopN.intro hm (X := Nat) (fun i => i ≤ a.length ∧ a.take i = b.take i) (fun i => a.length - i)
      (fun i => [(13, .int .i64 fun _ => (i : Int)), (12, .int .i64 fun _ => (a.length : Int)), (11, .lst (.int .u64) fun _ => a), (0, .lst (.int .u64) fun _ => a), (1, .lst (.int .u64) fun _ => b)]) (fun _ => []) 0 [] ⟨rfl, rfl, ?_, ?_⟩ ⟨Nat.zero_le _, rfl⟩ (fun i hi => ?_)
    · (repeat' ((conv => whnf) <;> first | exact rfl | exact trivial | apply And.intro | exact Nat.zero_add _))
    · (repeat' ((conv => whnf) <;> first | exact rfl | exact trivial | apply And.intro | exact Nat.zero_add _))
    obtain ⟨hi1, hi2⟩ := hi
    (repeat' ((conv => whnf); first | apply And.intro | exact ⟨by kernel_rfl⟩ | apply DrawN.mk | apply CodeN.step hm rfl | exact trivial | exact rfl | (intro hh; try simp only [bs] at hh))); all_goals (conv => whnf)
    · exact Ob.mk (by simp only []; omega)
    · exact Ob.mk (by simp only []; omega)
    · have hx : ¬ a.getD i 0 = b.getD i 0 := hh
      (refine RetN.q () [] ?_ ?_ ?_ <;> (repeat' ((conv => whnf) <;> first | exact rfl | exact trivial | apply And.intro | exact Nat.zero_add _)); all_goals ((conv => whnf); try simp only []))
      refine decide_eq_false ?_; intro e
      exact hx (by rw [e])
    · have hx : a.getD i 0 = b.getD i 0 := hh
      refine ⟨i + 1, [], ⟨rfl, rfl, ?_, ?_⟩, ⟨by omega, take_step (by omega) (by omega) hi2 hx⟩, by omega⟩
      · (repeat' ((conv => whnf) <;> first | exact rfl | exact trivial | apply And.intro | exact Nat.zero_add _))
      · (repeat' ((conv => whnf) <;> first | exact rfl | exact trivial | apply And.intro | exact Nat.zero_add _)); all_goals ((conv => whnf); try simp only [])
        exact wr (by omega)
    · have e : i = a.length := by omega
      (refine RetN.q () [] ?_ ?_ ?_ <;> (repeat' ((conv => whnf) <;> first | exact rfl | exact trivial | apply And.intro | exact Nat.zero_add _)); all_goals ((conv => whnf); try simp only []))
      refine decide_eq_true ?_
      rw [e, List.take_length, hl, List.take_length] at hi2
      exact hi2
theorem cunpackM (p : Pol) (w : List Int) (hw : Wd w) (hl : w.length ≤ 1000) : Meets Try.prog 20 [polAV p, .lst (.int .u64) fun _ => w] [] (Y := Unit) (fun _ => True) (fun _ => .tup [cellAV (unpackC p w).1, .bool fun _ => (unpackC p w).2]) (fun _ => []) := by
  by_cases h19 : w.length = 19
  rotate_left
  · have MN := unpackM_no widthsL w 19 widths_nonneg (by decide) (by decide) h19 hl
    have eU : unpackC p w = ((0, 0, [], []), false) := if_neg fun h => h19 h.1
    rw [eU]
    refine Meets.intro hm (fn := Try.f20) Try.func20 rfl (by decide) (Nat.le_of_ble_eq_true rfl) (fun _ => rfl) ?_; intro S hok; (conv => whnf)
    (repeat' ((conv => whnf); first | apply And.intro | exact ⟨by kernel_rfl⟩ | apply DrawN.mk | apply CodeN.step hm rfl | exact trivial | exact rfl | (intro hh; try simp only [bs] at hh))); all_goals (conv => whnf)
    (refine CallN.q widthsM [] (fun _ _ => ?_); (repeat' ((conv => whnf); first | apply And.intro | exact ⟨by kernel_rfl⟩ | apply DrawN.mk | apply CodeN.step hm rfl | exact trivial | exact rfl | (intro hh; try simp only [bs] at hh; try exact absurd hh (by decide)))); all_goals (conv => whnf); all_goals try exact ⟨by decide⟩)
    (refine CallN.q MN [] (fun _ _ => ?_); (repeat' ((conv => whnf); first | apply And.intro | exact ⟨by kernel_rfl⟩ | apply DrawN.mk | apply CodeN.step hm rfl | exact trivial | exact rfl | (intro hh; try simp only [bs] at hh; try exact absurd hh (by decide)))); all_goals (conv => whnf); all_goals try exact ⟨by decide⟩)
    (refine RetN.q () [] ?_ ?_ ?_ <;> (repeat' ((conv => whnf) <;> first | exact rfl | exact trivial | apply And.intro | exact Nat.zero_add _)); all_goals ((conv => whnf); try simp only []))
  · have MN := unpackM widthsL w 19 widths_nonneg (by decide) (by decide) (by decide) hw h19
    have hdl : (flds widthsL (numOf w)).length = 52 := by rw [flds_len]; decide
    have hfit := fit_flds (N := numOf w) widths_nonneg
    have hU : unpackC p w = if mayC p (cellOf p (flds widthsL (numOf w))) = true ∧ wordsOf 19 (packC (cellOf p (flds widthsL (numOf w)))) = w then (cellOf p (flds widthsL (numOf w)), true) else ((0, 0, [], []), false) := by
      unfold unpackC
      simp only [h19, true_and]
    generalize flds widthsL (numOf w) = d at *
    have h2 : List.drop (2 : Int).toNat (List.take (d.length : Int).toNat d) = d.drop 2 := by
      rw [Int.toNat_natCast, List.take_length]; rfl
    have hdb : ∀ i, 0 ≤ d.getD i 0 ∧ d.getD i 0 < 144115188075855872 := fun i => by
      by_cases hi : i < 52
      · have h1 := hfit.2.2 i (by rw [widths_len]; exact hi)
        have h2 : widthsL.getD i 0 ≤ 57 := by
          have : ∀ x ∈ widthsL, x ≤ 57 := by decide
          exact this _ (by rw [List.getD_eq_getElem?_getD, List.getElem?_eq_getElem (by rw [widths_len]; exact hi)]; exact List.getElem_mem _)
        have h3 : 2 ^ (widthsL.getD i 0).toNat ≤ 2 ^ 57 := Nat.pow_le_pow_right (by decide) (by omega)
        omega
      · rw [List.getD_eq_getElem?_getD, List.getElem?_eq_none (by omega)]; decide
    have hwrap : ∀ i, IntKind.i64.wrap (d.getD i 0) = d.getD i 0 := fun i => wr (by have := hdb i; omega)
    have g0 : IntKind.i64.wrap (d.getD (0 : Int).toNat (Ty.int .u64).dflt) = d.getD 0 0 := hwrap 0
    have g1 : IntKind.i64.wrap (d.getD (1 : Int).toNat (Ty.int .u64).dflt) = d.getD 1 0 := hwrap 1
    have h3 : List.drop (16 : Int).toNat (List.take ((d.drop 2).length : Int).toNat (d.drop 2)) = d.drop 18 := by
      rw [Int.toNat_natCast, List.take_length, List.drop_drop]; rfl
    have e18 : (d.drop 18).getD (0 : Int).toNat (Ty.int .u64).dflt = d.getD 18 0 := by
      show (d.drop 18).getD 0 0 = _
      rw [List.getD_eq_getElem?_getD, List.getElem?_drop, ← List.getD_eq_getElem?_getD]
    refine Meets.intro hm (fn := Try.f20) Try.func20 rfl (by decide) (Nat.le_of_ble_eq_true rfl) (fun _ => rfl) ?_; intro S hok; (conv => whnf)
    (repeat' ((conv => whnf); first | apply And.intro | exact ⟨by kernel_rfl⟩ | apply DrawN.mk | apply CodeN.step hm rfl | exact trivial | exact rfl | (intro hh; try simp only [bs] at hh))); all_goals (conv => whnf)
    (refine CallN.q widthsM [] (fun _ _ => ?_); (repeat' ((conv => whnf); first | apply And.intro | exact ⟨by kernel_rfl⟩ | apply DrawN.mk | apply CodeN.step hm rfl | exact trivial | exact rfl | (intro hh; try simp only [bs] at hh; try exact absurd hh (by decide)))); all_goals (conv => whnf); all_goals try exact ⟨by decide⟩)
    (refine CallN.q MN [] (fun _ _ => ?_); (repeat' ((conv => whnf); first | apply And.intro | exact ⟨by kernel_rfl⟩ | apply DrawN.mk | apply CodeN.step hm rfl | exact trivial | exact rfl | (intro hh; try simp only [bs] at hh; try exact absurd hh (by decide)))); all_goals (conv => whnf); all_goals try exact ⟨by decide⟩)
    all_goals (try simp only [h2, h3, e18, hwrap, g0, g1])
    all_goals first | (refine Ob.mk ?_; (try simp only [List.length_drop]); (try split) <;> (try split) <;> omega) | (refine Ob.mk ?_; simp only []; omega) | skip
    · have k : p.1 = 3 := by assumption
      generalize hn1 : (min (max p.2.2.2 0) 16).toNat = n1
      have e43 : (if 16 < (if 0 > p.2.2.2 then 0 else p.2.2.2) then 16 else (if 0 > p.2.2.2 then 0 else p.2.2.2)) = (n1 : Int) := by
        rw [← hn1]
        split <;> (try split) <;> omega
      have hd2 : List.drop (0 : Int).toNat (List.take (n1 : Int).toNat (d.drop 2)) = (d.drop 2).take n1 := by
        rw [Int.toNat_natCast]; rfl
      have hln : ((d.drop 2).take n1).length = n1 := by rw [List.length_take, List.length_drop]; omega
      simp only [e43, hd2, hln]
      refine LoopN.intro hm (X := Nat) (fun i => i ≤ n1) (fun i => n1 - i)
        (fun i => [(45, .int .i64 fun _ => (i : Int)), (44, .int .i64 fun _ => (n1 : Int)), (43, .lst (.int .u64) fun _ => (d.drop 2).take n1), (9, .lst (.int .u64) fun _ => d.drop 2), (8, .ptr 2 0), (4, .ptr 1 0), (2, .ptr 0 0), (1, .lst (.int .u64) fun _ => w)])
        (fun i => match i with
          | 0 => [.cells 23 [.int .i64 fun _ => p.1, .int .i64 fun _ => p.2.1, .int .i64 fun _ => p.2.2.1, .int .i64 fun _ => p.2.2.2], .cells 31 [.int .i64 fun _ => 0, .int .i64 fun _ => 0, .snil, .snil], .cells 31 [.int .i64 fun _ => d.getD 0 0, .int .i64 fun _ => d.getD 1 0, .snil, .snil]]
          | k + 1 => [.cells 23 [.int .i64 fun _ => p.1, .int .i64 fun _ => p.2.1, .int .i64 fun _ => p.2.2.1, .int .i64 fun _ => p.2.2.2], .cells 31 [.int .i64 fun _ => 0, .int .i64 fun _ => 0, .snil, .snil], .cells 31 [.int .i64 fun _ => d.getD 0 0, .int .i64 fun _ => d.getD 1 0, .vec 3 1 (fun _ => 0) fun _ => k + 1, .snil], .vect 3 (.int .i64) fun _ => sumsO d (k + 1)]) 0 [0, 1, 2] ⟨rfl, rfl, ?_, ?_⟩ (Nat.zero_le _) (fun i hi => ?_)
      · (repeat' ((conv => whnf) <;> first | exact rfl | exact trivial | apply And.intro | exact Nat.zero_add _))
      · (repeat' ((conv => whnf) <;> first | exact rfl | exact trivial | apply And.intro | exact Nat.zero_add _))
      have g5 : i < n1 → ((d.drop 2).take n1).getD (i : Int).toNat (Ty.int .u64).dflt = d.getD (2 + i) 0 := fun hi2 => by
        show ((d.drop 2).take n1).getD i 0 = _
        rw [List.getD_eq_getElem?_getD, List.getElem?_take, if_pos hi2, List.getElem?_drop, ← List.getD_eq_getElem?_getD]
      have hsucc := sumsO_succ d i
      cases i with
      | zero =>
        (repeat' ((conv => whnf); first | apply And.intro | exact ⟨by kernel_rfl⟩ | apply DrawN.mk | apply CodeN.step hm rfl | exact trivial | exact rfl | (intro hh; try simp only [bs] at hh))); all_goals (conv => whnf)
        all_goals (try simp only [h2, h3, e18, hwrap, g0, g1])
        all_goals first | (refine Ob.mk ?_; (try simp only [List.length_drop, List.length_take]); omega) | (refine Ob.mk ?_; simp only []; omega) | skip
        · refine Ob.mk ?_
          show (1 : Nat) * 8 ≤ _
          decide
        · have hi2 : 0 < n1 := by omega
          have g6 := g5 hi2
          refine ⟨1, [0, 1, 2, 4], ⟨rfl, rfl, ?_, ?_⟩, hi2, by omega⟩
          · simp only [g6, hwrap]
            (repeat' ((conv => whnf) <;> first | exact rfl | exact trivial | apply And.intro | exact Nat.zero_add _))
          · (repeat' ((conv => whnf) <;> first | exact rfl | exact trivial | apply And.intro | exact Nat.zero_add _))
        have e0 : n1 = 0 := by omega
        subst e0
        generalize hn2 : (min (d.getD 18 0) 16).toNat = n2
        have h18 := hdb 18
        have e63 : (if 16 < d.getD 18 0 then 16 else d.getD 18 0) = (n2 : Int) := by split <;> omega
        simp only [e63]
        have hcell : cellOf p d = (d.getD 0 0, d.getD 1 0, [], hitsO d n2) := by
          unfold cellOf hitsO
          rw [if_pos k, hn1, hn2]
          try rfl
        rw [hcell] at hU
        have huy : mayC p (d.getD 0 0, d.getD 1 0, [], hitsO d n2) = true → wordsOf 19 (packC (d.getD 0 0, d.getD 1 0, [], hitsO d n2)) = w → unpackC p w = ((d.getD 0 0, d.getD 1 0, [], hitsO d n2), true) := fun h1 h2 => hU.trans (if_pos ⟨h1, h2⟩)
        have hun : ¬ (mayC p (d.getD 0 0, d.getD 1 0, [], hitsO d n2) = true ∧ wordsOf 19 (packC (d.getD 0 0, d.getD 1 0, [], hitsO d n2)) = w) → unpackC p w = ((0, 0, [], []), false) := fun h => hU.trans (if_neg h)
        have hlev : -9223372036854775808 ≤ d.getD 1 0 ∧ d.getD 1 0 ≤ 9223372036854775807 := by have := hdb 1; omega
        refine LoopN.intro hm (X := Nat) (fun i => i ≤ n2) (fun i => n2 - i)
          (fun i => [(64, .int .i64 fun _ => (i : Int)), (63, .int .i64 fun _ => (n2 : Int)), (9, .lst (.int .u64) fun _ => d.drop 18), (8, .ptr 2 0), (4, .ptr 1 0), (2, .ptr 0 0), (1, .lst (.int .u64) fun _ => w)])
          (fun i => match i with
            | 0 => [.cells 23 [.int .i64 fun _ => p.1, .int .i64 fun _ => p.2.1, .int .i64 fun _ => p.2.2.1, .int .i64 fun _ => p.2.2.2], .cells 31 [.int .i64 fun _ => 0, .int .i64 fun _ => 0, .snil, .snil], .cells 31 [.int .i64 fun _ => d.getD 0 0, .int .i64 fun _ => d.getD 1 0, .snil, .snil]]
            | k + 1 => [.cells 23 [.int .i64 fun _ => p.1, .int .i64 fun _ => p.2.1, .int .i64 fun _ => p.2.2.1, .int .i64 fun _ => p.2.2.2], .cells 31 [.int .i64 fun _ => 0, .int .i64 fun _ => 0, .snil, .snil], .cells 31 [.int .i64 fun _ => d.getD 0 0, .int .i64 fun _ => d.getD 1 0, .snil, .vec 3 2 (fun _ => 0) fun _ => k + 1], .vect 64 HitT fun _ => hitsO d (k + 1)]) 0 [0, 1, 2] ⟨rfl, rfl, ?_, ?_⟩ (Nat.zero_le _) (fun i hi => ?_)
        · (repeat' ((conv => whnf) <;> first | exact rfl | exact trivial | apply And.intro | exact Nat.zero_add _)); all_goals ((conv => whnf); try simp only [])
          all_goals exact rfl
        · (repeat' ((conv => whnf) <;> first | exact rfl | exact trivial | apply And.intro | exact Nat.zero_add _)); all_goals ((conv => whnf); try simp only [])
          all_goals (first | rfl | (split <;> omega) | omega | exact rfl)
        have w2 : IntKind.i64.wrap (2 * (i : Int)) = 2 * i := wr (by omega)
        have w3 : IntKind.i64.wrap (1 + 2 * (i : Int)) = 1 + 2 * i := wr (by omega)
        have w4 : IntKind.i64.wrap (2 + 2 * (i : Int)) = 2 + 2 * i := wr (by omega)
        have g3 : (d.drop 18).getD (1 + 2 * (i : Int)).toNat (Ty.int .u64).dflt = d.getD (19 + 2 * i) 0 := by
          rw [show (1 + 2 * (i : Int)).toNat = 1 + 2 * i by omega]
          show (d.drop 18).getD (1 + 2 * i) 0 = _
          rw [List.getD_eq_getElem?_getD, List.getElem?_drop, ← List.getD_eq_getElem?_getD]
          congr 1; omega
        have g4 : (d.drop 18).getD (2 + 2 * (i : Int)).toNat (Ty.int .u64).dflt = d.getD (20 + 2 * i) 0 := by
          rw [show (2 + 2 * (i : Int)).toNat = 2 + 2 * i by omega]
          show (d.drop 18).getD (2 + 2 * i) 0 = _
          rw [List.getD_eq_getElem?_getD, List.getElem?_drop, ← List.getD_eq_getElem?_getD]
          congr 1; omega
        have hsucc := hitsO_succ d i
        have hdl2 : (d.drop 18).length = 34 := by rw [List.length_drop]; omega
        cases i with
        | zero =>
          (repeat' ((conv => whnf); first | apply And.intro | exact ⟨by kernel_rfl⟩ | apply DrawN.mk | apply CodeN.step hm rfl | exact trivial | exact rfl | (intro hh; try simp only [bs] at hh))); all_goals (conv => whnf)
          all_goals (try simp only [w2, w3, w4, g3, g4, hwrap])
          · exact Ob.mk (by rw [hdl2]; decide)
          · exact Ob.mk (by rw [hdl2]; decide)
          · refine Ob.mk ?_
            show (1 : Nat) * 16 ≤ _
            decide
          · refine ⟨1, [0, 1, 2, 4], ⟨rfl, rfl, ?_, ?_⟩, by omega, by omega⟩
            · (repeat' ((conv => whnf) <;> first | exact rfl | exact trivial | apply And.intro | exact Nat.zero_add _))
            · (repeat' ((conv => whnf) <;> first | exact rfl | exact trivial | apply And.intro | exact Nat.zero_add _))
          · have e0 : n2 = 0 := by omega
            subst e0
            by_cases hm2 : mayC p (d.getD 0 0, d.getD 1 0, [], hitsO d 0) = true
            · have MP := cpackM p _ hm2
              have MQ := cequalM (wordsOf 19 (packC (d.getD 0 0, d.getD 1 0, [], hitsO d 0))) w (by rw [words_len]; decide) hl
              (refine CallN.q MP [] (fun _ _ => ?_); (repeat' ((conv => whnf); first | apply And.intro | exact ⟨by kernel_rfl⟩ | apply DrawN.mk | apply CodeN.step hm rfl | exact trivial | exact rfl | (intro hh; try simp only [bs] at hh; try exact absurd hh (by decide)))); all_goals (conv => whnf); all_goals try exact ⟨by decide⟩)
              (refine CallN.q MQ [] (fun _ _ => ?_); (repeat' ((conv => whnf); first | apply And.intro | exact ⟨by kernel_rfl⟩ | apply DrawN.mk | apply CodeN.step hm rfl | exact trivial | exact rfl | (intro hh; try simp only [bs] at hh; try exact absurd hh (by decide)))); all_goals (conv => whnf); all_goals try exact ⟨by decide⟩)
              · rw [hun (fun h => hh h.2)]
                (refine RetN.q () [] ?_ ?_ ?_ <;> (repeat' ((conv => whnf) <;> first | exact rfl | exact trivial | apply And.intro | exact Nat.zero_add _)); all_goals ((conv => whnf); try simp only []))
              · rw [huy hm2 hh]
                (refine RetN.q () [] ?_ ?_ ?_ <;> (repeat' ((conv => whnf) <;> first | exact rfl | exact trivial | apply And.intro | exact Nat.zero_add _)); all_goals ((conv => whnf); try simp only []))
            · have MP := cpackM_no p _ hlev (Bool.eq_false_iff.2 hm2)
              (refine CallN.q MP [] (fun _ _ => ?_); (repeat' ((conv => whnf); first | apply And.intro | exact ⟨by kernel_rfl⟩ | apply DrawN.mk | apply CodeN.step hm rfl | exact trivial | exact rfl | (intro hh; try simp only [bs] at hh; try exact absurd hh (by decide)))); all_goals (conv => whnf); all_goals try exact ⟨by decide⟩)
              rw [hun (fun h => hm2 h.1)]
              (refine RetN.q () [] ?_ ?_ ?_ <;> (repeat' ((conv => whnf) <;> first | exact rfl | exact trivial | apply And.intro | exact Nat.zero_add _)); all_goals ((conv => whnf); try simp only []))
        | succ i =>
          (repeat' ((conv => whnf); first | apply And.intro | exact ⟨by kernel_rfl⟩ | apply DrawN.mk | apply CodeN.step hm rfl | exact trivial | exact rfl | (intro hh; try simp only [bs] at hh))); all_goals (conv => whnf)
          all_goals (try simp only [w2, w3, w4, g3, g4, hwrap])
          · refine Ob.mk ?_
            simp only [hdl2]; omega
          · refine Ob.mk ?_
            simp only [hdl2]; omega
          · refine Ob.mk ⟨trivial, ?_, ?_⟩
            · show i + 1 + 1 ≤ _
              omega
            · show (i + 1 + 1) * 16 ≤ _
              omega
          · refine ⟨i + 2, [0, 1, 2, 3], ⟨rfl, rfl, ?_, ?_⟩, by omega, by omega⟩
            · (repeat' ((conv => whnf) <;> first | exact rfl | exact trivial | apply And.intro | exact Nat.zero_add _)); all_goals ((conv => whnf); try simp only [])
              rw [List.take_of_length_le (by rw [hitsO_len]; exact Nat.le_refl _)]
              exact hsucc.symm
            · (repeat' ((conv => whnf) <;> first | exact rfl | exact trivial | apply And.intro | exact Nat.zero_add _)); all_goals ((conv => whnf); try simp only [])
              exact wr (by omega)
          · have e0 : n2 = i + 1 := by omega
            subst e0
            have et : List.take (i + 1) (List.drop 0 (hitsO d (i + 1))) = hitsO d (i + 1) := by
              rw [List.drop_zero]; exact List.take_of_length_le (by rw [hitsO_len]; exact Nat.le_refl _)
            by_cases hm2 : mayC p (d.getD 0 0, d.getD 1 0, [], hitsO d (i + 1)) = true
            · have MP := cpackM p _ hm2
              have MQ := cequalM (wordsOf 19 (packC (d.getD 0 0, d.getD 1 0, [], hitsO d (i + 1)))) w (by rw [words_len]; decide) hl
              refine CallN.frz 3 ?_ MP.callable
              (conv => whnf)
              refine CallN.intro MP [] rfl rfl ?_ ?_ (fun _ _ => ?_)
              · (repeat' ((conv => whnf) <;> first | exact rfl | exact trivial | apply And.intro | exact Nat.zero_add _)); all_goals ((conv => whnf); try simp only [])
                exact et
              · (repeat' ((conv => whnf) <;> first | exact rfl | exact trivial | apply And.intro | exact Nat.zero_add _))
              (repeat' ((conv => whnf); first | apply And.intro | exact ⟨by kernel_rfl⟩ | apply DrawN.mk | apply CodeN.step hm rfl | exact trivial | exact rfl | (intro hh; try simp only [bs] at hh; try exact absurd hh (by decide)))); all_goals (conv => whnf)
              (refine CallN.q MQ [] (fun _ _ => ?_); (repeat' ((conv => whnf); first | apply And.intro | exact ⟨by kernel_rfl⟩ | apply DrawN.mk | apply CodeN.step hm rfl | exact trivial | exact rfl | (intro hh; try simp only [bs] at hh; try exact absurd hh (by decide)))); all_goals (conv => whnf); all_goals try exact ⟨by decide⟩)
              · rw [hun (fun h => hh h.2)]
                (refine RetN.q () [] ?_ ?_ ?_ <;> (repeat' ((conv => whnf) <;> first | exact rfl | exact trivial | apply And.intro | exact Nat.zero_add _)); all_goals ((conv => whnf); try simp only []))
              · rw [huy hm2 hh]
                (refine RetN.q () [] ?_ ?_ ?_ <;> (repeat' ((conv => whnf) <;> first | exact rfl | exact trivial | apply And.intro | exact Nat.zero_add _)); all_goals ((conv => whnf); try simp only []))
                all_goals exact et
            · have MP := cpackM_no p _ hlev (Bool.eq_false_iff.2 hm2)
              refine CallN.frz 3 ?_ MP.callable
              (conv => whnf)
              refine CallN.intro MP [] rfl rfl ?_ ?_ (fun _ _ => ?_)
              · (repeat' ((conv => whnf) <;> first | exact rfl | exact trivial | apply And.intro | exact Nat.zero_add _)); all_goals ((conv => whnf); try simp only [])
                exact et
              · (repeat' ((conv => whnf) <;> first | exact rfl | exact trivial | apply And.intro | exact Nat.zero_add _))
              (repeat' ((conv => whnf); first | apply And.intro | exact ⟨by kernel_rfl⟩ | apply DrawN.mk | apply CodeN.step hm rfl | exact trivial | exact rfl | (intro hh; try simp only [bs] at hh; try exact absurd hh (by decide)))); all_goals (conv => whnf)
              rw [hun (fun h => hm2 h.1)]
              (refine RetN.q () [] ?_ ?_ ?_ <;> (repeat' ((conv => whnf) <;> first | exact rfl | exact trivial | apply And.intro | exact Nat.zero_add _)); all_goals ((conv => whnf); try simp only []))
      | succ i =>
        (repeat' ((conv => whnf); first | apply And.intro | exact ⟨by kernel_rfl⟩ | apply DrawN.mk | apply CodeN.step hm rfl | exact trivial | exact rfl | (intro hh; try simp only [bs] at hh))); all_goals (conv => whnf)
        all_goals (try simp only [h2, h3, e18, hwrap, g0, g1])
        all_goals first | (refine Ob.mk ?_; (try simp only [List.length_drop, List.length_take]); omega) | (refine Ob.mk ?_; simp only []; omega) | skip
        · refine Ob.mk ⟨trivial, ?_, ?_⟩
          · show i + 1 + 1 ≤ _
            omega
          · show (i + 1 + 1) * 8 ≤ _
            omega
        · have hi2 : i + 1 < n1 := by omega
          have g6 := g5 hi2
          refine ⟨i + 2, [0, 1, 2, 3], ⟨rfl, rfl, ?_, ?_⟩, hi2, by omega⟩
          · simp only [g6, hwrap]
            (repeat' ((conv => whnf) <;> first | exact rfl | exact trivial | apply And.intro | exact Nat.zero_add _)); all_goals ((conv => whnf); try simp only [])
            rw [List.take_of_length_le (by rw [sumsO_len]; exact Nat.le_refl _)]
            exact hsucc.symm
          · (repeat' ((conv => whnf) <;> first | exact rfl | exact trivial | apply And.intro | exact Nat.zero_add _)); all_goals ((conv => whnf); try simp only [])
            exact wr (by omega)
        have e0 : n1 = i + 1 := by omega
        subst e0
        have het : List.take (i + 1) (List.drop 0 (sumsO d (i + 1))) = sumsO d (i + 1) := by
          rw [List.drop_zero]; exact List.take_of_length_le (by rw [sumsO_len]; exact Nat.le_refl _)
        refine loop_frz 3 ?_
        (conv => whnf)
        generalize i + 1 = n3 at *
        generalize hn2 : (min (d.getD 18 0) 16).toNat = n2
        have h18 := hdb 18
        have e63 : (if 16 < d.getD 18 0 then 16 else d.getD 18 0) = (n2 : Int) := by split <;> omega
        simp only [e63]
        have hcell : cellOf p d = (d.getD 0 0, d.getD 1 0, sumsO d n3, hitsO d n2) := by
          unfold cellOf hitsO
          rw [if_pos k, hn1, hn2]
          try rfl
        rw [hcell] at hU
        have huy : mayC p (d.getD 0 0, d.getD 1 0, sumsO d n3, hitsO d n2) = true → wordsOf 19 (packC (d.getD 0 0, d.getD 1 0, sumsO d n3, hitsO d n2)) = w → unpackC p w = ((d.getD 0 0, d.getD 1 0, sumsO d n3, hitsO d n2), true) := fun h1 h2 => hU.trans (if_pos ⟨h1, h2⟩)
        have hun : ¬ (mayC p (d.getD 0 0, d.getD 1 0, sumsO d n3, hitsO d n2) = true ∧ wordsOf 19 (packC (d.getD 0 0, d.getD 1 0, sumsO d n3, hitsO d n2)) = w) → unpackC p w = ((0, 0, [], []), false) := fun h => hU.trans (if_neg h)
        have hlev : -9223372036854775808 ≤ d.getD 1 0 ∧ d.getD 1 0 ≤ 9223372036854775807 := by have := hdb 1; omega
        refine LoopN.intro hm (X := Nat) (fun i => i ≤ n2) (fun i => n2 - i)
          (fun i => [(64, .int .i64 fun _ => (i : Int)), (63, .int .i64 fun _ => (n2 : Int)), (9, .lst (.int .u64) fun _ => d.drop 18), (8, .ptr 2 0), (4, .ptr 1 0), (2, .ptr 0 0), (1, .lst (.int .u64) fun _ => w)])
          (fun i => match i with
            | 0 => [.cells 23 [.int .i64 fun _ => p.1, .int .i64 fun _ => p.2.1, .int .i64 fun _ => p.2.2.1, .int .i64 fun _ => p.2.2.2], .cells 31 [.int .i64 fun _ => 0, .int .i64 fun _ => 0, .snil, .snil], .cells 31 [.int .i64 fun _ => d.getD 0 0, .int .i64 fun _ => d.getD 1 0, .lst (.int .i64) fun _ => sumsO d n3, .snil]]
            | k + 1 => [.cells 23 [.int .i64 fun _ => p.1, .int .i64 fun _ => p.2.1, .int .i64 fun _ => p.2.2.1, .int .i64 fun _ => p.2.2.2], .cells 31 [.int .i64 fun _ => 0, .int .i64 fun _ => 0, .snil, .snil], .cells 31 [.int .i64 fun _ => d.getD 0 0, .int .i64 fun _ => d.getD 1 0, .lst (.int .i64) fun _ => sumsO d n3, .vec 3 2 (fun _ => 0) fun _ => k + 1], .vect 64 HitT fun _ => hitsO d (k + 1)]) 0 [0, 1, 2] ⟨rfl, rfl, ?_, ?_⟩ (Nat.zero_le _) (fun i hi => ?_)
        · (repeat' ((conv => whnf) <;> first | exact rfl | exact trivial | apply And.intro | exact Nat.zero_add _)); all_goals ((conv => whnf); try simp only [])
          all_goals exact het
        · (repeat' ((conv => whnf) <;> first | exact rfl | exact trivial | apply And.intro | exact Nat.zero_add _)); all_goals ((conv => whnf); try simp only [])
          all_goals (first | rfl | (split <;> omega) | omega | exact het)
        have w2 : IntKind.i64.wrap (2 * (i : Int)) = 2 * i := wr (by omega)
        have w3 : IntKind.i64.wrap (1 + 2 * (i : Int)) = 1 + 2 * i := wr (by omega)
        have w4 : IntKind.i64.wrap (2 + 2 * (i : Int)) = 2 + 2 * i := wr (by omega)
        have g3 : (d.drop 18).getD (1 + 2 * (i : Int)).toNat (Ty.int .u64).dflt = d.getD (19 + 2 * i) 0 := by
          rw [show (1 + 2 * (i : Int)).toNat = 1 + 2 * i by omega]
          show (d.drop 18).getD (1 + 2 * i) 0 = _
          rw [List.getD_eq_getElem?_getD, List.getElem?_drop, ← List.getD_eq_getElem?_getD]
          congr 1; omega
        have g4 : (d.drop 18).getD (2 + 2 * (i : Int)).toNat (Ty.int .u64).dflt = d.getD (20 + 2 * i) 0 := by
          rw [show (2 + 2 * (i : Int)).toNat = 2 + 2 * i by omega]
          show (d.drop 18).getD (2 + 2 * i) 0 = _
          rw [List.getD_eq_getElem?_getD, List.getElem?_drop, ← List.getD_eq_getElem?_getD]
          congr 1; omega
        have hsucc := hitsO_succ d i
        have hdl2 : (d.drop 18).length = 34 := by rw [List.length_drop]; omega
        cases i with
        | zero =>
          (repeat' ((conv => whnf); first | apply And.intro | exact ⟨by kernel_rfl⟩ | apply DrawN.mk | apply CodeN.step hm rfl | exact trivial | exact rfl | (intro hh; try simp only [bs] at hh))); all_goals (conv => whnf)
          all_goals (try simp only [w2, w3, w4, g3, g4, hwrap])
          · exact Ob.mk (by rw [hdl2]; decide)
          · exact Ob.mk (by rw [hdl2]; decide)
          · refine Ob.mk ?_
            show (1 : Nat) * 16 ≤ _
            decide
          · refine ⟨1, [0, 1, 2, 4], ⟨rfl, rfl, ?_, ?_⟩, by omega, by omega⟩
            · (repeat' ((conv => whnf) <;> first | exact rfl | exact trivial | apply And.intro | exact Nat.zero_add _))
            · (repeat' ((conv => whnf) <;> first | exact rfl | exact trivial | apply And.intro | exact Nat.zero_add _))
          · have e0 : n2 = 0 := by omega
            subst e0
            by_cases hm2 : mayC p (d.getD 0 0, d.getD 1 0, sumsO d n3, hitsO d 0) = true
            · have MP := cpackM p _ hm2
              have MQ := cequalM (wordsOf 19 (packC (d.getD 0 0, d.getD 1 0, sumsO d n3, hitsO d 0))) w (by rw [words_len]; decide) hl
              (refine CallN.q MP [] (fun _ _ => ?_); (repeat' ((conv => whnf); first | apply And.intro | exact ⟨by kernel_rfl⟩ | apply DrawN.mk | apply CodeN.step hm rfl | exact trivial | exact rfl | (intro hh; try simp only [bs] at hh; try exact absurd hh (by decide)))); all_goals (conv => whnf); all_goals try exact ⟨by decide⟩)
              (refine CallN.q MQ [] (fun _ _ => ?_); (repeat' ((conv => whnf); first | apply And.intro | exact ⟨by kernel_rfl⟩ | apply DrawN.mk | apply CodeN.step hm rfl | exact trivial | exact rfl | (intro hh; try simp only [bs] at hh; try exact absurd hh (by decide)))); all_goals (conv => whnf); all_goals try exact ⟨by decide⟩)
              · rw [hun (fun h => hh h.2)]
                (refine RetN.q () [] ?_ ?_ ?_ <;> (repeat' ((conv => whnf) <;> first | exact rfl | exact trivial | apply And.intro | exact Nat.zero_add _)); all_goals ((conv => whnf); try simp only []))
              · rw [huy hm2 hh]
                (refine RetN.q () [] ?_ ?_ ?_ <;> (repeat' ((conv => whnf) <;> first | exact rfl | exact trivial | apply And.intro | exact Nat.zero_add _)); all_goals ((conv => whnf); try simp only []))
            · have MP := cpackM_no p _ hlev (Bool.eq_false_iff.2 hm2)
              (refine CallN.q MP [] (fun _ _ => ?_); (repeat' ((conv => whnf); first | apply And.intro | exact ⟨by kernel_rfl⟩ | apply DrawN.mk | apply CodeN.step hm rfl | exact trivial | exact rfl | (intro hh; try simp only [bs] at hh; try exact absurd hh (by decide)))); all_goals (conv => whnf); all_goals try exact ⟨by decide⟩)
              rw [hun (fun h => hm2 h.1)]
              (refine RetN.q () [] ?_ ?_ ?_ <;> (repeat' ((conv => whnf) <;> first | exact rfl | exact trivial | apply And.intro | exact Nat.zero_add _)); all_goals ((conv => whnf); try simp only []))
        | succ i =>
          (repeat' ((conv => whnf); first | apply And.intro | exact ⟨by kernel_rfl⟩ | apply DrawN.mk | apply CodeN.step hm rfl | exact trivial | exact rfl | (intro hh; try simp only [bs] at hh))); all_goals (conv => whnf)
          all_goals (try simp only [w2, w3, w4, g3, g4, hwrap])
          · refine Ob.mk ?_
            simp only [hdl2]; omega
          · refine Ob.mk ?_
            simp only [hdl2]; omega
          · refine Ob.mk ⟨trivial, ?_, ?_⟩
            · show i + 1 + 1 ≤ _
              omega
            · show (i + 1 + 1) * 16 ≤ _
              omega
          · refine ⟨i + 2, [0, 1, 2, 3], ⟨rfl, rfl, ?_, ?_⟩, by omega, by omega⟩
            · (repeat' ((conv => whnf) <;> first | exact rfl | exact trivial | apply And.intro | exact Nat.zero_add _)); all_goals ((conv => whnf); try simp only [])
              rw [List.take_of_length_le (by rw [hitsO_len]; exact Nat.le_refl _)]
              exact hsucc.symm
            · (repeat' ((conv => whnf) <;> first | exact rfl | exact trivial | apply And.intro | exact Nat.zero_add _)); all_goals ((conv => whnf); try simp only [])
              exact wr (by omega)
          · have e0 : n2 = i + 1 := by omega
            subst e0
            have et : List.take (i + 1) (List.drop 0 (hitsO d (i + 1))) = hitsO d (i + 1) := by
              rw [List.drop_zero]; exact List.take_of_length_le (by rw [hitsO_len]; exact Nat.le_refl _)
            by_cases hm2 : mayC p (d.getD 0 0, d.getD 1 0, sumsO d n3, hitsO d (i + 1)) = true
            · have MP := cpackM p _ hm2
              have MQ := cequalM (wordsOf 19 (packC (d.getD 0 0, d.getD 1 0, sumsO d n3, hitsO d (i + 1)))) w (by rw [words_len]; decide) hl
              refine CallN.frz 3 ?_ MP.callable
              (conv => whnf)
              refine CallN.intro MP [] rfl rfl ?_ ?_ (fun _ _ => ?_)
              · (repeat' ((conv => whnf) <;> first | exact rfl | exact trivial | apply And.intro | exact Nat.zero_add _)); all_goals ((conv => whnf); try simp only [])
                exact et
              · (repeat' ((conv => whnf) <;> first | exact rfl | exact trivial | apply And.intro | exact Nat.zero_add _))
              (repeat' ((conv => whnf); first | apply And.intro | exact ⟨by kernel_rfl⟩ | apply DrawN.mk | apply CodeN.step hm rfl | exact trivial | exact rfl | (intro hh; try simp only [bs] at hh; try exact absurd hh (by decide)))); all_goals (conv => whnf)
              (refine CallN.q MQ [] (fun _ _ => ?_); (repeat' ((conv => whnf); first | apply And.intro | exact ⟨by kernel_rfl⟩ | apply DrawN.mk | apply CodeN.step hm rfl | exact trivial | exact rfl | (intro hh; try simp only [bs] at hh; try exact absurd hh (by decide)))); all_goals (conv => whnf); all_goals try exact ⟨by decide⟩)
              · rw [hun (fun h => hh h.2)]
                (refine RetN.q () [] ?_ ?_ ?_ <;> (repeat' ((conv => whnf) <;> first | exact rfl | exact trivial | apply And.intro | exact Nat.zero_add _)); all_goals ((conv => whnf); try simp only []))
              · rw [huy hm2 hh]
                (refine RetN.q () [] ?_ ?_ ?_ <;> (repeat' ((conv => whnf) <;> first | exact rfl | exact trivial | apply And.intro | exact Nat.zero_add _)); all_goals ((conv => whnf); try simp only []))
                all_goals exact et
            · have MP := cpackM_no p _ hlev (Bool.eq_false_iff.2 hm2)
              refine CallN.frz 3 ?_ MP.callable
              (conv => whnf)
              refine CallN.intro MP [] rfl rfl ?_ ?_ (fun _ _ => ?_)
              · (repeat' ((conv => whnf) <;> first | exact rfl | exact trivial | apply And.intro | exact Nat.zero_add _)); all_goals ((conv => whnf); try simp only [])
                exact et
              · (repeat' ((conv => whnf) <;> first | exact rfl | exact trivial | apply And.intro | exact Nat.zero_add _))
              (repeat' ((conv => whnf); first | apply And.intro | exact ⟨by kernel_rfl⟩ | apply DrawN.mk | apply CodeN.step hm rfl | exact trivial | exact rfl | (intro hh; try simp only [bs] at hh; try exact absurd hh (by decide)))); all_goals (conv => whnf)
              rw [hun (fun h => hm2 h.1)]
              (refine RetN.q () [] ?_ ?_ ?_ <;> (repeat' ((conv => whnf) <;> first | exact rfl | exact trivial | apply And.intro | exact Nat.zero_add _)); all_goals ((conv => whnf); try simp only []))
    · have k : ¬ p.1 = 3 := by assumption
      generalize hn2 : (min (d.getD 18 0) 16).toNat = n2
      have h18 := hdb 18
      have e63 : (if 16 < d.getD 18 0 then 16 else d.getD 18 0) = (n2 : Int) := by split <;> omega
      simp only [e63]
      have hcell : cellOf p d = (d.getD 0 0, d.getD 1 0, [], hitsO d n2) := by
        unfold cellOf hitsO
        rw [if_neg k, hn2]
        try rfl
      rw [hcell] at hU
      have huy : mayC p (d.getD 0 0, d.getD 1 0, [], hitsO d n2) = true → wordsOf 19 (packC (d.getD 0 0, d.getD 1 0, [], hitsO d n2)) = w → unpackC p w = ((d.getD 0 0, d.getD 1 0, [], hitsO d n2), true) := fun h1 h2 => hU.trans (if_pos ⟨h1, h2⟩)
      have hun : ¬ (mayC p (d.getD 0 0, d.getD 1 0, [], hitsO d n2) = true ∧ wordsOf 19 (packC (d.getD 0 0, d.getD 1 0, [], hitsO d n2)) = w) → unpackC p w = ((0, 0, [], []), false) := fun h => hU.trans (if_neg h)
      have hlev : -9223372036854775808 ≤ d.getD 1 0 ∧ d.getD 1 0 ≤ 9223372036854775807 := by have := hdb 1; omega
      refine LoopN.intro hm (X := Nat) (fun i => i ≤ n2) (fun i => n2 - i)
        (fun i => [(64, .int .i64 fun _ => (i : Int)), (63, .int .i64 fun _ => (n2 : Int)), (9, .lst (.int .u64) fun _ => d.drop 18), (8, .ptr 2 0), (4, .ptr 1 0), (2, .ptr 0 0), (1, .lst (.int .u64) fun _ => w)])
        (fun i => match i with
          | 0 => [.cells 23 [.int .i64 fun _ => p.1, .int .i64 fun _ => p.2.1, .int .i64 fun _ => p.2.2.1, .int .i64 fun _ => p.2.2.2], .cells 31 [.int .i64 fun _ => 0, .int .i64 fun _ => 0, .snil, .snil], .cells 31 [.int .i64 fun _ => d.getD 0 0, .int .i64 fun _ => d.getD 1 0, .snil, .snil]]
          | k + 1 => [.cells 23 [.int .i64 fun _ => p.1, .int .i64 fun _ => p.2.1, .int .i64 fun _ => p.2.2.1, .int .i64 fun _ => p.2.2.2], .cells 31 [.int .i64 fun _ => 0, .int .i64 fun _ => 0, .snil, .snil], .cells 31 [.int .i64 fun _ => d.getD 0 0, .int .i64 fun _ => d.getD 1 0, .snil, .vec 3 2 (fun _ => 0) fun _ => k + 1], .vect 64 HitT fun _ => hitsO d (k + 1)]) 0 [0, 1, 2] ⟨rfl, rfl, ?_, ?_⟩ (Nat.zero_le _) (fun i hi => ?_)
      · (repeat' ((conv => whnf) <;> first | exact rfl | exact trivial | apply And.intro | exact Nat.zero_add _)); all_goals ((conv => whnf); try simp only [])
        all_goals exact rfl
      · (repeat' ((conv => whnf) <;> first | exact rfl | exact trivial | apply And.intro | exact Nat.zero_add _)); all_goals ((conv => whnf); try simp only [])
        all_goals (first | rfl | (split <;> omega) | omega | exact rfl)
      have w2 : IntKind.i64.wrap (2 * (i : Int)) = 2 * i := wr (by omega)
      have w3 : IntKind.i64.wrap (1 + 2 * (i : Int)) = 1 + 2 * i := wr (by omega)
      have w4 : IntKind.i64.wrap (2 + 2 * (i : Int)) = 2 + 2 * i := wr (by omega)
      have g3 : (d.drop 18).getD (1 + 2 * (i : Int)).toNat (Ty.int .u64).dflt = d.getD (19 + 2 * i) 0 := by
        rw [show (1 + 2 * (i : Int)).toNat = 1 + 2 * i by omega]
        show (d.drop 18).getD (1 + 2 * i) 0 = _
        rw [List.getD_eq_getElem?_getD, List.getElem?_drop, ← List.getD_eq_getElem?_getD]
        congr 1; omega
      have g4 : (d.drop 18).getD (2 + 2 * (i : Int)).toNat (Ty.int .u64).dflt = d.getD (20 + 2 * i) 0 := by
        rw [show (2 + 2 * (i : Int)).toNat = 2 + 2 * i by omega]
        show (d.drop 18).getD (2 + 2 * i) 0 = _
        rw [List.getD_eq_getElem?_getD, List.getElem?_drop, ← List.getD_eq_getElem?_getD]
        congr 1; omega
      have hsucc := hitsO_succ d i
      have hdl2 : (d.drop 18).length = 34 := by rw [List.length_drop]; omega
      cases i with
      | zero =>
        (repeat' ((conv => whnf); first | apply And.intro | exact ⟨by kernel_rfl⟩ | apply DrawN.mk | apply CodeN.step hm rfl | exact trivial | exact rfl | (intro hh; try simp only [bs] at hh))); all_goals (conv => whnf)
        all_goals (try simp only [w2, w3, w4, g3, g4, hwrap])
        · exact Ob.mk (by rw [hdl2]; decide)
        · exact Ob.mk (by rw [hdl2]; decide)
        · refine Ob.mk ?_
          show (1 : Nat) * 16 ≤ _
          decide
        · refine ⟨1, [0, 1, 2, 4], ⟨rfl, rfl, ?_, ?_⟩, by omega, by omega⟩
          · (repeat' ((conv => whnf) <;> first | exact rfl | exact trivial | apply And.intro | exact Nat.zero_add _))
          · (repeat' ((conv => whnf) <;> first | exact rfl | exact trivial | apply And.intro | exact Nat.zero_add _))
        · have e0 : n2 = 0 := by omega
          subst e0
          by_cases hm2 : mayC p (d.getD 0 0, d.getD 1 0, [], hitsO d 0) = true
          · have MP := cpackM p _ hm2
            have MQ := cequalM (wordsOf 19 (packC (d.getD 0 0, d.getD 1 0, [], hitsO d 0))) w (by rw [words_len]; decide) hl
            (refine CallN.q MP [] (fun _ _ => ?_); (repeat' ((conv => whnf); first | apply And.intro | exact ⟨by kernel_rfl⟩ | apply DrawN.mk | apply CodeN.step hm rfl | exact trivial | exact rfl | (intro hh; try simp only [bs] at hh; try exact absurd hh (by decide)))); all_goals (conv => whnf); all_goals try exact ⟨by decide⟩)
            (refine CallN.q MQ [] (fun _ _ => ?_); (repeat' ((conv => whnf); first | apply And.intro | exact ⟨by kernel_rfl⟩ | apply DrawN.mk | apply CodeN.step hm rfl | exact trivial | exact rfl | (intro hh; try simp only [bs] at hh; try exact absurd hh (by decide)))); all_goals (conv => whnf); all_goals try exact ⟨by decide⟩)
            · rw [hun (fun h => hh h.2)]
              (refine RetN.q () [] ?_ ?_ ?_ <;> (repeat' ((conv => whnf) <;> first | exact rfl | exact trivial | apply And.intro | exact Nat.zero_add _)); all_goals ((conv => whnf); try simp only []))
            · rw [huy hm2 hh]
              (refine RetN.q () [] ?_ ?_ ?_ <;> (repeat' ((conv => whnf) <;> first | exact rfl | exact trivial | apply And.intro | exact Nat.zero_add _)); all_goals ((conv => whnf); try simp only []))
          · have MP := cpackM_no p _ hlev (Bool.eq_false_iff.2 hm2)
            (refine CallN.q MP [] (fun _ _ => ?_); (repeat' ((conv => whnf); first | apply And.intro | exact ⟨by kernel_rfl⟩ | apply DrawN.mk | apply CodeN.step hm rfl | exact trivial | exact rfl | (intro hh; try simp only [bs] at hh; try exact absurd hh (by decide)))); all_goals (conv => whnf); all_goals try exact ⟨by decide⟩)
            rw [hun (fun h => hm2 h.1)]
            (refine RetN.q () [] ?_ ?_ ?_ <;> (repeat' ((conv => whnf) <;> first | exact rfl | exact trivial | apply And.intro | exact Nat.zero_add _)); all_goals ((conv => whnf); try simp only []))
      | succ i =>
        (repeat' ((conv => whnf); first | apply And.intro | exact ⟨by kernel_rfl⟩ | apply DrawN.mk | apply CodeN.step hm rfl | exact trivial | exact rfl | (intro hh; try simp only [bs] at hh))); all_goals (conv => whnf)
        all_goals (try simp only [w2, w3, w4, g3, g4, hwrap])
        · refine Ob.mk ?_
          simp only [hdl2]; omega
        · refine Ob.mk ?_
          simp only [hdl2]; omega
        · refine Ob.mk ⟨trivial, ?_, ?_⟩
          · show i + 1 + 1 ≤ _
            omega
          · show (i + 1 + 1) * 16 ≤ _
            omega
        · refine ⟨i + 2, [0, 1, 2, 3], ⟨rfl, rfl, ?_, ?_⟩, by omega, by omega⟩
          · (repeat' ((conv => whnf) <;> first | exact rfl | exact trivial | apply And.intro | exact Nat.zero_add _)); all_goals ((conv => whnf); try simp only [])
            rw [List.take_of_length_le (by rw [hitsO_len]; exact Nat.le_refl _)]
            exact hsucc.symm
          · (repeat' ((conv => whnf) <;> first | exact rfl | exact trivial | apply And.intro | exact Nat.zero_add _)); all_goals ((conv => whnf); try simp only [])
            exact wr (by omega)
        · have e0 : n2 = i + 1 := by omega
          subst e0
          have et : List.take (i + 1) (List.drop 0 (hitsO d (i + 1))) = hitsO d (i + 1) := by
            rw [List.drop_zero]; exact List.take_of_length_le (by rw [hitsO_len]; exact Nat.le_refl _)
          by_cases hm2 : mayC p (d.getD 0 0, d.getD 1 0, [], hitsO d (i + 1)) = true
          · have MP := cpackM p _ hm2
            have MQ := cequalM (wordsOf 19 (packC (d.getD 0 0, d.getD 1 0, [], hitsO d (i + 1)))) w (by rw [words_len]; decide) hl
            refine CallN.frz 3 ?_ MP.callable
            (conv => whnf)
            refine CallN.intro MP [] rfl rfl ?_ ?_ (fun _ _ => ?_)
            · (repeat' ((conv => whnf) <;> first | exact rfl | exact trivial | apply And.intro | exact Nat.zero_add _)); all_goals ((conv => whnf); try simp only [])
              exact et
            · (repeat' ((conv => whnf) <;> first | exact rfl | exact trivial | apply And.intro | exact Nat.zero_add _))
            (repeat' ((conv => whnf); first | apply And.intro | exact ⟨by kernel_rfl⟩ | apply DrawN.mk | apply CodeN.step hm rfl | exact trivial | exact rfl | (intro hh; try simp only [bs] at hh; try exact absurd hh (by decide)))); all_goals (conv => whnf)
            (refine CallN.q MQ [] (fun _ _ => ?_); (repeat' ((conv => whnf); first | apply And.intro | exact ⟨by kernel_rfl⟩ | apply DrawN.mk | apply CodeN.step hm rfl | exact trivial | exact rfl | (intro hh; try simp only [bs] at hh; try exact absurd hh (by decide)))); all_goals (conv => whnf); all_goals try exact ⟨by decide⟩)
            · rw [hun (fun h => hh h.2)]
              (refine RetN.q () [] ?_ ?_ ?_ <;> (repeat' ((conv => whnf) <;> first | exact rfl | exact trivial | apply And.intro | exact Nat.zero_add _)); all_goals ((conv => whnf); try simp only []))
            · rw [huy hm2 hh]
              (refine RetN.q () [] ?_ ?_ ?_ <;> (repeat' ((conv => whnf) <;> first | exact rfl | exact trivial | apply And.intro | exact Nat.zero_add _)); all_goals ((conv => whnf); try simp only []))
              all_goals exact et
          · have MP := cpackM_no p _ hlev (Bool.eq_false_iff.2 hm2)
            refine CallN.frz 3 ?_ MP.callable
            (conv => whnf)
            refine CallN.intro MP [] rfl rfl ?_ ?_ (fun _ _ => ?_)
            · (repeat' ((conv => whnf) <;> first | exact rfl | exact trivial | apply And.intro | exact Nat.zero_add _)); all_goals ((conv => whnf); try simp only [])
              exact et
            · (repeat' ((conv => whnf) <;> first | exact rfl | exact trivial | apply And.intro | exact Nat.zero_add _))
            (repeat' ((conv => whnf); first | apply And.intro | exact ⟨by kernel_rfl⟩ | apply DrawN.mk | apply CodeN.step hm rfl | exact trivial | exact rfl | (intro hh; try simp only [bs] at hh; try exact absurd hh (by decide)))); all_goals (conv => whnf)
            rw [hun (fun h => hm2 h.1)]
            (refine RetN.q () [] ?_ ?_ ?_ <;> (repeat' ((conv => whnf) <;> first | exact rfl | exact trivial | apply And.intro | exact Nat.zero_add _)); all_goals ((conv => whnf); try simp only []))
end Go.Proofs.Ytkcifdblaboodaa.Ce
set_option linter.unusedVariables false
set_option linter.unusedSimpArgs false
namespace Go.Proofs.Ytkcifdblaboodaa.Ce
open Go Go.RowKit Fw Hi Po Bt
theorem take_stepG {α : Type} {a b : List α} {i : Nat} (z : α) (h1 : i < a.length) (h2 : i < b.length) (h : a.take i = b.take i) (hx : a.getD i z = b.getD i z) : a.take (i + 1) = b.take (i + 1) := by
  rw [List.getD_eq_getElem?_getD, List.getD_eq_getElem?_getD, List.getElem?_eq_getElem h1, List.getElem?_eq_getElem h2] at hx
  rw [List.take_add_one, List.take_add_one, h, List.getElem?_eq_getElem h1, List.getElem?_eq_getElem h2]
  simp only [Option.getD_some] at hx
  rw [hx]
theorem csameM (a b : Cell) (h1 : a.2.2.1.length ≤ 1000) (h2 : b.2.2.1.length ≤ 1000) (h3 : a.2.2.2.length ≤ 1000) (h4 : b.2.2.2.length ≤ 1000) : Meets Try.prog 24 [cellAV a, cellAV b] [] (Y := Unit) (fun _ => True) (fun _ => .bool fun _ => decide (a = b)) (fun _ => []) := by
  obtain ⟨a1, a2, sa, ah⟩ := a
  obtain ⟨b1, b2, sb, bh⟩ := b
  simp only [] at h1 h2 h3 h4
  refine Meets.intro hm (fn := Try.f24) Try.func24 rfl (by decide) (Nat.le_of_ble_eq_true rfl) (fun _ => rfl) ?_; intro S hok; (conv => whnf)
  (repeat' ((conv => whnf); first | apply And.intro | exact ⟨by kernel_rfl⟩ | apply DrawN.mk | apply CodeN.step hm rfl | exact trivial | exact rfl | (intro hh; try simp only [bs] at hh))); all_goals (conv => whnf)
  all_goals first
    | ((refine RetN.q () [] ?_ ?_ ?_ <;> (repeat' ((conv => whnf) <;> first | exact rfl | exact trivial | apply And.intro | exact Nat.zero_add _)); all_goals ((conv => whnf); try simp only []))
       refine decide_eq_false ?_; intro e
       simp only [Prod.mk.injEq] at e
       obtain ⟨e1, e2, e3, e4⟩ := e
       subst e1 e2 e3 e4
       exact hh rfl)
    | skip
  have k1 : a1 = b1 := by assumption
  have k2 : a2 = b2 := by assumption
  have k3 : (sa.length : Int) = sb.length := by assumption
  have k4 : (ah.length : Int) = bh.length := by assumption
  refine LoopN.intro hm (X := Nat) (fun i => i ≤ sa.length ∧ sa.take i = sb.take i) (fun i => sa.length - i)
    (fun i => [(5, .int .i64 fun _ => (i : Int)), (3, .ptr 1 0), (2, .ptr 0 0)]) (fun i => [.cells 31 [.int .i64 fun _ => a1, .int .i64 fun _ => a2, .lst (.int .i64) fun _ => sa, .lst HitT fun _ => ah], .cells 31 [.int .i64 fun _ => b1, .int .i64 fun _ => b2, .lst (.int .i64) fun _ => sb, .lst HitT fun _ => bh]]) 0 [0, 1] ⟨rfl, rfl, ?_, ?_⟩ ⟨Nat.zero_le _, rfl⟩ (fun i hi => ?_)
  · (repeat' ((conv => whnf) <;> first | exact rfl | exact trivial | apply And.intro | exact Nat.zero_add _))
  · (repeat' ((conv => whnf) <;> first | exact rfl | exact trivial | apply And.intro | exact Nat.zero_add _))
  obtain ⟨hi1, hi2⟩ := hi
  (repeat' ((conv => whnf); first | apply And.intro | exact ⟨by kernel_rfl⟩ | apply DrawN.mk | apply CodeN.step hm rfl | exact trivial | exact rfl | (intro hh; try simp only [bs] at hh))); all_goals (conv => whnf)
  · exact Ob.mk (by simp only []; omega)
  · exact Ob.mk (by simp only []; omega)
  · have hx : ¬ sa.getD i 0 = sb.getD i 0 := hh
    (refine RetN.q () [] ?_ ?_ ?_ <;> (repeat' ((conv => whnf) <;> first | exact rfl | exact trivial | apply And.intro | exact Nat.zero_add _)); all_goals ((conv => whnf); try simp only []))
    refine decide_eq_false ?_; intro e
    simp only [Prod.mk.injEq] at e
    exact hx (by rw [e.2.2.1])
  · have hx : sa.getD i 0 = sb.getD i 0 := hh
    refine ⟨i + 1, [0, 1], ⟨rfl, rfl, ?_, ?_⟩, ⟨by omega, take_step (by omega) (by omega) hi2 hx⟩, by omega⟩
    · (repeat' ((conv => whnf) <;> first | exact rfl | exact trivial | apply And.intro | exact Nat.zero_add _))
    · (repeat' ((conv => whnf) <;> first | exact rfl | exact trivial | apply And.intro | exact Nat.zero_add _)); all_goals ((conv => whnf); try simp only [])
      exact wr (by omega)
  have es : sa = sb := by
    have e : i = sa.length := by omega
    rw [e, List.take_length, List.take_of_length_le (by omega)] at hi2
    exact hi2
  clear hi1 hi2 hh
  refine LoopN.intro hm (X := Nat) (fun i => i ≤ ah.length ∧ ah.take i = bh.take i) (fun i => ah.length - i)
    (fun i => [(6, .int .i64 fun _ => (i : Int)), (3, .ptr 1 0), (2, .ptr 0 0)]) (fun i => [.cells 31 [.int .i64 fun _ => a1, .int .i64 fun _ => a2, .lst (.int .i64) fun _ => sa, .lst HitT fun _ => ah], .cells 31 [.int .i64 fun _ => b1, .int .i64 fun _ => b2, .lst (.int .i64) fun _ => sb, .lst HitT fun _ => bh]]) 0 [0, 1] ⟨rfl, rfl, ?_, ?_⟩ ⟨Nat.zero_le _, rfl⟩ (fun i hi => ?_)
  · (repeat' ((conv => whnf) <;> first | exact rfl | exact trivial | apply And.intro | exact Nat.zero_add _))
  · (repeat' ((conv => whnf) <;> first | exact rfl | exact trivial | apply And.intro | exact Nat.zero_add _))
  obtain ⟨hi1, hi2⟩ := hi
  (repeat' ((conv => whnf); first | apply And.intro | exact ⟨by kernel_rfl⟩ | apply DrawN.mk | apply CodeN.step hm rfl | exact trivial | exact rfl | (intro hh; try simp only [bs] at hh))); all_goals (conv => whnf)
  · exact Ob.mk (by simp only []; omega)
  · exact Ob.mk (by simp only []; omega)
  · have hx : ah.getD i HitT.dflt ≠ bh.getD i HitT.dflt := (eqD_no HitT rfl _ _).1 hh
    (refine RetN.q () [] ?_ ?_ ?_ <;> (repeat' ((conv => whnf) <;> first | exact rfl | exact trivial | apply And.intro | exact Nat.zero_add _)); all_goals ((conv => whnf); try simp only []))
    refine decide_eq_false ?_; intro e
    simp only [Prod.mk.injEq] at e
    exact hx (by rw [e.2.2.2])
  · have hx : ah.getD i HitT.dflt = bh.getD i HitT.dflt := (eqD_iff HitT rfl _ _).1 hh
    refine ⟨i + 1, [0, 1], ⟨rfl, rfl, ?_, ?_⟩, ⟨by omega, take_stepG (0, 0) (by omega) (by omega) hi2 hx⟩, by omega⟩
    · (repeat' ((conv => whnf) <;> first | exact rfl | exact trivial | apply And.intro | exact Nat.zero_add _))
    · (repeat' ((conv => whnf) <;> first | exact rfl | exact trivial | apply And.intro | exact Nat.zero_add _)); all_goals ((conv => whnf); try simp only [])
      exact wr (by omega)
  have eh : ah = bh := by
    have e : i = ah.length := by omega
    rw [e, List.take_length, List.take_of_length_le (by omega)] at hi2
    exact hi2
  subst k1 k2 es eh
  (refine RetN.q () [] ?_ ?_ ?_ <;> (repeat' ((conv => whnf) <;> first | exact rfl | exact trivial | apply And.intro | exact Nat.zero_add _)); all_goals ((conv => whnf); try simp only []))
  all_goals first | exact decide_eq_true rfl | exact decide_eq_true trivial
def p0 : Pol := (3, 9, 30, 3)
def q0 : Pol := (4, 9, 30, 0)
def c0 : Cell := (12, 0, [0, 4, 0], [])
def d0 : Cell := (12, 0, [], [(12, 4)])
theorem ask_c0 : (askC p0 (0, 0, [], []) 12 4).1 = c0 ∧ (askC p0 (0, 0, [], []) 12 4).2.1 = true := by decide
theorem ask_d0 : (askC q0 (0, 0, [], []) 12 4).1 = d0 ∧ (askC q0 (0, 0, [], []) 12 4).2.1 = true := by decide
theorem may_c0 : mayC p0 c0 = true := by decide
theorem may_d0 : mayC q0 d0 = true := by decide
theorem may_cd : mayC p0 d0 = false := by decide
theorem may_zero : mayC (0, 0, 0, 0) d0 = false := by decide
theorem ends_c0 : endsC p0 c0 = 40 := by decide
theorem neu_c0 : neutralC p0 c0 40 = true ∧ neutralC p0 c0 39 = false := by decide
theorem norm_c0 : norm p0 c0 = c0 := by decide
theorem norm_d0 : norm q0 d0 = d0 := by decide
theorem pack_first : (wordsOf 19 (packC c0)).getD 0 0 = 12 := by decide
theorem unpack_cd : (unpackC q0 (wordsOf 19 (packC c0))).2 = false := by
  have hk := may_packs may_c0
  have e : flds widthsL (numOf (wordsOf 19 (packC c0))) = vals c0 := by
    rw [num_words (pack_lt hk)]
    exact flds_pack (vals_fit hk)
  have e2 : cellOf q0 (vals c0) = (12, 0, [], []) := by decide
  have hk2 : Packs (12, 0, [], []) := may_packs (p := q0) (by decide)
  unfold unpackC
  rw [e, e2, if_neg]
  rintro ⟨_, _, h⟩
  exact absurd (words_inj (pack_lt hk2) (pack_lt hk) h) (by decide)
set_option maxHeartbeats 4000000 in
set_option maxRecDepth 4000 in
theorem liveM : Meets Try.prog 17 [] [] (Y := Unit) (fun _ => True) (fun _ => .tt) (fun _ => []) := by
  have A1 := caskM p0 (0, 0, [], []) 12 4 (by decide)
  have A2 := caskM q0 (0, 0, [], []) 12 4 (by decide)
  have k1 := ask_c0
  have k2 := ask_d0
  generalize askC p0 (0, 0, [], []) 12 4 = a1 at A1 k1
  generalize askC q0 (0, 0, [], []) 12 4 = a2 at A2 k2
  obtain ⟨a11, a12, v1⟩ := a1
  obtain ⟨a21, a22, v2⟩ := a2
  obtain ⟨rfl, rfl⟩ := k1
  obtain ⟨rfl, rfl⟩ := k2
  have P1 := cpackM p0 c0 may_c0
  have P2 := cpackM q0 d0 may_d0
  have P3 := cpackM_no p0 d0 (by decide) may_cd
  have U1 := cunpackM p0 (wordsOf 19 (packC c0)) (words_wd _ _) (by rw [words_len]; decide)
  rw [unpack_pack may_c0, norm_c0] at U1
  have U2 := cunpackM q0 (wordsOf 19 (packC d0)) (words_wd _ _) (by rw [words_len]; decide)
  rw [unpack_pack may_d0, norm_d0] at U2
  have U3 := cunpackM q0 (wordsOf 19 (packC c0)) (words_wd _ _) (by rw [words_len]; decide)
  rw [unpack_cd] at U3
  have S1 := csameM c0 c0 (by decide) (by decide) (by decide) (by decide)
  rw [decide_eq_true rfl] at S1
  have S2 := csameM d0 d0 (by decide) (by decide) (by decide) (by decide)
  rw [decide_eq_true rfl] at S2
  have E1 := cendsM p0 c0 (by decide)
  rw [ends_c0] at E1
  have N1 := cneutralM p0 c0 40 (by decide)
  rw [neu_c0.1] at N1
  have N2 := cneutralM p0 c0 39 (by decide)
  rw [neu_c0.2] at N2
  have M1 := cmayM q0 d0 (by decide)
  rw [may_d0] at M1
  have M2 := cmayM (0, 0, 0, 0) d0 (by decide)
  rw [may_zero] at M2
  have W0 := pack_first
  have W1 := words_len 19 (packC c0)
  have W2 := words_len 19 (packC d0)
  generalize wordsOf 19 (packC c0) = w1 at *
  generalize wordsOf 19 (packC d0) = w2 at *
  generalize (unpackC q0 w1).1 = u3 at *
  refine Meets.intro hm (fn := Try.f17) Try.func17 rfl (by decide) (Nat.le_of_ble_eq_true rfl) (fun _ => rfl) ?_; intro S hok; (conv => whnf)
  (repeat' ((conv => whnf); first | apply And.intro | exact ⟨by kernel_rfl⟩ | apply DrawN.mk | apply CodeN.step hm rfl | exact trivial | exact rfl | (intro hh; try simp only [bs] at hh))); all_goals (conv => whnf)
  (refine CallN.q A1 [] (fun _ _ => ?_); (repeat' ((conv => whnf); first | apply And.intro | exact ⟨by kernel_rfl⟩ | apply DrawN.mk | apply CodeN.step hm rfl | exact trivial | exact rfl | (intro hh; try simp only [bs] at hh; try exact absurd hh (by decide)))); all_goals (conv => whnf); all_goals try exact ⟨by decide⟩)
  (refine CallN.q A2 [] (fun _ _ => ?_); (repeat' ((conv => whnf); first | apply And.intro | exact ⟨by kernel_rfl⟩ | apply DrawN.mk | apply CodeN.step hm rfl | exact trivial | exact rfl | (intro hh; try simp only [bs] at hh; try exact absurd hh (by decide)))); all_goals (conv => whnf); all_goals try exact ⟨by decide⟩)
  (refine CallN.q P1 [] (fun _ _ => ?_); (repeat' ((conv => whnf); first | apply And.intro | exact ⟨by kernel_rfl⟩ | apply DrawN.mk | apply CodeN.step hm rfl | exact trivial | exact rfl | (intro hh; try simp only [bs] at hh; try exact absurd hh (by decide)))); all_goals (conv => whnf); all_goals try exact ⟨by decide⟩)
  (refine CallN.q U1 [] (fun _ _ => ?_); (repeat' ((conv => whnf); first | apply And.intro | exact ⟨by kernel_rfl⟩ | apply DrawN.mk | apply CodeN.step hm rfl | exact trivial | exact rfl | (intro hh; try simp only [bs] at hh; try exact absurd hh (by decide)))); all_goals (conv => whnf); all_goals try exact ⟨by decide⟩)
  (refine CallN.q P2 [] (fun _ _ => ?_); (repeat' ((conv => whnf); first | apply And.intro | exact ⟨by kernel_rfl⟩ | apply DrawN.mk | apply CodeN.step hm rfl | exact trivial | exact rfl | (intro hh; try simp only [bs] at hh; try exact absurd hh (by decide)))); all_goals (conv => whnf); all_goals try exact ⟨by decide⟩)
  (refine CallN.q U2 [] (fun _ _ => ?_); (repeat' ((conv => whnf); first | apply And.intro | exact ⟨by kernel_rfl⟩ | apply DrawN.mk | apply CodeN.step hm rfl | exact trivial | exact rfl | (intro hh; try simp only [bs] at hh; try exact absurd hh (by decide)))); all_goals (conv => whnf); all_goals try exact ⟨by decide⟩)
  (refine CallN.q U3 [] (fun _ _ => ?_); (repeat' ((conv => whnf); first | apply And.intro | exact ⟨by kernel_rfl⟩ | apply DrawN.mk | apply CodeN.step hm rfl | exact trivial | exact rfl | (intro hh; try simp only [bs] at hh; try exact absurd hh (by decide)))); all_goals (conv => whnf); all_goals try exact ⟨by decide⟩)
  (refine CallN.q P3 [] (fun _ _ => ?_); (repeat' ((conv => whnf); first | apply And.intro | exact ⟨by kernel_rfl⟩ | apply DrawN.mk | apply CodeN.step hm rfl | exact trivial | exact rfl | (intro hh; try simp only [bs] at hh; try exact absurd hh (by decide)))); all_goals (conv => whnf); all_goals try exact ⟨by decide⟩)
  · refine Ob.mk ?_
    simp only [W1]; decide
  · (refine CallN.q S1 [] (fun _ _ => ?_); (repeat' ((conv => whnf); first | apply And.intro | exact ⟨by kernel_rfl⟩ | apply DrawN.mk | apply CodeN.step hm rfl | exact trivial | exact rfl | (intro hh; try simp only [bs] at hh; try exact absurd hh (by decide)))); all_goals (conv => whnf); all_goals try exact ⟨by decide⟩)
    (refine CallN.q S2 [] (fun _ _ => ?_); (repeat' ((conv => whnf); first | apply And.intro | exact ⟨by kernel_rfl⟩ | apply DrawN.mk | apply CodeN.step hm rfl | exact trivial | exact rfl | (intro hh; try simp only [bs] at hh; try exact absurd hh (by decide)))); all_goals (conv => whnf); all_goals try exact ⟨by decide⟩)
    (refine CallN.q E1 [] (fun _ _ => ?_); (repeat' ((conv => whnf); first | apply And.intro | exact ⟨by kernel_rfl⟩ | apply DrawN.mk | apply CodeN.step hm rfl | exact trivial | exact rfl | (intro hh; try simp only [bs] at hh; try exact absurd hh (by decide)))); all_goals (conv => whnf); all_goals try exact ⟨by decide⟩)
    (refine CallN.q N1 [] (fun _ _ => ?_); (repeat' ((conv => whnf); first | apply And.intro | exact ⟨by kernel_rfl⟩ | apply DrawN.mk | apply CodeN.step hm rfl | exact trivial | exact rfl | (intro hh; try simp only [bs] at hh; try exact absurd hh (by decide)))); all_goals (conv => whnf); all_goals try exact ⟨by decide⟩)
    (refine CallN.q N2 [] (fun _ _ => ?_); (repeat' ((conv => whnf); first | apply And.intro | exact ⟨by kernel_rfl⟩ | apply DrawN.mk | apply CodeN.step hm rfl | exact trivial | exact rfl | (intro hh; try simp only [bs] at hh; try exact absurd hh (by decide)))); all_goals (conv => whnf); all_goals try exact ⟨by decide⟩)
    (refine CallN.q M1 [] (fun _ _ => ?_); (repeat' ((conv => whnf); first | apply And.intro | exact ⟨by kernel_rfl⟩ | apply DrawN.mk | apply CodeN.step hm rfl | exact trivial | exact rfl | (intro hh; try simp only [bs] at hh; try exact absurd hh (by decide)))); all_goals (conv => whnf); all_goals try exact ⟨by decide⟩)
    (refine CallN.q M2 [] (fun _ _ => ?_); (repeat' ((conv => whnf); first | apply And.intro | exact ⟨by kernel_rfl⟩ | apply DrawN.mk | apply CodeN.step hm rfl | exact trivial | exact rfl | (intro hh; try simp only [bs] at hh; try exact absurd hh (by decide)))); all_goals (conv => whnf); all_goals try exact ⟨by decide⟩)
    (refine RetN.q () [] ?_ ?_ ?_ <;> (repeat' ((conv => whnf) <;> first | exact rfl | exact trivial | apply And.intro | exact Nat.zero_add _)); all_goals ((conv => whnf); try simp only []))
  · exfalso; exact hh W0
  · exfalso; rw [W1] at hh; exact hh rfl
end Go.Proofs.Ytkcifdblaboodaa.Ce
set_option linter.unusedVariables false
set_option linter.unusedSimpArgs false
namespace Go.Proofs.Ytkcifdblaboodaa.Ce
open Go Go.RowKit Fw Hi Po Bt
def fewB (c : Cell) : Bool := decide ((c.2.2.1.length : Int) ≤ 40) && decide ((c.2.2.2.length : Int) ≤ 40)
theorem fewM (c : Cell) : Meets Try.prog 16 [cellAV c] [] (Y := Unit) (fun _ => True) (fun _ => .bool fun _ => fewB c) (fun _ => []) := by
  obtain ⟨a1, a2, sa, ah⟩ := c
  refine Meets.intro hm (fn := Try.f16) Try.func16 rfl (by decide) (Nat.le_of_ble_eq_true rfl) (fun _ => rfl) ?_; intro S hok; (conv => whnf)
  (repeat' ((conv => whnf); first | apply And.intro | exact ⟨by kernel_rfl⟩ | apply DrawN.mk | apply CodeN.step hm rfl | exact trivial | exact rfl | (intro hh; try simp only [bs] at hh))); all_goals (conv => whnf)
  · (refine RetN.q () [] ?_ ?_ ?_ <;> (repeat' ((conv => whnf) <;> first | exact rfl | exact trivial | apply And.intro | exact Nat.zero_add _)); all_goals ((conv => whnf); try simp only []))
    unfold fewB
    simp only []
    rw [decide_eq_true hh]; rfl
  · (refine RetN.q () [] ?_ ?_ ?_ <;> (repeat' ((conv => whnf) <;> first | exact rfl | exact trivial | apply And.intro | exact Nat.zero_add _)); all_goals ((conv => whnf); try simp only []))
    unfold fewB
    simp only []
    rw [decide_eq_false hh]; rfl
def packL (p : Pol) (c : Cell) : List Int := if mayC p c then wordsOf 19 (packC c) else []
theorem cpackG (p : Pol) (c : Cell) (hc : -9223372036854775808 ≤ c.2.1 ∧ c.2.1 ≤ 9223372036854775807) : Meets Try.prog 18 [polAV p, cellAV c] [] (Y := Unit) (fun _ => True) (fun _ => .tup [.lst (.int .u64) fun _ => packL p c, .bool fun _ => mayC p c]) (fun _ => []) := by
  unfold packL
  by_cases h : mayC p c = true
  · rw [h]
    exact (cpackM p c h).le [] rfl rfl (fun _ _ => ⟨(), trivial, by (repeat' ((conv => whnf) <;> first | exact rfl | exact trivial | apply And.intro | exact Nat.zero_add _)), by (repeat' ((conv => whnf) <;> first | exact rfl | exact trivial | apply And.intro | exact Nat.zero_add _))⟩)
  · rw [Bool.eq_false_iff.2 h]
    exact (cpackM_no p c hc (Bool.eq_false_iff.2 h)).le [] rfl rfl (fun _ _ => ⟨(), trivial, by (repeat' ((conv => whnf) <;> first | exact rfl | exact trivial | apply And.intro | exact Nat.zero_add _)), by (repeat' ((conv => whnf) <;> first | exact rfl | exact trivial | apply And.intro | exact Nat.zero_add _))⟩)
theorem usameM (a b : List Int) (ha : a.length ≤ 1000) (hb : b.length ≤ 1000) : Meets Try.prog 21 [.lst (.int .u64) fun _ => a, .lst (.int .u64) fun _ => b] [] (Y := Unit) (fun _ => True) (fun _ => .bool fun _ => decide (a = b)) (fun _ => []) := by
  refine Meets.intro hm (fn := Try.f21) Try.func21 rfl (by decide) (Nat.le_of_ble_eq_true rfl) (fun _ => rfl) ?_; intro S hok; (conv => whnf)
  (repeat' ((conv => whnf); first | apply And.intro | exact ⟨by kernel_rfl⟩ | apply DrawN.mk | apply CodeN.step hm rfl | exact trivial | exact rfl | (intro hh; try simp only [bs] at hh))); all_goals (conv => whnf)
  · (refine RetN.q () [] ?_ ?_ ?_ <;> (repeat' ((conv => whnf) <;> first | exact rfl | exact trivial | apply And.intro | exact Nat.zero_add _)); all_goals ((conv => whnf); try simp only []))
    refine decide_eq_false ?_; intro e
    exact hh (by rw [e])
  · have hl : a.length = b.length := by omega
    refine LoopN.intro hm (X := Nat) (fun i => i ≤ a.length ∧ a.take i = b.take i) (fun i => a.length - i)
      (fun i => [(5, .int .i64 fun _ => (i : Int)), (0, .lst (.int .u64) fun _ => a), (1, .lst (.int .u64) fun _ => b)]) (fun _ => []) 0 [] ⟨rfl, rfl, ?_, ?_⟩ ⟨Nat.zero_le _, rfl⟩ (fun i hi => ?_)
    · (repeat' ((conv => whnf) <;> first | exact rfl | exact trivial | apply And.intro | exact Nat.zero_add _))
    · (repeat' ((conv => whnf) <;> first | exact rfl | exact trivial | apply And.intro | exact Nat.zero_add _))
    obtain ⟨hi1, hi2⟩ := hi
    (repeat' ((conv => whnf); first | apply And.intro | exact ⟨by kernel_rfl⟩ | apply DrawN.mk | apply CodeN.step hm rfl | exact trivial | exact rfl | (intro hh; try simp only [bs] at hh))); all_goals (conv => whnf)
    · exact Ob.mk (by simp only []; omega)
    · exact Ob.mk (by simp only []; omega)
    · have hx : ¬ a.getD i 0 = b.getD i 0 := hh
      (refine RetN.q () [] ?_ ?_ ?_ <;> (repeat' ((conv => whnf) <;> first | exact rfl | exact trivial | apply And.intro | exact Nat.zero_add _)); all_goals ((conv => whnf); try simp only []))
      refine decide_eq_false ?_; intro e
      exact hx (by rw [e])
    · have hx : a.getD i 0 = b.getD i 0 := hh
      refine ⟨i + 1, [], ⟨rfl, rfl, ?_, ?_⟩, ⟨by omega, take_step (by omega) (by omega) hi2 hx⟩, by omega⟩
      · (repeat' ((conv => whnf) <;> first | exact rfl | exact trivial | apply And.intro | exact Nat.zero_add _))
      · (repeat' ((conv => whnf) <;> first | exact rfl | exact trivial | apply And.intro | exact Nat.zero_add _)); all_goals ((conv => whnf); try simp only [])
        exact wr (by omega)
    · have e : i = a.length := by omega
      (refine RetN.q () [] ?_ ?_ ?_ <;> (repeat' ((conv => whnf) <;> first | exact rfl | exact trivial | apply And.intro | exact Nat.zero_add _)); all_goals ((conv => whnf); try simp only []))
      refine decide_eq_true ?_
      rw [e, List.take_length, hl, List.take_length] at hi2
      exact hi2
theorem unpack_level (p : Pol) (w : List Int) : -9223372036854775808 ≤ (unpackC p w).1.2.1 ∧ (unpackC p w).1.2.1 ≤ 9223372036854775807 := by
  by_cases h : (unpackC p w).2 = true
  · exact may_level (unpack_back h).1
  · unfold unpackC at h ⊢
    split
    · rename_i hh
      rw [if_pos hh] at h
      exact absurd rfl h
    · decide
set_option maxHeartbeats 4000000 in
set_option maxRecDepth 4000 in
theorem backM (p : Pol) (c : Cell) (w : List Int) (hc : -9223372036854775808 ≤ c.2.1 ∧ c.2.1 ≤ 9223372036854775807) (hw : Wd w) : Meets Try.prog 4 [polAV p, cellAV c, .lst (.int .u64) fun _ => w] [] (Y := Unit) (fun _ => True) (fun _ => .tt) (fun _ => []) := by
  have hul := unpack_level p w
  by_cases hm1 : mayC p c = true
  · have P1 := cpackG p c hc
    unfold packL at P1
    rw [hm1, if_pos rfl] at P1
    have M1 := cmayM p c hc
    rw [hm1] at M1
    have U1 := cunpackM p (wordsOf 19 (packC c)) (words_wd _ _) (by rw [words_len]; decide)
    rw [unpack_pack hm1] at U1
    have P2 := cpackM p (norm p c) (norm_may hm1)
    rw [show packC (norm p c) = packC c from congrArg (packN widthsL) (norm_vals hm1)] at P2
    have A1 := caskM p c c.1 1 hc
    have A2 := caskM p (norm p c) c.1 1 hc
    have hA := norm_ask hm1 c.1 1
    have E1 := cendsM p c hc
    have E2 := cendsM p (norm p c) hc
    rw [norm_ends hm1] at E2
    have W1 := words_len 19 (packC c)
    have S1 := usameM (wordsOf 19 (packC c)) (wordsOf 19 (packC c)) (by omega) (by omega)
    rw [decide_eq_true rfl] at S1
    generalize wordsOf 19 (packC c) = a at *
    generalize askC p c c.1 1 = u at *
    generalize askC p (norm p c) c.1 1 = v at *
    obtain ⟨u1, u⟩ := u
    obtain ⟨v1, v⟩ := v
    simp only [] at hA
    subst hA
    have hn1 : (norm p c).1 = c.1 := rfl
    have hn2 : (norm p c).2.1 = c.2.1 := rfl
    refine Meets.intro hm (fn := Try.f4) Try.func4 rfl (by decide) (Nat.le_of_ble_eq_true rfl) (fun _ => rfl) ?_; intro S hok; (conv => whnf)
    (repeat' ((conv => whnf); first | apply And.intro | exact ⟨by kernel_rfl⟩ | apply DrawN.mk | apply CodeN.step hm rfl | exact trivial | exact rfl | (intro hh; try simp only [bs] at hh))); all_goals (conv => whnf)
    (refine CallN.q (fewM c) [] (fun _ _ => ?_); (repeat' ((conv => whnf); first | apply And.intro | exact ⟨by kernel_rfl⟩ | apply DrawN.mk | apply CodeN.step hm rfl | exact trivial | exact rfl | (intro hh; try simp only [bs] at hh; try exact absurd hh (by decide)))); all_goals (conv => whnf); all_goals try exact ⟨by decide⟩)
    · (refine CallN.q liveM [] (fun _ _ => ?_); (repeat' ((conv => whnf); first | apply And.intro | exact ⟨by kernel_rfl⟩ | apply DrawN.mk | apply CodeN.step hm rfl | exact trivial | exact rfl | (intro hh; try simp only [bs] at hh; try exact absurd hh (by decide)))); all_goals (conv => whnf); all_goals try exact ⟨by decide⟩)
      (refine RetN.q () [] ?_ ?_ ?_ <;> (repeat' ((conv => whnf) <;> first | exact rfl | exact trivial | apply And.intro | exact Nat.zero_add _)); all_goals ((conv => whnf); try simp only []))
    rotate_left
    · (refine CallN.q liveM [] (fun _ _ => ?_); (repeat' ((conv => whnf); first | apply And.intro | exact ⟨by kernel_rfl⟩ | apply DrawN.mk | apply CodeN.step hm rfl | exact trivial | exact rfl | (intro hh; try simp only [bs] at hh; try exact absurd hh (by decide)))); all_goals (conv => whnf); all_goals try exact ⟨by decide⟩)
      (refine RetN.q () [] ?_ ?_ ?_ <;> (repeat' ((conv => whnf) <;> first | exact rfl | exact trivial | apply And.intro | exact Nat.zero_add _)); all_goals ((conv => whnf); try simp only []))
    have U3 := cunpackM p w hw (by omega)
    have P3 := cpackG p (unpackC p w).1 hul
    have S3 := fun h => usameM (packL p (unpackC p w).1) w h (by omega)
    (refine CallN.q P1 [] (fun _ _ => ?_); (repeat' ((conv => whnf); first | apply And.intro | exact ⟨by kernel_rfl⟩ | apply DrawN.mk | apply CodeN.step hm rfl | exact trivial | exact rfl | (intro hh; try simp only [bs] at hh; try exact absurd hh (by decide)))); all_goals (conv => whnf); all_goals try exact ⟨by decide⟩)
    (refine CallN.q M1 [] (fun _ _ => ?_); (repeat' ((conv => whnf); first | apply And.intro | exact ⟨by kernel_rfl⟩ | apply DrawN.mk | apply CodeN.step hm rfl | exact trivial | exact rfl | (intro hh; try simp only [bs] at hh; try exact absurd hh (by decide)))); all_goals (conv => whnf); all_goals try exact ⟨by decide⟩)
    (refine CallN.q U1 [] (fun _ _ => ?_); (repeat' ((conv => whnf); first | apply And.intro | exact ⟨by kernel_rfl⟩ | apply DrawN.mk | apply CodeN.step hm rfl | exact trivial | exact rfl | (intro hh; try simp only [bs] at hh; try exact absurd hh (by decide)))); all_goals (conv => whnf); all_goals try exact ⟨by decide⟩)
    (refine CallN.q P2 [] (fun _ _ => ?_); (repeat' ((conv => whnf); first | apply And.intro | exact ⟨by kernel_rfl⟩ | apply DrawN.mk | apply CodeN.step hm rfl | exact trivial | exact rfl | (intro hh; try simp only [bs] at hh; try exact absurd hh (by decide)))); all_goals (conv => whnf); all_goals try exact ⟨by decide⟩)
    (refine CallN.q A1 [] (fun _ _ => ?_); (repeat' ((conv => whnf); first | apply And.intro | exact ⟨by kernel_rfl⟩ | apply DrawN.mk | apply CodeN.step hm rfl | exact trivial | exact rfl | (intro hh; try simp only [bs] at hh; try exact absurd hh (by decide)))); all_goals (conv => whnf); all_goals try exact ⟨by decide⟩)
    (refine CallN.q A2 [] (fun _ _ => ?_); (repeat' ((conv => whnf); first | apply And.intro | exact ⟨by kernel_rfl⟩ | apply DrawN.mk | apply CodeN.step hm rfl | exact trivial | exact rfl | (intro hh; try simp only [bs] at hh; try exact absurd hh (by decide)))); all_goals (conv => whnf); all_goals try exact ⟨by decide⟩)
    rotate_left
    · exfalso; rw [W1] at hh; exact hh rfl
    (refine CallN.q S1 [] (fun _ _ => ?_); (repeat' ((conv => whnf); first | apply And.intro | exact ⟨by kernel_rfl⟩ | apply DrawN.mk | apply CodeN.step hm rfl | exact trivial | exact rfl | (intro hh; try simp only [bs] at hh; try exact absurd hh (by decide)))); all_goals (conv => whnf); all_goals try exact ⟨by decide⟩)
    all_goals first | (exfalso; exact (eqD_no VerT rfl _ _).1 hh rfl) | (exfalso; exact hh rfl) | skip
    (refine CallN.q E1 [] (fun _ _ => ?_); (repeat' ((conv => whnf); first | apply And.intro | exact ⟨by kernel_rfl⟩ | apply DrawN.mk | apply CodeN.step hm rfl | exact trivial | exact rfl | (intro hh; try simp only [bs] at hh; try exact absurd hh (by decide)))); all_goals (conv => whnf); all_goals try exact ⟨by decide⟩)
    (refine CallN.q E2 [] (fun _ _ => ?_); (repeat' ((conv => whnf); first | apply And.intro | exact ⟨by kernel_rfl⟩ | apply DrawN.mk | apply CodeN.step hm rfl | exact trivial | exact rfl | (intro hh; try simp only [bs] at hh; try exact absurd hh (by decide)))); all_goals (conv => whnf); all_goals try exact ⟨by decide⟩)
    all_goals first | (exfalso; exact hh rfl) | skip
    (refine CallN.q U3 [] (fun _ _ => ?_); (repeat' ((conv => whnf); first | apply And.intro | exact ⟨by kernel_rfl⟩ | apply DrawN.mk | apply CodeN.step hm rfl | exact trivial | exact rfl | (intro hh; try simp only [bs] at hh; try exact absurd hh (by decide)))); all_goals (conv => whnf); all_goals try exact ⟨by decide⟩)
    (refine CallN.q P3 [] (fun _ _ => ?_); (repeat' ((conv => whnf); first | apply And.intro | exact ⟨by kernel_rfl⟩ | apply DrawN.mk | apply CodeN.step hm rfl | exact trivial | exact rfl | (intro hh; try simp only [bs] at hh; try exact absurd hh (by decide)))); all_goals (conv => whnf); all_goals try exact ⟨by decide⟩)
    · have hf : (unpackC p w).2 = true := by assumption
      have hk := unpack_back hf
      have e : packL p (unpackC p w).1 = w := by
        unfold packL; rw [hk.1, if_pos rfl]; exact hk.2
      have S4 := S3 (by rw [e]; omega)
      rw [decide_eq_true e] at S4
      have M4 := cmayM p (unpackC p w).1 hul
      rw [hk.1] at M4
      (refine CallN.q S4 [] (fun _ _ => ?_); (repeat' ((conv => whnf); first | apply And.intro | exact ⟨by kernel_rfl⟩ | apply DrawN.mk | apply CodeN.step hm rfl | exact trivial | exact rfl | (intro hh; try simp only [bs] at hh; try exact absurd hh (by decide)))); all_goals (conv => whnf); all_goals try exact ⟨by decide⟩)
      (refine CallN.q M4 [] (fun _ _ => ?_); (repeat' ((conv => whnf); first | apply And.intro | exact ⟨by kernel_rfl⟩ | apply DrawN.mk | apply CodeN.step hm rfl | exact trivial | exact rfl | (intro hh; try simp only [bs] at hh; try exact absurd hh (by decide)))); all_goals (conv => whnf); all_goals try exact ⟨by decide⟩)
      (refine CallN.q liveM [] (fun _ _ => ?_); (repeat' ((conv => whnf); first | apply And.intro | exact ⟨by kernel_rfl⟩ | apply DrawN.mk | apply CodeN.step hm rfl | exact trivial | exact rfl | (intro hh; try simp only [bs] at hh; try exact absurd hh (by decide)))); all_goals (conv => whnf); all_goals try exact ⟨by decide⟩)
      (refine RetN.q () [] ?_ ?_ ?_ <;> (repeat' ((conv => whnf) <;> first | exact rfl | exact trivial | apply And.intro | exact Nat.zero_add _)); all_goals ((conv => whnf); try simp only []))
    · exfalso
      have hf : (unpackC p w).2 = true := by assumption
      exact absurd (unpack_back hf).1 (by simp [*])
    · (refine CallN.q liveM [] (fun _ _ => ?_); (repeat' ((conv => whnf); first | apply And.intro | exact ⟨by kernel_rfl⟩ | apply DrawN.mk | apply CodeN.step hm rfl | exact trivial | exact rfl | (intro hh; try simp only [bs] at hh; try exact absurd hh (by decide)))); all_goals (conv => whnf); all_goals try exact ⟨by decide⟩)
      (refine RetN.q () [] ?_ ?_ ?_ <;> (repeat' ((conv => whnf) <;> first | exact rfl | exact trivial | apply And.intro | exact Nat.zero_add _)); all_goals ((conv => whnf); try simp only []))
  · have P1 := cpackG p c hc
    unfold packL at P1
    rw [Bool.eq_false_iff.2 hm1] at P1
    have M1 := cmayM p c hc
    rw [Bool.eq_false_iff.2 hm1] at M1
    refine Meets.intro hm (fn := Try.f4) Try.func4 rfl (by decide) (Nat.le_of_ble_eq_true rfl) (fun _ => rfl) ?_; intro S hok; (conv => whnf)
    (repeat' ((conv => whnf); first | apply And.intro | exact ⟨by kernel_rfl⟩ | apply DrawN.mk | apply CodeN.step hm rfl | exact trivial | exact rfl | (intro hh; try simp only [bs] at hh))); all_goals (conv => whnf)
    (refine CallN.q (fewM c) [] (fun _ _ => ?_); (repeat' ((conv => whnf); first | apply And.intro | exact ⟨by kernel_rfl⟩ | apply DrawN.mk | apply CodeN.step hm rfl | exact trivial | exact rfl | (intro hh; try simp only [bs] at hh; try exact absurd hh (by decide)))); all_goals (conv => whnf); all_goals try exact ⟨by decide⟩)
    · (refine CallN.q liveM [] (fun _ _ => ?_); (repeat' ((conv => whnf); first | apply And.intro | exact ⟨by kernel_rfl⟩ | apply DrawN.mk | apply CodeN.step hm rfl | exact trivial | exact rfl | (intro hh; try simp only [bs] at hh; try exact absurd hh (by decide)))); all_goals (conv => whnf); all_goals try exact ⟨by decide⟩)
      (refine RetN.q () [] ?_ ?_ ?_ <;> (repeat' ((conv => whnf) <;> first | exact rfl | exact trivial | apply And.intro | exact Nat.zero_add _)); all_goals ((conv => whnf); try simp only []))
    rotate_left
    · (refine CallN.q liveM [] (fun _ _ => ?_); (repeat' ((conv => whnf); first | apply And.intro | exact ⟨by kernel_rfl⟩ | apply DrawN.mk | apply CodeN.step hm rfl | exact trivial | exact rfl | (intro hh; try simp only [bs] at hh; try exact absurd hh (by decide)))); all_goals (conv => whnf); all_goals try exact ⟨by decide⟩)
      (refine RetN.q () [] ?_ ?_ ?_ <;> (repeat' ((conv => whnf) <;> first | exact rfl | exact trivial | apply And.intro | exact Nat.zero_add _)); all_goals ((conv => whnf); try simp only []))
    have U3 := cunpackM p w hw (by omega)
    have P3 := cpackG p (unpackC p w).1 hul
    have S3 := fun h => usameM (packL p (unpackC p w).1) w h (by omega)
    (refine CallN.q P1 [] (fun _ _ => ?_); (repeat' ((conv => whnf); first | apply And.intro | exact ⟨by kernel_rfl⟩ | apply DrawN.mk | apply CodeN.step hm rfl | exact trivial | exact rfl | (intro hh; try simp only [bs] at hh; try exact absurd hh (by decide)))); all_goals (conv => whnf); all_goals try exact ⟨by decide⟩)
    (refine CallN.q M1 [] (fun _ _ => ?_); (repeat' ((conv => whnf); first | apply And.intro | exact ⟨by kernel_rfl⟩ | apply DrawN.mk | apply CodeN.step hm rfl | exact trivial | exact rfl | (intro hh; try simp only [bs] at hh; try exact absurd hh (by decide)))); all_goals (conv => whnf); all_goals try exact ⟨by decide⟩)
    all_goals first | (exfalso; exact hh rfl) | skip
    (refine CallN.q U3 [] (fun _ _ => ?_); (repeat' ((conv => whnf); first | apply And.intro | exact ⟨by kernel_rfl⟩ | apply DrawN.mk | apply CodeN.step hm rfl | exact trivial | exact rfl | (intro hh; try simp only [bs] at hh; try exact absurd hh (by decide)))); all_goals (conv => whnf); all_goals try exact ⟨by decide⟩)
    (refine CallN.q P3 [] (fun _ _ => ?_); (repeat' ((conv => whnf); first | apply And.intro | exact ⟨by kernel_rfl⟩ | apply DrawN.mk | apply CodeN.step hm rfl | exact trivial | exact rfl | (intro hh; try simp only [bs] at hh; try exact absurd hh (by decide)))); all_goals (conv => whnf); all_goals try exact ⟨by decide⟩)
    · have hf : (unpackC p w).2 = true := by assumption
      have hk := unpack_back hf
      have e : packL p (unpackC p w).1 = w := by
        unfold packL; rw [hk.1, if_pos rfl]; exact hk.2
      have S4 := S3 (by rw [e]; omega)
      rw [decide_eq_true e] at S4
      have M4 := cmayM p (unpackC p w).1 hul
      rw [hk.1] at M4
      (refine CallN.q S4 [] (fun _ _ => ?_); (repeat' ((conv => whnf); first | apply And.intro | exact ⟨by kernel_rfl⟩ | apply DrawN.mk | apply CodeN.step hm rfl | exact trivial | exact rfl | (intro hh; try simp only [bs] at hh; try exact absurd hh (by decide)))); all_goals (conv => whnf); all_goals try exact ⟨by decide⟩)
      (refine CallN.q M4 [] (fun _ _ => ?_); (repeat' ((conv => whnf); first | apply And.intro | exact ⟨by kernel_rfl⟩ | apply DrawN.mk | apply CodeN.step hm rfl | exact trivial | exact rfl | (intro hh; try simp only [bs] at hh; try exact absurd hh (by decide)))); all_goals (conv => whnf); all_goals try exact ⟨by decide⟩)
      (refine CallN.q liveM [] (fun _ _ => ?_); (repeat' ((conv => whnf); first | apply And.intro | exact ⟨by kernel_rfl⟩ | apply DrawN.mk | apply CodeN.step hm rfl | exact trivial | exact rfl | (intro hh; try simp only [bs] at hh; try exact absurd hh (by decide)))); all_goals (conv => whnf); all_goals try exact ⟨by decide⟩)
      (refine RetN.q () [] ?_ ?_ ?_ <;> (repeat' ((conv => whnf) <;> first | exact rfl | exact trivial | apply And.intro | exact Nat.zero_add _)); all_goals ((conv => whnf); try simp only []))
    · exfalso
      have hf : (unpackC p w).2 = true := by assumption
      exact absurd (unpack_back hf).1 (by simp [*])
    · (refine CallN.q liveM [] (fun _ _ => ?_); (repeat' ((conv => whnf); first | apply And.intro | exact ⟨by kernel_rfl⟩ | apply DrawN.mk | apply CodeN.step hm rfl | exact trivial | exact rfl | (intro hh; try simp only [bs] at hh; try exact absurd hh (by decide)))); all_goals (conv => whnf); all_goals try exact ⟨by decide⟩)
      (refine RetN.q () [] ?_ ?_ ?_ <;> (repeat' ((conv => whnf) <;> first | exact rfl | exact trivial | apply And.intro | exact Nat.zero_add _)); all_goals ((conv => whnf); try simp only []))
end Go.Proofs.Ytkcifdblaboodaa.Ce
set_option linter.unusedVariables false
set_option linter.unusedSimpArgs false
namespace Go.Proofs.Ytkcifdblaboodaa.Ce
open Go Go.RowKit Fw Hi
theorem timeB_iff {t : Int} : timeB t = true ↔ 0 ≤ t ∧ t ≤ 1099511627776 := by simp [timeB]
theorem weighs_iff {w : Int} : weighs w = true ↔ 1 ≤ w ∧ w ≤ 1048576 := by simp [weighs]
/-- A cell that is asked: as it was, moved, or moved and added to. -/
theorem ask_cases {p : Pol} {c : Cell} (hm : mayC p c = true) {t w : Int} (ht : c.1 ≤ t) :
    (askC p c t w = (c, zeroV) ∧ ¬ (timeB t = true ∧ weighs w = true)) ∨
    ((timeB t = true ∧ weighs w = true) ∧ cnt p c t + worth p w ≤ worth p p.2.1 ∧ askC p c t w = (added p (moved p c t) w, true, (worth p p.2.1 - (cnt p c t + worth p w)).tdiv (worth p 1), 0, wt p (added p (moved p c t) w) 0)) ∨
    ((timeB t = true ∧ weighs w = true) ∧ ¬ cnt p c t + worth p w ≤ worth p p.2.1 ∧ askC p c t w = (moved p c t, false, (worth p p.2.1 - cnt p c t).tdiv (worth p 1), (if p.2.1 < w then 2199023255552 else wt p (moved p c t) (worth p p.2.1 - worth p w)), wt p (moved p c t) 0)) := by
  by_cases h : timeB t = true ∧ weighs w = true
  · have e : cnt p (moved p c t) t = cnt p c t := moved_cnt hm ht (Int.le_refl _)
    by_cases h2 : cnt p c t + worth p w ≤ worth p p.2.1
    · right; left
      refine ⟨h, h2, ?_⟩
      unfold askC
      rw [hm, h.1, h.2, Int.max_eq_left ht]
      simp only [Bool.and_self, if_true, moved_at, e, if_pos h2]
    · right; right
      refine ⟨h, h2, ?_⟩
      unfold askC
      rw [hm, h.1, h.2, Int.max_eq_left ht]
      simp only [Bool.and_self, if_true, moved_at, e, if_neg h2]
  · left
    refine ⟨?_, h⟩
    unfold askC
    rw [if_neg]
    rw [hm, Bool.true_and, Bool.and_eq_true]
    exact h
theorem ask_no {p : Pol} {c : Cell} (hm : mayC p c = true) {t w : Int} (ht : c.1 ≤ t) (hb : timeB t = true) (hw : weighs w = true) (hn : worth p p.2.1 < cnt p c t + worth p w) :
    askC p c t w = (moved p c t, false, (worth p p.2.1 - cnt p c t).tdiv (worth p 1), (if p.2.1 < w then 2199023255552 else wt p (moved p c t) (worth p p.2.1 - worth p w)), wt p (moved p c t) 0) := by
  rcases ask_cases hm (w := w) ht with ⟨e, h⟩ | ⟨_, h, e⟩ | ⟨_, h, e⟩
  · exact absurd ⟨hb, hw⟩ h
  · omega
  · exact e
theorem ask_may {p : Pol} {c : Cell} (hm : mayC p c = true) {t w : Int} (ht : c.1 ≤ t) : mayC p (askC p c t w).1 = true ∧ c.1 ≤ (askC p c t w).1.1 ∧ (askC p c t w).1.1 ≤ t := by
  rcases ask_cases hm (w := w) ht with ⟨e, h⟩ | ⟨⟨h1, h2⟩, h3, e⟩ | ⟨⟨h1, h2⟩, h3, e⟩
  · rw [e]; exact ⟨hm, Int.le_refl _, ht⟩
  · rw [e]
    have ht1 := timeB_iff.1 h1
    have hm2 := moved_may hm ht ht1.2
    refine ⟨added_may hm2 (moved_full p c t) (weighs_iff.1 h2).1 ?_, ?_, ?_⟩
    · rw [← cnt_own hm2, moved_at, moved_cnt hm ht (Int.le_refl _)]; exact h3
    · simp only [added_at, moved_at]; exact ht
    · simp only [added_at, moved_at]; exact Int.le_refl _
  · rw [e]
    have ht1 := timeB_iff.1 h1
    exact ⟨moved_may hm ht ht1.2, by simp only [moved_at]; exact ht, by simp only [moved_at]; exact Int.le_refl _⟩
theorem ends_le {p : Pol} {c : Cell} (hm : mayC p c = true) : endsC p c ≤ c.1 + p.2.2.1 := by
  unfold endsC
  rw [hm, if_pos rfl]
  have := (wt_bound (p := p) (d := moved p c c.1) (may_pol hm).1 0).2
  omega
theorem worth_lin (p : Pol) (w : Int) : worth p w = w * worth p 1 := by
  unfold worth
  split
  · rw [Int.one_mul]
  · rw [Int.mul_one]
theorem worth_one {p : Pol} (hp : PolOk p) : 1 ≤ worth p 1 := (worth_bound hp (by omega)).1
/-- Two asks of too much, one at a later time. -/
theorem goes_over {p : Pol} {c : Cell} (hm : mayC p c = true) {t1 t2 : Int} (h1 : c.1 ≤ t1) (h2 : t1 ≤ t2) (h3 : t2 ≤ 1099511627776) (hL : p.2.1 + 1 ≤ 1048576) :
    (askC p c t1 (p.2.1 + 1)).2.1 = false ∧ (askC p c t1 (p.2.1 + 1)).2.2.1 ≤ (askC p c t2 (p.2.1 + 1)).2.2.1 ∧ (askC p c t2 (p.2.1 + 1)).2.2.2.2 ≤ (askC p c t1 (p.2.1 + 1)).2.2.2.2 ∧ (askC p c t2 (p.2.1 + 1)).2.2.1 ≤ p.2.1 ∧ 0 ≤ (askC p c t2 (p.2.1 + 1)).2.2.2.2 ∧ (askC p c t2 (p.2.1 + 1)).2.2.2.2 ≤ 1048576 := by
  obtain ⟨hp, h0, h00⟩ := may_pol hm
  have hl := hp.limit
  have hw : weighs (p.2.1 + 1) = true := weighs_iff.2 ⟨by omega, hL⟩
  have hb1 : timeB t1 = true := timeB_iff.2 ⟨by omega, by omega⟩
  have hb2 : timeB t2 = true := timeB_iff.2 ⟨by omega, by omega⟩
  have hw1 := worth_one hp
  have hwl : worth p (p.2.1 + 1) = worth p p.2.1 + worth p 1 := by
    rw [worth_lin p (p.2.1 + 1), worth_lin p p.2.1, Int.add_mul, Int.one_mul]
  have n1 := cnt_nonneg hm t1
  have n2 := cnt_nonneg hm t2
  have n3 := cnt_anti hm h1 h2
  have n4 : cnt p c t1 ≤ worth p p.2.1 := by
    have hm2 := moved_may hm h1 (by omega)
    have := (own_le hm2).2
    rw [← cnt_own hm2, moved_at, moved_cnt hm h1 (Int.le_refl _)] at this
    exact this
  have e1 := ask_no hm h1 hb1 hw (by omega)
  have e2 := ask_no hm (Int.le_trans h1 h2) hb2 hw (by omega)
  have m1 := moved_may hm h1 (by omega)
  have m2 := moved_may hm (Int.le_trans h1 h2) (by omega)
  have b1 := wt_bound (p := p) (d := moved p c t1) hp 0
  have b2 := wt_bound (p := p) (d := moved p c t2) hp 0
  have hwd := hp.window
  rw [e1, e2]
  refine ⟨rfl, tdiv_mono (by omega) (by omega) hw1, ?_, ?_, b2.1, by simp only []; omega⟩
  · show wt p (moved p c t2) 0 ≤ wt p (moved p c t1) 0
    rw [wt_le m2 (Int.le_refl _) b1.1, moved_at, moved_cnt hm (Int.le_trans h1 h2) (by omega)]
    have q := (wt_le m1 (m := 0) (Int.le_refl _) b1.1).1 (Int.le_refl _)
    rw [moved_at, moved_cnt hm h1 (by omega)] at q
    exact Int.le_trans (cnt_anti hm (by omega) (by omega)) q
  · show (worth p p.2.1 - cnt p c t2).tdiv (worth p 1) ≤ p.2.1
    have h5 := tdiv_mono (a := worth p p.2.1 - cnt p c t2) (b := worth p p.2.1) (s := worth p 1) (by omega) (by omega) hw1
    rw [worth_lin p p.2.1, Int.mul_tdiv_cancel _ (by omega)] at h5
    rw [worth_lin p p.2.1]
    exact h5
/-- Moved twice, or at once. -/
theorem moved_moved {p : Pol} {c : Cell} (hm : mayC p c = true) {t t' : Int} (h1 : c.1 ≤ t) (h2 : t ≤ t') : moved p (moved p c t) t' = moved p c t' := by
  obtain ⟨hp, h0, _⟩ := may_pol hm
  have hc := moved_cnt hm h1 h2
  rcases kind_of hp with k | k | k | k
  · unfold moved at hc ⊢
    simp only [if_pos (show p.1 = 1 ∨ p.1 = 2 from .inl k)] at hc ⊢
    rw [hc]
  · unfold moved at hc ⊢
    simp only [if_pos (show p.1 = 1 ∨ p.1 = 2 from .inr k)] at hc ⊢
    rw [hc]
  · unfold moved
    simp only [if_neg (show ¬ (p.1 = 1 ∨ p.1 = 2) by omega), if_pos k]
    have hB := ring_B hp k
    have n1 := numR_mono hp h0 h1
    have n2 := numR_mono hp (by omega : 0 ≤ t) h2
    congr 2
    unfold atR
    refine congrArg (fun l => (l, ([] : List Hit))) (List.map_congr_left ?_)
    intro j hj
    have hj : j < p.2.2.2.toNat := List.mem_range.1 hj
    show (if numR p t < nb p t' j then 0 else (atR p c t).getD j 0) = _
    rw [atR_getD hj]
    by_cases g : numR p t < nb p t' j
    · rw [if_pos g, if_pos (by omega)]
    · rw [if_neg g, ← nb_same hB.1 n2 (by omega)]
  · unfold moved
    simp only [if_neg (show ¬ (p.1 = 1 ∨ p.1 = 2) by omega), if_neg (show ¬ p.1 = 3 by omega)]
    rw [since_since h2]
/-- What is told of a cell is told of it moved. -/
theorem ask_moved {p : Pol} {c : Cell} (hm : mayC p c = true) {t t' w : Int} (h1 : c.1 ≤ t) (h2 : t ≤ t') (h3 : t ≤ 1099511627776) : (askC p (moved p c t) t' w).2 = (askC p c t' w).2 := by
  have hm2 := moved_may hm h1 h3
  unfold askC
  rw [hm, hm2, moved_at, Int.max_eq_left h2, Int.max_eq_left (Int.le_trans h1 h2), moved_moved hm h1 h2]
  split
  · split <;> rfl
  · rfl
end Go.Proofs.Ytkcifdblaboodaa.Ce
set_option linter.unusedVariables false
set_option linter.unusedSimpArgs false
namespace Go.Proofs.Ytkcifdblaboodaa.Ce
open Go Go.RowKit Fw Hi
abbrev ArrT : Ty := .pair (.int .i64) (.int .i64)
theorem new_may {p : Pol} (hp : PolOk p) {t : Int} (h : 0 ≤ t ∧ t ≤ 1099511627776) : mayC p (t, 0, [], []) = true := by
  have hL := hp.limit
  have hW := hp.window
  have hLW : 0 ≤ p.2.1 * p.2.2.1 := Int.mul_nonneg (by omega) (by omega)
  rcases kind_of hp with k | k | k | k
  · exact (may1 k).2 ⟨hp, h, by simp, hLW, rfl, rfl⟩
  · exact (may2 k).2 ⟨hp, h, by simp, by simp only []; omega, rfl, rfl⟩
  · exact (may3 k).2 ⟨hp, h, rfl, rfl, .inl rfl, by simp, by simp; omega, fun j _ => rfl⟩
  · exact (may4 k).2 ⟨hp, h, rfl, rfl, rfl, by show (0 : Int) ≤ _; omega⟩
theorem new_cnt (p : Pol) (t : Int) : cnt p (t, 0, [], []) t = 0 := by
  unfold cnt
  split
  · show max 0 (0 - p.2.1 * (t - t)) = 0
    rw [Int.sub_self, Int.mul_zero]; decide
  · split
    · split <;> rfl
    · split
      · have e : atR p (t, 0, [], []) t = List.replicate p.2.2.2.toNat 0 := by
          unfold atR
          apply List.ext_getElem (by simp)
          intro i h1 h2
          simp
        rw [e]; simp
      · rfl
theorem zero_moved {p : Pol} {c : Cell} (hm : mayC p c = true) {t : Int} (h1 : c.1 ≤ t) (h2 : t ≤ 1099511627776) (h : cnt p c t = 0) : moved p c t = moved p (t, 0, [], []) t := by
  obtain ⟨hp, h0, _⟩ := may_pol hm
  have hn := new_cnt p t
  rcases kind_of hp with k | k | k | k
  · unfold moved
    rw [if_pos (.inl k), if_pos (.inl k), h, hn]
  · unfold moved
    rw [if_pos (.inr k), if_pos (.inr k), h, hn]
  · have hB := ring_B hp k
    have hm2 := (may3 k).1 (moved_may hm h1 h2)
    have e : ∀ d : Cell, moved p d t = (t, 0, atR p d t, []) := fun d => by
      unfold moved
      rw [if_neg (by omega), if_pos k]
    rw [e] at hm2
    rw [e, e]
    have hs : (atR p c t).sum = 0 := by
      unfold cnt at h
      rw [if_neg (by omega), if_neg (by omega), if_pos k] at h
      exact h
    have hz : atR p c t = atR p (t, 0, [], []) t := by
      apply Bt.getD_ext (by rw [atR_len, atR_len])
      intro j hj
      rw [atR_len] at hj
      rw [atR_getD (c := (t, 0, [], [])) hj]
      have hx : (atR p c t).getD j 0 = 0 := by
        have hv : ∀ x ∈ atR p c t, 0 ≤ x := fun x hx => (hm2.val x hx).1
        have hmem : (atR p c t).getD j 0 ∈ atR p c t := by
          rw [List.getD_eq_getElem?_getD, List.getElem?_eq_getElem (by rw [atR_len]; exact hj)]
          exact List.getElem_mem _
        have := sum_mem hv hmem
        have := hv _ hmem
        omega
      rw [hx]
      split <;> rfl
    rw [hz]
  · have e : ∀ d : Cell, moved p d t = (t, 0, [], sinceE p d.2.2.2 t) := fun d => by
      unfold moved
      rw [if_neg (by omega), if_neg (by omega)]
    have hm2 := (may4 k).1 (moved_may hm h1 h2)
    rw [e] at hm2
    have hs : sumH (sinceE p c.2.2.2 t) = 0 := by
      unfold cnt at h
      rw [if_neg (by omega), if_neg (by omega), if_neg (by omega)] at h
      exact h
    have hl := mayH_num _ _ hm2.go
    have hl0 : sinceE p c.2.2.2 t = [] := List.eq_nil_of_length_eq_zero (by simp only [] at hl; omega)
    rw [e, e, hl0]; rfl
theorem neutral_new {p : Pol} {c : Cell} (hm : mayC p c = true) {t : Int} (h1 : c.1 ≤ t) (h2 : t ≤ 1099511627776) (h : cnt p c t = 0) {w : Int} (hw : weighs w = true) : askC p c t w = askC p (t, 0, [], []) t w := by
  obtain ⟨hp, h0, _⟩ := may_pol hm
  have hb : timeB t = true := timeB_iff.2 ⟨by omega, h2⟩
  have hn := new_may hp (t := t) ⟨by omega, h2⟩
  unfold askC
  rw [hm, hn, hb, hw, Int.max_eq_left h1, Int.max_self, zero_moved hm h1 h2 h]
  rfl
theorem neutral_whole {p : Pol} {c : Cell} (hm : mayC p c = true) {t : Int} (h1 : c.1 ≤ t) (h2 : t ≤ 1099511627776) : neutralC p c t = (askC p c t p.2.1).2.1 := by
  obtain ⟨hp, h0, _⟩ := may_pol hm
  have hl := hp.limit
  have hn := cnt_nonneg hm t
  have hq := neutral_iff hm h1
  rw [Bool.eq_iff_iff, hq]
  rcases ask_cases hm (w := p.2.1) h1 with ⟨e, h⟩ | ⟨_, h, e⟩ | ⟨_, h, e⟩
  · exact absurd ⟨timeB_iff.2 ⟨by omega, h2⟩, weighs_iff.2 hl⟩ h
  · rw [e]; simp only [iff_true]; omega
  · rw [e]; simp only [Bool.false_eq_true, iff_false]; omega
theorem new_neutral {p : Pol} (hp : PolOk p) {t : Int} (h : 0 ≤ t ∧ t ≤ 1099511627776) : neutralC p (t, 0, [], []) t = true := (neutral_iff (new_may hp h) (Int.le_refl _)).2 (new_cnt p t)
/-! ### Kinds that tell the same -/
structure Pair (p q : Pol) : Prop where
  p1 : p.1 ≠ 1
  q1 : q.1 ≠ 1
  limit : p.2.1 = q.2.1
  window : p.2.2.1 = q.2.2.1
  ok : PolOk p ↔ PolOk q
  counts : PolOk p → ∀ (h : List Hit) (t : Int), (∀ x ∈ h, 0 ≤ x.1 ∧ x.1 ≤ t) → Hi.counts p h t = Hi.counts q h t
theorem Pair.worth {p q : Pol} (P : Pair p q) (w : Int) : worth p w = worth q w := by
  unfold Hi.worth; rw [if_neg P.p1, if_neg P.q1]
theorem Pair.ask {p q : Pol} (P : Pair p q) {c d : Cell} {h : List Hit} (rp : Rel p c h) (rq : Rel q d h) {t w : Int} (hc : c.1 ≤ t) (hd : d.1 ≤ t) (ht : t ≤ 1099511627776) : Hi.ask p h t w = Hi.ask q h t w := by
  have fp := rp.fit.later hc ht
  have fq := rq.fit.later hd ht
  have h0 := fp.pos
  have e : ∀ l : List Hit, (∀ x ∈ l, 0 ≤ x.1 ∧ x.1 ≤ t) → ∀ k : Nat, Hi.counts p l (t + k) = Hi.counts q l (t + k) := fun l hl k => P.counts fp.pol l _ fun x hx => by have := hl x hx; omega
  have ew : ∀ l : List Hit, (∀ x ∈ l, 0 ≤ x.1 ∧ x.1 ≤ t) → ∀ m, Hi.wait p l t m = Hi.wait q l t m := fun l hl m => by
    unfold Hi.wait
    rw [waitFrom_G, waitFrom_G, P.window]
    exact waitG_congr (e l hl) _ _
  have e0 : ∀ l : List Hit, (∀ x ∈ l, 0 ≤ x.1 ∧ x.1 ≤ t) → Hi.counts p l t = Hi.counts q l t := fun l hl => by have := e l hl 0; rwa [Int.natCast_zero, Int.add_zero] at this
  have hh := fp.hits.tick
  have hs : ∀ x ∈ h ++ [(t, w)], 0 ≤ x.1 ∧ x.1 ≤ t := fun x hx => by
    rcases List.mem_append.1 hx with hx | hx
    · exact hh x hx
    · simp at hx; subst hx; exact ⟨h0, Int.le_refl _⟩
  unfold Hi.ask
  rw [fp.fits, fq.fits, P.limit]
  simp only [P.worth, e0 h hh, ew h hh]
  by_cases hk : Hi.counts q h t + Hi.worth q w ≤ Hi.worth q q.2.1
  · simp only [if_pos hk, e0 _ hs, ew _ hs]
  · simp only [if_neg hk, e0 _ hh, ew _ hh]
theorem pair_fixed (L W : Int) : Pair (2, L, W, 0) (3, L, W, 1) where
  p1 := by simp
  q1 := by simp
  limit := rfl
  window := rfl
  ok := ⟨fun h => ⟨by simp, h.limit, h.window, fun _ => ⟨by simp, by simp, Int.tmod_one _⟩, fun h => absurd rfl h, fun h => absurd h (by simp)⟩, fun h => ⟨by simp, h.limit, h.window, fun h => absurd h (by simp), fun _ => rfl, fun h => absurd h (by simp)⟩⟩
  counts := fun hp h t hx => by
    have hW := hp.window
    simp only [] at hW
    unfold Hi.counts
    rw [if_neg (show ¬ (_ : Int) = 1 by simp), if_neg (show ¬ (_ : Int) = 1 by simp)]
    refine those_congr h fun x hx' => ?_
    have hb := hx x hx'
    have e1 : slotOf (2, L, W, 0) = W := rfl
    have e2 : slotOf (3, L, W, 1) = W := Int.tdiv_one _
    have hmn := tdiv_mono (s := W) hb.1 hb.2 hW.1
    show decide (x.1.tdiv (slotOf (2, L, W, 0)) = t.tdiv (slotOf (2, L, W, 0))) = decide (t.tdiv (slotOf (3, L, W, 1)) - 1 < x.1.tdiv (slotOf (3, L, W, 1)))
    rw [e1, e2, decide_eq_decide]
    omega
theorem pair_exact (L W : Int) (hL : L ≤ 16) (hW : W ≤ 16) : Pair (4, L, W, 0) (3, L, W, W) where
  p1 := by simp
  q1 := by simp
  limit := rfl
  window := rfl
  ok := ⟨fun h => ⟨by simp, h.limit, h.window, fun _ => ⟨h.window.1, hW, Int.tmod_self⟩, fun h => absurd rfl h, fun h => absurd h (by simp)⟩, fun h => ⟨by simp, h.limit, h.window, fun h => absurd h (by simp), fun _ => rfl, fun _ => hL⟩⟩
  counts := fun hp h t hx => by
    have hW := hp.window
    simp only [] at hW
    unfold Hi.counts
    rw [if_neg (show ¬ (_ : Int) = 1 by simp), if_neg (show ¬ (_ : Int) = 1 by simp)]
    refine those_congr h fun x hx' => ?_
    have e2 : slotOf (3, L, W, W) = 1 := Int.tdiv_self (a := W) (by omega)
    show decide (t - W < x.1) = decide (t.tdiv (slotOf (3, L, W, W)) - W < x.1.tdiv (slotOf (3, L, W, W)))
    rw [e2, Int.tdiv_one, Int.tdiv_one]
/-- Two cells that were asked the same. -/
def Twin (p q : Pol) (c d : Cell) (t : Int) (i : Nat) : Prop := PolOk p → ∃ h : List Hit, h.length ≤ i ∧ Rel p c h ∧ Rel q d h ∧ c.1 ≤ t ∧ d.1 ≤ t
theorem Twin.new {p q : Pol} (P : Pair p q) : Twin p q (0, 0, [], []) (0, 0, [], []) 0 0 := fun hp => ⟨[], Nat.le_refl _, Rel.nil hp, Rel.nil (P.ok.1 hp), Int.le_refl _, Int.le_refl _⟩
theorem ask_not {p : Pol} (hp : ¬ PolOk p) (c : Cell) (t w : Int) : askC p c t w = (c, zeroV) := by
  unfold askC
  rw [if_neg]
  intro h
  rw [Bool.and_eq_true, Bool.and_eq_true] at h
  exact hp (may_pol h.1.1).1
theorem ask_nope {p : Pol} {c : Cell} {t w : Int} (hw : weighs w = false) : askC p c t w = (c, zeroV) := by
  unfold askC
  rw [hw, Bool.and_false]; rfl
theorem ask_grow (p : Pol) (h : List Hit) (t w : Int) : (Hi.ask p h t w).1.length ≤ h.length + 1 := by
  unfold Hi.ask
  split
  · simp only []
    split
    · simp
    · omega
  · simp
theorem Twin.step {p q : Pol} (P : Pair p q) {c d : Cell} {t t' : Int} {i : Nat} (T : Twin p q c d t i) (w : Int) (h1 : t ≤ t') (h2 : t' ≤ 1099511627776) (hi : i ≤ 63) :
    (askC p c t' w).2 = (askC q d t' w).2 ∧ Twin p q (askC p c t' w).1 (askC q d t' w).1 t' (i + 1) := by
  by_cases hp : PolOk p
  · obtain ⟨h, hl, rp, rq, hc, hd⟩ := T hp
    by_cases hw : weighs w = true
    · obtain ⟨a1, a2, a3⟩ := ask_same rp (t := t') (w := w) (by omega) h2 hw (by omega)
      obtain ⟨b1, b2, b3⟩ := ask_same rq (t := t') (w := w) (by omega) h2 hw (by omega)
      have e := P.ask rp rq (t := t') (w := w) (by omega) (by omega) h2
      refine ⟨by rw [a1, b1, e], fun _ => ⟨(Hi.ask p h t' w).1, by have := ask_grow p h t' w; omega, a2, by rw [e]; exact b2, by omega, by omega⟩⟩
    · rw [ask_nope (Bool.eq_false_iff.2 hw), ask_nope (Bool.eq_false_iff.2 hw)]
      exact ⟨rfl, fun _ => ⟨h, by omega, rp, rq, Int.le_trans hc h1, Int.le_trans hd h1⟩⟩
  · rw [ask_not hp, ask_not (fun hq => hp (P.ok.2 hq))]
    exact ⟨rfl, fun hp' => absurd hp' hp⟩
/-- A cell as may be, or a new one of no policy. -/
def Cl1 (p : Pol) (c : Cell) (t : Int) : Prop := (mayC p c = true ∧ c.1 ≤ t) ∨ (¬ PolOk p ∧ c = (0, 0, [], []))
theorem Cl1.new (p : Pol) : Cl1 p (0, 0, [], []) 0 := by
  by_cases h : PolOk p
  · exact .inl ⟨new_may h (by decide), Int.le_refl _⟩
  · exact .inr ⟨h, rfl⟩
theorem Cl1.level {p : Pol} {c : Cell} {t : Int} (h : Cl1 p c t) : -9223372036854775808 ≤ c.2.1 ∧ c.2.1 ≤ 9223372036854775807 := by
  rcases h with h | h
  · exact may_level h.1
  · rw [h.2]; decide
theorem Cl1.step {p : Pol} {c : Cell} {t t' : Int} (h : Cl1 p c t) (w : Int) (ht : t ≤ t') : Cl1 p (askC p c t' w).1 t' := by
  rcases h with h | h
  · have := ask_may h.1 (t := t') (w := w) (by omega)
    exact .inl ⟨this.1, this.2.2⟩
  · rw [ask_not h.1]; exact .inr h
end Go.Proofs.Ytkcifdblaboodaa.Ce
set_option linter.unusedVariables false
set_option linter.unusedSimpArgs false
namespace Go.Proofs.Ytkcifdblaboodaa.Fw
open Go Go.RowKit
theorem CodeN.le {P : Program} {N : Nat} {M : List Bool} {S : Sc} {c : Code} {env env' : Env} {E E' : List Chunk} {K : Ex → Env → List Chunk → Prop} (π : List Nat) (hle : Le M π env E env' E') (h : CodeN P N S M c env' E' K) : CodeN P N S M c env E K where
  h := fun r g a w hr hM hI hN => h.h r (g.ren π) a w hr hM (hI.ren hM hle) hN
/-- A first statement, what is so behind it, and the rest. -/
theorem CodeN.mid {P : Program} {N : Nat} {M : List Bool} {S : Sc} {c a b : Code} {env : Env} {E : List Chunk} {K : Ex → Env → List Chunk → Prop} (hm : P.follows .mixedOrders = true) {X : Type} (inv : X → Prop) (st : X → Env) (ch : X → List Chunk)
    (hc : c = .seq a b)
    (first : sCode P N S M a env E fun e env' E' => match e with
      | .normal => ∃ x, ∃ π, Le M π env' E' (st x) (ch x) ∧ inv x
      | .ret => K .ret env' E' | .exit n => K (.exit n) env' E')
    (rest : ∀ x, inv x → fEnv (st x) fun env => fEE (ch x) fun E => CodeN P N S M b env E K) : CodeN P N S M c env E K := by
  subst hc
  refine ⟨fun r g a' w hr hM h hN => ?_⟩
  obtain ⟨hr1, hr2⟩ := noDraw_and hr rfl
  refine wpIn_seq (Go.wpIn_mono (sCode_ok hm hM a r hr1 h hN first) ?_)
  rintro e a' w' ⟨e', g', env', E', rfl, h1, h2, h4⟩
  cases e' with
  | normal =>
    obtain ⟨x, π, hle, hi⟩ := h4
    have hk := rest x hi
    rw [fEnv_eq, fEE_eq] at hk
    exact hk.h r (g'.ren π) a' w' hr2 hM (h1.ren hM hle) h2
  | ret => exact ⟨.ret, g', env', E', rfl, h1, h2, h4⟩
  | exit n => exact ⟨.exit n, g', env', E', rfl, h1, h2, h4⟩
end Go.Proofs.Ytkcifdblaboodaa.Fw
set_option linter.unusedVariables false
set_option linter.unusedSimpArgs false
namespace Go.Proofs.Ytkcifdblaboodaa.Ce
open Go Go.RowKit Fw Hi Po
theorem ttimeM (t : Int) : Meets Try.prog 70 [.int .i64 fun _ => t] [] (Y := Unit) (fun _ => True) (fun _ => .bool fun _ => timeB t) (fun _ => []) := by
  refine Meets.intro hm (fn := Try.f70) Try.func70 rfl (by decide) (Nat.le_of_ble_eq_true rfl) (fun _ => rfl) ?_; intro S hok; (conv => whnf)
  (repeat' ((conv => whnf); first | apply And.intro | exact ⟨by kernel_rfl⟩ | apply DrawN.mk | apply CodeN.step hm rfl | exact trivial | exact rfl | (intro hh; try simp only [bs] at hh))); all_goals (conv => whnf)
  all_goals
    (refine RetN.q () [] ?_ ?_ ?_ <;> (repeat' ((conv => whnf) <;> first | exact rfl | exact trivial | apply And.intro | exact Nat.zero_add _)); all_goals ((conv => whnf); try simp only []))
    simp [timeB, *]
theorem not_may {p : Pol} (hp : ¬ PolOk p) (c : Cell) : mayC p c = false := Bool.eq_false_iff.2 fun h => hp (may_pol h).1
theorem time_false {p : Pol} {c : Cell} (h : timeB c.1 = false) : mayC p c = false := Bool.eq_false_iff.2 fun hm => by
  have := may_pol hm
  rw [timeB_iff.2 ⟨this.2.1, this.2.2⟩] at h
  cases h
theorem chkM (p : Pol) : Meets Try.prog 9 [polAV p] [] (Y := Unit) (fun _ => True) (fun _ => .int .i64 fun _ => if PolOk p then 0 else 1) (fun _ => []) := rcheckM p
theorem r10may (p : Pol) (c : Cell) (k : p.1 = 1) (hc : -9223372036854775808 ≤ c.2.1 ∧ c.2.1 ≤ 9223372036854775807) : Meets Try.prog 38 [polAV p, cellAV c] [] (Y := Unit) (fun _ => True) (fun _ => .bool fun _ => mayC p c) (fun _ => []) := by
  have MC := rcheckM p
  by_cases hp : PolOk p
  rotate_left
  · rw [if_neg hp] at MC
    have hf := not_may hp c
    refine Meets.intro hm (fn := Try.f38) Try.func38 rfl (by decide) (Nat.le_of_ble_eq_true rfl) (fun _ => rfl) ?_; intro S hok; (conv => whnf)
    (repeat' ((conv => whnf); first | apply And.intro | exact ⟨by kernel_rfl⟩ | apply DrawN.mk | apply CodeN.step hm rfl | exact trivial | exact rfl | (intro hh; try simp only [bs] at hh))); all_goals (conv => whnf)
    (refine CallN.q MC [] (fun _ _ => ?_); (repeat' ((conv => whnf); first | apply And.intro | exact ⟨by kernel_rfl⟩ | apply DrawN.mk | apply CodeN.step hm rfl | exact trivial | exact rfl | (intro hh; try simp only [bs] at hh; try exact absurd hh (by decide)))); all_goals (conv => whnf); all_goals try exact ⟨by decide⟩)
    all_goals
      (refine RetN.q () [] ?_ ?_ ?_ <;> (repeat' ((conv => whnf) <;> first | exact rfl | exact trivial | apply And.intro | exact Nat.zero_add _)); all_goals ((conv => whnf); try simp only []))
      exact hf
  · rw [if_pos hp] at MC
    have hL := hp.limit
    have hW := hp.window
    have hLW : p.2.1 * p.2.2.1 ≤ 1048576 * 1048576 := Int.mul_le_mul hL.2 hW.2 (by omega) (by omega)
    have hLW0 : 0 ≤ p.2.1 * p.2.2.1 := Int.mul_nonneg (by omega) (by omega)
    have e1 : IntKind.i64.wrap (p.2.1 * p.2.2.1) = p.2.1 * p.2.2.1 := wr (by omega)
    have hk : mayC p c = true ↔ timeB c.1 = true ∧ 0 ≤ c.2.1 ∧ c.2.1 ≤ p.2.1 * p.2.2.1 ∧ (c.2.2.1.length : Int) = 0 ∧ (c.2.2.2.length : Int) = 0 := by
      rw [may1 k, timeB_iff]
      constructor
      · rintro ⟨_, h1, h2, h3, h4, h5⟩
        exact ⟨h1, h2, h3, by rw [h4]; rfl, by rw [h5]; rfl⟩
      · rintro ⟨h1, h2, h3, h4, h5⟩
        exact ⟨hp, h1, h2, h3, List.eq_nil_of_length_eq_zero (by omega), List.eq_nil_of_length_eq_zero (by omega)⟩
    refine Meets.intro hm (fn := Try.f38) Try.func38 rfl (by decide) (Nat.le_of_ble_eq_true rfl) (fun _ => rfl) ?_; intro S hok; (conv => whnf)
    (repeat' ((conv => whnf); first | apply And.intro | exact ⟨by kernel_rfl⟩ | apply DrawN.mk | apply CodeN.step hm rfl | exact trivial | exact rfl | (intro hh; try simp only [bs] at hh))); all_goals (conv => whnf)
    (refine CallN.q MC [] (fun _ _ => ?_); (repeat' ((conv => whnf); first | apply And.intro | exact ⟨by kernel_rfl⟩ | apply DrawN.mk | apply CodeN.step hm rfl | exact trivial | exact rfl | (intro hh; try simp only [bs] at hh; try exact absurd hh (by decide)))); all_goals (conv => whnf); all_goals try exact ⟨by decide⟩)
    all_goals (try simp only [e1] at hh ⊢)
    rotate_left
    · exfalso; exact hh k
    (refine CallN.q (ttimeM c.1) [] (fun _ _ => ?_); (repeat' ((conv => whnf); first | apply And.intro | exact ⟨by kernel_rfl⟩ | apply DrawN.mk | apply CodeN.step hm rfl | exact trivial | exact rfl | (intro hh; try simp only [bs] at hh; try exact absurd hh (by decide)))); all_goals (conv => whnf); all_goals try exact ⟨by decide⟩)
    all_goals (try simp only [e1] at hh ⊢)
    all_goals
      (refine RetN.q () [] ?_ ?_ ?_ <;> (repeat' ((conv => whnf) <;> first | exact rfl | exact trivial | apply And.intro | exact Nat.zero_add _)); all_goals ((conv => whnf); try simp only []))
    all_goals first
      | (rw [Bool.eq_iff_iff, hk, beq_iff_eq]; exact ⟨fun h => ⟨by assumption, by omega, by omega, by omega, h⟩, fun h => h.2.2.2.2⟩)
      | (refine Bool.eq_false_iff.2 fun hm => ?_
         have hm' := hk.1 hm
         first
           | omega
           | (rw [hm'.1] at hh; cases hh))
theorem r11may (p : Pol) (c : Cell) (k : p.1 = 2) : Meets Try.prog 39 [polAV p, cellAV c] [] (Y := Unit) (fun _ => True) (fun _ => .bool fun _ => mayC p c) (fun _ => []) := by
  have MC := rcheckM p
  by_cases hp : PolOk p
  rotate_left
  · rw [if_neg hp] at MC
    have hf := not_may hp c
    refine Meets.intro hm (fn := Try.f39) Try.func39 rfl (by decide) (Nat.le_of_ble_eq_true rfl) (fun _ => rfl) ?_; intro S hok; (conv => whnf)
    (repeat' ((conv => whnf); first | apply And.intro | exact ⟨by kernel_rfl⟩ | apply DrawN.mk | apply CodeN.step hm rfl | exact trivial | exact rfl | (intro hh; try simp only [bs] at hh))); all_goals (conv => whnf)
    (refine CallN.q MC [] (fun _ _ => ?_); (repeat' ((conv => whnf); first | apply And.intro | exact ⟨by kernel_rfl⟩ | apply DrawN.mk | apply CodeN.step hm rfl | exact trivial | exact rfl | (intro hh; try simp only [bs] at hh; try exact absurd hh (by decide)))); all_goals (conv => whnf); all_goals try exact ⟨by decide⟩)
    all_goals
      (refine RetN.q () [] ?_ ?_ ?_ <;> (repeat' ((conv => whnf) <;> first | exact rfl | exact trivial | apply And.intro | exact Nat.zero_add _)); all_goals ((conv => whnf); try simp only []))
      exact hf
  · rw [if_pos hp] at MC
    have e1 : True := trivial
    have hk : mayC p c = true ↔ timeB c.1 = true ∧ 0 ≤ c.2.1 ∧ c.2.1 ≤ p.2.1 ∧ (c.2.2.1.length : Int) = 0 ∧ (c.2.2.2.length : Int) = 0 := by
      rw [may2 k, timeB_iff]
      constructor
      · rintro ⟨_, h1, h2, h3, h4, h5⟩
        exact ⟨h1, h2, h3, by rw [h4]; rfl, by rw [h5]; rfl⟩
      · rintro ⟨h1, h2, h3, h4, h5⟩
        exact ⟨hp, h1, h2, h3, List.eq_nil_of_length_eq_zero (by omega), List.eq_nil_of_length_eq_zero (by omega)⟩
    refine Meets.intro hm (fn := Try.f39) Try.func39 rfl (by decide) (Nat.le_of_ble_eq_true rfl) (fun _ => rfl) ?_; intro S hok; (conv => whnf)
    (repeat' ((conv => whnf); first | apply And.intro | exact ⟨by kernel_rfl⟩ | apply DrawN.mk | apply CodeN.step hm rfl | exact trivial | exact rfl | (intro hh; try simp only [bs] at hh))); all_goals (conv => whnf)
    (refine CallN.q MC [] (fun _ _ => ?_); (repeat' ((conv => whnf); first | apply And.intro | exact ⟨by kernel_rfl⟩ | apply DrawN.mk | apply CodeN.step hm rfl | exact trivial | exact rfl | (intro hh; try simp only [bs] at hh; try exact absurd hh (by decide)))); all_goals (conv => whnf); all_goals try exact ⟨by decide⟩)
    rotate_left
    · exfalso; exact hh k
    (refine CallN.q (ttimeM c.1) [] (fun _ _ => ?_); (repeat' ((conv => whnf); first | apply And.intro | exact ⟨by kernel_rfl⟩ | apply DrawN.mk | apply CodeN.step hm rfl | exact trivial | exact rfl | (intro hh; try simp only [bs] at hh; try exact absurd hh (by decide)))); all_goals (conv => whnf); all_goals try exact ⟨by decide⟩)
    all_goals
      (refine RetN.q () [] ?_ ?_ ?_ <;> (repeat' ((conv => whnf) <;> first | exact rfl | exact trivial | apply And.intro | exact Nat.zero_add _)); all_goals ((conv => whnf); try simp only []))
    all_goals first
      | (rw [Bool.eq_iff_iff, hk, beq_iff_eq]; exact ⟨fun h => ⟨by assumption, by omega, by omega, by omega, h⟩, fun h => h.2.2.2.2⟩)
      | (refine Bool.eq_false_iff.2 fun hm => ?_
         have hm' := hk.1 hm
         first
           | omega
           | (rw [hm'.1] at hh; cases hh))
theorem r13may (p : Pol) (c : Cell) (k : p.1 = 4) (hl : c.2.2.2.length ≤ 40) : Meets Try.prog 41 [polAV p, cellAV c] [] (Y := Unit) (fun _ => True) (fun _ => .bool fun _ => mayC p c) (fun _ => []) := by
  have MC := rcheckM p
  by_cases hp : PolOk p
  rotate_left
  · rw [if_neg hp] at MC
    have hf := not_may hp c
    refine Meets.intro hm (fn := Try.f41) Try.func41 rfl (by decide) (Nat.le_of_ble_eq_true rfl) (fun _ => rfl) ?_; intro S hok; (conv => whnf)
    (repeat' ((conv => whnf); first | apply And.intro | exact ⟨by kernel_rfl⟩ | apply DrawN.mk | apply CodeN.step hm rfl | exact trivial | exact rfl | (intro hh; try simp only [bs] at hh))); all_goals (conv => whnf)
    (refine CallN.q MC [] (fun _ _ => ?_); (repeat' ((conv => whnf); first | apply And.intro | exact ⟨by kernel_rfl⟩ | apply DrawN.mk | apply CodeN.step hm rfl | exact trivial | exact rfl | (intro hh; try simp only [bs] at hh; try exact absurd hh (by decide)))); all_goals (conv => whnf); all_goals try exact ⟨by decide⟩)
    all_goals
      (refine RetN.q () [] ?_ ?_ ?_ <;> (repeat' ((conv => whnf) <;> first | exact rfl | exact trivial | apply And.intro | exact Nat.zero_add _)); all_goals ((conv => whnf); try simp only []))
      exact hf
  · rw [if_pos hp] at MC
    have hL := hp.limit
    have hW := hp.window
    have htb : timeB c.1 = true ↔ 0 ≤ c.1 ∧ c.1 ≤ 1099511627776 := timeB_iff
    refine Meets.intro hm (fn := Try.f41) Try.func41 rfl (by decide) (Nat.le_of_ble_eq_true rfl) (fun _ => rfl) ?_; intro S hok; (conv => whnf)
    (repeat' ((conv => whnf); first | apply And.intro | exact ⟨by kernel_rfl⟩ | apply DrawN.mk | apply CodeN.step hm rfl | exact trivial | exact rfl | (intro hh; try simp only [bs] at hh))); all_goals (conv => whnf)
    (refine CallN.q MC [] (fun _ _ => ?_); (repeat' ((conv => whnf); first | apply And.intro | exact ⟨by kernel_rfl⟩ | apply DrawN.mk | apply CodeN.step hm rfl | exact trivial | exact rfl | (intro hh; try simp only [bs] at hh; try exact absurd hh (by decide)))); all_goals (conv => whnf); all_goals try exact ⟨by decide⟩)
    all_goals first | (exfalso; exact hh k) | skip
    all_goals
      (refine CallN.q (ttimeM c.1) [] (fun _ _ => ?_); (repeat' ((conv => whnf); first | apply And.intro | exact ⟨by kernel_rfl⟩ | apply DrawN.mk | apply CodeN.step hm rfl | exact trivial | exact rfl | (intro hh; try simp only [bs] at hh; try exact absurd hh (by decide)))); all_goals (conv => whnf); all_goals try exact ⟨by decide⟩)
    all_goals first
      | ((refine RetN.q () [] ?_ ?_ ?_ <;> (repeat' ((conv => whnf) <;> first | exact rfl | exact trivial | apply And.intro | exact Nat.zero_add _)); all_goals ((conv => whnf); try simp only []))
         have hf := may_no4 (p := p) (c := c) k (by
           rintro ⟨h1, h2, h3, h4⟩
           first
             | omega
             | (rw [h1] at hh; cases hh))
         first | exact hf | exact hf.symm)
      | skip
    have ht : timeB c.1 = true := by assumption
    have ht2 := htb.1 ht
    have ew : IntKind.i64.wrap (c.1 - p.2.2.1) = c.1 - p.2.2.1 := wr (by omega)
    have hlv : c.2.1 = 0 := by assumption
    have hsl : (c.2.2.1.length : Int) = 0 := hh
    generalize hl0 : max (-1) (c.1 - p.2.2.1) = l0
    refine LoopN.intro hm (X := Nat) (fun i => i ≤ c.2.2.2.length ∧ mayHGo c.1 p.2.1 l0 c.2.2.2 = mayHGo c.1 p.2.1 (lastH l0 c.2.2.2 i) (c.2.2.2.drop i) ∧ l0 ≤ lastH l0 c.2.2.2 i ∧ 0 ≤ sumH (c.2.2.2.take i) ∧ sumH (c.2.2.2.take i) ≤ 1048576 * (i : Int)) (fun i => c.2.2.2.length - i)
      (fun i => [(6, .int .i64 fun _ => (i : Int)), (5, .int .i64 fun _ => sumH (c.2.2.2.take i)), (3, .ptr 1 0), (2, .ptr 0 0)])
      (fun i => [.cells 23 [.int .i64 fun _ => p.1, .int .i64 fun _ => p.2.1, .int .i64 fun _ => p.2.2.1, .int .i64 fun _ => p.2.2.2], .cells 31 [.int .i64 fun _ => c.1, .int .i64 fun _ => c.2.1, .lst (.int .i64) fun _ => c.2.2.1, .lst HitT fun _ => c.2.2.2]]) 0 [0, 1] ⟨rfl, rfl, ?_, ?_⟩ ⟨Nat.zero_le _, rfl, Int.le_refl _, Int.le_refl _, Int.le_refl _⟩ (fun i hi => ?_)
    · (repeat' ((conv => whnf) <;> first | exact rfl | exact trivial | apply And.intro | exact Nat.zero_add _))
    · (repeat' ((conv => whnf) <;> first | exact rfl | exact trivial | apply And.intro | exact Nat.zero_add _))
    obtain ⟨hi, hgo, hb1, hb3, hb4⟩ := hi
    have hstep := fun h => mayH_step (a := c.1) (L := p.2.1) (last0 := l0) (l := c.2.2.2) (i := i) h
    have hst := fun h => sumH_take (l := c.2.2.2) (i := i) h
    have hl1 : lastH l0 c.2.2.2 (i + 1) = (c.2.2.2.getD i (0, 0)).1 := rfl
    have hlp : 0 < i → lastH l0 c.2.2.2 i = (c.2.2.2.getD (i - 1) (0, 0)).1 := fun h0 => by
      obtain ⟨j, rfl⟩ : ∃ j, i = j + 1 := ⟨i - 1, by omega⟩
      rfl
    have hlz : i = 0 → lastH l0 c.2.2.2 i = l0 := fun h0 => by subst h0; rfl
    have wm : 0 < i → IntKind.i64.wrap ((i : Int) - 1) = ((i - 1 : Nat) : Int) := fun h0 => by rw [wr (by omega)]; omega
    have hx' : c.2.2.2.getD (i : Int).toNat HitT.dflt = c.2.2.2.getD i (0, 0) := rfl
    generalize hx : c.2.2.2.getD i (0, 0) = x at *
    by_cases h0 : 0 < i
    · have wm2 := wm h0
      have hy' : c.2.2.2.getD (((i - 1 : Nat) : Int)).toNat HitT.dflt = c.2.2.2.getD (i - 1) (0, 0) := rfl
      have hlp2 := hlp h0
      generalize c.2.2.2.getD (i - 1) (0, 0) = y at hy' hlp2
      (repeat' ((conv => whnf); first | apply And.intro | exact ⟨by kernel_rfl⟩ | apply DrawN.mk | apply CodeN.step hm rfl | exact trivial | exact rfl | (intro hh; try simp only [bs] at hh))); all_goals (conv => whnf)
      all_goals (try simp only [hx', wm2, hy', ew] at hh ⊢)
      all_goals (try simp only [hx', ew] at hh ⊢)
      all_goals first
        | (refine Ob.mk ?_; first | omega | (simp only []; omega))
        | (exfalso; omega)
        | ((refine RetN.q () [] ?_ ?_ ?_ <;> (repeat' ((conv => whnf) <;> first | exact rfl | exact trivial | apply And.intro | exact Nat.zero_add _)); all_goals ((conv => whnf); try simp only []))
           have hf := may_no4 (p := p) (c := c) k (by
             rintro ⟨_, _, _, h4, _⟩
             rw [hl0, hgo, hstep (by omega)] at h4
             simp only [Bool.and_eq_true, decide_eq_true_eq] at h4
             omega)
           first | exact hf | exact hf.symm)
        | (have e : i = c.2.2.2.length := by omega
           (refine RetN.q () [] ?_ ?_ ?_ <;> (repeat' ((conv => whnf) <;> first | exact rfl | exact trivial | apply And.intro | exact Nat.zero_add _)); all_goals ((conv => whnf); try simp only []))
           have hg1 : mayHGo c.1 p.2.1 (max (-1) (c.1 - p.2.2.1)) c.2.2.2 = true := by rw [hl0, hgo, e, List.drop_length]; rfl
           rw [Bool.eq_iff_iff, may4 k, decide_eq_true_eq]
           rw [e, List.take_length]
           constructor
           · intro h
             exact ⟨hp, ht2, hlv, List.length_eq_zero_iff.1 (by omega), hg1, h⟩
           · intro g
             exact g.sum)
        | (have hi2 : i < c.2.2.2.length := by omega
           have q3 := hstep hi2
           have hh2 := hst hi2
           simp only [hx', wm2, hy', ew] at *
           rw [decide_eq_true (by omega), decide_eq_true (by omega), decide_eq_true (by omega), decide_eq_true (by omega), Bool.and_self, Bool.and_self, Bool.and_self, Bool.true_and] at q3
           refine ⟨i + 1, [0, 1], ⟨rfl, rfl, ?_, ?_⟩, ⟨hi2, hgo.trans q3, by omega, by omega, by omega⟩, by omega⟩
           · (repeat' ((conv => whnf) <;> first | exact rfl | exact trivial | apply And.intro | exact Nat.zero_add _))
           · (repeat' ((conv => whnf) <;> first | exact rfl | exact trivial | apply And.intro | exact Nat.zero_add _)); all_goals ((conv => whnf); try simp only [])
             · exact wr (by omega)
             · rw [hh2]
               exact wr (by omega))
    · have hlz2 := hlz (by omega)
      (repeat' ((conv => whnf); first | apply And.intro | exact ⟨by kernel_rfl⟩ | apply DrawN.mk | apply CodeN.step hm rfl | exact trivial | exact rfl | (intro hh; try simp only [bs] at hh))); all_goals (conv => whnf)
      all_goals (try simp only [hx', wm2, hy', ew] at hh ⊢)
      all_goals (try simp only [hx', ew] at hh ⊢)
      all_goals first
        | (refine Ob.mk ?_; first | omega | (simp only []; omega))
        | (exfalso; omega)
        | ((refine RetN.q () [] ?_ ?_ ?_ <;> (repeat' ((conv => whnf) <;> first | exact rfl | exact trivial | apply And.intro | exact Nat.zero_add _)); all_goals ((conv => whnf); try simp only []))
           have hf := may_no4 (p := p) (c := c) k (by
             rintro ⟨_, _, _, h4, _⟩
             rw [hl0, hgo, hstep (by omega)] at h4
             simp only [Bool.and_eq_true, decide_eq_true_eq] at h4
             omega)
           first | exact hf | exact hf.symm)
        | (have e : i = c.2.2.2.length := by omega
           (refine RetN.q () [] ?_ ?_ ?_ <;> (repeat' ((conv => whnf) <;> first | exact rfl | exact trivial | apply And.intro | exact Nat.zero_add _)); all_goals ((conv => whnf); try simp only []))
           have hg1 : mayHGo c.1 p.2.1 (max (-1) (c.1 - p.2.2.1)) c.2.2.2 = true := by rw [hl0, hgo, e, List.drop_length]; rfl
           rw [Bool.eq_iff_iff, may4 k, decide_eq_true_eq]
           rw [e, List.take_length]
           constructor
           · intro h
             exact ⟨hp, ht2, hlv, List.length_eq_zero_iff.1 (by omega), hg1, h⟩
           · intro g
             exact g.sum)
        | (have hi2 : i < c.2.2.2.length := by omega
           have q3 := hstep hi2
           have hh2 := hst hi2
           simp only [hx', ew] at *
           rw [decide_eq_true (by omega), decide_eq_true (by omega), decide_eq_true (by omega), decide_eq_true (by omega), Bool.and_self, Bool.and_self, Bool.and_self, Bool.true_and] at q3
           refine ⟨i + 1, [0, 1], ⟨rfl, rfl, ?_, ?_⟩, ⟨hi2, hgo.trans q3, by omega, by omega, by omega⟩, by omega⟩
           · (repeat' ((conv => whnf) <;> first | exact rfl | exact trivial | apply And.intro | exact Nat.zero_add _))
           · (repeat' ((conv => whnf) <;> first | exact rfl | exact trivial | apply And.intro | exact Nat.zero_add _)); all_goals ((conv => whnf); try simp only [])
             · exact wr (by omega)
             · rw [hh2]
               exact wr (by omega))
end Go.Proofs.Ytkcifdblaboodaa.Ce
set_option linter.unusedVariables false
set_option linter.unusedSimpArgs false
namespace Go.Proofs.Ytkcifdblaboodaa.Ce
open Go Go.RowKit Fw Hi Po
theorem r12num (p : Pol) (t : Int) (hp : PolOk p) (k : p.1 = 3) (ht : 0 ≤ t ∧ t ≤ 2199023255552) : Meets Try.prog 71 [polAV p, .int .i64 fun _ => t] [] (Y := Unit) (fun _ => True) (fun _ => .int .i64 fun _ => numR p t) (fun _ => []) := by
  have hB := ring_B hp k
  have hW := hp.window
  have hs := slot_bound hp
  have es : slotOf p = p.2.2.1.tdiv p.2.2.2 := by unfold slotOf; rw [if_pos k]
  have e1 : IntKind.i64.wrap (p.2.2.1.tdiv p.2.2.2) = slotOf p := by rw [← es]; exact wr (by omega)
  have hn := numR_pos hp ht.1
  have hn2 := numR_le hp ht.1
  have e2 : IntKind.i64.wrap (t.tdiv (slotOf p)) = numR p t := wr (by unfold numR at hn hn2; omega)
  refine Meets.intro hm (fn := Try.f71) Try.func71 rfl (by decide) (Nat.le_of_ble_eq_true rfl) (fun _ => rfl) ?_; intro S hok; (conv => whnf)
  (repeat' ((conv => whnf); first | apply And.intro | exact ⟨by kernel_rfl⟩ | apply DrawN.mk | apply CodeN.step hm rfl | exact trivial | exact rfl | (intro hh; try simp only [bs] at hh))); all_goals (conv => whnf)
  all_goals (try simp only [e1, e2] at hh ⊢)
  all_goals first | (refine Ob.mk ?_; first | omega | (simp only []; omega)) | skip
  (refine RetN.q () [] ?_ ?_ ?_ <;> (repeat' ((conv => whnf) <;> first | exact rfl | exact trivial | apply And.intro | exact Nat.zero_add _)); all_goals ((conv => whnf); try simp only []))
  all_goals (try simp only [e1, e2])
theorem r12may (p : Pol) (c : Cell) (k : p.1 = 3) (hl : c.2.2.1.length ≤ 40) : Meets Try.prog 40 [polAV p, cellAV c] [] (Y := Unit) (fun _ => True) (fun _ => .bool fun _ => mayC p c) (fun _ => []) := by
  have MC := rcheckM p
  by_cases hp : PolOk p
  rotate_left
  · rw [if_neg hp] at MC
    have hf := not_may hp c
    refine Meets.intro hm (fn := Try.f40) Try.func40 rfl (by decide) (Nat.le_of_ble_eq_true rfl) (fun _ => rfl) ?_; intro S hok; (conv => whnf)
    (repeat' ((conv => whnf); first | apply And.intro | exact ⟨by kernel_rfl⟩ | apply DrawN.mk | apply CodeN.step hm rfl | exact trivial | exact rfl | (intro hh; try simp only [bs] at hh))); all_goals (conv => whnf)
    (refine CallN.q MC [] (fun _ _ => ?_); (repeat' ((conv => whnf); first | apply And.intro | exact ⟨by kernel_rfl⟩ | apply DrawN.mk | apply CodeN.step hm rfl | exact trivial | exact rfl | (intro hh; try simp only [bs] at hh; try exact absurd hh (by decide)))); all_goals (conv => whnf); all_goals try exact ⟨by decide⟩)
    all_goals
      (refine RetN.q () [] ?_ ?_ ?_ <;> (repeat' ((conv => whnf) <;> first | exact rfl | exact trivial | apply And.intro | exact Nat.zero_add _)); all_goals ((conv => whnf); try simp only []))
      exact hf
  · rw [if_pos hp] at MC
    have hL := hp.limit
    have hW := hp.window
    have hB := ring_B hp k
    have htb : timeB c.1 = true ↔ 0 ≤ c.1 ∧ c.1 ≤ 1099511627776 := timeB_iff
    refine Meets.intro hm (fn := Try.f40) Try.func40 rfl (by decide) (Nat.le_of_ble_eq_true rfl) (fun _ => rfl) ?_; intro S hok; (conv => whnf)
    (repeat' ((conv => whnf); first | apply And.intro | exact ⟨by kernel_rfl⟩ | apply DrawN.mk | apply CodeN.step hm rfl | exact trivial | exact rfl | (intro hh; try simp only [bs] at hh))); all_goals (conv => whnf)
    (refine CallN.q MC [] (fun _ _ => ?_); (repeat' ((conv => whnf); first | apply And.intro | exact ⟨by kernel_rfl⟩ | apply DrawN.mk | apply CodeN.step hm rfl | exact trivial | exact rfl | (intro hh; try simp only [bs] at hh; try exact absurd hh (by decide)))); all_goals (conv => whnf); all_goals try exact ⟨by decide⟩)
    all_goals first | (exfalso; exact hh k) | skip
    all_goals
      (refine CallN.q (ttimeM c.1) [] (fun _ _ => ?_); (repeat' ((conv => whnf); first | apply And.intro | exact ⟨by kernel_rfl⟩ | apply DrawN.mk | apply CodeN.step hm rfl | exact trivial | exact rfl | (intro hh; try simp only [bs] at hh; try exact absurd hh (by decide)))); all_goals (conv => whnf); all_goals try exact ⟨by decide⟩)
    all_goals first
      | ((refine RetN.q () [] ?_ ?_ ?_ <;> (repeat' ((conv => whnf) <;> first | exact rfl | exact trivial | apply And.intro | exact Nat.zero_add _)); all_goals ((conv => whnf); try simp only []))
         have hf := may_no3 (p := p) (c := c) k (by
           rintro ⟨h1, h2, h3, h4⟩
           first
             | omega
             | (rw [h1] at hh; cases hh))
         first | exact hf | exact hf.symm)
      | skip
    all_goals
      have ht : timeB c.1 = true := by assumption
      have ht2 := htb.1 ht
      have hlv : c.2.1 = 0 := by assumption
      have hhl : c.2.2.2 = [] := List.length_eq_zero_iff.1 (by omega)
      have hln : c.2.2.1 = [] ∨ (c.2.2.1.length : Int) = p.2.2.2 := by first | exact .inl (List.length_eq_zero_iff.1 (by omega)) | exact .inr (by omega)
      refine LoopN.intro hm (X := Nat) (fun i => i ≤ c.2.2.1.length ∧ (∀ j : Nat, j < i → (0 ≤ c.2.2.1.getD j 0 ∧ c.2.2.1.getD j 0 ≤ p.2.1) ∧ (0 < c.2.2.1.getD j 0 → (j : Int) ≤ numR p c.1))) (fun i => c.2.2.1.length - i)
        (fun i => [(6, .int .i64 fun _ => (i : Int)), (5, .int .i64 fun _ => (c.2.2.1.take i).sum), (3, .ptr 1 0), (2, .ptr 0 0)])
        (fun i => [.cells 23 [.int .i64 fun _ => p.1, .int .i64 fun _ => p.2.1, .int .i64 fun _ => p.2.2.1, .int .i64 fun _ => p.2.2.2], .cells 31 [.int .i64 fun _ => c.1, .int .i64 fun _ => c.2.1, .lst (.int .i64) fun _ => c.2.2.1, .lst HitT fun _ => c.2.2.2]]) 0 [0, 1] ⟨rfl, rfl, ?_, ?_⟩ ⟨Nat.zero_le _, fun j hj => absurd hj (Nat.not_lt_zero _)⟩ (fun i hi => ?_)
      · (repeat' ((conv => whnf) <;> first | exact rfl | exact trivial | apply And.intro | exact Nat.zero_add _))
      · (repeat' ((conv => whnf) <;> first | exact rfl | exact trivial | apply And.intro | exact Nat.zero_add _))
      obtain ⟨hi, hv⟩ := hi
      have hsb := Ce.sum_bound (m := 1048576) (l := c.2.2.1.take i) (fun x hx => by
        obtain ⟨j, hj⟩ := List.mem_iff_getElem?.1 hx
        rw [List.getElem?_take] at hj
        split at hj
        · rename_i hji
          have := hv j hji
          rw [List.getD_eq_getElem?_getD, hj] at this
          exact ⟨this.1.1, by have := this.1.2; simp only [Option.getD_some] at this; omega⟩
        · cases hj) (by omega)
      rw [List.length_take] at hsb
      have hst := fun h => Ce.sum_take (l := c.2.2.1) (i := i) h
      have hx' : c.2.2.1.getD (i : Int).toNat (Ty.int .i64).dflt = c.2.2.1.getD i 0 := rfl
      have hR : ∀ x, c.2.2.1.getD i 0 = x → i < c.2.2.1.length → mayC p c = true → (0 ≤ x ∧ x ≤ p.2.1) ∧ (0 < x → (i : Int) ≤ numR p c.1) := fun x hx hi2 hm1 => by
        have g := (may3 k).1 hm1
        have h1 := g.nonneg i
        rw [hx] at h1
        refine ⟨h1, fun h0 => ?_⟩
        by_cases hq : (i : Int) ≤ numR p c.1
        · exact hq
        · have := g.early i (by omega)
          omega
      have hv2 : ∀ x, c.2.2.1.getD i 0 = x → (0 ≤ x ∧ x ≤ p.2.1) → (0 < x → (i : Int) ≤ numR p c.1) → ∀ j : Nat, j < i + 1 → (0 ≤ c.2.2.1.getD j 0 ∧ c.2.2.1.getD j 0 ≤ p.2.1) ∧ (0 < c.2.2.1.getD j 0 → (j : Int) ≤ numR p c.1) := fun x hx h1 h2 j hj => by
        by_cases e : j = i
        · subst e; rw [hx]; exact ⟨h1, h2⟩
        · exact hv j (by omega)
      generalize hx : c.2.2.1.getD i 0 = x at *
      (repeat' ((conv => whnf); first | apply And.intro | exact ⟨by kernel_rfl⟩ | apply DrawN.mk | apply CodeN.step hm rfl | exact trivial | exact rfl | (intro hh; try simp only [bs] at hh))); all_goals (conv => whnf)
      all_goals (try simp only [hx'] at *)
      all_goals first | (refine Ob.mk ?_; first | omega | (simp only []; omega)) | skip
      all_goals first
        | ((refine CallN.q (r12num p c.1 hp k (by omega)) [] (fun _ _ => ?_); (repeat' ((conv => whnf); first | apply And.intro | exact ⟨by kernel_rfl⟩ | apply DrawN.mk | apply CodeN.step hm rfl | exact trivial | exact rfl | (intro hh; try simp only [bs] at hh; try exact absurd hh (by decide)))); all_goals (conv => whnf); all_goals try exact ⟨by decide⟩))
        | skip
      all_goals first | (refine Ob.mk ?_; first | omega | (simp only []; omega)) | skip
      all_goals (try simp only [hx'] at *)
      all_goals first
        | ((refine RetN.q () [] ?_ ?_ ?_ <;> (repeat' ((conv => whnf) <;> first | exact rfl | exact trivial | apply And.intro | exact Nat.zero_add _)); all_goals ((conv => whnf); try simp only []))
           first
             | (refine Bool.eq_false_iff.2 fun hm1 => ?_
                have := hR x rfl (by omega) hm1
                omega)
             | (refine (Bool.eq_false_iff.2 fun hm1 => ?_).symm
                have := hR x rfl (by omega) hm1
                omega)
             | (have e : i = c.2.2.1.length := by omega
                rw [Bool.eq_iff_iff, may3 k, decide_eq_true_eq, e, List.take_length]
                rw [e] at hv
                constructor
                · intro h
                  refine ⟨hp, ht2, hlv, hhl, hln, fun y hy => ?_, h, fun j hj => ?_⟩
                  · obtain ⟨j, hj⟩ := List.mem_iff_getElem?.1 hy
                    have hj2 := (List.getElem?_eq_some_iff.1 hj).1
                    have := (hv j hj2).1
                    rw [List.getD_eq_getElem?_getD, hj] at this
                    exact this
                  · by_cases hj2 : j < c.2.2.1.length
                    · have := hv j hj2
                      omega
                    · rw [List.getD_eq_getElem?_getD, List.getElem?_eq_none (by omega)]; rfl
                · intro g
                  exact g.sum))
        | (have hi2 : i < c.2.2.1.length := by omega
           have hh2 := hst hi2
           refine ⟨i + 1, [0, 1], ⟨rfl, rfl, ?_, ?_⟩, ⟨hi2, hv2 x rfl (by omega) (by omega)⟩, by omega⟩
           · (repeat' ((conv => whnf) <;> first | exact rfl | exact trivial | apply And.intro | exact Nat.zero_add _))
           · (repeat' ((conv => whnf) <;> first | exact rfl | exact trivial | apply And.intro | exact Nat.zero_add _)); all_goals ((conv => whnf); try simp only [])
             · exact wr (by omega)
             · rw [hh2]
               first
                 | exact wr (by omega)
                 | (show IntKind.i64.wrap ((c.2.2.1.take i).sum + c.2.2.1.getD i 0) = _
                    rw [hx]
                    exact wr (by omega)))
        | skip
theorem r14may (p : Pol) (c : Cell) (hc : -9223372036854775808 ≤ c.2.1 ∧ c.2.1 ≤ 9223372036854775807) (h1 : c.2.2.1.length ≤ 40) (h2 : c.2.2.2.length ≤ 40) : Meets Try.prog 23 [polAV p, cellAV c] [] (Y := Unit) (fun _ => True) (fun _ => .bool fun _ => mayC p c) (fun _ => []) := by
  by_cases k1 : p.1 = 1
  · refine Meets.intro hm (fn := Try.f23) Try.func23 rfl (by decide) (Nat.le_of_ble_eq_true rfl) (fun _ => rfl) ?_; intro S hok; (conv => whnf)
    (repeat' ((conv => whnf); first | apply And.intro | exact ⟨by kernel_rfl⟩ | apply DrawN.mk | apply CodeN.step hm rfl | exact trivial | exact rfl | (intro hh; try simp only [bs] at hh))); all_goals (conv => whnf)
    all_goals first | (exfalso; omega) | skip
    (refine CallN.q (r10may p c k1 hc) [] (fun _ _ => ?_); (repeat' ((conv => whnf); first | apply And.intro | exact ⟨by kernel_rfl⟩ | apply DrawN.mk | apply CodeN.step hm rfl | exact trivial | exact rfl | (intro hh; try simp only [bs] at hh; try exact absurd hh (by decide)))); all_goals (conv => whnf); all_goals try exact ⟨by decide⟩)
    (refine RetN.q () [] ?_ ?_ ?_ <;> (repeat' ((conv => whnf) <;> first | exact rfl | exact trivial | apply And.intro | exact Nat.zero_add _)); all_goals ((conv => whnf); try simp only []))
  by_cases k2 : p.1 = 2
  · refine Meets.intro hm (fn := Try.f23) Try.func23 rfl (by decide) (Nat.le_of_ble_eq_true rfl) (fun _ => rfl) ?_; intro S hok; (conv => whnf)
    (repeat' ((conv => whnf); first | apply And.intro | exact ⟨by kernel_rfl⟩ | apply DrawN.mk | apply CodeN.step hm rfl | exact trivial | exact rfl | (intro hh; try simp only [bs] at hh))); all_goals (conv => whnf)
    all_goals first | (exfalso; omega) | skip
    (refine CallN.q (r11may p c k2) [] (fun _ _ => ?_); (repeat' ((conv => whnf); first | apply And.intro | exact ⟨by kernel_rfl⟩ | apply DrawN.mk | apply CodeN.step hm rfl | exact trivial | exact rfl | (intro hh; try simp only [bs] at hh; try exact absurd hh (by decide)))); all_goals (conv => whnf); all_goals try exact ⟨by decide⟩)
    (refine RetN.q () [] ?_ ?_ ?_ <;> (repeat' ((conv => whnf) <;> first | exact rfl | exact trivial | apply And.intro | exact Nat.zero_add _)); all_goals ((conv => whnf); try simp only []))
  by_cases k3 : p.1 = 3
  · refine Meets.intro hm (fn := Try.f23) Try.func23 rfl (by decide) (Nat.le_of_ble_eq_true rfl) (fun _ => rfl) ?_; intro S hok; (conv => whnf)
    (repeat' ((conv => whnf); first | apply And.intro | exact ⟨by kernel_rfl⟩ | apply DrawN.mk | apply CodeN.step hm rfl | exact trivial | exact rfl | (intro hh; try simp only [bs] at hh))); all_goals (conv => whnf)
    all_goals first | (exfalso; omega) | skip
    (refine CallN.q (r12may p c k3 h1) [] (fun _ _ => ?_); (repeat' ((conv => whnf); first | apply And.intro | exact ⟨by kernel_rfl⟩ | apply DrawN.mk | apply CodeN.step hm rfl | exact trivial | exact rfl | (intro hh; try simp only [bs] at hh; try exact absurd hh (by decide)))); all_goals (conv => whnf); all_goals try exact ⟨by decide⟩)
    (refine RetN.q () [] ?_ ?_ ?_ <;> (repeat' ((conv => whnf) <;> first | exact rfl | exact trivial | apply And.intro | exact Nat.zero_add _)); all_goals ((conv => whnf); try simp only []))
  by_cases k4 : p.1 = 4
  · refine Meets.intro hm (fn := Try.f23) Try.func23 rfl (by decide) (Nat.le_of_ble_eq_true rfl) (fun _ => rfl) ?_; intro S hok; (conv => whnf)
    (repeat' ((conv => whnf); first | apply And.intro | exact ⟨by kernel_rfl⟩ | apply DrawN.mk | apply CodeN.step hm rfl | exact trivial | exact rfl | (intro hh; try simp only [bs] at hh))); all_goals (conv => whnf)
    all_goals first | (exfalso; omega) | skip
    (refine CallN.q (r13may p c k4 h2) [] (fun _ _ => ?_); (repeat' ((conv => whnf); first | apply And.intro | exact ⟨by kernel_rfl⟩ | apply DrawN.mk | apply CodeN.step hm rfl | exact trivial | exact rfl | (intro hh; try simp only [bs] at hh; try exact absurd hh (by decide)))); all_goals (conv => whnf); all_goals try exact ⟨by decide⟩)
    (refine RetN.q () [] ?_ ?_ ?_ <;> (repeat' ((conv => whnf) <;> first | exact rfl | exact trivial | apply And.intro | exact Nat.zero_add _)); all_goals ((conv => whnf); try simp only []))
  have hmf : mayC p c = false := not_may (fun hp => by have := kind_of hp; omega) c
  refine Meets.intro hm (fn := Try.f23) Try.func23 rfl (by decide) (Nat.le_of_ble_eq_true rfl) (fun _ => rfl) ?_; intro S hok; (conv => whnf)
  (repeat' ((conv => whnf); first | apply And.intro | exact ⟨by kernel_rfl⟩ | apply DrawN.mk | apply CodeN.step hm rfl | exact trivial | exact rfl | (intro hh; try simp only [bs] at hh))); all_goals (conv => whnf)
  all_goals first | (exfalso; omega) | skip
  (refine RetN.q () [] ?_ ?_ ?_ <;> (repeat' ((conv => whnf) <;> first | exact rfl | exact trivial | apply And.intro | exact Nat.zero_add _)); all_goals ((conv => whnf); try simp only []))
  exact hmf
theorem few_len {c : Cell} (h : fewB c = true) : c.2.2.1.length ≤ 40 ∧ c.2.2.2.length ≤ 40 := by
  unfold fewB at h
  rw [Bool.and_eq_true, decide_eq_true_eq, decide_eq_true_eq] at h
  omega
end Go.Proofs.Ytkcifdblaboodaa.Ce
set_option linter.unusedVariables false
set_option linter.unusedSimpArgs false
namespace Go.Proofs.Ytkcifdblaboodaa.Ce
open Go Go.RowKit Fw Hi Po
set_option maxHeartbeats 4000000 in
set_option maxRecDepth 4000 in
theorem neutralLawM (p : Pol) (c : Cell) (n : Int × Int) (hc : -9223372036854775808 ≤ c.2.1 ∧ c.2.1 ≤ 9223372036854775807) : Meets Try.prog 5 [polAV p, cellAV c, .agg [.int .i64 fun _ => n.1, .int .i64 fun _ => n.2]] [] (Y := Unit) (fun _ => True) (fun _ => .tt) (fun _ => []) := by
  refine Meets.intro hm (fn := Try.f5) Try.func5 rfl (by decide) (Nat.le_of_ble_eq_true rfl) (fun _ => rfl) ?_; intro S hok; (conv => whnf)
  (repeat' ((conv => whnf); first | apply And.intro | exact ⟨by kernel_rfl⟩ | apply DrawN.mk | apply CodeN.step hm rfl | exact trivial | exact rfl | (intro hh; try simp only [bs] at hh))); all_goals (conv => whnf)
  all_goals first | (exact Ob.mk (by decide)) | skip
  (refine CallN.q (fewM c) [] (fun _ _ => ?_); (repeat' ((conv => whnf); first | apply And.intro | exact ⟨by kernel_rfl⟩ | apply DrawN.mk | apply CodeN.step hm rfl | exact trivial | exact rfl | (intro hh; try simp only [bs] at hh; try exact absurd hh (by decide)))); all_goals (conv => whnf); all_goals try exact ⟨by decide⟩)
  rotate_left
  · (refine CallN.q liveM [] (fun _ _ => ?_); (repeat' ((conv => whnf); first | apply And.intro | exact ⟨by kernel_rfl⟩ | apply DrawN.mk | apply CodeN.step hm rfl | exact trivial | exact rfl | (intro hh; try simp only [bs] at hh; try exact absurd hh (by decide)))); all_goals (conv => whnf); all_goals try exact ⟨by decide⟩)
    (refine RetN.q () [] ?_ ?_ ?_ <;> (repeat' ((conv => whnf) <;> first | exact rfl | exact trivial | apply And.intro | exact Nat.zero_add _)); all_goals ((conv => whnf); try simp only []))
  obtain ⟨h40, h41⟩ := few_len (by assumption)
  (refine CallN.q (r14may p c hc h40 h41) [] (fun _ _ => ?_); (repeat' ((conv => whnf); first | apply And.intro | exact ⟨by kernel_rfl⟩ | apply DrawN.mk | apply CodeN.step hm rfl | exact trivial | exact rfl | (intro hh; try simp only [bs] at hh; try exact absurd hh (by decide)))); all_goals (conv => whnf); all_goals try exact ⟨by decide⟩)
  all_goals first
    | ((refine CallN.q liveM [] (fun _ _ => ?_); (repeat' ((conv => whnf); first | apply And.intro | exact ⟨by kernel_rfl⟩ | apply DrawN.mk | apply CodeN.step hm rfl | exact trivial | exact rfl | (intro hh; try simp only [bs] at hh; try exact absurd hh (by decide)))); all_goals (conv => whnf); all_goals try exact ⟨by decide⟩)
       (refine RetN.q () [] ?_ ?_ ?_ <;> (repeat' ((conv => whnf) <;> first | exact rfl | exact trivial | apply And.intro | exact Nat.zero_add _)); all_goals ((conv => whnf); try simp only [])))
    | skip
  have hm1 : mayC p c = true := by assumption
  obtain ⟨hp, hc0, _⟩ := may_pol hm1
  have ht : c.1 ≤ n.1 ∧ n.1 ≤ 274877906944 := by omega
  have MW := rweighsM n.2
  by_cases hw : weighs n.2 = true
  rotate_left
  · rw [Bool.eq_false_iff.2 hw] at MW
    (refine CallN.q MW [] (fun _ _ => ?_); (repeat' ((conv => whnf); first | apply And.intro | exact ⟨by kernel_rfl⟩ | apply DrawN.mk | apply CodeN.step hm rfl | exact trivial | exact rfl | (intro hh; try simp only [bs] at hh; try exact absurd hh (by decide)))); all_goals (conv => whnf); all_goals try exact ⟨by decide⟩)
    (refine CallN.q liveM [] (fun _ _ => ?_); (repeat' ((conv => whnf); first | apply And.intro | exact ⟨by kernel_rfl⟩ | apply DrawN.mk | apply CodeN.step hm rfl | exact trivial | exact rfl | (intro hh; try simp only [bs] at hh; try exact absurd hh (by decide)))); all_goals (conv => whnf); all_goals try exact ⟨by decide⟩)
    (refine RetN.q () [] ?_ ?_ ?_ <;> (repeat' ((conv => whnf) <;> first | exact rfl | exact trivial | apply And.intro | exact Nat.zero_add _)); all_goals ((conv => whnf); try simp only []))
  rw [hw] at MW
  have A := caskM p c n.1 p.2.1 hc
  have N := cneutralM p c n.1 hc
  rw [neutral_whole hm1 ht.1 (by omega)] at N
  have B := caskM p c n.1 n.2 hc
  have C := caskM p (n.1, 0, [], []) n.1 n.2 (by simp)
  have N2 := cneutralM p (n.1, 0, [], []) n.1 (by simp)
  rw [new_neutral hp ⟨by omega, by omega⟩] at N2
  have hq : (askC p c n.1 p.2.1).2.1 = true → askC p c n.1 n.2 = askC p (n.1, 0, [], []) n.1 n.2 := fun h => by
    rw [← neutral_whole hm1 ht.1 (by omega), neutral_iff hm1 ht.1] at h
    exact neutral_new hm1 ht.1 (by omega) h hw
  have D := csameM (askC p c n.1 n.2).1 (askC p (n.1, 0, [], []) n.1 n.2).1
  have hlen := may_packs (ask_may hm1 (t := n.1) (w := n.2) ht.1).1
  generalize askC p c n.1 p.2.1 = a at *
  generalize askC p c n.1 n.2 = b at *
  generalize askC p (n.1, 0, [], []) n.1 n.2 = d at *
  obtain ⟨a1, a2⟩ := a
  obtain ⟨b1, b2⟩ := b
  obtain ⟨d1, d2⟩ := d
  simp only [] at hq D hlen
  by_cases hn : a2.1 = true
  · have e := hq hn
    rw [Prod.mk.injEq] at e
    obtain ⟨rfl, rfl⟩ := e
    have D := D (by have := hlen.slen; omega) (by have := hlen.slen; omega) (by have := hlen.hlen; omega) (by have := hlen.hlen; omega)
    rw [decide_eq_true rfl] at D
    (refine CallN.q MW [] (fun _ _ => ?_); (repeat' ((conv => whnf); first | apply And.intro | exact ⟨by kernel_rfl⟩ | apply DrawN.mk | apply CodeN.step hm rfl | exact trivial | exact rfl | (intro hh; try simp only [bs] at hh; try exact absurd hh (by decide)))); all_goals (conv => whnf); all_goals try exact ⟨by decide⟩)
    (refine CallN.q A [] (fun _ _ => ?_); (repeat' ((conv => whnf); first | apply And.intro | exact ⟨by kernel_rfl⟩ | apply DrawN.mk | apply CodeN.step hm rfl | exact trivial | exact rfl | (intro hh; try simp only [bs] at hh; try exact absurd hh (by decide)))); all_goals (conv => whnf); all_goals try exact ⟨by decide⟩)
    (refine CallN.q N [] (fun _ _ => ?_); (repeat' ((conv => whnf); first | apply And.intro | exact ⟨by kernel_rfl⟩ | apply DrawN.mk | apply CodeN.step hm rfl | exact trivial | exact rfl | (intro hh; try simp only [bs] at hh; try exact absurd hh (by decide)))); all_goals (conv => whnf); all_goals try exact ⟨by decide⟩)
    all_goals first | (exfalso; exact hh rfl) | skip
    (refine CallN.q B [] (fun _ _ => ?_); (repeat' ((conv => whnf); first | apply And.intro | exact ⟨by kernel_rfl⟩ | apply DrawN.mk | apply CodeN.step hm rfl | exact trivial | exact rfl | (intro hh; try simp only [bs] at hh; try exact absurd hh (by decide)))); all_goals (conv => whnf); all_goals try exact ⟨by decide⟩)
    (refine CallN.q C [] (fun _ _ => ?_); (repeat' ((conv => whnf); first | apply And.intro | exact ⟨by kernel_rfl⟩ | apply DrawN.mk | apply CodeN.step hm rfl | exact trivial | exact rfl | (intro hh; try simp only [bs] at hh; try exact absurd hh (by decide)))); all_goals (conv => whnf); all_goals try exact ⟨by decide⟩)
    all_goals first | (exfalso; simp [*] at hh; done) | skip
    (refine CallN.q D [] (fun _ _ => ?_); (repeat' ((conv => whnf); first | apply And.intro | exact ⟨by kernel_rfl⟩ | apply DrawN.mk | apply CodeN.step hm rfl | exact trivial | exact rfl | (intro hh; try simp only [bs] at hh; try exact absurd hh (by decide)))); all_goals (conv => whnf); all_goals try exact ⟨by decide⟩)
    all_goals first | (exfalso; exact (eqD_no VerT rfl _ _).1 hh rfl) | skip
    (refine CallN.q N2 [] (fun _ _ => ?_); (repeat' ((conv => whnf); first | apply And.intro | exact ⟨by kernel_rfl⟩ | apply DrawN.mk | apply CodeN.step hm rfl | exact trivial | exact rfl | (intro hh; try simp only [bs] at hh; try exact absurd hh (by decide)))); all_goals (conv => whnf); all_goals try exact ⟨by decide⟩)
    (refine CallN.q liveM [] (fun _ _ => ?_); (repeat' ((conv => whnf); first | apply And.intro | exact ⟨by kernel_rfl⟩ | apply DrawN.mk | apply CodeN.step hm rfl | exact trivial | exact rfl | (intro hh; try simp only [bs] at hh; try exact absurd hh (by decide)))); all_goals (conv => whnf); all_goals try exact ⟨by decide⟩)
    (refine RetN.q () [] ?_ ?_ ?_ <;> (repeat' ((conv => whnf) <;> first | exact rfl | exact trivial | apply And.intro | exact Nat.zero_add _)); all_goals ((conv => whnf); try simp only []))
  · (refine CallN.q MW [] (fun _ _ => ?_); (repeat' ((conv => whnf); first | apply And.intro | exact ⟨by kernel_rfl⟩ | apply DrawN.mk | apply CodeN.step hm rfl | exact trivial | exact rfl | (intro hh; try simp only [bs] at hh; try exact absurd hh (by decide)))); all_goals (conv => whnf); all_goals try exact ⟨by decide⟩)
    (refine CallN.q A [] (fun _ _ => ?_); (repeat' ((conv => whnf); first | apply And.intro | exact ⟨by kernel_rfl⟩ | apply DrawN.mk | apply CodeN.step hm rfl | exact trivial | exact rfl | (intro hh; try simp only [bs] at hh; try exact absurd hh (by decide)))); all_goals (conv => whnf); all_goals try exact ⟨by decide⟩)
    (refine CallN.q N [] (fun _ _ => ?_); (repeat' ((conv => whnf); first | apply And.intro | exact ⟨by kernel_rfl⟩ | apply DrawN.mk | apply CodeN.step hm rfl | exact trivial | exact rfl | (intro hh; try simp only [bs] at hh; try exact absurd hh (by decide)))); all_goals (conv => whnf); all_goals try exact ⟨by decide⟩)
    all_goals first | (exfalso; exact hh rfl) | skip
    (refine CallN.q B [] (fun _ _ => ?_); (repeat' ((conv => whnf); first | apply And.intro | exact ⟨by kernel_rfl⟩ | apply DrawN.mk | apply CodeN.step hm rfl | exact trivial | exact rfl | (intro hh; try simp only [bs] at hh; try exact absurd hh (by decide)))); all_goals (conv => whnf); all_goals try exact ⟨by decide⟩)
    (refine CallN.q C [] (fun _ _ => ?_); (repeat' ((conv => whnf); first | apply And.intro | exact ⟨by kernel_rfl⟩ | apply DrawN.mk | apply CodeN.step hm rfl | exact trivial | exact rfl | (intro hh; try simp only [bs] at hh; try exact absurd hh (by decide)))); all_goals (conv => whnf); all_goals try exact ⟨by decide⟩)
    all_goals first | (exfalso; exact hn hh) | skip
    (refine CallN.q N2 [] (fun _ _ => ?_); (repeat' ((conv => whnf); first | apply And.intro | exact ⟨by kernel_rfl⟩ | apply DrawN.mk | apply CodeN.step hm rfl | exact trivial | exact rfl | (intro hh; try simp only [bs] at hh; try exact absurd hh (by decide)))); all_goals (conv => whnf); all_goals try exact ⟨by decide⟩)
    (refine CallN.q liveM [] (fun _ _ => ?_); (repeat' ((conv => whnf); first | apply And.intro | exact ⟨by kernel_rfl⟩ | apply DrawN.mk | apply CodeN.step hm rfl | exact trivial | exact rfl | (intro hh; try simp only [bs] at hh; try exact absurd hh (by decide)))); all_goals (conv => whnf); all_goals try exact ⟨by decide⟩)
    (refine RetN.q () [] ?_ ?_ ?_ <;> (repeat' ((conv => whnf) <;> first | exact rfl | exact trivial | apply And.intro | exact Nat.zero_add _)); all_goals ((conv => whnf); try simp only []))
set_option maxHeartbeats 4000000 in
set_option maxRecDepth 4000 in
theorem laterM (p : Pol) (c : Cell) (n : Int × Int × Int × Int) (hc : -9223372036854775808 ≤ c.2.1 ∧ c.2.1 ≤ 9223372036854775807) : Meets Try.prog 6 [polAV p, cellAV c, .agg [.int .i64 fun _ => n.1, .int .i64 fun _ => n.2.1, .int .i64 fun _ => n.2.2.1, .int .i64 fun _ => n.2.2.2]] [] (Y := Unit) (fun _ => True) (fun _ => .tt) (fun _ => []) := by
  refine Meets.intro hm (fn := Try.f6) Try.func6 rfl (by decide) (Nat.le_of_ble_eq_true rfl) (fun _ => rfl) ?_; intro S hok; (conv => whnf)
  (repeat' ((conv => whnf); first | apply And.intro | exact ⟨by kernel_rfl⟩ | apply DrawN.mk | apply CodeN.step hm rfl | exact trivial | exact rfl | (intro hh; try simp only [bs] at hh))); all_goals (conv => whnf)
  all_goals first | (exact Ob.mk (by decide)) | skip
  (refine CallN.q (fewM c) [] (fun _ _ => ?_); (repeat' ((conv => whnf); first | apply And.intro | exact ⟨by kernel_rfl⟩ | apply DrawN.mk | apply CodeN.step hm rfl | exact trivial | exact rfl | (intro hh; try simp only [bs] at hh; try exact absurd hh (by decide)))); all_goals (conv => whnf); all_goals try exact ⟨by decide⟩)
  rotate_left
  · (refine CallN.q liveM [] (fun _ _ => ?_); (repeat' ((conv => whnf); first | apply And.intro | exact ⟨by kernel_rfl⟩ | apply DrawN.mk | apply CodeN.step hm rfl | exact trivial | exact rfl | (intro hh; try simp only [bs] at hh; try exact absurd hh (by decide)))); all_goals (conv => whnf); all_goals try exact ⟨by decide⟩)
    (refine RetN.q () [] ?_ ?_ ?_ <;> (repeat' ((conv => whnf) <;> first | exact rfl | exact trivial | apply And.intro | exact Nat.zero_add _)); all_goals ((conv => whnf); try simp only []))
  obtain ⟨h40, h41⟩ := few_len (by assumption)
  (refine CallN.q (r14may p c hc h40 h41) [] (fun _ _ => ?_); (repeat' ((conv => whnf); first | apply And.intro | exact ⟨by kernel_rfl⟩ | apply DrawN.mk | apply CodeN.step hm rfl | exact trivial | exact rfl | (intro hh; try simp only [bs] at hh; try exact absurd hh (by decide)))); all_goals (conv => whnf); all_goals try exact ⟨by decide⟩)
  all_goals first | (exact Ob.mk (by decide)) | skip
  all_goals first
    | ((refine CallN.q liveM [] (fun _ _ => ?_); (repeat' ((conv => whnf); first | apply And.intro | exact ⟨by kernel_rfl⟩ | apply DrawN.mk | apply CodeN.step hm rfl | exact trivial | exact rfl | (intro hh; try simp only [bs] at hh; try exact absurd hh (by decide)))); all_goals (conv => whnf); all_goals try exact ⟨by decide⟩)
       (refine RetN.q () [] ?_ ?_ ?_ <;> (repeat' ((conv => whnf) <;> first | exact rfl | exact trivial | apply And.intro | exact Nat.zero_add _)); all_goals ((conv => whnf); try simp only [])))
    | skip
  have hm1 : mayC p c = true := by assumption
  obtain ⟨hp, hc0, _⟩ := may_pol hm1
  have hb : (0 ≤ n.1 ∧ n.1 ≤ 274877906944) ∧ (0 ≤ n.2.2.1 ∧ n.2.2.1 ≤ 274877906944) ∧ c.1 ≤ 274877906944 := by omega
  have et : (if c.1 > n.1 then c.1 else n.1) = max n.1 c.1 := by split <;> omega
  have ht : c.1 ≤ max n.1 c.1 ∧ max n.1 c.1 ≤ 274877906944 := by omega
  have e2 : IntKind.i64.wrap (max n.1 c.1 + n.2.2.1) = max n.1 c.1 + n.2.2.1 := wr (by omega)
  have A := caskM p c (max n.1 c.1) n.2.1 hc
  have hd := ask_may hm1 (t := max n.1 c.1) (w := n.2.1) ht.1
  have hq : (askC p c (max n.1 c.1) n.2.1).2.1 = false → (askC p (askC p c (max n.1 c.1) n.2.1).1 (max n.1 c.1 + n.2.2.1) n.2.2.2).2 = (askC p c (max n.1 c.1 + n.2.2.1) n.2.2.2).2 := fun h => by
    rcases ask_cases hm1 (w := n.2.1) ht.1 with ⟨e, _⟩ | ⟨_, _, e⟩ | ⟨_, _, e⟩
    · rw [e]
    · rw [e] at h; cases h
    · rw [e]; exact ask_moved hm1 ht.1 (by omega) (by omega)
  simp only [et]
  generalize max n.1 c.1 = t at *
  generalize askC p c t n.2.1 = a at *
  obtain ⟨d, v⟩ := a
  simp only [] at hd hq
  have B := caskM p c (t + n.2.2.1) n.2.2.2 hc
  have C := caskM p d (t + n.2.2.1) n.2.2.2 (may_level hd.1)
  generalize askC p c (t + n.2.2.1) n.2.2.2 = b at *
  generalize askC p d (t + n.2.2.1) n.2.2.2 = c1 at *
  obtain ⟨b1, b2⟩ := b
  obtain ⟨c1, c2⟩ := c1
  simp only [] at hq
  (refine CallN.q A [] (fun _ _ => ?_); (repeat' ((conv => whnf); first | apply And.intro | exact ⟨by kernel_rfl⟩ | apply DrawN.mk | apply CodeN.step hm rfl | exact trivial | exact rfl | (intro hh; try simp only [bs] at hh; try exact absurd hh (by decide)))); all_goals (conv => whnf); all_goals try exact ⟨by decide⟩)
  all_goals first
    | ((refine CallN.q liveM [] (fun _ _ => ?_); (repeat' ((conv => whnf); first | apply And.intro | exact ⟨by kernel_rfl⟩ | apply DrawN.mk | apply CodeN.step hm rfl | exact trivial | exact rfl | (intro hh; try simp only [bs] at hh; try exact absurd hh (by decide)))); all_goals (conv => whnf); all_goals try exact ⟨by decide⟩)
       (refine RetN.q () [] ?_ ?_ ?_ <;> (repeat' ((conv => whnf) <;> first | exact rfl | exact trivial | apply And.intro | exact Nat.zero_add _)); all_goals ((conv => whnf); try simp only [])))
    | skip
  have e := hq hh
  subst e
  all_goals first | (exact Ob.mk (by decide)) | skip
  simp only [e2]
  (refine CallN.q B [] (fun _ _ => ?_); (repeat' ((conv => whnf); first | apply And.intro | exact ⟨by kernel_rfl⟩ | apply DrawN.mk | apply CodeN.step hm rfl | exact trivial | exact rfl | (intro hh; try simp only [bs] at hh; try exact absurd hh (by decide)))); all_goals (conv => whnf); all_goals try exact ⟨by decide⟩)
  all_goals first | (exact Ob.mk (by decide)) | skip
  simp only [e2]
  (refine CallN.q C [] (fun _ _ => ?_); (repeat' ((conv => whnf); first | apply And.intro | exact ⟨by kernel_rfl⟩ | apply DrawN.mk | apply CodeN.step hm rfl | exact trivial | exact rfl | (intro hh; try simp only [bs] at hh; try exact absurd hh (by decide)))); all_goals (conv => whnf); all_goals try exact ⟨by decide⟩)
  all_goals first | (exfalso; exact (eqD_no VerT rfl _ _).1 hh rfl) | skip
  (refine CallN.q liveM [] (fun _ _ => ?_); (repeat' ((conv => whnf); first | apply And.intro | exact ⟨by kernel_rfl⟩ | apply DrawN.mk | apply CodeN.step hm rfl | exact trivial | exact rfl | (intro hh; try simp only [bs] at hh; try exact absurd hh (by decide)))); all_goals (conv => whnf); all_goals try exact ⟨by decide⟩)
  (refine RetN.q () [] ?_ ?_ ?_ <;> (repeat' ((conv => whnf) <;> first | exact rfl | exact trivial | apply And.intro | exact Nat.zero_add _)); all_goals ((conv => whnf); try simp only []))
end Go.Proofs.Ytkcifdblaboodaa.Ce
set_option linter.unusedVariables false
set_option linter.unusedSimpArgs false
namespace Go.Proofs.Ytkcifdblaboodaa.Fw
open Go Go.RowKit Go.ChangeShapes

/-- All that is there rests. -/
def gW (W : World) : Gh := { n := 0, Φ := fun b => W.heap[b]?, B := fun _ => 0, V := fun _ => none, L := fun _ => 0, k := 0 }
theorem sim_gW (W : World) : Sim (gW W) [] W := by
  refine ⟨rfl, fun b o h => h, fun i => trivial, fun i j b hi => ?_, fun i b hi => ?_⟩
  · simp [getE, Chunk.blk] at hi
  · simp [getE, Chunk.blk] at hi

/-- Numbers of their kinds, lengths that a machine bears. -/
def wfD : (t : Ty) → t.den → Prop
  | .int k, n => k.min ≤ n ∧ n ≤ k.max
  | .bool, _ => True
  | .str, s => List.length s ≤ maxLen
  | .list e, xs => List.length xs ≤ maxLen ∧ ∀ x, x ∈ (xs : List e.den) → wfD e x
  | .pair a b, x => wfD a x.1 ∧ wfD b x.2

theorem cells_at {w : World} {base : Nat} {a : Addr} {n : Nat} {cs : List Value} (h : w.cells? base a n = some cs) : cs.length = n ∧ ∀ (j : Nat) (u : Value), cs[j]? = some u → w.cell? (a.add j) = some u := by
  unfold World.cells? at h
  split at h
  · rename_i hb
    have key : ∀ (l : List Nat) (cs : List Value), l.mapM (fun i => w.cell? (a.add i)) = some cs → cs.length = l.length ∧ ∀ (j : Nat) (u : Value) (i : Nat), cs[j]? = some u → l[j]? = some i → w.cell? (a.add i) = some u := by
      intro l
      induction l with
      | nil => intro cs h; simp at h; subst h; simp
      | cons i l ih =>
        intro cs h
        simp only [List.mapM_cons, Option.bind_eq_bind, Option.bind_eq_some_iff, Option.pure_def, Option.some.injEq] at h
        obtain ⟨u, h1, r, h2, rfl⟩ := h
        obtain ⟨h3, h4⟩ := ih r h2
        refine ⟨by simp [h3], fun j v i' hj hi => ?_⟩
        cases j with
        | zero => simp at hj hi; subst hj hi; exact h1
        | succ j => exact h4 j v i' (by simpa using hj) (by simpa using hi)
    obtain ⟨h1, h2⟩ := key _ _ h
    refine ⟨by simpa using h1, fun j u hj => h2 j u j hj ?_⟩
    have := (List.getElem?_eq_some_iff.1 hj).1
    rw [List.getElem?_range (by rw [h1] at this; simpa using this)]
  · cases h
theorem cell_at_gW {W : World} {a : Addr} {u : Value} (h : W.cell? a = some u) : ∃ cells T fr, a.spot = none ∧ (gW W).Φ a.block = some (.cells cells T fr) ∧ cells[a.off]? = some u := by
  unfold World.cell? at h
  split at h
  · rename_i c T fr hc
    split at h
    · cases h
    · rename_i hs
      exact ⟨c, T, fr, by simpa using hs, hc, h⟩
  · cases h
theorem list_of {α : Type} {p : Nat → α → Prop} : ∀ n : Nat, (∀ i, i < n → ∃ x, p i x) → ∃ xs : List α, xs.length = n ∧ ∀ (i : Nat) (x : α), xs[i]? = some x → p i x
  | 0, _ => ⟨[], rfl, by simp⟩
  | n + 1, h => by
    obtain ⟨xs, h1, h2⟩ := list_of n (fun i hi => h i (by omega))
    obtain ⟨x, hx⟩ := h n (by omega)
    refine ⟨xs ++ [x], by simp [h1], fun i y hy => ?_⟩
    rw [List.getElem?_append] at hy
    split at hy
    · exact h2 i y hy
    · rename_i hi
      have : i - xs.length = 0 := by
        have := (List.getElem?_eq_some_iff.1 hy).1
        simp at this; omega
      rw [this] at hy
      simp at hy
      subst hy
      have : i = n := by omega
      subst this; exact hx

section
variable {H : Type} {enc' : TypeId × Value → H} {P : Program} {W : World} {base : Nat} {sp : Nat → Bool} {held : Bool}

/-- What reads, reads as data. -/
theorem trod_data (K : Kids P (· < P.types.size)) : ∀ (d : Nat) (t : Nat) (ty : Ty), t < P.types.size → tyOf P d t = some ty → ∀ (fuel : Nat) (cs : List Value) (x : DataW H × List MemPlace), DataW.trod enc' P W base sp held fuel t cs = some x →
    ∃ a : ty.den, RL (gW W) (enc ty (fun _ => a) []) cs ∧ wfD ty a
  | 0, _, _, _, h => by simp [tyOf] at h
  | d + 1, t, ty, hlt, h => by
    intro fuel cs x hx
    simp only [tyOf] at h
    split at h
    · rename_i k ht
      cases h
      obtain ⟨n, rfl, _, hw⟩ := DataW.trod_int (tund_und ht) hx
      simp only [Lit.wf, Bool.and_eq_true, decide_eq_true_eq] at hw
      exact ⟨n, ⟨.int k (fun _ => n), trivial⟩, hw⟩
    · rename_i ht
      cases h
      obtain ⟨b, rfl, _⟩ := DataW.trod_bool (tund_und ht) hx
      exact ⟨b, ⟨.bool (fun _ => b), trivial⟩, trivial⟩
    · rename_i ht
      cases h
      obtain ⟨s, rfl, _, hs⟩ := DataW.trod_string (tund_und ht) hx
      refine ⟨s.data.toList, ⟨?_, trivial⟩, ?_⟩
      · have := R.str (g := gW W) (fun _ => s.data.toList)
        simpa using this
      · show s.data.toList.length ≤ maxLen
        rw [Array.length_toList]; exact hs
    · rename_i e ht
      split at h <;> try cases h
      rename_i y hy
      have hye : y = y := rfl
      have hte := K.slice hlt (tund_und ht)
      rcases DataW.trod_slice (tund_und ht) hx with ⟨rfl, _⟩ | ⟨a, len, cap, elems, rest, n, _, rfl, _, _, hlc, hcm, hlen, hel, _⟩
      · refine ⟨([] : List y.den), ⟨?_, trivial⟩, ?_⟩
        · exact R.lst y (fun _ => []) none 0 (fun _ _ => .nilIface) (Nat.le_refl _) (by simp) (fun i x j z hx => by simp at hx) (fun i x j z hx => by simp at hx)
        · refine ⟨?_, fun x hx => ?_⟩
          · show ([] : List y.den).length ≤ maxLen
            simp
          · cases hx
      · have hl63 : maxLen = 9223372036854775807 := by decide
        have each : ∀ i, i < len → ∃ p : y.den × List Value, W.cells? base (a.add (i * P.cellsOf e)) (P.cellsOf e) = some p.2 ∧ RL (gW W) (enc y (fun _ => p.1) []) p.2 ∧ wfD y p.1 := by
          intro i hi
          have h1 := hel i hi
          rw [List.getElem?_eq_getElem (by omega)] at h1
          obtain ⟨cs', h2, h3⟩ := Option.bind_eq_some_iff.1 h1
          obtain ⟨b, h4, h5⟩ := trod_data K d e y hte hy n cs' _ h3
          exact ⟨(b, cs'), h2, h4, h5⟩
        obtain ⟨ps, hps, hp⟩ := list_of len each
        have hsz : ∀ (i : Nat) (p : y.den × List Value), ps[i]? = some p → P.cellsOf e = y.size := by
          intro i p hi
          obtain ⟨h1, h2, _⟩ := hp i p hi
          have := h2.length
          rw [enc_length, (cells_at h1).1] at this
          exact this.symm
        refine ⟨ps.map (·.1), ⟨?_, trivial⟩, ?_, ?_⟩
        · have hlm : (ps.map (·.1)).length = len := by simp [hps]
          have := R.lst (g := gW W) y (fun _ => ps.map (·.1)) (some a) cap (fun i j => ((ps[i]?.map (·.2)).getD [])[j]?.getD .nilIface) (by simp only [hlm]; exact hlc) (by simp only [hlm]; omega) ?_ ?_
          · simp only [hlm] at this; exact this
          · intro i x j z hx hz
            simp only [List.getElem?_map] at hx
            cases hq : ps[i]? with
            | none => rw [hq] at hx; cases hx
            | some p =>
              rw [hq] at hx
              simp only [Option.map_some, Option.some.injEq] at hx
              subst hx
              obtain ⟨h1, h2, _⟩ := hp i p hq
              obtain ⟨u, hu, _⟩ := h2.get hz
              have hc := (cells_at h1).2 j u hu
              obtain ⟨cells, T, fr, hs, hΦ, hcell⟩ := cell_at_gW hc
              have hsp : a.spot = none ∨ (i * P.cellsOf e = 0 ∧ j = 0) := by
                by_cases h0 : i * P.cellsOf e = 0 ∧ j = 0
                · exact .inr h0
                · left
                  by_cases h00 : i * P.cellsOf e + j = 0
                  · exact (h0 ⟨by omega, by omega⟩).elim
                  · -- the cells of the first one have the same spot
                    have h0i : 0 < len := by have := (List.getElem?_eq_some_iff.1 hq).1; omega
                    obtain ⟨p0, hp0⟩ : ∃ p0, ps[0]? = some p0 := ⟨ps[0]'(by omega), List.getElem?_eq_getElem (by omega)⟩
                    obtain ⟨g1, g2, _⟩ := hp 0 p0 hp0
                    have hy0 : (enc y (fun _ => p0.1) [])[0]? ≠ none := by
                      have := enc_length y (fun _ => p0.1)
                      have h0 := Ty.size_pos y
                      intro hn
                      rw [List.getElem?_eq_none_iff] at hn
                      omega
                    cases hz0 : (enc y (fun _ => p0.1) [])[0]? with
                    | none => exact (hy0 hz0).elim
                    | some z0 =>
                      obtain ⟨u0, hu0, _⟩ := g2.get hz0
                      have hc0 := (cells_at g1).2 0 u0 hu0
                      obtain ⟨_, _, _, hs0, _⟩ := cell_at_gW hc0
                      simpa [Addr.add] using hs0
              have hsp' : a.spot = none := by
                rcases hsp with h | ⟨h0, hj0⟩
                · exact h
                · subst hj0
                  rw [h0] at hs
                  simpa [Addr.add] using hs
              have e1 : (a.add (i * P.cellsOf e)).add j = ⟨a.block, a.off + (i * P.cellsOf e + j), none⟩ := by
                rw [add_none hsp', add_none rfl]; simp [Nat.add_assoc]
              rw [e1] at hΦ hcell
              refine ⟨a.block, a.off, cells, T, fr, by cases a; simp at hsp' ⊢; exact hsp', hΦ, ?_⟩
              rw [hsz i p hq] at hcell
              simp only [Option.map_some, Option.getD_some, hu]
              exact hcell
          · intro i x j z hx hz
            simp only [List.getElem?_map] at hx
            cases hq : ps[i]? with
            | none => rw [hq] at hx; cases hx
            | some p =>
              rw [hq] at hx
              simp only [Option.map_some, Option.some.injEq] at hx
              subst hx
              obtain ⟨h1, h2, _⟩ := hp i p hq
              obtain ⟨u, hu, hr⟩ := h2.get hz
              simp only [hq, Option.map_some, Option.getD_some, hu]
              exact hr
        · show (ps.map (·.1)).length ≤ maxLen
          rw [List.length_map]; omega
        · intro x hx
          obtain ⟨p, hp1, rfl⟩ := List.mem_map.1 hx
          obtain ⟨i, hi⟩ := List.mem_iff_getElem?.1 hp1
          exact (hp i p hi).2.2
    · rename_i fs ht
      obtain ⟨xs, n, _, _, hcl, hxl, hf⟩ := DataW.trod_struct (tund_und ht) hx
      obtain ⟨hft, hsum, hoff⟩ := K.struct hlt (tund_und ht)
      have go : ∀ (l : List Field) (k : Nat) (ty : Ty), tyFs (tyOf P d) l = some ty → (∀ f ∈ l, f.type < P.types.size) → (∀ (j : Nat) f, l[j]? = some f → f.offset = k + ((l.take j).map fun f => P.cellsOf f.type).sum) →
          (∀ f ∈ l, ∃ z, DataW.trod enc' P W base sp held n f.type ((cs.drop f.offset).take (P.cellsOf f.type)) = some z) → (cs.drop k).length = (l.map fun f => P.cellsOf f.type).sum →
          ∃ a : ty.den, RL (gW W) (enc ty (fun _ => a) []) (cs.drop k) ∧ wfD ty a := by
        intro l
        induction l with
        | nil => intro k ty h; simp [tyFs] at h
        | cons f r ih =>
          intro k ty h ht ho hz hl
          obtain ⟨z, hz0⟩ := hz f (List.mem_cons_self ..)
          have ho0 : f.offset = k := by simpa using ho 0 f rfl
          rw [ho0] at hz0
          have htf := ht f (List.mem_cons_self ..)
          cases r with
          | nil =>
            simp only [tyFs] at h
            obtain ⟨a, h1, h2⟩ := trod_data K d f.type ty htf h n _ _ hz0
            refine ⟨a, ?_, h2⟩
            simp only [List.map_cons, List.map_nil, List.sum_cons, List.sum_nil, Nat.add_zero] at hl
            rwa [List.take_of_length_le (by omega)] at h1
          | cons f2 r2 =>
            simp only [tyFs] at h
            split at h <;> try cases h
            rename_i ta tb hta htb
            obtain ⟨a, h1, h2⟩ := trod_data K d f.type ta htf hta n _ _ hz0
            obtain ⟨b, h3, h4⟩ := ih (k + P.cellsOf f.type) tb htb (fun q hq => ht q (List.mem_cons_of_mem _ hq)) (fun j q hq => by
              have := ho (j + 1) q (by simpa using hq)
              simp only [List.take_succ_cons, List.map_cons, List.sum_cons] at this
              omega) (fun q hq => hz q (List.mem_cons_of_mem _ hq)) (by
              simp only [List.map_cons, List.sum_cons, List.length_drop] at hl ⊢
              omega)
            refine ⟨(a, b), ?_, h2, h4⟩
            simp only [enc]
            rw [enc_append ta]
            have := h1.append h3
            rw [← List.drop_drop] at this
            rwa [List.take_append_drop] at this
      have := go fs.toList 0 ty h hft (fun j f hj => by simpa using hoff j f hj) (fun f hfm => by
        obtain ⟨i, hi⟩ := List.mem_iff_getElem?.1 hfm
        have hi' : fs[i]? = some f := by simpa using hi
        have h1 := hf i f hi'
        have hil := (List.getElem?_eq_some_iff.1 hi).1
        rw [List.getElem?_eq_getElem (by simp at hil; omega)] at h1
        exact ⟨_, h1⟩) (by simpa [hcl] using hsum)
      simpa using this
    · rename_i n e ht
      split at h <;> try cases h
      rename_i y hy
      obtain ⟨xs, m, _, _, hcl, hxl, hf⟩ := DataW.trod_array (tund_und ht) hx
      obtain ⟨hte, hsz⟩ := K.array hlt (tund_und ht)
      rw [hsz] at hcl
      have go : ∀ (n k : Nat) (ty : Ty), tyRep n y = some ty → (∀ i, i < n → ∃ z, DataW.trod enc' P W base sp held m e ((cs.drop ((k + i) * P.cellsOf e)).take (P.cellsOf e)) = some z) → (cs.drop (k * P.cellsOf e)).length = n * P.cellsOf e →
          ∃ a : ty.den, RL (gW W) (enc ty (fun _ => a) []) (cs.drop (k * P.cellsOf e)) ∧ wfD ty a := by
        intro n
        induction n with
        | zero => intro k ty h; simp [tyRep] at h
        | succ n ih =>
          intro k ty h hz hl
          obtain ⟨z, hz0⟩ := hz 0 (by omega)
          rw [Nat.add_zero] at hz0
          obtain ⟨a, h1, h2⟩ := trod_data K d e y hte hy m _ _ hz0
          cases n with
          | zero =>
            simp only [tyRep, Option.some.injEq] at h
            subst h
            rw [List.take_of_length_le (by omega)] at h1
            exact ⟨a, h1, h2⟩
          | succ n =>
            simp only [tyRep] at h
            split at h <;> try cases h
            rename_i tz htz
            obtain ⟨b, h3, h4⟩ := ih (k + 1) tz htz (fun i hi => by have := hz (i + 1) (by omega); rwa [show k + 1 + i = k + (i + 1) by omega]) (by
              rw [List.length_drop] at hl ⊢
              rw [Nat.add_mul, Nat.one_mul] at hl ⊢
              omega)
            refine ⟨(a, b), ?_, h2, h4⟩
            simp only [enc]
            rw [enc_append y]
            have := h1.append h3
            rw [Nat.add_mul, Nat.one_mul, ← List.drop_drop] at this
            rwa [List.take_append_drop] at this
      have := go n 0 ty h (fun i hi => by
        have h1 := hf i hi
        rw [List.getElem?_eq_getElem (by omega)] at h1
        exact ⟨_, by rw [Nat.zero_add]; exact h1⟩) (by simpa using hcl)
      simpa using this
    · cases h
end
end Go.Proofs.Ytkcifdblaboodaa.Fw
set_option linter.unusedVariables false
set_option linter.unusedSimpArgs false
namespace Go.Proofs.Ytkcifdblaboodaa.Fw
open Go Go.RowKit Go.ChangeShapes Go.WideShapes

theorem wf_i64 {n : Int} (h : wfD (.int .i64) n) : -9223372036854775808 ≤ n ∧ n ≤ 9223372036854775807 := h
theorem wf_u64 {n : Int} (h : wfD (.int .u64) n) : 0 ≤ n ∧ n ≤ 18446744073709551615 := h
def leafB : TypeDesc → Bool
  | .int _ => true | .bool => true | .string => true | .slice _ => true | _ => false
section
variable {H : Type} {enc' : TypeId × Value → H} {P : Program} {W : World} {base : Nat} {sp : Nat → Bool} {held : Bool}

theorem arg_leaf (K : Kids P (· < P.types.size)) {b0 : Nat} {t : Nat} {ty : Ty} {d : TypeDesc} (hd : tund P t = some d) (hb : leafB d = true) (hlt : t < P.types.size) (hty : tyOf P 6 t = some ty) {v : Value} {x : DataW H} {ps : List MemPlace}
    (hval : Value.okWide P W .any b0 t v) (h : DataW.Trod enc' P W base sp held t v x ps) : ∃ a : ty.den, RL (gW W) (enc ty (fun _ => a) []) [v] ∧ wfD ty a := by
  obtain ⟨fuel, hf⟩ := h
  obtain ⟨a, h1, h2⟩ := trod_data K 6 t ty hlt hty fuel _ _ hf
  refine ⟨a, ?_, h2⟩
  have hc : v.cells.toList = [v] := by
    have hu := tund_und hd
    cases v <;> first | rfl | skip
    cases d <;> first | (cases hb; done) | (simp [Value.okWide, hu, Cell.okWide, Cell.ok] at hval)
  rwa [hc] at h1
def aggB : TypeDesc → Bool
  | .struct _ => true | .array _ _ => true | _ => false
theorem arg_struct (K : Kids P (· < P.types.size)) {b0 : Nat} {t : Nat} {ty : Ty} {d : TypeDesc} (hd : tund P t = some d) (hb : aggB d = true) (hlt : t < P.types.size) (hty : tyOf P 6 t = some ty) {v : Value} {x : DataW H} {ps : List MemPlace}
    (hval : Value.okWide P W .any b0 t v) (h : DataW.Trod enc' P W base sp held t v x ps) : ∃ a : ty.den, R (gW W) (.agg (enc ty (fun _ => a) [])) v ∧ wfD ty a := by
  obtain ⟨fuel, hf⟩ := h
  obtain ⟨a, h1, h2⟩ := trod_data K 6 t ty hlt hty fuel _ _ hf
  have hu := tund_und hd
  have hv : ∃ cs, v = .agg cs := by
    cases d <;> first | (cases hb; done) | skip
    all_goals
      simp only [Value.okWide, hu] at hval
      obtain ⟨cs, rfl, _⟩ := hval
      exact ⟨cs, rfl⟩
  obtain ⟨cs, rfl⟩ := hv
  refine ⟨a, ?_, h2⟩
  have := R.mkAgg h1
  simpa [Value.cells] using this

theorem law_run {f : FuncId} {args : List AV} {vals : List Value} {Y : Type} {Q : Y → Prop} {res : Y → AV} {out : Y → List Chunk} (hm : Meets P f args [] Q res out) (hres : ∀ y, Q y → res y = .tt) (hr : RL (gW W) args vals) :
    Calls P f vals.toArray W fun e W' => e = .returned (.bool true) ∧ Below W.heap.size W W' := by
  refine (hm.h (gW W) W vals (sim_gW W) hr).mono ?_
  rintro e W' ⟨y, c, g', hq, rfl, h1, h2, h3⟩
  rw [hres y hq] at h1
  rw [h1.tt_iff]
  refine ⟨rfl, h3.os, h3.tape, h3.output, h3.size, fun b hb => h3.keep b hb ?_⟩
  rintro ⟨i, hi⟩
  simp [getE, Chunk.blk] at hi

theorem trodAll_stays (hl : laidOutB P = true) {W' : World} (hb : Below W.heap.size W W') : ∀ {ts : List TypeId} {vs : List Value} {ds : List (DataW H)} {ps : List MemPlace} (sp' : Nat → Bool), (∀ t ∈ ts, P.readableRec t = true ∧ t < P.types.size) →
    DataW.TrodAll enc' P W 0 (fun _ => true) true ts vs ds ps → (∀ p ∈ ps, p.block < W.heap.size) → (∀ p ∈ ps, sp' p.block = true) → DataW.TrodAll enc' P W' 0 sp' true ts vs ds ps
  | [], [], [], ps, sp', _, h, _, _ => h
  | t :: ts, v :: vs, d :: ds, ps, sp', ht, h, hlt, hsp => by
    obtain ⟨p, q, h1, h2, rfl⟩ := h
    obtain ⟨hr, hrow⟩ := ht t (List.mem_cons_self ..)
    refine ⟨p, q, WideElems.Trod_stays hl hr hrow h1 (fun x hx => hb.same (hlt x (List.mem_append_left _ hx))) (fun x hx => hsp x (List.mem_append_left _ hx)), ?_, rfl⟩
    exact trodAll_stays hl hb sp' (fun t ht' => ht t (List.mem_cons_of_mem _ ht')) h2 (fun x hx => hlt x (List.mem_append_right _ hx)) (fun x hx => hsp x (List.mem_append_right _ hx))
  | [], _ :: _, _, _, _, _, h, _, _ => h.elim
  | [], [], _ :: _, _, _, _, h, _, _ => h.elim
  | _ :: _, [], _, _, _, _, h, _, _ => h.elim
  | _ :: _, _ :: _, [], _, _, _, h, _, _ => h.elim

theorem law_post {f : Func} {s : ChangeSpec} {W' : World} {args : Array Value} {ds gs : List (DataW H)} {before : List MemPlace} (hl : laidOutB P = true) {tb : TypeId}
    (hW : DataW.Whole enc' P f.params.toList s.vars false W args.toList ds gs before) (hv : s.vars = []) (hfn : s.fn H (ds ++ gs) = { results := [.lit (.bool true)], args := ds })
    (hres : f.resultTypes = #[tb]) (htb : P.underlying tb = some .bool) (ht : ∀ t ∈ f.params.toList, P.readableRec t = true ∧ t < P.types.size) (hb : Below W.heap.size W W') :
    s.post enc' P f false true false false W args (.bool true) W' := by
  have hlt := hW.lt
  have hW' := hW
  obtain ⟨p, q, hA, hV, hpq, hfz, hnd⟩ := hW'
  rw [hv] at hV
  have hgq : gs = [] ∧ q = [] := by
    cases gs with
    | nil => exact ⟨rfl, hV⟩
    | cons g r => exact hV.elim
  obtain ⟨rfl, rfl⟩ := hgq
  rw [List.append_nil] at hpq
  subst hpq
  have hold : ∀ p ∈ before, (fun b => decide (b < W.heap.size)) p.block = true := fun p hp => by simpa using hlt p hp
  have hargs : ∀ sp : Nat → Bool, (∀ p ∈ before, sp p.block = true) → DataW.TrodAll enc' P W' 0 sp true f.params.toList args.toList ds before := fun sp hsp => trodAll_stays hl hb sp ht hA hlt hsp
  have hresT : ∀ (b : Nat) (sp : Nat → Bool) (hd : Bool), DataW.TrodAll enc' P W' b sp hd f.resultTypes.toList ((Value.bool true).resultList f.resultTypes.size) [.lit (.bool true)] [] := by
    intro b sp hd
    rw [hres]
    exact trodAll_mk1 (shut_bool htb true)
  refine ⟨ds, [], before, [], before, [], hW, ?_, ?_, ?_, World.keptBut_mono (fun p hp => ⟨hp, ?_⟩) (hb.frame (· ∈ before)), fun h => by cases h⟩
  · rw [hfn]; exact hresT _ _ _
  · rw [hfn]; exact hargs _ hold
  · rw [hfn, hv]; rfl
  · exact .inr (by simpa using hp)
end
end Go.Proofs.Ytkcifdblaboodaa.Fw
set_option linter.unusedVariables false
set_option linter.unusedSimpArgs false
namespace Go.Proofs.Ytkcifdblaboodaa.RCellLater
open Go Go.ChangeShapes Go.WideShapes Go.ChangeAt Go.RowKit Fw
theorem own : ownKnob Try.prog.godebug = none := by kernel_rfl
theorem laidOut : laidOutB Try.prog = true := by kernel_rfl
theorem mapsOk : mapsRowed Try.prog = true := by kernel_rfl
theorem kids : Kids Try.prog (· < Try.prog.types.size) := kids_rows laidOut mapsOk
theorem readable : ∀ t ∈ Try.f6.params.toList, Try.prog.readableRec t = true ∧ t < Try.prog.types.size := by
  have h : (Try.f6.params.toList.all fun t => Try.prog.readableRec t && decide (t < Try.prog.types.size)) = true := by kernel_rfl
  intro t ht
  have := List.all_eq_true.1 h t ht
  rw [Bool.and_eq_true, decide_eq_true_eq] at this
  exact this
set_option maxRecDepth 100000 in
theorem lifted (os : Os) (started : os.Started) (H : Type) (enc : TypeId × Value → H) :
    ReturnsInHanded {} Try.checked os 6 .any (Rows.cellLaterSpec.pre6 enc Try.prog Try.f6 Rows.cellLaterRow.domain false) (Rows.cellLaterSpec.post enc Try.prog Try.f6 false true false false) := by
  refine returnsInHanded_of_change (C := Try.checked) own started (by kernel_rfl) Try.func6
    (ChangeSpec.witness6 (enc := enc) (C := Try.checked) false ⟨#[], #[.agg #[.int .i64 0, .int .i64 0, .int .i64 0, .int .i64 0], .agg #[.int .i64 0, .int .i64 0, .slice none 0 0, .slice none 0 0], .agg #[.int .i64 0, .int .i64 0, .int .i64 0, .int .i64 0]], []⟩ 8 (by kernel_rfl) (by kernel_rfl) (by kernel_rfl) (by kernel_rfl)) ?_
  intro W base args ds gs before hval0 hW hcnd _
  have hval : ∀ (j : Nat) t v, Try.f6.params[j]? = some t → args[j]? = some v → Value.okWide Try.prog W .any base t v := hval0
  have hW' : DataW.Whole enc Try.prog Try.f6.params.toList Rows.cellLaterSpec.vars false W args.toList ds gs before := hW
  obtain ⟨p, q, hA0, hV, _, _, _⟩ := hW'
  have hA : DataW.TrodAll enc Try.prog W 0 (fun _ => true) true Try.f6.params.toList args.toList ds p := hA0
  rw [Try.params6] at hA hval
  obtain ⟨v0, v1, v2, d0, d1, d2, p0, p1, p2, rfl, rfl, rfl, h0, h1, h2⟩ := trodAll_three hA
  obtain ⟨rfl, rfl⟩ := trodVars_none hV
  obtain ⟨a0, r0, w0⟩ := arg_struct (ty := Hi.PolT) kids rfl rfl (of_decide_eq_true (by kernel_rfl)) (by kernel_rfl) (hval 0 _ v0 rfl rfl) h0
  obtain ⟨a1, r1, w1⟩ := arg_struct (ty := Ce.CellT) kids rfl rfl (of_decide_eq_true (by kernel_rfl)) (by kernel_rfl) (hval 1 _ v1 rfl rfl) h1
  obtain ⟨a2, r2, w2⟩ := arg_struct (ty := Hi.PolT) kids rfl rfl (of_decide_eq_true (by kernel_rfl)) (by kernel_rfl) (hval 2 _ v2 rfl rfl) h2
  refine (law_run (vals := [v0, v1, v2]) (Ce.laterM a0 a1 a2 w1.2.1) (fun _ _ => rfl) ⟨r0, r1, r2, trivial⟩).mono ?_
  rintro e W' ⟨rfl, hb⟩
  exact ⟨_, rfl, law_post laidOut hW rfl rfl (by rfl) Try.underlying4 readable hb⟩

theorem holds : Rows.CellLaterSaid :=
  OpenClaim.holds_of_wide 6 Try.f6 rfl rfl rfl rfl rfl rfl rfl ⟨rfl, rfl, rfl, rfl, rfl⟩ rfl rfl rfl rfl rfl (by kernel_rfl) Try.func6 (by kernel_rfl)
    (of_decide_eq_true (by kernel_rfl)) (by unfold Func.isWrapper; first | (rw [if_pos (by decide +kernel)]; kernel_rfl) | (rw [if_neg (by decide +kernel)]; exact ⟨rfl, rfl⟩))
    (fun os started H enc _ => lifted os started H enc)
end Go.Proofs.Ytkcifdblaboodaa.RCellLater
#print axioms Go.Proofs.Ytkcifdblaboodaa.RCellLater.holds
