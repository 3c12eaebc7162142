/- The law HistSame holds at every input that its statement lets in; part 4 of its proof. -/
import Derived.Test.YtkcifdblaboodaaMHistSame2
import Derived.ProofKit
import Derived.OpenShut
import Derived.JoinedCond
import Derived.Test.YtkcifdblaboodaaRows
set_option linter.unusedVariables false
set_option linter.unusedSimpArgs false
namespace Go.Proofs.Ytkcifdblaboodaa.Ce
open Go Go.RowKit Fw Hi Po
/-! ### Hits that rise -/
theorem hit_mem {l : List Hit} {i : Nat} (h : i < l.length) : l.getD i (0, 0) ∈ l := by rw [List.getD_eq_getElem?_getD, List.getElem?_eq_getElem h]; exact List.getElem_mem h
theorem hit_drop {l : List Hit} {i : Nat} (h : i < l.length) : l.drop i = l.getD i (0, 0) :: l.drop (i + 1) := by
  rw [List.drop_eq_getElem_cons h, List.getD_eq_getElem?_getD, List.getElem?_eq_getElem h]; rfl
theorem sumH_take {l : List Hit} {i : Nat} (h : i < l.length) : sumH (l.take (i + 1)) = sumH (l.take i) + (l.getD i (0, 0)).2 := by
  rw [List.take_add_one, List.getElem?_eq_getElem h, sumH_append, List.getD_eq_getElem?_getD, List.getElem?_eq_getElem h]; simp [sumH]
theorem sumH_bound {m : Int} (hm : 0 ≤ m) : ∀ {l : List Hit}, (∀ h ∈ l, 0 ≤ h.2 ∧ h.2 ≤ m) → 0 ≤ sumH l ∧ sumH l ≤ m * l.length
  | [], _ => by simp [sumH]
  | x :: r, h => by
    have h1 := h x (List.mem_cons_self ..)
    have h2 := sumH_bound hm fun y hy => h y (List.mem_cons_of_mem _ hy)
    rw [sumH_cons, List.length_cons, Int.natCast_add, Int.mul_add]
    omega
theorem since_drop {p : Pol} {t : Int} : ∀ {i : Nat} {l : List Hit}, i ≤ l.length → (∀ j, j < i → (l.getD j (0, 0)).1 ≤ t - p.2.2.1) → (i < l.length → t - p.2.2.1 < (l.getD i (0, 0)).1) → sinceE p l t = l.drop i
  | 0, [], _, _, _ => rfl
  | 0, x :: r, _, _, h2 => by
    have h2 : t - p.2.2.1 < x.1 := h2 (by simp)
    unfold sinceE
    rw [List.dropWhile_cons, if_neg (by simp; omega)]; rfl
  | i + 1, [], h, _, _ => by simp at h
  | i + 1, x :: r, h, h1, h2 => by
    have h3 : x.1 ≤ t - p.2.2.1 := h1 0 (by omega)
    have ih := since_drop (p := p) (t := t) (i := i) (l := r) (by simpa using h) (fun j hj => h1 (j + 1) (by omega)) (fun hi => h2 (by simpa using hi))
    unfold sinceE at ih ⊢
    rw [List.dropWhile_cons, if_pos (by simpa using h3), ih]; rfl
theorem mayH_at {a L : Int} : ∀ {l : List Hit} {last : Int} {i : Nat}, mayHGo a L last l = true → i < l.length → mayHGo a L (l.getD i (0, 0)).1 (l.drop (i + 1)) = true
  | [], _, i, _, h => by simp at h
  | x :: r, last, i, hm, h => by
    simp only [mayHGo, Bool.and_eq_true] at hm
    cases i with
    | zero => exact hm.2
    | succ i => exact mayH_at (l := r) hm.2 (by simpa using h)
theorem mayH_lt {a L : Int} {l : List Hit} {last : Int} {i j : Nat} (hm : mayHGo a L last l = true) (hij : i < j) (hj : j < l.length) : (l.getD i (0, 0)).1 < (l.getD j (0, 0)).1 := by
  refine (mayH_mem _ _ (mayH_at hm (i := i) (by omega)) (l.getD j (0, 0)) ?_).1
  rw [List.mem_iff_getElem?]
  exact ⟨j - (i + 1), by rw [List.getElem?_drop, show i + 1 + (j - (i + 1)) = j by omega, List.getD_eq_getElem?_getD, List.getElem?_eq_getElem hj]; rfl⟩
def lastH (last0 : Int) (l : List Hit) : Nat → Int
  | 0 => last0
  | i + 1 => (l.getD i (0, 0)).1
theorem mayH_step {a L last0 : Int} {l : List Hit} {i : Nat} (h : i < l.length) : mayHGo a L (lastH last0 l i) (l.drop i) = (decide (lastH last0 l i < (l.getD i (0, 0)).1) && decide ((l.getD i (0, 0)).1 ≤ a) && decide (1 ≤ (l.getD i (0, 0)).2) && decide ((l.getD i (0, 0)).2 ≤ L) && mayHGo a L (lastH last0 l (i + 1)) (l.drop (i + 1))) := by
  rw [hit_drop h, mayHGo]; rfl
theorem may_no4 {p : Pol} {c : Cell} (k : p.1 = 4) (h : ¬ (timeB c.1 = true ∧ c.2.1 = 0 ∧ (c.2.2.1.length : Int) = 0 ∧ mayHGo c.1 p.2.1 (max (-1) (c.1 - p.2.2.1)) c.2.2.2 = true ∧ sumH c.2.2.2 ≤ p.2.1)) : mayC p c = false := by
  rw [← Bool.not_eq_true, may4 k]
  intro g
  exact h ⟨by simp [timeB]; exact g.time, g.level, by rw [g.sums]; rfl, g.go, g.sum⟩
theorem emayM (p : Pol) (c : Cell) (k : p.1 = 4) : Meets Try.prog 51 [polAV p, cellAV c] [] (Y := Unit) (fun _ => True) (fun _ => .bool fun _ => mayC p c) (fun _ => []) := by
  by_cases hp : PolOk p
  · have hL := hp.limit
    have hW := hp.window
    have htb : timeB c.1 = true ↔ 0 ≤ c.1 ∧ c.1 ≤ 1099511627776 := by simp [timeB]
    refine Meets.intro hm (fn := Try.f51) Try.func51 rfl (by decide) (Nat.le_of_ble_eq_true rfl) (fun _ => rfl) ?_; intro S hok; (conv => whnf)
    (repeat' ((conv => whnf); first | apply And.intro | exact ⟨by kernel_rfl⟩ | apply DrawN.mk | apply CodeN.step hm rfl | exact trivial | exact rfl | (intro hh; try simp only [bs] at hh))); all_goals (conv => whnf)
    (refine CallN.q (check_ok hp) [] (fun _ _ => ?_); (repeat' ((conv => whnf); first | apply And.intro | exact ⟨by kernel_rfl⟩ | apply DrawN.mk | apply CodeN.step hm rfl | exact trivial | exact rfl | (intro hh; try simp only [bs] at hh; try exact absurd hh (by decide)))); all_goals (conv => whnf); all_goals try exact ⟨by decide⟩)
    all_goals try
      (refine CallN.q (etimeM c.1) [] (fun _ _ => ?_); (repeat' ((conv => whnf); first | apply And.intro | exact ⟨by kernel_rfl⟩ | apply DrawN.mk | apply CodeN.step hm rfl | exact trivial | exact rfl | (intro hh; try simp only [bs] at hh; try exact absurd hh (by decide)))); all_goals (conv => whnf); all_goals try exact ⟨by decide⟩)
    all_goals first
      | ((refine RetN.q () [] ?_ ?_ ?_ <;> (repeat' ((conv => whnf) <;> first | exact rfl | exact trivial | apply And.intro | exact Nat.zero_add _)); all_goals ((conv => whnf); try simp only []))
         have hf := may_no4 (p := p) (c := c) k (by
           rintro ⟨h1, h2, h3, h4⟩
           first
             | omega
             | (rw [h1] at hh; cases hh))
         first | exact hf | exact hf.symm)
      | skip
    have ht : timeB c.1 = true := by assumption
    have ht2 := htb.1 ht
    have ew : IntKind.i64.wrap (c.1 - p.2.2.1) = c.1 - p.2.2.1 := wr (by omega)
    have h0 : (if c.1 - p.2.2.1 > -1 then c.1 - p.2.2.1 else -1) = max (-1) (c.1 - p.2.2.1) := by split <;> omega
    have hlv : c.2.1 = 0 := by assumption
    have hsl : (c.2.2.1.length : Int) = 0 := hh
    refine LoopN.intro hm (X := Nat) (fun i => i ≤ c.2.2.2.length ∧ mayHGo c.1 p.2.1 (max (-1) (c.1 - p.2.2.1)) c.2.2.2 = mayHGo c.1 p.2.1 (lastH (max (-1) (c.1 - p.2.2.1)) c.2.2.2 i) (c.2.2.2.drop i) ∧ -1 + (i : Int) ≤ lastH (max (-1) (c.1 - p.2.2.1)) c.2.2.2 i ∧ lastH (max (-1) (c.1 - p.2.2.1)) c.2.2.2 i ≤ c.1 ∧ 0 ≤ sumH (c.2.2.2.take i) ∧ sumH (c.2.2.2.take i) ≤ 1048576 * (i : Int)) (fun i => c.2.2.2.length - i)
      (fun i => [(43, .int .i64 fun _ => (i : Int)), (42, .int .i64 fun _ => (c.2.2.2.length : Int)), (41, .lst HitT fun _ => c.2.2.2), (6, .int .i64 fun _ => lastH (max (-1) (c.1 - p.2.2.1)) c.2.2.2 i), (5, .int .i64 fun _ => sumH (c.2.2.2.take i)), (3, .ptr 1 0), (2, .ptr 0 0)])
      (fun i => [.cells 23 [.int .i64 fun _ => p.1, .int .i64 fun _ => p.2.1, .int .i64 fun _ => p.2.2.1, .int .i64 fun _ => p.2.2.2], .cells 31 [.int .i64 fun _ => c.1, .int .i64 fun _ => c.2.1, .lst (.int .i64) fun _ => c.2.2.1, .lst HitT fun _ => c.2.2.2]]) 0 [0, 1] ⟨rfl, rfl, ?_, ?_⟩ ⟨Nat.zero_le _, rfl, by show -1 + ((0 : Nat) : Int) ≤ max (-1) (c.1 - p.2.2.1); omega, by show max (-1) (c.1 - p.2.2.1) ≤ c.1; omega, Int.le_refl _, by simp [sumH]⟩ (fun i hi => ?_)
    · (repeat' ((conv => whnf) <;> first | exact rfl | exact trivial | apply And.intro | exact Nat.zero_add _))
    · (repeat' ((conv => whnf) <;> first | exact rfl | exact trivial | apply And.intro | exact Nat.zero_add _)); all_goals ((conv => whnf); try simp only [])
      simp only [ew]
      exact h0
    obtain ⟨hi, hgo, hb1, hb2, hb3, hb4⟩ := hi
    have hstep := fun h => mayH_step (a := c.1) (L := p.2.1) (last0 := max (-1) (c.1 - p.2.2.1)) (l := c.2.2.2) (i := i) h
    have hst := fun h => sumH_take (l := c.2.2.2) (i := i) h
    have hl1 : lastH (max (-1) (c.1 - p.2.2.1)) c.2.2.2 (i + 1) = (c.2.2.2.getD i (0, 0)).1 := rfl
    have hl2 : i < c.2.2.2.length → (c.2.2.2.getD i (0, 0)).1 ≤ c.1 → mayHGo c.1 p.2.1 (lastH (max (-1) (c.1 - p.2.2.1)) c.2.2.2 i) (c.2.2.2.drop i) = mayHGo c.1 p.2.1 (lastH (max (-1) (c.1 - p.2.2.1)) c.2.2.2 (i + 1)) (c.2.2.2.drop (i + 1)) → 1 ≤ (c.2.2.2.getD i (0, 0)).2 → (c.2.2.2.getD i (0, 0)).2 ≤ 1048576 → lastH (max (-1) (c.1 - p.2.2.1)) c.2.2.2 i < (c.2.2.2.getD i (0, 0)).1 →
        (i + 1 ≤ c.2.2.2.length ∧ mayHGo c.1 p.2.1 (max (-1) (c.1 - p.2.2.1)) c.2.2.2 = mayHGo c.1 p.2.1 (lastH (max (-1) (c.1 - p.2.2.1)) c.2.2.2 (i + 1)) (c.2.2.2.drop (i + 1)) ∧ -1 + ((i + 1 : Nat) : Int) ≤ lastH (max (-1) (c.1 - p.2.2.1)) c.2.2.2 (i + 1) ∧ lastH (max (-1) (c.1 - p.2.2.1)) c.2.2.2 (i + 1) ≤ c.1 ∧ 0 ≤ sumH (c.2.2.2.take (i + 1)) ∧ sumH (c.2.2.2.take (i + 1)) ≤ 1048576 * ((i + 1 : Nat) : Int)) := fun q1 q2 q3 q4 q5 q6 => by
      rw [hst q1]
      exact ⟨q1, hgo.trans q3, by rw [hl1]; omega, by rw [hl1]; exact q2, by omega, by omega⟩
    generalize hx : c.2.2.2.getD i (0, 0) = x at *
    have hx' : c.2.2.2.getD (i : Int).toNat HitT.dflt = x := hx
    (repeat' ((conv => whnf); first | apply And.intro | exact ⟨by kernel_rfl⟩ | apply DrawN.mk | apply CodeN.step hm rfl | exact trivial | exact rfl | (intro hh; try simp only [bs] at hh))); all_goals (conv => whnf)
    all_goals (try simp only [hx'] at *)
    all_goals first
      | (refine Ob.mk ?_; first | omega | (simp only []; omega))
      | ((refine RetN.q () [] ?_ ?_ ?_ <;> (repeat' ((conv => whnf) <;> first | exact rfl | exact trivial | apply And.intro | exact Nat.zero_add _)); all_goals ((conv => whnf); try simp only []))
         have hf := may_no4 (p := p) (c := c) k (by
           rintro ⟨_, _, _, h4, _⟩
           rw [hgo, hstep (by omega)] at h4
           simp only [Bool.and_eq_true, decide_eq_true_eq] at h4
           omega)
         first | exact hf | exact hf.symm)
      | (have hi2 : i < c.2.2.2.length := by omega
         have q2 : ¬ c.1 < x.1 := by assumption
         have q4 : ¬ x.2 < 1 := by assumption
         have q5 : ¬ p.2.1 < x.2 := by assumption
         have q6 : ¬ x.1 ≤ lastH (max (-1) (c.1 - p.2.2.1)) c.2.2.2 i := by assumption
         have q3 := hstep hi2
         rw [decide_eq_true (by omega), decide_eq_true (by omega), decide_eq_true (by omega), decide_eq_true (by omega), Bool.and_self, Bool.and_self, Bool.and_self, Bool.true_and] at q3
         have hh2 := hst hi2
         refine ⟨i + 1, [0, 1], ⟨rfl, rfl, ?_, ?_⟩, hl2 hi2 (by omega) q3 (by omega) (by omega) (by omega), by omega⟩
         · (repeat' ((conv => whnf) <;> first | exact rfl | exact trivial | apply And.intro | exact Nat.zero_add _))
         · (repeat' ((conv => whnf) <;> first | exact rfl | exact trivial | apply And.intro | exact Nat.zero_add _)); all_goals ((conv => whnf); try simp only [])
           · exact wr (by omega)
           · exact hl1.symm
           · rw [hh2]
             exact wr (by omega))
      | (have e : i = c.2.2.2.length := by omega
         (refine RetN.q () [] ?_ ?_ ?_ <;> (repeat' ((conv => whnf) <;> first | exact rfl | exact trivial | apply And.intro | exact Nat.zero_add _)); all_goals ((conv => whnf); try simp only []))
         have hg1 : mayHGo c.1 p.2.1 (max (-1) (c.1 - p.2.2.1)) c.2.2.2 = true := by rw [hgo, e, List.drop_length]; rfl
         rw [Bool.eq_iff_iff, may4 k, decide_eq_true_eq]
         rw [e, List.take_length]
         constructor
         · intro h
           exact ⟨hp, ht2, hlv, List.length_eq_zero_iff.1 (by omega), hg1, h⟩
         · intro g
           exact g.sum)
  · have hf : mayC p c = false := by unfold mayC; rw [decide_eq_false hp]; rfl
    refine Meets.intro hm (fn := Try.f51) Try.func51 rfl (by decide) (Nat.le_of_ble_eq_true rfl) (fun _ => rfl) ?_; intro S hok; (conv => whnf)
    (repeat' ((conv => whnf); first | apply And.intro | exact ⟨by kernel_rfl⟩ | apply DrawN.mk | apply CodeN.step hm rfl | exact trivial | exact rfl | (intro hh; try simp only [bs] at hh))); all_goals (conv => whnf)
    (refine CallN.q (check_no hp) [] (fun _ _ => ?_); (repeat' ((conv => whnf); first | apply And.intro | exact ⟨by kernel_rfl⟩ | apply DrawN.mk | apply CodeN.step hm rfl | exact trivial | exact rfl | (intro hh; try simp only [bs] at hh; try exact absurd hh (by decide)))); all_goals (conv => whnf); all_goals try exact ⟨by decide⟩)
    (refine RetN.q () [] ?_ ?_ ?_ <;> (repeat' ((conv => whnf) <;> first | exact rfl | exact trivial | apply And.intro | exact Nat.zero_add _)); all_goals ((conv => whnf); try simp only []))
    exact hf
theorem ecountM (l : List Hit) (hl : l.length ≤ 1100000) (hw : ∀ h ∈ l, 0 ≤ h.2 ∧ h.2 ≤ 1048576) : Meets Try.prog 89 [.lst HitT fun _ => l] [] (Y := Unit) (fun _ => True) (fun _ => .int .i64 fun _ => sumH l) (fun _ => []) := by
  refine Meets.intro hm (fn := Try.f89) Try.func89 rfl (by decide) (Nat.le_of_ble_eq_true rfl) (fun _ => rfl) ?_; intro S hok; (conv => whnf)
  (repeat' ((conv => whnf); first | apply And.intro | exact ⟨by kernel_rfl⟩ | apply DrawN.mk | apply CodeN.step hm rfl | exact trivial | exact rfl | (intro hh; try simp only [bs] at hh))); all_goals (conv => whnf)
  refine LoopN.intro hm (X := Nat) (fun i => i ≤ l.length) (fun i => l.length - i)
    (fun i => [(8, .int .i64 fun _ => (i : Int)), (7, .int .i64 fun _ => (l.length : Int)), (6, .lst HitT fun _ => l), (3, .int .i64 fun _ => sumH (l.take i))]) (fun _ => []) 0 [] ⟨rfl, rfl, ?_, ?_⟩ (Nat.zero_le _) (fun i hi => ?_)
  · (repeat' ((conv => whnf) <;> first | exact rfl | exact trivial | apply And.intro | exact Nat.zero_add _))
  · (repeat' ((conv => whnf) <;> first | exact rfl | exact trivial | apply And.intro | exact Nat.zero_add _))
  have hb := sumH_bound (m := 1048576) (by omega) (l := l.take i) fun h hh => hw h (List.mem_of_mem_take hh)
  rw [List.length_take] at hb
  have hst := fun h => sumH_take (l := l) (i := i) h
  have hwi := fun h => hw _ (hit_mem (l := l) (i := i) h)
  (repeat' ((conv => whnf); first | apply And.intro | exact ⟨by kernel_rfl⟩ | apply DrawN.mk | apply CodeN.step hm rfl | exact trivial | exact rfl | (intro hh; try simp only [bs] at hh))); all_goals (conv => whnf)
  all_goals first
    | (refine Ob.mk ?_; first | omega | (simp only []; omega))
    | (have hi2 : i < l.length := by omega
       have h1 := hst hi2
       have h2 := hwi hi2
       refine ⟨i + 1, [], ⟨rfl, rfl, ?_, ?_⟩, hi2, Nat.sub_lt_sub_left hi2 (Nat.lt_succ_self _)⟩
       · (repeat' ((conv => whnf) <;> first | exact rfl | exact trivial | apply And.intro | exact Nat.zero_add _))
       · (repeat' ((conv => whnf) <;> first | exact rfl | exact trivial | apply And.intro | exact Nat.zero_add _)); all_goals ((conv => whnf); try simp only [])
         · exact wr (by omega)
         · show IntKind.i64.wrap (sumH (l.take i) + (l.getD i (0, 0)).2) = _
           rw [h1]
           exact wr (by omega))
    | (have e : i = l.length := by omega
       (refine RetN.q () [] ?_ ?_ ?_ <;> (repeat' ((conv => whnf) <;> first | exact rfl | exact trivial | apply And.intro | exact Nat.zero_add _)); all_goals ((conv => whnf); try simp only []))
       rw [e, List.take_length])
theorem esinceM (p : Pol) (l : List Hit) (t : Int) (hp : PolOk p) (ht : 0 ≤ t ∧ t ≤ 4398046511104) (hl : l.length ≤ 1100000) : Meets Try.prog 88 [polAV p, .lst HitT fun _ => l, .int .i64 fun _ => t] [] (Y := Unit) (fun _ => True) (fun _ => .lst HitT fun _ => sinceE p l t) (fun _ => []) := by
  have hW := hp.window
  have ew : IntKind.i64.wrap (t - p.2.2.1) = t - p.2.2.1 := wr (by omega)
  refine Meets.intro hm (fn := Try.f88) Try.func88 rfl (by decide) (Nat.le_of_ble_eq_true rfl) (fun _ => rfl) ?_; intro S hok; (conv => whnf)
  (repeat' ((conv => whnf); first | apply And.intro | exact ⟨by kernel_rfl⟩ | apply DrawN.mk | apply CodeN.step hm rfl | exact trivial | exact rfl | (intro hh; try simp only [bs] at hh))); all_goals (conv => whnf)
  refine LoopN.intro hm (X := Nat) (fun i => i ≤ l.length ∧ ∀ j, j < i → (l.getD j (0, 0)).1 ≤ t - p.2.2.1) (fun i => l.length - i)
    (fun i => [(7, .int .i64 fun _ => (i : Int)), (3, .ptr 0 0), (1, .lst HitT fun _ => l), (2, .int .i64 fun _ => t)]) (fun _ => [.cells 23 [.int .i64 fun _ => p.1, .int .i64 fun _ => p.2.1, .int .i64 fun _ => p.2.2.1, .int .i64 fun _ => p.2.2.2]]) 0 [0] ⟨rfl, rfl, ?_, ?_⟩ ⟨Nat.zero_le _, fun j hj => by omega⟩ (fun i hi => ?_)
  · (repeat' ((conv => whnf) <;> first | exact rfl | exact trivial | apply And.intro | exact Nat.zero_add _))
  · (repeat' ((conv => whnf) <;> first | exact rfl | exact trivial | apply And.intro | exact Nat.zero_add _))
  obtain ⟨hi, hj⟩ := hi
  (repeat' ((conv => whnf); first | apply And.intro | exact ⟨by kernel_rfl⟩ | apply DrawN.mk | apply CodeN.step hm rfl | exact trivial | exact rfl | (intro hh; try simp only [bs] at hh))); all_goals (conv => whnf)
  · refine Ob.mk ?_
    simp only []; omega
  · refine Ob.mk ?_
    simp only []; omega
  · (refine RetN.q () [] ?_ ?_ ?_ <;> (repeat' ((conv => whnf) <;> first | exact rfl | exact trivial | apply And.intro | exact Nat.zero_add _)); all_goals ((conv => whnf); try simp only []))
    rw [Int.toNat_natCast, Int.toNat_natCast, List.take_length]
    exact (since_drop hi hj fun h => by rw [← ew]; exact hh).symm
  · have hi2 : i < l.length := by omega
    have h1 : ¬ t - p.2.2.1 < (l.getD i (0, 0)).1 := by rw [← ew]; exact hh
    refine ⟨i + 1, [0], ⟨rfl, rfl, ?_, ?_⟩, ⟨by omega, fun j hj2 => ?_⟩, by omega⟩
    · (repeat' ((conv => whnf) <;> first | exact rfl | exact trivial | apply And.intro | exact Nat.zero_add _))
    · (repeat' ((conv => whnf) <;> first | exact rfl | exact trivial | apply And.intro | exact Nat.zero_add _)); all_goals ((conv => whnf); try simp only [])
      exact wr (by omega)
    · by_cases e : j = i
      · rw [e]; omega
      · exact hj j (by omega)
  · refine Ob.mk ?_
    simp only []; omega
  · (refine RetN.q () [] ?_ ?_ ?_ <;> (repeat' ((conv => whnf) <;> first | exact rfl | exact trivial | apply And.intro | exact Nat.zero_add _)); all_goals ((conv => whnf); try simp only []))
    rw [Int.toNat_natCast, Int.toNat_natCast, List.take_length]
    exact (since_drop hi hj fun h => by omega).symm
theorem mayH_len {a L : Int} : ∀ {l : List Hit} {last : Int}, mayHGo a L last l = true → last + l.length ≤ max last a
  | [], last, _ => by simp; omega
  | x :: r, last, h => by
    simp only [mayHGo, Bool.and_eq_true, decide_eq_true_eq] at h
    have ih := mayH_len h.2
    rw [List.length_cons, Int.natCast_add]
    omega
theorem elen {p : Pol} {c : Cell} (hm : mayC p c = true) (k : p.1 = 4) : c.2.2.2.length ≤ 1048576 := by
  have g := (may4 k).1 hm
  have hW := g.pol.window
  have hT := g.time
  have := mayH_len g.go
  omega
/-- It counts at a time what is left of the hits. -/
theorem ecnt {p : Pol} {T t : Int} {l : List Hit} (k : p.1 = 4) : cnt p (T, 0, [], l) t = sumH (sinceE p l t) := by
  unfold cnt; rw [if_neg (by omega), if_neg (by omega), if_neg (by omega)]
theorem ewait_at {p : Pol} {T m : Int} {l : List Hit} (k : p.1 = 4) (hm : mayC p (T, 0, [], l) = true) {i : Nat} (hi : i ≤ l.length) (h1 : i = 0 ∨ m < sumH (l.drop (i - 1))) (h2 : sumH (l.drop i) ≤ m) :
    wt p (T, 0, [], l) m = lastH (T - p.2.2.1) l i + p.2.2.1 - T := by
  have g := (may4 k).1 hm
  have hW := g.pol.window
  have hgo : mayHGo T p.2.1 (max (-1) (T - p.2.2.1)) l = true := g.go
  have hmem := mayH_mem _ _ hgo
  cases i with
  | zero =>
    refine wt_eq hm (show 0 ≤ T - p.2.2.1 + p.2.2.1 - T by omega) (show T - p.2.2.1 + p.2.2.1 - T ≤ _ by omega) (.inl (show T - p.2.2.1 + p.2.2.1 - T = 0 by omega)) (.inr ?_)
    rw [ecnt k]
    have : sinceE p l ((T, (0 : Int), ([] : List Int), l).1 + (lastH (T - p.2.2.1) l 0 + p.2.2.1 - T)) = l.drop 0 := by
      refine since_drop (Nat.zero_le _) (fun j hj => by omega) fun h => ?_
      have := hmem _ (hit_mem h)
      show T + (T - p.2.2.1 + p.2.2.1 - T) - p.2.2.1 < _
      omega
    rw [this]; exact h2
  | succ i =>
    have hx : max (-1) (T - p.2.2.1) < lastH (T - p.2.2.1) l (i + 1) ∧ lastH (T - p.2.2.1) l (i + 1) ≤ T := ⟨(hmem _ (hit_mem (l := l) (i := i) (by omega))).1, (hmem _ (hit_mem (l := l) (i := i) (by omega))).2.1⟩
    have h1 : m < sumH (l.drop i) := h1.resolve_left (by omega)
    have hlt : ∀ j, j < i + 1 → (l.getD j (0, 0)).1 ≤ lastH (T - p.2.2.1) l (i + 1) := fun j hj => by
      by_cases e : j = i
      · rw [e]; exact Int.le_refl _
      · exact Int.le_of_lt (mayH_lt hgo (by omega) (by omega))
    have hlt1 : ∀ j, j < i → (l.getD j (0, 0)).1 < lastH (T - p.2.2.1) l (i + 1) := fun j hj => mayH_lt hgo (by omega) (by omega)
    have hlt3 : lastH (T - p.2.2.1) l (i + 1) ≤ (l.getD i (0, 0)).1 := Int.le_refl _
    have hlt2 : i + 1 < l.length → lastH (T - p.2.2.1) l (i + 1) < (l.getD (i + 1) (0, 0)).1 := fun hj => mayH_lt hgo (by omega) hj
    generalize lastH (T - p.2.2.1) l (i + 1) = x at *
    refine wt_eq hm (by omega) (by omega) (.inr ?_) (.inr ?_)
    · rw [ecnt k]
      have : sinceE p l ((T, (0 : Int), ([] : List Int), l).1 + (x + p.2.2.1 - T - 1)) = l.drop i := by
        refine since_drop (by omega) (fun j hj => ?_) fun h => ?_
        · have := hlt1 j hj
          show _ ≤ T + (x + p.2.2.1 - T - 1) - p.2.2.1
          omega
        · show T + (x + p.2.2.1 - T - 1) - p.2.2.1 < _
          have := hlt3
          omega
      rw [this]; exact h1
    · rw [ecnt k]
      have : sinceE p l ((T, (0 : Int), ([] : List Int), l).1 + (x + p.2.2.1 - T)) = l.drop (i + 1) := by
        refine since_drop hi (fun j hj => ?_) fun h => ?_
        · show _ ≤ T + (x + p.2.2.1 - T) - p.2.2.1
          have := hlt j hj
          omega
        · have := hlt2 h
          show T + (x + p.2.2.1 - T) - p.2.2.1 < _
          omega
      rw [this]; exact h2
theorem ewaitM (p : Pol) (l : List Hit) (T m : Int) (k : p.1 = 4) (hmy : mayC p (T, 0, [], l) = true) (hm0 : 0 ≤ m) : Meets Try.prog 90 [polAV p, .lst HitT fun _ => l, .int .i64 fun _ => T, .int .i64 fun _ => m] [] (Y := Unit) (fun _ => True) (fun _ => .int .i64 fun _ => wt p (T, 0, [], l) m) (fun _ => []) := by
  have g := (may4 k).1 hmy
  have hp := g.pol
  have hT := g.time
  have hL := hp.limit
  have hW := hp.window
  have hgo : mayHGo T p.2.1 (max (-1) (T - p.2.2.1)) l = true := g.go
  have hmem := mayH_mem _ _ hgo
  have hlen := elen hmy k
  refine Meets.intro hm (fn := Try.f90) Try.func90 rfl (by decide) (Nat.le_of_ble_eq_true rfl) (fun _ => rfl) ?_; intro S hok; (conv => whnf)
  (repeat' ((conv => whnf); first | apply And.intro | exact ⟨by kernel_rfl⟩ | apply DrawN.mk | apply CodeN.step hm rfl | exact trivial | exact rfl | (intro hh; try simp only [bs] at hh))); all_goals (conv => whnf)
  (refine CallN.q (ecountM l (by simp only [] at hlen; omega) (fun h hh => by have := hmem h hh; omega)) [] (fun _ _ => ?_); (repeat' ((conv => whnf); first | apply And.intro | exact ⟨by kernel_rfl⟩ | apply DrawN.mk | apply CodeN.step hm rfl | exact trivial | exact rfl | (intro hh; try simp only [bs] at hh; try exact absurd hh (by decide)))); all_goals (conv => whnf); all_goals try exact ⟨by decide⟩)
  have hlen2 : l.length ≤ 1048576 := hlen
  refine LoopN.intro hm (X := Nat) (fun i => i ≤ l.length ∧ (i = 0 ∨ m < sumH (l.drop (i - 1)))) (fun i => l.length - i)
    (fun i => [(18, .int .i64 fun _ => (i : Int)), (17, .int .i64 fun _ => (l.length : Int)), (16, .lst HitT fun _ => l), (10, .int .i64 fun _ => lastH (T - p.2.2.1) l i + p.2.2.1), (9, .int .i64 fun _ => sumH (l.drop i)), (4, .ptr 0 0), (2, .int .i64 fun _ => T), (3, .int .i64 fun _ => m)])
    (fun _ => [.cells 23 [.int .i64 fun _ => p.1, .int .i64 fun _ => p.2.1, .int .i64 fun _ => p.2.2.1, .int .i64 fun _ => p.2.2.2]]) 0 [0] ⟨rfl, rfl, ?_, ?_⟩ ⟨Nat.zero_le _, .inl rfl⟩ (fun i hi => ?_)
  · (repeat' ((conv => whnf) <;> first | exact rfl | exact trivial | apply And.intro | exact Nat.zero_add _))
  · (repeat' ((conv => whnf) <;> first | exact rfl | exact trivial | apply And.intro | exact Nat.zero_add _)); all_goals ((conv => whnf); try simp only [])
    show T = T - p.2.2.1 + p.2.2.1
    omega
  obtain ⟨hi, hlo⟩ := hi
  have hwa := ewait_at k hmy hi hlo
  have hsb := sumH_bound (m := 1048576) (by omega) (l := l.drop i) fun h hh => by have := hmem h (List.mem_of_mem_drop hh); omega
  rw [List.length_drop] at hsb
  have hdr := fun h => congrArg sumH (hit_drop (l := l) (i := i) h)
  have hmi := fun h => hmem _ (hit_mem (l := l) (i := i) h)
  have hla : lastH (T - p.2.2.1) l (i + 1) = (l.getD i (0, 0)).1 := rfl
  (repeat' ((conv => whnf); first | apply And.intro | exact ⟨by kernel_rfl⟩ | apply DrawN.mk | apply CodeN.step hm rfl | exact trivial | exact rfl | (intro hh; try simp only [bs] at hh))); all_goals (conv => whnf)
  · refine Ob.mk ?_
    simp only []; omega
  · have hw := hwa hh
    have hwb := wt_bound (p := p) (d := (T, 0, [], l)) hp m
    (refine RetN.q () [] ?_ ?_ ?_ <;> (repeat' ((conv => whnf) <;> first | exact rfl | exact trivial | apply And.intro | exact Nat.zero_add _)); all_goals ((conv => whnf); try simp only []))
    rw [hw] at hwb ⊢
    exact wr (by omega)
  · have hi2 : i < l.length := by omega
    have h1 := hdr hi2
    have h2 := hmi hi2
    rw [sumH_cons] at h1
    refine ⟨i + 1, [0], ⟨rfl, rfl, ?_, ?_⟩, ⟨by omega, .inr ?_⟩, by omega⟩
    · (repeat' ((conv => whnf) <;> first | exact rfl | exact trivial | apply And.intro | exact Nat.zero_add _))
    · (repeat' ((conv => whnf) <;> first | exact rfl | exact trivial | apply And.intro | exact Nat.zero_add _)); all_goals ((conv => whnf); try simp only [])
      · exact wr (by omega)
      · show IntKind.i64.wrap ((l.getD i (0, 0)).1 + p.2.2.1) = _
        rw [wr (by omega)]; rfl
      · show IntKind.i64.wrap (sumH (l.drop i) - (l.getD i (0, 0)).2) = _
        rw [wr (by omega)]; omega
    · rw [Nat.add_sub_cancel]; omega
  · have e : i = l.length := by omega
    have hw := hwa (by rw [e, List.drop_length]; exact hm0)
    have hwb := wt_bound (p := p) (d := (T, 0, [], l)) hp m
    (refine RetN.q () [] ?_ ?_ ?_ <;> (repeat' ((conv => whnf) <;> first | exact rfl | exact trivial | apply And.intro | exact Nat.zero_add _)); all_goals ((conv => whnf); try simp only []))
    rw [hw] at hwb ⊢
    exact wr (by omega)
theorem cloneH (xs : List Hit) (hl : xs.length ≤ 2000000) : Meets Try.prog 87 [.lst HitT fun _ => xs] [] (Y := Unit) (fun _ => True)
    (fun _ => .vec 0 2 (fun _ => 0) (fun _ => xs.length)) (fun _ => [.vect 64 HitT fun _ => xs]) := by
  refine Meets.intro hm (fn := Try.f87) Try.func87 rfl (by decide) (Nat.le_of_ble_eq_true rfl) (fun _ => rfl) ?_; intro S hok; (conv => whnf)
  (repeat' ((conv => whnf); first | apply And.intro | exact ⟨by kernel_rfl⟩ | apply DrawN.mk | apply CodeN.step hm rfl | exact trivial | exact rfl | (intro hh; try simp only [bs] at hh))); all_goals (conv => whnf)
  · have hx : xs = [] := ‹_ = true → xs = []› hh
    refine RetN.nil 64 HitT 0 ?_
    (conv => whnf)
    (refine RetN.q () [0] ?_ ?_ ?_ <;> (repeat' ((conv => whnf) <;> first | exact rfl | exact trivial | apply And.intro | exact Nat.zero_add _)); all_goals ((conv => whnf); try simp only []))
    all_goals simp [hx]
  · refine ⟨⟨rfl, ?_, ?_⟩⟩
    · show 0 + xs.length ≤ _
      omega
    · show (0 + xs.length) * 16 ≤ _
      omega
  · (refine RetN.q () [0] ?_ ?_ ?_ <;> (repeat' ((conv => whnf) <;> first | exact rfl | exact trivial | apply And.intro | exact Nat.zero_add _)); all_goals ((conv => whnf); try simp only []))
    all_goals simp
theorem addH_new {l : List Hit} {T w : Int} (h : l.length = 0 ∨ (l.getD (l.length - 1) (0, 0)).1 ≠ T) : addH l T w = l ++ [(T, w)] := by
  unfold addH
  rw [List.getLast?_eq_getElem?]
  cases e : l[l.length - 1]? with
  | none =>
    rw [List.getElem?_eq_none_iff] at e
    have : l = [] := List.length_eq_zero_iff.1 (by omega)
    subst this; rfl
  | some x =>
    have hx := (List.getElem?_eq_some_iff.1 e).1
    have h := h.resolve_left (by omega)
    rw [List.getD_eq_getElem?_getD, e] at h
    exact if_neg h
theorem addH_last {l : List Hit} {T w : Int} (h0 : l.length ≠ 0) (h : (l.getD (l.length - 1) (0, 0)).1 = T) : addH l T w = l.set (l.length - 1) ((l.getD (l.length - 1) (0, 0)).1, (l.getD (l.length - 1) (0, 0)).2 + w) := by
  have hne : l ≠ [] := fun e => h0 (by rw [e]; rfl)
  obtain ⟨r, x, rfl⟩ : ∃ r x, l = r ++ [x] := ⟨_, _, (List.dropLast_concat_getLast hne).symm⟩
  have e1 : (r ++ [x]).length - 1 = r.length := by simp
  rw [e1] at h ⊢
  have e2 : (r ++ [x]).getD r.length (0, 0) = x := by simp [List.getD_eq_getElem?_getD]
  rw [e2] at h ⊢
  unfold addH
  rw [List.getLast?_concat]
  simp only []
  rw [if_pos h, List.dropLast_concat, ← h]
  simp [List.set_append]
theorem ask4 {p : Pol} {c : Cell} {t w : Int} (k : p.1 = 4) (h1 : mayC p c = true) (h2 : timeB t = true) (h3 : weighs w = true) :
    askC p c t w = if sumH (sinceE p c.2.2.2 (max t c.1)) + w ≤ p.2.1 then (added p (moved p c (max t c.1)) w, true, p.2.1 - (sumH (sinceE p c.2.2.2 (max t c.1)) + w), 0, wt p (added p (moved p c (max t c.1)) w) 0)
    else (moved p c (max t c.1), false, p.2.1 - sumH (sinceE p c.2.2.2 (max t c.1)), (if p.2.1 < w then 2199023255552 else wt p (moved p c (max t c.1)) (p.2.1 - w)), wt p (moved p c (max t c.1)) 0) := by
  have em : own p (moved p c (max t c.1)) = sumH (sinceE p c.2.2.2 (max t c.1)) := by unfold own moved; simp only [if_neg (show ¬ (p.1 = 1 ∨ p.1 = 2) by omega), if_neg (show ¬ p.1 = 3 by omega)]
  have ewt : ∀ w, worth p w = w := fun w => by unfold worth; rw [if_neg (by omega)]
  rw [ask_ok h1 h2 h3, em, ewt, ewt, ewt, Int.tdiv_one, Int.tdiv_one]
set_option maxRecDepth 4000 in
theorem easkM (p : Pol) (c : Cell) (t w : Int) (k : p.1 = 4) : Meets Try.prog 52 [polAV p, cellAV c, .int .i64 fun _ => t, .int .i64 fun _ => w] [] (Y := Unit) (fun _ => True) (fun _ => .tup [cellAV (askC p c t w).1, verAV (askC p c t w).2]) (fun _ => []) := by
  by_cases hv : mayC p c = true ∧ timeB t = true ∧ weighs w = true
  · obtain ⟨h1, h2, h3⟩ := hv
    have M1 := emayM p c k
    have M2 := etimeM t
    have M3 := weighsM w
    rw [h1] at M1
    rw [h2] at M2
    rw [h3] at M3
    have ht : 0 ≤ t ∧ t ≤ 1099511627776 := by simpa [timeB] using h2
    have hw : 1 ≤ w ∧ w ≤ 1048576 := by simpa [weighs] using h3
    have g := (may4 k).1 h1
    have hp := g.pol
    have hct := g.time
    have hL := hp.limit
    have hW := hp.window
    have hln := elen h1 k
    have hmx : (if c.1 > t then c.1 else t) = max t c.1 := by split <;> omega
    have ha := ask4 k h1 h2 h3
    have hmm := moved_may h1 (t := max t c.1) (by omega) (by omega)
    have em : moved p c (max t c.1) = (max t c.1, 0, [], sinceE p c.2.2.2 (max t c.1)) := by unfold moved; rw [if_neg (by omega), if_neg (by omega)]
    rw [em] at hmm ha
    have M4 := esinceM p c.2.2.2 (max t c.1) hp (by omega) (by omega)
    have hT : 0 ≤ max t c.1 ∧ max t c.1 ≤ 1099511627776 := by omega
    refine Meets.intro hm (fn := Try.f52) Try.func52 rfl (by decide) (Nat.le_of_ble_eq_true rfl) (fun _ => rfl) ?_; intro S hok; (conv => whnf)
    (repeat' ((conv => whnf); first | apply And.intro | exact ⟨by kernel_rfl⟩ | apply DrawN.mk | apply CodeN.step hm rfl | exact trivial | exact rfl | (intro hh; try simp only [bs] at hh))); all_goals (conv => whnf)
    (refine CallN.q M1 [] (fun _ _ => ?_); (repeat' ((conv => whnf); first | apply And.intro | exact ⟨by kernel_rfl⟩ | apply DrawN.mk | apply CodeN.step hm rfl | exact trivial | exact rfl | (intro hh; try simp only [bs] at hh; try exact absurd hh (by decide)))); all_goals (conv => whnf); all_goals try exact ⟨by decide⟩)
    (refine CallN.q M2 [] (fun _ _ => ?_); (repeat' ((conv => whnf); first | apply And.intro | exact ⟨by kernel_rfl⟩ | apply DrawN.mk | apply CodeN.step hm rfl | exact trivial | exact rfl | (intro hh; try simp only [bs] at hh; try exact absurd hh (by decide)))); all_goals (conv => whnf); all_goals try exact ⟨by decide⟩)
    (refine CallN.q M3 [] (fun _ _ => ?_); (repeat' ((conv => whnf); first | apply And.intro | exact ⟨by kernel_rfl⟩ | apply DrawN.mk | apply CodeN.step hm rfl | exact trivial | exact rfl | (intro hh; try simp only [bs] at hh; try exact absurd hh (by decide)))); all_goals (conv => whnf); all_goals try exact ⟨by decide⟩)
    refine CallN.q M4 [] (fun _ _ => ?_) rfl rfl ?_ trivial
    rotate_left
    · (repeat' ((conv => whnf) <;> first | exact rfl | exact trivial | apply And.intro | exact Nat.zero_add _))
      exact hmx
    have g2 := (may4 k).1 hmm
    have hl2 := elen hmm k
    have hl3 : (sinceE p c.2.2.2 (max t c.1)).length ≤ 1048576 := hl2
    have hmem : ∀ h ∈ sinceE p c.2.2.2 (max t c.1), 0 ≤ h.2 ∧ h.2 ≤ 1048576 := fun h hh => by have := mayH_mem _ _ g2.go h hh; omega
    clear em M1 M2 M3 M4
    generalize max t c.1 = T at *
    generalize sinceE p c.2.2.2 T = l at *
    have M5 := ecountM l (by omega) hmem
    (repeat' ((conv => whnf); first | apply And.intro | exact ⟨by kernel_rfl⟩ | apply DrawN.mk | apply CodeN.step hm rfl | exact trivial | exact rfl | (intro hh; try simp only [bs] at hh; try exact absurd hh (by decide)))); all_goals (conv => whnf)
    (refine CallN.q (cloneH l (by omega)) [] (fun _ _ => ?_); (repeat' ((conv => whnf); first | apply And.intro | exact ⟨by kernel_rfl⟩ | apply DrawN.mk | apply CodeN.step hm rfl | exact trivial | exact rfl | (intro hh; try simp only [bs] at hh; try exact absurd hh (by decide)))); all_goals (conv => whnf); all_goals try exact ⟨by decide⟩)
    have hsb := sumH_bound (m := 1048576) (by omega) hmem
    have enw : IntKind.i64.wrap (sumH l + w) = sumH l + w := wr (by omega)
    have el2 : IntKind.i64.wrap (((l.length + 1 : Nat) : Int) - 1) = l.length := by rw [wr (by omega)]; omega
    have e5 : (l ++ [(T, (0 : Int))]).getD l.length HitT.dflt = (T, 0) := by simp [List.getD_eq_getElem?_getD]
    have e6 : IntKind.i64.wrap w = w := wr (by omega)
    have hq : l.length ≠ 0 → 0 + (IntKind.i64.wrap ((l.length : Int) - 1)).toNat = l.length - 1 := fun h => by rw [wr (by omega)]; omega
    refine CallN.rest M5 [4] ?_ (fun _ _ => ⟨rfl, rfl⟩) ?_
    · (repeat' ((conv => whnf) <;> first | exact rfl | exact trivial | apply And.intro | exact Nat.zero_add _)); all_goals ((conv => whnf); try simp only [])
      rw [List.drop_zero, List.take_length]
    intro y hy
    (repeat' ((conv => whnf); first | apply And.intro | exact ⟨by kernel_rfl⟩ | apply DrawN.mk | apply CodeN.step hm rfl | exact trivial | exact rfl | (intro hh; try simp only [bs] at hh; try exact absurd hh (by decide)))); all_goals (conv => whnf)
    all_goals try
      have hle : sumH l + w ≤ p.2.1 := by rw [← enw]; assumption
      rw [if_pos hle] at ha
      have hadd : added p (T, 0, [], l) w = (T, 0, [], addH l T w) := by
        unfold added; simp only [if_neg (show ¬ p.1 = 1 by omega), if_neg (show ¬ p.1 = 2 by omega), if_neg (show ¬ p.1 = 3 by omega)]
      have hf : Full p (T, 0, [], l) := fun h => by omega
      have ham := added_may hmm hf hw.1 (by
        unfold own worth; simp only [if_neg (show ¬ p.1 = 1 by omega), if_neg (show ¬ (p.1 = 1 ∨ p.1 = 2) by omega), if_neg (show ¬ p.1 = 3 by omega)]; exact hle)
      have hown := added_own hmm hf w
      rw [hadd] at ha ham hown
      have g3 := (may4 k).1 ham
      have hl4 := elen ham k
      have hl5 : (addH l T w).length ≤ 1048576 := hl4
      have hmem3 : ∀ h ∈ addH l T w, 0 ≤ h.2 ∧ h.2 ≤ 1048576 := fun h hh => by have := mayH_mem _ _ g3.go h hh; omega
      have hsum : sumH (addH l T w) = sumH l + w := by
        unfold own worth at hown
        simpa only [if_neg (show ¬ p.1 = 1 by omega), if_neg (show ¬ (p.1 = 1 ∨ p.1 = 2) by omega), if_neg (show ¬ p.1 = 3 by omega)] using hown
      have M6 := ecountM (addH l T w) (by omega) hmem3
      have M7 := ewaitM p (addH l T w) T 0 k ham (Int.le_refl _)
      rw [hsum] at M6
    all_goals try
      refine Ob.mk ?_
      have el : IntKind.i64.wrap ((l.length : Int) - 1) = (l.length : Int) - 1 := wr (by omega)
      have el2 : IntKind.i64.wrap (((l.length + 1 : Nat) : Int) - 1) = l.length := by rw [wr (by omega)]; omega
      have hb : ((Try.t64).bytes : Nat) = 16 := rfl
      simp only [hmx, List.drop_zero, List.take_succ_cons, List.take_zero, List.length_cons, List.length_nil, Nat.zero_add, el, el2, hb, true_and]
      omega
    all_goals try
      have hnew : addH l T w = l ++ [(T, w)] := by
        refine addH_new ?_
        first
          | exact .inl (by omega)
          | (refine .inr fun e => ?_
             rw [hq (by omega), hmx] at hh
             exact hh e)
      rw [hnew] at M6 M7 ha
    all_goals try
      have hnew : addH l T w = l.set (l.length - 1) ((l.getD (l.length - 1) (0, 0)).1, (l.getD (l.length - 1) (0, 0)).2 + w) := by
        refine addH_last (by omega) ?_
        rw [hq (by omega), hmx] at hh
        exact hh
      have hgm := hmem _ (hit_mem (l := l) (i := l.length - 1) (by omega))
      have ew : IntKind.i64.wrap ((l.getD (l.length - 1) (0, 0)).2 + w) = (l.getD (l.length - 1) (0, 0)).2 + w := wr (by omega)
      have hq := hq (by omega)
      rw [hnew] at M6 M7 ha
    all_goals try
      refine CallN.rest M6 [4] ?_ (fun _ _ => ⟨rfl, rfl⟩) ?_
      · (repeat' ((conv => whnf) <;> first | exact rfl | exact trivial | apply And.intro | exact Nat.zero_add _)); all_goals ((conv => whnf); try simp only [])
        first
          | (simp only [hmx, List.drop_zero, List.take_succ_cons, List.take_zero, List.length_cons, List.length_nil, Nat.zero_add, Int.zero_add, el2, Int.toNat_natCast, List.take_length, e5, e6]
             rw [List.set_append_right _ _ (Nat.le_refl _), Nat.sub_self, List.set_cons_zero, List.take_of_length_le (by simp)])
          | (rw [hq, List.drop_zero]
             refine Eq.trans (List.take_of_length_le (by rw [List.length_set]; exact Nat.le_refl _)) ?_
             show l.set (l.length - 1) ((l.getD (l.length - 1) (0, 0)).1, IntKind.i64.wrap ((l.getD (l.length - 1) (0, 0)).2 + w)) = _
             rw [ew])
      intro y hy
      (repeat' ((conv => whnf); first | apply And.intro | exact ⟨by kernel_rfl⟩ | apply DrawN.mk | apply CodeN.step hm rfl | exact trivial | exact rfl | (intro hh; try simp only [bs] at hh; try exact absurd hh (by decide)))); all_goals (conv => whnf)
      refine CallN.rest M7 [4] ?_ (fun _ _ => ⟨rfl, rfl⟩) ?_
      · (repeat' ((conv => whnf) <;> first | exact rfl | exact trivial | apply And.intro | exact Nat.zero_add _)); all_goals ((conv => whnf); try simp only [])
        · first
            | (simp only [hmx, List.drop_zero, List.take_succ_cons, List.take_zero, List.length_cons, List.length_nil, Nat.zero_add, Int.zero_add, el2, Int.toNat_natCast, List.take_length, e5, e6]
               rw [List.set_append_right _ _ (Nat.le_refl _), Nat.sub_self, List.set_cons_zero, List.take_of_length_le (by simp)])
            | (rw [hq, List.drop_zero]
               refine Eq.trans (List.take_of_length_le (by rw [List.length_set]; exact Nat.le_refl _)) ?_
               show l.set (l.length - 1) ((l.getD (l.length - 1) (0, 0)).1, IntKind.i64.wrap ((l.getD (l.length - 1) (0, 0)).2 + w)) = _
               rw [ew])
        · exact hmx
      intro y hy
      (repeat' ((conv => whnf); first | apply And.intro | exact ⟨by kernel_rfl⟩ | apply DrawN.mk | apply CodeN.step hm rfl | exact trivial | exact rfl | (intro hh; try simp only [bs] at hh; try exact absurd hh (by decide)))); all_goals (conv => whnf)
      (refine RetN.frz 4 ?_; (conv => whnf))
      (refine RetN.q () [] ?_ ?_ ?_ <;> (repeat' ((conv => whnf) <;> first | exact rfl | exact trivial | apply And.intro | exact Nat.zero_add _)); all_goals ((conv => whnf); try simp only []))
      all_goals rw [ha]
      all_goals try first | exact hmx | exact wr (by omega)
      all_goals
        first
          | (simp only [hmx, List.drop_zero, List.take_succ_cons, List.take_zero, List.length_cons, List.length_nil, Nat.zero_add, Int.zero_add, el2, Int.toNat_natCast, List.take_length, e5, e6]
             rw [List.set_append_right _ _ (Nat.le_refl _), Nat.sub_self, List.set_cons_zero, List.take_of_length_le (by simp)])
          | (rw [hq, List.drop_zero]
             refine Eq.trans (List.take_of_length_le (by rw [List.length_set]; exact Nat.le_refl _)) ?_
             show l.set (l.length - 1) ((l.getD (l.length - 1) (0, 0)).1, IntKind.i64.wrap ((l.getD (l.length - 1) (0, 0)).2 + w)) = _
             rw [ew])
    all_goals
      have hgt : ¬ sumH l + w ≤ p.2.1 := by rw [← enw]; assumption
      rw [if_neg hgt] at ha
    · rw [if_pos hh] at ha
      refine CallN.rest M5 [4] ?_ (fun _ _ => ⟨rfl, rfl⟩) ?_
      · (repeat' ((conv => whnf) <;> first | exact rfl | exact trivial | apply And.intro | exact Nat.zero_add _)); all_goals ((conv => whnf); try simp only [])
        rw [List.drop_zero, List.take_length]
      intro y hy
      (repeat' ((conv => whnf); first | apply And.intro | exact ⟨by kernel_rfl⟩ | apply DrawN.mk | apply CodeN.step hm rfl | exact trivial | exact rfl | (intro hh; try simp only [bs] at hh; try exact absurd hh (by decide)))); all_goals (conv => whnf)
      refine CallN.rest (ewaitM p l T 0 k hmm (Int.le_refl _)) [4] ?_ (fun _ _ => ⟨rfl, rfl⟩) ?_
      · (repeat' ((conv => whnf) <;> first | exact rfl | exact trivial | apply And.intro | exact Nat.zero_add _)); all_goals ((conv => whnf); try simp only [])
        · rw [List.drop_zero, List.take_length]
        · exact hmx
      intro y hy
      (repeat' ((conv => whnf); first | apply And.intro | exact ⟨by kernel_rfl⟩ | apply DrawN.mk | apply CodeN.step hm rfl | exact trivial | exact rfl | (intro hh; try simp only [bs] at hh; try exact absurd hh (by decide)))); all_goals (conv => whnf)
      (refine RetN.frz 4 ?_; (conv => whnf))
      (refine RetN.q () [] ?_ ?_ ?_ <;> (repeat' ((conv => whnf) <;> first | exact rfl | exact trivial | apply And.intro | exact Nat.zero_add _)); all_goals ((conv => whnf); try simp only []))
      all_goals rw [ha]
      all_goals first
        | done
        | exact hmx
        | exact wr (by omega)
        | rw [List.drop_zero, List.take_length]
    · rw [if_neg hh] at ha
      refine CallN.rest (ewaitM p l T (p.2.1 - w) k hmm (by omega)) [4] ?_ (fun _ _ => ⟨rfl, rfl⟩) ?_
      · (repeat' ((conv => whnf) <;> first | exact rfl | exact trivial | apply And.intro | exact Nat.zero_add _)); all_goals ((conv => whnf); try simp only [])
        · rw [List.drop_zero, List.take_length]
        · exact hmx
        · exact wr (by omega)
      intro y hy
      (repeat' ((conv => whnf); first | apply And.intro | exact ⟨by kernel_rfl⟩ | apply DrawN.mk | apply CodeN.step hm rfl | exact trivial | exact rfl | (intro hh; try simp only [bs] at hh; try exact absurd hh (by decide)))); all_goals (conv => whnf)
      refine CallN.rest M5 [4] ?_ (fun _ _ => ⟨rfl, rfl⟩) ?_
      · (repeat' ((conv => whnf) <;> first | exact rfl | exact trivial | apply And.intro | exact Nat.zero_add _)); all_goals ((conv => whnf); try simp only [])
        rw [List.drop_zero, List.take_length]
      intro y hy
      (repeat' ((conv => whnf); first | apply And.intro | exact ⟨by kernel_rfl⟩ | apply DrawN.mk | apply CodeN.step hm rfl | exact trivial | exact rfl | (intro hh; try simp only [bs] at hh; try exact absurd hh (by decide)))); all_goals (conv => whnf)
      refine CallN.rest (ewaitM p l T 0 k hmm (Int.le_refl _)) [4] ?_ (fun _ _ => ⟨rfl, rfl⟩) ?_
      · (repeat' ((conv => whnf) <;> first | exact rfl | exact trivial | apply And.intro | exact Nat.zero_add _)); all_goals ((conv => whnf); try simp only [])
        · rw [List.drop_zero, List.take_length]
        · exact hmx
      intro y hy
      (repeat' ((conv => whnf); first | apply And.intro | exact ⟨by kernel_rfl⟩ | apply DrawN.mk | apply CodeN.step hm rfl | exact trivial | exact rfl | (intro hh; try simp only [bs] at hh; try exact absurd hh (by decide)))); all_goals (conv => whnf)
      (refine RetN.frz 4 ?_; (conv => whnf))
      (refine RetN.q () [] ?_ ?_ ?_ <;> (repeat' ((conv => whnf) <;> first | exact rfl | exact trivial | apply And.intro | exact Nat.zero_add _)); all_goals ((conv => whnf); try simp only []))
      all_goals rw [ha]
      all_goals first
        | done
        | exact hmx
        | exact wr (by omega)
        | rw [List.drop_zero, List.take_length]
  · rw [ask_bad hv]
    refine Meets.intro hm (fn := Try.f52) Try.func52 rfl (by decide) (Nat.le_of_ble_eq_true rfl) (fun _ => rfl) ?_; intro S hok; (conv => whnf)
    (repeat' ((conv => whnf); first | apply And.intro | exact ⟨by kernel_rfl⟩ | apply DrawN.mk | apply CodeN.step hm rfl | exact trivial | exact rfl | (intro hh; try simp only [bs] at hh))); all_goals (conv => whnf)
    (refine CallN.q (emayM p c k) [] (fun _ _ => ?_); (repeat' ((conv => whnf); first | apply And.intro | exact ⟨by kernel_rfl⟩ | apply DrawN.mk | apply CodeN.step hm rfl | exact trivial | exact rfl | (intro hh; try simp only [bs] at hh; try exact absurd hh (by decide)))); all_goals (conv => whnf); all_goals try exact ⟨by decide⟩)
    all_goals try
      (refine CallN.q (etimeM t) [] (fun _ _ => ?_); (repeat' ((conv => whnf); first | apply And.intro | exact ⟨by kernel_rfl⟩ | apply DrawN.mk | apply CodeN.step hm rfl | exact trivial | exact rfl | (intro hh; try simp only [bs] at hh; try exact absurd hh (by decide)))); all_goals (conv => whnf); all_goals try exact ⟨by decide⟩)
    all_goals try
      (refine CallN.q (weighsM w) [] (fun _ _ => ?_); (repeat' ((conv => whnf); first | apply And.intro | exact ⟨by kernel_rfl⟩ | apply DrawN.mk | apply CodeN.step hm rfl | exact trivial | exact rfl | (intro hh; try simp only [bs] at hh; try exact absurd hh (by decide)))); all_goals (conv => whnf); all_goals try exact ⟨by decide⟩)
    all_goals first
      | (exfalso; exact hv ⟨by assumption, by assumption, by assumption⟩)
      | (refine RetN.q () [] ?_ ?_ ?_ <;> (repeat' ((conv => whnf) <;> first | exact rfl | exact trivial | apply And.intro | exact Nat.zero_add _)); all_goals ((conv => whnf); try simp only []))
theorem eendsM (p : Pol) (c : Cell) (k : p.1 = 4) : Meets Try.prog 53 [polAV p, cellAV c] [] (Y := Unit) (fun _ => True) (fun _ => .int .i64 fun _ => endsC p c) (fun _ => []) := by
  refine Meets.intro hm (fn := Try.f53) Try.func53 rfl (by decide) (Nat.le_of_ble_eq_true rfl) (fun _ => rfl) ?_; intro S hok; (conv => whnf)
  (repeat' ((conv => whnf); first | apply And.intro | exact ⟨by kernel_rfl⟩ | apply DrawN.mk | apply CodeN.step hm rfl | exact trivial | exact rfl | (intro hh; try simp only [bs] at hh))); all_goals (conv => whnf)
  (refine CallN.q (emayM p c k) [] (fun _ _ => ?_); (repeat' ((conv => whnf); first | apply And.intro | exact ⟨by kernel_rfl⟩ | apply DrawN.mk | apply CodeN.step hm rfl | exact trivial | exact rfl | (intro hh; try simp only [bs] at hh; try exact absurd hh (by decide)))); all_goals (conv => whnf); all_goals try exact ⟨by decide⟩)
  · (refine RetN.q () [] ?_ ?_ ?_ <;> (repeat' ((conv => whnf) <;> first | exact rfl | exact trivial | apply And.intro | exact Nat.zero_add _)); all_goals ((conv => whnf); try simp only []))
    unfold endsC
    rw [if_neg (by simp [*])]
  have h1 : mayC p c = true := by assumption
  have g := (may4 k).1 h1
  have hp := g.pol
  have hct := g.time
  have hW := hp.window
  have hmm := moved_may h1 (Int.le_refl _) hct.2
  have em : moved p c c.1 = (c.1, 0, [], c.2.2.2) := by
    unfold moved; rw [if_neg (by omega), if_neg (by omega), since_own g]
  have he : endsC p c = c.1 + wt p (c.1, 0, [], c.2.2.2) 0 := by unfold endsC; rw [if_pos h1, em]
  rw [em] at hmm
  rw [he]
  have hwb := wt_bound (p := p) (d := (c.1, 0, [], c.2.2.2)) hp 0
  (refine CallN.q (ewaitM p c.2.2.2 c.1 0 k hmm (Int.le_refl _)) [] (fun _ _ => ?_); (repeat' ((conv => whnf); first | apply And.intro | exact ⟨by kernel_rfl⟩ | apply DrawN.mk | apply CodeN.step hm rfl | exact trivial | exact rfl | (intro hh; try simp only [bs] at hh; try exact absurd hh (by decide)))); all_goals (conv => whnf); all_goals try exact ⟨by decide⟩)
  (refine RetN.q () [] ?_ ?_ ?_ <;> (repeat' ((conv => whnf) <;> first | exact rfl | exact trivial | apply And.intro | exact Nat.zero_add _)); all_goals ((conv => whnf); try simp only []))
  exact wr (by omega)
end Go.Proofs.Ytkcifdblaboodaa.Ce
set_option linter.unusedVariables false
set_option linter.unusedSimpArgs false
namespace Go.Proofs.Ytkcifdblaboodaa.Ce
open Go Go.RowKit Fw Hi Po
theorem of1 (p : Pol) (k : p.1 = 1) : Meets Try.prog 27 [polAV p] [] (Y := Unit) (fun _ => True) (fun _ => .ifc 77 (.agg [.fn (.func 42) [] [], .fn (.func 43) [] [], .fn (.func 44) [] []])) (fun _ => []) := by
  refine Meets.intro hm (fn := Try.f27) Try.func27 rfl (by decide) (Nat.le_of_ble_eq_true rfl) (fun _ => rfl) ?_; intro S hok; (conv => whnf)
  (repeat' ((conv => whnf); first | apply And.intro | exact ⟨by kernel_rfl⟩ | apply DrawN.mk | apply CodeN.step hm rfl | exact trivial | exact rfl | (intro hh; try simp only [bs] at hh))); all_goals (conv => whnf)
  all_goals first | (exfalso; omega) | skip
  (refine RetN.q () [] ?_ ?_ ?_ <;> (repeat' ((conv => whnf) <;> first | exact rfl | exact trivial | apply And.intro | exact Nat.zero_add _)); all_goals ((conv => whnf); try simp only []))
theorem lmay1 (p : Pol) (c : Cell) (k : p.1 = 1) (hc : -9223372036854775808 ≤ c.2.1 ∧ c.2.1 ≤ 9223372036854775807) : Meets Try.prog 131 [.agg [.fn (.func 42) [] [], .fn (.func 43) [] [], .fn (.func 44) [] []], polAV p, cellAV c] [] (Y := Unit) (fun _ => True) (fun _ => .bool fun _ => mayC p c) (fun _ => []) := by
  refine Meets.intro hm (fn := Try.f131) Try.func131 rfl (by decide) (Nat.le_of_ble_eq_true rfl) (fun _ => rfl) ?_; intro S hok; (conv => whnf)
  (repeat' ((conv => whnf); first | apply And.intro | exact ⟨by kernel_rfl⟩ | apply DrawN.mk | apply CodeN.step hm rfl | exact trivial | exact rfl | (intro hh; try simp only [bs] at hh))); all_goals (conv => whnf)
  (refine CallN.q (gmayM p c k hc) [] (fun _ _ => ?_); (repeat' ((conv => whnf); first | apply And.intro | exact ⟨by kernel_rfl⟩ | apply DrawN.mk | apply CodeN.step hm rfl | exact trivial | exact rfl | (intro hh; try simp only [bs] at hh; try exact absurd hh (by decide)))); all_goals (conv => whnf); all_goals try exact ⟨by decide⟩)
  (refine RetN.q () [] ?_ ?_ ?_ <;> (repeat' ((conv => whnf) <;> first | exact rfl | exact trivial | apply And.intro | exact Nat.zero_add _)); all_goals ((conv => whnf); try simp only []))
theorem lask1 (p : Pol) (c : Cell) (t w : Int) (k : p.1 = 1) (hc : -9223372036854775808 ≤ c.2.1 ∧ c.2.1 ≤ 9223372036854775807) : Meets Try.prog 129 [.agg [.fn (.func 42) [] [], .fn (.func 43) [] [], .fn (.func 44) [] []], polAV p, cellAV c, .int .i64 fun _ => t, .int .i64 fun _ => w] [] (Y := Unit) (fun _ => True) (fun _ => .tup [cellAV (askC p c t w).1, verAV (askC p c t w).2]) (fun _ => []) := by
  refine Meets.intro hm (fn := Try.f129) Try.func129 rfl (by decide) (Nat.le_of_ble_eq_true rfl) (fun _ => rfl) ?_; intro S hok; (conv => whnf)
  (repeat' ((conv => whnf); first | apply And.intro | exact ⟨by kernel_rfl⟩ | apply DrawN.mk | apply CodeN.step hm rfl | exact trivial | exact rfl | (intro hh; try simp only [bs] at hh))); all_goals (conv => whnf)
  (refine CallN.q (gaskM p c t w k hc) [] (fun _ _ => ?_); (repeat' ((conv => whnf); first | apply And.intro | exact ⟨by kernel_rfl⟩ | apply DrawN.mk | apply CodeN.step hm rfl | exact trivial | exact rfl | (intro hh; try simp only [bs] at hh; try exact absurd hh (by decide)))); all_goals (conv => whnf); all_goals try exact ⟨by decide⟩)
  (refine RetN.q () [] ?_ ?_ ?_ <;> (repeat' ((conv => whnf) <;> first | exact rfl | exact trivial | apply And.intro | exact Nat.zero_add _)); all_goals ((conv => whnf); try simp only []))
theorem lends1 (p : Pol) (c : Cell) (k : p.1 = 1) (hc : -9223372036854775808 ≤ c.2.1 ∧ c.2.1 ≤ 9223372036854775807) : Meets Try.prog 130 [.agg [.fn (.func 42) [] [], .fn (.func 43) [] [], .fn (.func 44) [] []], polAV p, cellAV c] [] (Y := Unit) (fun _ => True) (fun _ => .int .i64 fun _ => endsC p c) (fun _ => []) := by
  refine Meets.intro hm (fn := Try.f130) Try.func130 rfl (by decide) (Nat.le_of_ble_eq_true rfl) (fun _ => rfl) ?_; intro S hok; (conv => whnf)
  (repeat' ((conv => whnf); first | apply And.intro | exact ⟨by kernel_rfl⟩ | apply DrawN.mk | apply CodeN.step hm rfl | exact trivial | exact rfl | (intro hh; try simp only [bs] at hh))); all_goals (conv => whnf)
  (refine CallN.q (gendsM p c k hc) [] (fun _ _ => ?_); (repeat' ((conv => whnf); first | apply And.intro | exact ⟨by kernel_rfl⟩ | apply DrawN.mk | apply CodeN.step hm rfl | exact trivial | exact rfl | (intro hh; try simp only [bs] at hh; try exact absurd hh (by decide)))); all_goals (conv => whnf); all_goals try exact ⟨by decide⟩)
  (refine RetN.q () [] ?_ ?_ ?_ <;> (repeat' ((conv => whnf) <;> first | exact rfl | exact trivial | apply And.intro | exact Nat.zero_add _)); all_goals ((conv => whnf); try simp only []))
theorem of2 (p : Pol) (k : p.1 = 2) : Meets Try.prog 27 [polAV p] [] (Y := Unit) (fun _ => True) (fun _ => .ifc 77 (.agg [.fn (.func 45) [] [], .fn (.func 46) [] [], .fn (.func 47) [] []])) (fun _ => []) := by
  refine Meets.intro hm (fn := Try.f27) Try.func27 rfl (by decide) (Nat.le_of_ble_eq_true rfl) (fun _ => rfl) ?_; intro S hok; (conv => whnf)
  (repeat' ((conv => whnf); first | apply And.intro | exact ⟨by kernel_rfl⟩ | apply DrawN.mk | apply CodeN.step hm rfl | exact trivial | exact rfl | (intro hh; try simp only [bs] at hh))); all_goals (conv => whnf)
  all_goals first | (exfalso; omega) | skip
  (refine RetN.q () [] ?_ ?_ ?_ <;> (repeat' ((conv => whnf) <;> first | exact rfl | exact trivial | apply And.intro | exact Nat.zero_add _)); all_goals ((conv => whnf); try simp only []))
theorem lmay2 (p : Pol) (c : Cell) (k : p.1 = 2) : Meets Try.prog 131 [.agg [.fn (.func 45) [] [], .fn (.func 46) [] [], .fn (.func 47) [] []], polAV p, cellAV c] [] (Y := Unit) (fun _ => True) (fun _ => .bool fun _ => mayC p c) (fun _ => []) := by
  refine Meets.intro hm (fn := Try.f131) Try.func131 rfl (by decide) (Nat.le_of_ble_eq_true rfl) (fun _ => rfl) ?_; intro S hok; (conv => whnf)
  (repeat' ((conv => whnf); first | apply And.intro | exact ⟨by kernel_rfl⟩ | apply DrawN.mk | apply CodeN.step hm rfl | exact trivial | exact rfl | (intro hh; try simp only [bs] at hh))); all_goals (conv => whnf)
  (refine CallN.q (fmayM p c k) [] (fun _ _ => ?_); (repeat' ((conv => whnf); first | apply And.intro | exact ⟨by kernel_rfl⟩ | apply DrawN.mk | apply CodeN.step hm rfl | exact trivial | exact rfl | (intro hh; try simp only [bs] at hh; try exact absurd hh (by decide)))); all_goals (conv => whnf); all_goals try exact ⟨by decide⟩)
  (refine RetN.q () [] ?_ ?_ ?_ <;> (repeat' ((conv => whnf) <;> first | exact rfl | exact trivial | apply And.intro | exact Nat.zero_add _)); all_goals ((conv => whnf); try simp only []))
theorem lask2 (p : Pol) (c : Cell) (t w : Int) (k : p.1 = 2) : Meets Try.prog 129 [.agg [.fn (.func 45) [] [], .fn (.func 46) [] [], .fn (.func 47) [] []], polAV p, cellAV c, .int .i64 fun _ => t, .int .i64 fun _ => w] [] (Y := Unit) (fun _ => True) (fun _ => .tup [cellAV (askC p c t w).1, verAV (askC p c t w).2]) (fun _ => []) := by
  refine Meets.intro hm (fn := Try.f129) Try.func129 rfl (by decide) (Nat.le_of_ble_eq_true rfl) (fun _ => rfl) ?_; intro S hok; (conv => whnf)
  (repeat' ((conv => whnf); first | apply And.intro | exact ⟨by kernel_rfl⟩ | apply DrawN.mk | apply CodeN.step hm rfl | exact trivial | exact rfl | (intro hh; try simp only [bs] at hh))); all_goals (conv => whnf)
  (refine CallN.q (faskM p c t w k) [] (fun _ _ => ?_); (repeat' ((conv => whnf); first | apply And.intro | exact ⟨by kernel_rfl⟩ | apply DrawN.mk | apply CodeN.step hm rfl | exact trivial | exact rfl | (intro hh; try simp only [bs] at hh; try exact absurd hh (by decide)))); all_goals (conv => whnf); all_goals try exact ⟨by decide⟩)
  (refine RetN.q () [] ?_ ?_ ?_ <;> (repeat' ((conv => whnf) <;> first | exact rfl | exact trivial | apply And.intro | exact Nat.zero_add _)); all_goals ((conv => whnf); try simp only []))
theorem lends2 (p : Pol) (c : Cell) (k : p.1 = 2) : Meets Try.prog 130 [.agg [.fn (.func 45) [] [], .fn (.func 46) [] [], .fn (.func 47) [] []], polAV p, cellAV c] [] (Y := Unit) (fun _ => True) (fun _ => .int .i64 fun _ => endsC p c) (fun _ => []) := by
  refine Meets.intro hm (fn := Try.f130) Try.func130 rfl (by decide) (Nat.le_of_ble_eq_true rfl) (fun _ => rfl) ?_; intro S hok; (conv => whnf)
  (repeat' ((conv => whnf); first | apply And.intro | exact ⟨by kernel_rfl⟩ | apply DrawN.mk | apply CodeN.step hm rfl | exact trivial | exact rfl | (intro hh; try simp only [bs] at hh))); all_goals (conv => whnf)
  (refine CallN.q (fendsM p c k) [] (fun _ _ => ?_); (repeat' ((conv => whnf); first | apply And.intro | exact ⟨by kernel_rfl⟩ | apply DrawN.mk | apply CodeN.step hm rfl | exact trivial | exact rfl | (intro hh; try simp only [bs] at hh; try exact absurd hh (by decide)))); all_goals (conv => whnf); all_goals try exact ⟨by decide⟩)
  (refine RetN.q () [] ?_ ?_ ?_ <;> (repeat' ((conv => whnf) <;> first | exact rfl | exact trivial | apply And.intro | exact Nat.zero_add _)); all_goals ((conv => whnf); try simp only []))
theorem of3 (p : Pol) (k : p.1 = 3) : Meets Try.prog 27 [polAV p] [] (Y := Unit) (fun _ => True) (fun _ => .ifc 77 (.agg [.fn (.func 48) [] [], .fn (.func 49) [] [], .fn (.func 50) [] []])) (fun _ => []) := by
  refine Meets.intro hm (fn := Try.f27) Try.func27 rfl (by decide) (Nat.le_of_ble_eq_true rfl) (fun _ => rfl) ?_; intro S hok; (conv => whnf)
  (repeat' ((conv => whnf); first | apply And.intro | exact ⟨by kernel_rfl⟩ | apply DrawN.mk | apply CodeN.step hm rfl | exact trivial | exact rfl | (intro hh; try simp only [bs] at hh))); all_goals (conv => whnf)
  all_goals first | (exfalso; omega) | skip
  (refine RetN.q () [] ?_ ?_ ?_ <;> (repeat' ((conv => whnf) <;> first | exact rfl | exact trivial | apply And.intro | exact Nat.zero_add _)); all_goals ((conv => whnf); try simp only []))
theorem lmay3 (p : Pol) (c : Cell) (k : p.1 = 3) : Meets Try.prog 131 [.agg [.fn (.func 48) [] [], .fn (.func 49) [] [], .fn (.func 50) [] []], polAV p, cellAV c] [] (Y := Unit) (fun _ => True) (fun _ => .bool fun _ => mayC p c) (fun _ => []) := by
  refine Meets.intro hm (fn := Try.f131) Try.func131 rfl (by decide) (Nat.le_of_ble_eq_true rfl) (fun _ => rfl) ?_; intro S hok; (conv => whnf)
  (repeat' ((conv => whnf); first | apply And.intro | exact ⟨by kernel_rfl⟩ | apply DrawN.mk | apply CodeN.step hm rfl | exact trivial | exact rfl | (intro hh; try simp only [bs] at hh))); all_goals (conv => whnf)
  (refine CallN.q (rmayM p c k) [] (fun _ _ => ?_); (repeat' ((conv => whnf); first | apply And.intro | exact ⟨by kernel_rfl⟩ | apply DrawN.mk | apply CodeN.step hm rfl | exact trivial | exact rfl | (intro hh; try simp only [bs] at hh; try exact absurd hh (by decide)))); all_goals (conv => whnf); all_goals try exact ⟨by decide⟩)
  (refine RetN.q () [] ?_ ?_ ?_ <;> (repeat' ((conv => whnf) <;> first | exact rfl | exact trivial | apply And.intro | exact Nat.zero_add _)); all_goals ((conv => whnf); try simp only []))
theorem lask3 (p : Pol) (c : Cell) (t w : Int) (k : p.1 = 3) : Meets Try.prog 129 [.agg [.fn (.func 48) [] [], .fn (.func 49) [] [], .fn (.func 50) [] []], polAV p, cellAV c, .int .i64 fun _ => t, .int .i64 fun _ => w] [] (Y := Unit) (fun _ => True) (fun _ => .tup [cellAV (askC p c t w).1, verAV (askC p c t w).2]) (fun _ => []) := by
  refine Meets.intro hm (fn := Try.f129) Try.func129 rfl (by decide) (Nat.le_of_ble_eq_true rfl) (fun _ => rfl) ?_; intro S hok; (conv => whnf)
  (repeat' ((conv => whnf); first | apply And.intro | exact ⟨by kernel_rfl⟩ | apply DrawN.mk | apply CodeN.step hm rfl | exact trivial | exact rfl | (intro hh; try simp only [bs] at hh))); all_goals (conv => whnf)
  (refine CallN.q (raskM p c t w k) [] (fun _ _ => ?_); (repeat' ((conv => whnf); first | apply And.intro | exact ⟨by kernel_rfl⟩ | apply DrawN.mk | apply CodeN.step hm rfl | exact trivial | exact rfl | (intro hh; try simp only [bs] at hh; try exact absurd hh (by decide)))); all_goals (conv => whnf); all_goals try exact ⟨by decide⟩)
  (refine RetN.q () [] ?_ ?_ ?_ <;> (repeat' ((conv => whnf) <;> first | exact rfl | exact trivial | apply And.intro | exact Nat.zero_add _)); all_goals ((conv => whnf); try simp only []))
theorem lends3 (p : Pol) (c : Cell) (k : p.1 = 3) : Meets Try.prog 130 [.agg [.fn (.func 48) [] [], .fn (.func 49) [] [], .fn (.func 50) [] []], polAV p, cellAV c] [] (Y := Unit) (fun _ => True) (fun _ => .int .i64 fun _ => endsC p c) (fun _ => []) := by
  refine Meets.intro hm (fn := Try.f130) Try.func130 rfl (by decide) (Nat.le_of_ble_eq_true rfl) (fun _ => rfl) ?_; intro S hok; (conv => whnf)
  (repeat' ((conv => whnf); first | apply And.intro | exact ⟨by kernel_rfl⟩ | apply DrawN.mk | apply CodeN.step hm rfl | exact trivial | exact rfl | (intro hh; try simp only [bs] at hh))); all_goals (conv => whnf)
  (refine CallN.q (rendsM p c k) [] (fun _ _ => ?_); (repeat' ((conv => whnf); first | apply And.intro | exact ⟨by kernel_rfl⟩ | apply DrawN.mk | apply CodeN.step hm rfl | exact trivial | exact rfl | (intro hh; try simp only [bs] at hh; try exact absurd hh (by decide)))); all_goals (conv => whnf); all_goals try exact ⟨by decide⟩)
  (refine RetN.q () [] ?_ ?_ ?_ <;> (repeat' ((conv => whnf) <;> first | exact rfl | exact trivial | apply And.intro | exact Nat.zero_add _)); all_goals ((conv => whnf); try simp only []))
theorem of4 (p : Pol) (k : p.1 = 4) : Meets Try.prog 27 [polAV p] [] (Y := Unit) (fun _ => True) (fun _ => .ifc 77 (.agg [.fn (.func 51) [] [], .fn (.func 52) [] [], .fn (.func 53) [] []])) (fun _ => []) := by
  refine Meets.intro hm (fn := Try.f27) Try.func27 rfl (by decide) (Nat.le_of_ble_eq_true rfl) (fun _ => rfl) ?_; intro S hok; (conv => whnf)
  (repeat' ((conv => whnf); first | apply And.intro | exact ⟨by kernel_rfl⟩ | apply DrawN.mk | apply CodeN.step hm rfl | exact trivial | exact rfl | (intro hh; try simp only [bs] at hh))); all_goals (conv => whnf)
  all_goals first | (exfalso; omega) | skip
  (refine RetN.q () [] ?_ ?_ ?_ <;> (repeat' ((conv => whnf) <;> first | exact rfl | exact trivial | apply And.intro | exact Nat.zero_add _)); all_goals ((conv => whnf); try simp only []))
theorem lmay4 (p : Pol) (c : Cell) (k : p.1 = 4) : Meets Try.prog 131 [.agg [.fn (.func 51) [] [], .fn (.func 52) [] [], .fn (.func 53) [] []], polAV p, cellAV c] [] (Y := Unit) (fun _ => True) (fun _ => .bool fun _ => mayC p c) (fun _ => []) := by
  refine Meets.intro hm (fn := Try.f131) Try.func131 rfl (by decide) (Nat.le_of_ble_eq_true rfl) (fun _ => rfl) ?_; intro S hok; (conv => whnf)
  (repeat' ((conv => whnf); first | apply And.intro | exact ⟨by kernel_rfl⟩ | apply DrawN.mk | apply CodeN.step hm rfl | exact trivial | exact rfl | (intro hh; try simp only [bs] at hh))); all_goals (conv => whnf)
  (refine CallN.q (emayM p c k) [] (fun _ _ => ?_); (repeat' ((conv => whnf); first | apply And.intro | exact ⟨by kernel_rfl⟩ | apply DrawN.mk | apply CodeN.step hm rfl | exact trivial | exact rfl | (intro hh; try simp only [bs] at hh; try exact absurd hh (by decide)))); all_goals (conv => whnf); all_goals try exact ⟨by decide⟩)
  (refine RetN.q () [] ?_ ?_ ?_ <;> (repeat' ((conv => whnf) <;> first | exact rfl | exact trivial | apply And.intro | exact Nat.zero_add _)); all_goals ((conv => whnf); try simp only []))
theorem lask4 (p : Pol) (c : Cell) (t w : Int) (k : p.1 = 4) : Meets Try.prog 129 [.agg [.fn (.func 51) [] [], .fn (.func 52) [] [], .fn (.func 53) [] []], polAV p, cellAV c, .int .i64 fun _ => t, .int .i64 fun _ => w] [] (Y := Unit) (fun _ => True) (fun _ => .tup [cellAV (askC p c t w).1, verAV (askC p c t w).2]) (fun _ => []) := by
  refine Meets.intro hm (fn := Try.f129) Try.func129 rfl (by decide) (Nat.le_of_ble_eq_true rfl) (fun _ => rfl) ?_; intro S hok; (conv => whnf)
  (repeat' ((conv => whnf); first | apply And.intro | exact ⟨by kernel_rfl⟩ | apply DrawN.mk | apply CodeN.step hm rfl | exact trivial | exact rfl | (intro hh; try simp only [bs] at hh))); all_goals (conv => whnf)
  (refine CallN.q (easkM p c t w k) [] (fun _ _ => ?_); (repeat' ((conv => whnf); first | apply And.intro | exact ⟨by kernel_rfl⟩ | apply DrawN.mk | apply CodeN.step hm rfl | exact trivial | exact rfl | (intro hh; try simp only [bs] at hh; try exact absurd hh (by decide)))); all_goals (conv => whnf); all_goals try exact ⟨by decide⟩)
  (refine RetN.q () [] ?_ ?_ ?_ <;> (repeat' ((conv => whnf) <;> first | exact rfl | exact trivial | apply And.intro | exact Nat.zero_add _)); all_goals ((conv => whnf); try simp only []))
theorem lends4 (p : Pol) (c : Cell) (k : p.1 = 4) : Meets Try.prog 130 [.agg [.fn (.func 51) [] [], .fn (.func 52) [] [], .fn (.func 53) [] []], polAV p, cellAV c] [] (Y := Unit) (fun _ => True) (fun _ => .int .i64 fun _ => endsC p c) (fun _ => []) := by
  refine Meets.intro hm (fn := Try.f130) Try.func130 rfl (by decide) (Nat.le_of_ble_eq_true rfl) (fun _ => rfl) ?_; intro S hok; (conv => whnf)
  (repeat' ((conv => whnf); first | apply And.intro | exact ⟨by kernel_rfl⟩ | apply DrawN.mk | apply CodeN.step hm rfl | exact trivial | exact rfl | (intro hh; try simp only [bs] at hh))); all_goals (conv => whnf)
  (refine CallN.q (eendsM p c k) [] (fun _ _ => ?_); (repeat' ((conv => whnf); first | apply And.intro | exact ⟨by kernel_rfl⟩ | apply DrawN.mk | apply CodeN.step hm rfl | exact trivial | exact rfl | (intro hh; try simp only [bs] at hh; try exact absurd hh (by decide)))); all_goals (conv => whnf); all_goals try exact ⟨by decide⟩)
  (refine RetN.q () [] ?_ ?_ ?_ <;> (repeat' ((conv => whnf) <;> first | exact rfl | exact trivial | apply And.intro | exact Nat.zero_add _)); all_goals ((conv => whnf); try simp only []))
theorem ofN (p : Pol) (h1 : p.1 ≠ 1) (h2 : p.1 ≠ 2) (h3 : p.1 ≠ 3) (h4 : p.1 ≠ 4) : Meets Try.prog 27 [polAV p] [] (Y := Unit) (fun _ => True) (fun _ => .ifc 81 (.agg [])) (fun _ => []) := by
  refine Meets.intro hm (fn := Try.f27) Try.func27 rfl (by decide) (Nat.le_of_ble_eq_true rfl) (fun _ => rfl) ?_; intro S hok; (conv => whnf)
  (repeat' ((conv => whnf); first | apply And.intro | exact ⟨by kernel_rfl⟩ | apply DrawN.mk | apply CodeN.step hm rfl | exact trivial | exact rfl | (intro hh; try simp only [bs] at hh))); all_goals (conv => whnf)
  all_goals first | (exfalso; omega) | skip
  (refine RetN.q () [] ?_ ?_ ?_ <;> (repeat' ((conv => whnf) <;> first | exact rfl | exact trivial | apply And.intro | exact Nat.zero_add _)); all_goals ((conv => whnf); try simp only []))
theorem mayN (p : Pol) (c : Cell) : Meets Try.prog 134 [.agg [], polAV p, cellAV c] [] (Y := Unit) (fun _ => True) (fun _ => .ff) (fun _ => []) := by
  refine Meets.intro hm (fn := Try.f134) Try.func134 rfl (by decide) (Nat.le_of_ble_eq_true rfl) (fun _ => rfl) ?_; intro S hok; (conv => whnf)
  (repeat' ((conv => whnf); first | apply And.intro | exact ⟨by kernel_rfl⟩ | apply DrawN.mk | apply CodeN.step hm rfl | exact trivial | exact rfl | (intro hh; try simp only [bs] at hh))); all_goals (conv => whnf)
  (refine RetN.q () [] ?_ ?_ ?_ <;> (repeat' ((conv => whnf) <;> first | exact rfl | exact trivial | apply And.intro | exact Nat.zero_add _)); all_goals ((conv => whnf); try simp only []))
theorem askN (p : Pol) (c : Cell) (t w : Int) : Meets Try.prog 132 [.agg [], polAV p, cellAV c, .int .i64 fun _ => t, .int .i64 fun _ => w] [] (Y := Unit) (fun _ => True) (fun _ => .tup [cellAV c, verAV zeroV]) (fun _ => []) := by
  refine Meets.intro hm (fn := Try.f132) Try.func132 rfl (by decide) (Nat.le_of_ble_eq_true rfl) (fun _ => rfl) ?_; intro S hok; (conv => whnf)
  (repeat' ((conv => whnf); first | apply And.intro | exact ⟨by kernel_rfl⟩ | apply DrawN.mk | apply CodeN.step hm rfl | exact trivial | exact rfl | (intro hh; try simp only [bs] at hh))); all_goals (conv => whnf)
  (refine RetN.q () [] ?_ ?_ ?_ <;> (repeat' ((conv => whnf) <;> first | exact rfl | exact trivial | apply And.intro | exact Nat.zero_add _)); all_goals ((conv => whnf); try simp only []))
theorem endsN (p : Pol) (c : Cell) : Meets Try.prog 133 [.agg [], polAV p, cellAV c] [] (Y := Unit) (fun _ => True) (fun _ => .int .i64 fun _ => 0) (fun _ => []) := by
  refine Meets.intro hm (fn := Try.f133) Try.func133 rfl (by decide) (Nat.le_of_ble_eq_true rfl) (fun _ => rfl) ?_; intro S hok; (conv => whnf)
  (repeat' ((conv => whnf); first | apply And.intro | exact ⟨by kernel_rfl⟩ | apply DrawN.mk | apply CodeN.step hm rfl | exact trivial | exact rfl | (intro hh; try simp only [bs] at hh))); all_goals (conv => whnf)
  (refine RetN.q () [] ?_ ?_ ?_ <;> (repeat' ((conv => whnf) <;> first | exact rfl | exact trivial | apply And.intro | exact Nat.zero_add _)); all_goals ((conv => whnf); try simp only []))
theorem cmayM (p : Pol) (c : Cell) (hc : -9223372036854775808 ≤ c.2.1 ∧ c.2.1 ≤ 9223372036854775807) : Meets Try.prog 19 [polAV p, cellAV c] [] (Y := Unit) (fun _ => True) (fun _ => .bool fun _ => mayC p c) (fun _ => []) := by
  by_cases k1 : p.1 = 1
  · refine Meets.intro hm (fn := Try.f19) Try.func19 rfl (by decide) (Nat.le_of_ble_eq_true rfl) (fun _ => rfl) ?_; intro S hok; (conv => whnf)
    (repeat' ((conv => whnf); first | apply And.intro | exact ⟨by kernel_rfl⟩ | apply DrawN.mk | apply CodeN.step hm rfl | exact trivial | exact rfl | (intro hh; try simp only [bs] at hh))); all_goals (conv => whnf)
    (refine CallN.q (of1 p k1) [] (fun _ _ => ?_); (repeat' ((conv => whnf); first | apply And.intro | exact ⟨by kernel_rfl⟩ | apply DrawN.mk | apply CodeN.step hm rfl | exact trivial | exact rfl | (intro hh; try simp only [bs] at hh; try exact absurd hh (by decide)))); all_goals (conv => whnf); all_goals try exact ⟨by decide⟩)
    refine InvN.intro 131 (by kernel_rfl) ?_
    (refine CallN.q (lmay1 p c k1 hc) [] (fun _ _ => ?_); (repeat' ((conv => whnf); first | apply And.intro | exact ⟨by kernel_rfl⟩ | apply DrawN.mk | apply CodeN.step hm rfl | exact trivial | exact rfl | (intro hh; try simp only [bs] at hh; try exact absurd hh (by decide)))); all_goals (conv => whnf); all_goals try exact ⟨by decide⟩)
    (refine RetN.q () [] ?_ ?_ ?_ <;> (repeat' ((conv => whnf) <;> first | exact rfl | exact trivial | apply And.intro | exact Nat.zero_add _)); all_goals ((conv => whnf); try simp only []))
  by_cases k2 : p.1 = 2
  · refine Meets.intro hm (fn := Try.f19) Try.func19 rfl (by decide) (Nat.le_of_ble_eq_true rfl) (fun _ => rfl) ?_; intro S hok; (conv => whnf)
    (repeat' ((conv => whnf); first | apply And.intro | exact ⟨by kernel_rfl⟩ | apply DrawN.mk | apply CodeN.step hm rfl | exact trivial | exact rfl | (intro hh; try simp only [bs] at hh))); all_goals (conv => whnf)
    (refine CallN.q (of2 p k2) [] (fun _ _ => ?_); (repeat' ((conv => whnf); first | apply And.intro | exact ⟨by kernel_rfl⟩ | apply DrawN.mk | apply CodeN.step hm rfl | exact trivial | exact rfl | (intro hh; try simp only [bs] at hh; try exact absurd hh (by decide)))); all_goals (conv => whnf); all_goals try exact ⟨by decide⟩)
    refine InvN.intro 131 (by kernel_rfl) ?_
    (refine CallN.q (lmay2 p c k2) [] (fun _ _ => ?_); (repeat' ((conv => whnf); first | apply And.intro | exact ⟨by kernel_rfl⟩ | apply DrawN.mk | apply CodeN.step hm rfl | exact trivial | exact rfl | (intro hh; try simp only [bs] at hh; try exact absurd hh (by decide)))); all_goals (conv => whnf); all_goals try exact ⟨by decide⟩)
    (refine RetN.q () [] ?_ ?_ ?_ <;> (repeat' ((conv => whnf) <;> first | exact rfl | exact trivial | apply And.intro | exact Nat.zero_add _)); all_goals ((conv => whnf); try simp only []))
  by_cases k3 : p.1 = 3
  · refine Meets.intro hm (fn := Try.f19) Try.func19 rfl (by decide) (Nat.le_of_ble_eq_true rfl) (fun _ => rfl) ?_; intro S hok; (conv => whnf)
    (repeat' ((conv => whnf); first | apply And.intro | exact ⟨by kernel_rfl⟩ | apply DrawN.mk | apply CodeN.step hm rfl | exact trivial | exact rfl | (intro hh; try simp only [bs] at hh))); all_goals (conv => whnf)
    (refine CallN.q (of3 p k3) [] (fun _ _ => ?_); (repeat' ((conv => whnf); first | apply And.intro | exact ⟨by kernel_rfl⟩ | apply DrawN.mk | apply CodeN.step hm rfl | exact trivial | exact rfl | (intro hh; try simp only [bs] at hh; try exact absurd hh (by decide)))); all_goals (conv => whnf); all_goals try exact ⟨by decide⟩)
    refine InvN.intro 131 (by kernel_rfl) ?_
    (refine CallN.q (lmay3 p c k3) [] (fun _ _ => ?_); (repeat' ((conv => whnf); first | apply And.intro | exact ⟨by kernel_rfl⟩ | apply DrawN.mk | apply CodeN.step hm rfl | exact trivial | exact rfl | (intro hh; try simp only [bs] at hh; try exact absurd hh (by decide)))); all_goals (conv => whnf); all_goals try exact ⟨by decide⟩)
    (refine RetN.q () [] ?_ ?_ ?_ <;> (repeat' ((conv => whnf) <;> first | exact rfl | exact trivial | apply And.intro | exact Nat.zero_add _)); all_goals ((conv => whnf); try simp only []))
  by_cases k4 : p.1 = 4
  · refine Meets.intro hm (fn := Try.f19) Try.func19 rfl (by decide) (Nat.le_of_ble_eq_true rfl) (fun _ => rfl) ?_; intro S hok; (conv => whnf)
    (repeat' ((conv => whnf); first | apply And.intro | exact ⟨by kernel_rfl⟩ | apply DrawN.mk | apply CodeN.step hm rfl | exact trivial | exact rfl | (intro hh; try simp only [bs] at hh))); all_goals (conv => whnf)
    (refine CallN.q (of4 p k4) [] (fun _ _ => ?_); (repeat' ((conv => whnf); first | apply And.intro | exact ⟨by kernel_rfl⟩ | apply DrawN.mk | apply CodeN.step hm rfl | exact trivial | exact rfl | (intro hh; try simp only [bs] at hh; try exact absurd hh (by decide)))); all_goals (conv => whnf); all_goals try exact ⟨by decide⟩)
    refine InvN.intro 131 (by kernel_rfl) ?_
    (refine CallN.q (lmay4 p c k4) [] (fun _ _ => ?_); (repeat' ((conv => whnf); first | apply And.intro | exact ⟨by kernel_rfl⟩ | apply DrawN.mk | apply CodeN.step hm rfl | exact trivial | exact rfl | (intro hh; try simp only [bs] at hh; try exact absurd hh (by decide)))); all_goals (conv => whnf); all_goals try exact ⟨by decide⟩)
    (refine RetN.q () [] ?_ ?_ ?_ <;> (repeat' ((conv => whnf) <;> first | exact rfl | exact trivial | apply And.intro | exact Nat.zero_add _)); all_goals ((conv => whnf); try simp only []))
  have hno : ¬ PolOk p := fun hp => by have := kind_of hp; omega
  have hmf : mayC p c = false := by unfold mayC; rw [decide_eq_false hno]; rfl
  
  refine Meets.intro hm (fn := Try.f19) Try.func19 rfl (by decide) (Nat.le_of_ble_eq_true rfl) (fun _ => rfl) ?_; intro S hok; (conv => whnf)
  (repeat' ((conv => whnf); first | apply And.intro | exact ⟨by kernel_rfl⟩ | apply DrawN.mk | apply CodeN.step hm rfl | exact trivial | exact rfl | (intro hh; try simp only [bs] at hh))); all_goals (conv => whnf)
  (refine CallN.q (ofN p k1 k2 k3 k4) [] (fun _ _ => ?_); (repeat' ((conv => whnf); first | apply And.intro | exact ⟨by kernel_rfl⟩ | apply DrawN.mk | apply CodeN.step hm rfl | exact trivial | exact rfl | (intro hh; try simp only [bs] at hh; try exact absurd hh (by decide)))); all_goals (conv => whnf); all_goals try exact ⟨by decide⟩)
  refine InvN.intro 134 (by kernel_rfl) ?_
  (refine CallN.q (mayN p c) [] (fun _ _ => ?_); (repeat' ((conv => whnf); first | apply And.intro | exact ⟨by kernel_rfl⟩ | apply DrawN.mk | apply CodeN.step hm rfl | exact trivial | exact rfl | (intro hh; try simp only [bs] at hh; try exact absurd hh (by decide)))); all_goals (conv => whnf); all_goals try exact ⟨by decide⟩)
  (refine RetN.q () [] ?_ ?_ ?_ <;> (repeat' ((conv => whnf) <;> first | exact rfl | exact trivial | apply And.intro | exact Nat.zero_add _)); all_goals ((conv => whnf); try simp only []))
  all_goals first | exact hmf | rw [ha]
theorem caskM (p : Pol) (c : Cell) (t w : Int) (hc : -9223372036854775808 ≤ c.2.1 ∧ c.2.1 ≤ 9223372036854775807) : Meets Try.prog 12 [polAV p, cellAV c, .int .i64 fun _ => t, .int .i64 fun _ => w] [] (Y := Unit) (fun _ => True) (fun _ => .tup [cellAV (askC p c t w).1, verAV (askC p c t w).2]) (fun _ => []) := by
  by_cases k1 : p.1 = 1
  · refine Meets.intro hm (fn := Try.f12) Try.func12 rfl (by decide) (Nat.le_of_ble_eq_true rfl) (fun _ => rfl) ?_; intro S hok; (conv => whnf)
    (repeat' ((conv => whnf); first | apply And.intro | exact ⟨by kernel_rfl⟩ | apply DrawN.mk | apply CodeN.step hm rfl | exact trivial | exact rfl | (intro hh; try simp only [bs] at hh))); all_goals (conv => whnf)
    (refine CallN.q (of1 p k1) [] (fun _ _ => ?_); (repeat' ((conv => whnf); first | apply And.intro | exact ⟨by kernel_rfl⟩ | apply DrawN.mk | apply CodeN.step hm rfl | exact trivial | exact rfl | (intro hh; try simp only [bs] at hh; try exact absurd hh (by decide)))); all_goals (conv => whnf); all_goals try exact ⟨by decide⟩)
    refine InvN.intro 129 (by kernel_rfl) ?_
    (refine CallN.q (lask1 p c t w k1 hc) [] (fun _ _ => ?_); (repeat' ((conv => whnf); first | apply And.intro | exact ⟨by kernel_rfl⟩ | apply DrawN.mk | apply CodeN.step hm rfl | exact trivial | exact rfl | (intro hh; try simp only [bs] at hh; try exact absurd hh (by decide)))); all_goals (conv => whnf); all_goals try exact ⟨by decide⟩)
    (refine RetN.q () [] ?_ ?_ ?_ <;> (repeat' ((conv => whnf) <;> first | exact rfl | exact trivial | apply And.intro | exact Nat.zero_add _)); all_goals ((conv => whnf); try simp only []))
  by_cases k2 : p.1 = 2
  · refine Meets.intro hm (fn := Try.f12) Try.func12 rfl (by decide) (Nat.le_of_ble_eq_true rfl) (fun _ => rfl) ?_; intro S hok; (conv => whnf)
    (repeat' ((conv => whnf); first | apply And.intro | exact ⟨by kernel_rfl⟩ | apply DrawN.mk | apply CodeN.step hm rfl | exact trivial | exact rfl | (intro hh; try simp only [bs] at hh))); all_goals (conv => whnf)
    (refine CallN.q (of2 p k2) [] (fun _ _ => ?_); (repeat' ((conv => whnf); first | apply And.intro | exact ⟨by kernel_rfl⟩ | apply DrawN.mk | apply CodeN.step hm rfl | exact trivial | exact rfl | (intro hh; try simp only [bs] at hh; try exact absurd hh (by decide)))); all_goals (conv => whnf); all_goals try exact ⟨by decide⟩)
    refine InvN.intro 129 (by kernel_rfl) ?_
    (refine CallN.q (lask2 p c t w k2) [] (fun _ _ => ?_); (repeat' ((conv => whnf); first | apply And.intro | exact ⟨by kernel_rfl⟩ | apply DrawN.mk | apply CodeN.step hm rfl | exact trivial | exact rfl | (intro hh; try simp only [bs] at hh; try exact absurd hh (by decide)))); all_goals (conv => whnf); all_goals try exact ⟨by decide⟩)
    (refine RetN.q () [] ?_ ?_ ?_ <;> (repeat' ((conv => whnf) <;> first | exact rfl | exact trivial | apply And.intro | exact Nat.zero_add _)); all_goals ((conv => whnf); try simp only []))
  by_cases k3 : p.1 = 3
  · refine Meets.intro hm (fn := Try.f12) Try.func12 rfl (by decide) (Nat.le_of_ble_eq_true rfl) (fun _ => rfl) ?_; intro S hok; (conv => whnf)
    (repeat' ((conv => whnf); first | apply And.intro | exact ⟨by kernel_rfl⟩ | apply DrawN.mk | apply CodeN.step hm rfl | exact trivial | exact rfl | (intro hh; try simp only [bs] at hh))); all_goals (conv => whnf)
    (refine CallN.q (of3 p k3) [] (fun _ _ => ?_); (repeat' ((conv => whnf); first | apply And.intro | exact ⟨by kernel_rfl⟩ | apply DrawN.mk | apply CodeN.step hm rfl | exact trivial | exact rfl | (intro hh; try simp only [bs] at hh; try exact absurd hh (by decide)))); all_goals (conv => whnf); all_goals try exact ⟨by decide⟩)
    refine InvN.intro 129 (by kernel_rfl) ?_
    (refine CallN.q (lask3 p c t w k3) [] (fun _ _ => ?_); (repeat' ((conv => whnf); first | apply And.intro | exact ⟨by kernel_rfl⟩ | apply DrawN.mk | apply CodeN.step hm rfl | exact trivial | exact rfl | (intro hh; try simp only [bs] at hh; try exact absurd hh (by decide)))); all_goals (conv => whnf); all_goals try exact ⟨by decide⟩)
    (refine RetN.q () [] ?_ ?_ ?_ <;> (repeat' ((conv => whnf) <;> first | exact rfl | exact trivial | apply And.intro | exact Nat.zero_add _)); all_goals ((conv => whnf); try simp only []))
  by_cases k4 : p.1 = 4
  · refine Meets.intro hm (fn := Try.f12) Try.func12 rfl (by decide) (Nat.le_of_ble_eq_true rfl) (fun _ => rfl) ?_; intro S hok; (conv => whnf)
    (repeat' ((conv => whnf); first | apply And.intro | exact ⟨by kernel_rfl⟩ | apply DrawN.mk | apply CodeN.step hm rfl | exact trivial | exact rfl | (intro hh; try simp only [bs] at hh))); all_goals (conv => whnf)
    (refine CallN.q (of4 p k4) [] (fun _ _ => ?_); (repeat' ((conv => whnf); first | apply And.intro | exact ⟨by kernel_rfl⟩ | apply DrawN.mk | apply CodeN.step hm rfl | exact trivial | exact rfl | (intro hh; try simp only [bs] at hh; try exact absurd hh (by decide)))); all_goals (conv => whnf); all_goals try exact ⟨by decide⟩)
    refine InvN.intro 129 (by kernel_rfl) ?_
    (refine CallN.q (lask4 p c t w k4) [] (fun _ _ => ?_); (repeat' ((conv => whnf); first | apply And.intro | exact ⟨by kernel_rfl⟩ | apply DrawN.mk | apply CodeN.step hm rfl | exact trivial | exact rfl | (intro hh; try simp only [bs] at hh; try exact absurd hh (by decide)))); all_goals (conv => whnf); all_goals try exact ⟨by decide⟩)
    (refine RetN.q () [] ?_ ?_ ?_ <;> (repeat' ((conv => whnf) <;> first | exact rfl | exact trivial | apply And.intro | exact Nat.zero_add _)); all_goals ((conv => whnf); try simp only []))
  have hno : ¬ PolOk p := fun hp => by have := kind_of hp; omega
  have hmf : mayC p c = false := by unfold mayC; rw [decide_eq_false hno]; rfl
  have ha : askC p c t w = (c, zeroV) := by unfold askC; rw [hmf]; rfl
  refine Meets.intro hm (fn := Try.f12) Try.func12 rfl (by decide) (Nat.le_of_ble_eq_true rfl) (fun _ => rfl) ?_; intro S hok; (conv => whnf)
  (repeat' ((conv => whnf); first | apply And.intro | exact ⟨by kernel_rfl⟩ | apply DrawN.mk | apply CodeN.step hm rfl | exact trivial | exact rfl | (intro hh; try simp only [bs] at hh))); all_goals (conv => whnf)
  (refine CallN.q (ofN p k1 k2 k3 k4) [] (fun _ _ => ?_); (repeat' ((conv => whnf); first | apply And.intro | exact ⟨by kernel_rfl⟩ | apply DrawN.mk | apply CodeN.step hm rfl | exact trivial | exact rfl | (intro hh; try simp only [bs] at hh; try exact absurd hh (by decide)))); all_goals (conv => whnf); all_goals try exact ⟨by decide⟩)
  refine InvN.intro 132 (by kernel_rfl) ?_
  (refine CallN.q (askN p c t w) [] (fun _ _ => ?_); (repeat' ((conv => whnf); first | apply And.intro | exact ⟨by kernel_rfl⟩ | apply DrawN.mk | apply CodeN.step hm rfl | exact trivial | exact rfl | (intro hh; try simp only [bs] at hh; try exact absurd hh (by decide)))); all_goals (conv => whnf); all_goals try exact ⟨by decide⟩)
  (refine RetN.q () [] ?_ ?_ ?_ <;> (repeat' ((conv => whnf) <;> first | exact rfl | exact trivial | apply And.intro | exact Nat.zero_add _)); all_goals ((conv => whnf); try simp only []))
  all_goals first | exact hmf | rw [ha]
theorem cendsM (p : Pol) (c : Cell) (hc : -9223372036854775808 ≤ c.2.1 ∧ c.2.1 ≤ 9223372036854775807) : Meets Try.prog 22 [polAV p, cellAV c] [] (Y := Unit) (fun _ => True) (fun _ => .int .i64 fun _ => endsC p c) (fun _ => []) := by
  by_cases k1 : p.1 = 1
  · refine Meets.intro hm (fn := Try.f22) Try.func22 rfl (by decide) (Nat.le_of_ble_eq_true rfl) (fun _ => rfl) ?_; intro S hok; (conv => whnf)
    (repeat' ((conv => whnf); first | apply And.intro | exact ⟨by kernel_rfl⟩ | apply DrawN.mk | apply CodeN.step hm rfl | exact trivial | exact rfl | (intro hh; try simp only [bs] at hh))); all_goals (conv => whnf)
    (refine CallN.q (of1 p k1) [] (fun _ _ => ?_); (repeat' ((conv => whnf); first | apply And.intro | exact ⟨by kernel_rfl⟩ | apply DrawN.mk | apply CodeN.step hm rfl | exact trivial | exact rfl | (intro hh; try simp only [bs] at hh; try exact absurd hh (by decide)))); all_goals (conv => whnf); all_goals try exact ⟨by decide⟩)
    refine InvN.intro 130 (by kernel_rfl) ?_
    (refine CallN.q (lends1 p c k1 hc) [] (fun _ _ => ?_); (repeat' ((conv => whnf); first | apply And.intro | exact ⟨by kernel_rfl⟩ | apply DrawN.mk | apply CodeN.step hm rfl | exact trivial | exact rfl | (intro hh; try simp only [bs] at hh; try exact absurd hh (by decide)))); all_goals (conv => whnf); all_goals try exact ⟨by decide⟩)
    (refine RetN.q () [] ?_ ?_ ?_ <;> (repeat' ((conv => whnf) <;> first | exact rfl | exact trivial | apply And.intro | exact Nat.zero_add _)); all_goals ((conv => whnf); try simp only []))
  by_cases k2 : p.1 = 2
  · refine Meets.intro hm (fn := Try.f22) Try.func22 rfl (by decide) (Nat.le_of_ble_eq_true rfl) (fun _ => rfl) ?_; intro S hok; (conv => whnf)
    (repeat' ((conv => whnf); first | apply And.intro | exact ⟨by kernel_rfl⟩ | apply DrawN.mk | apply CodeN.step hm rfl | exact trivial | exact rfl | (intro hh; try simp only [bs] at hh))); all_goals (conv => whnf)
    (refine CallN.q (of2 p k2) [] (fun _ _ => ?_); (repeat' ((conv => whnf); first | apply And.intro | exact ⟨by kernel_rfl⟩ | apply DrawN.mk | apply CodeN.step hm rfl | exact trivial | exact rfl | (intro hh; try simp only [bs] at hh; try exact absurd hh (by decide)))); all_goals (conv => whnf); all_goals try exact ⟨by decide⟩)
    refine InvN.intro 130 (by kernel_rfl) ?_
    (refine CallN.q (lends2 p c k2) [] (fun _ _ => ?_); (repeat' ((conv => whnf); first | apply And.intro | exact ⟨by kernel_rfl⟩ | apply DrawN.mk | apply CodeN.step hm rfl | exact trivial | exact rfl | (intro hh; try simp only [bs] at hh; try exact absurd hh (by decide)))); all_goals (conv => whnf); all_goals try exact ⟨by decide⟩)
    (refine RetN.q () [] ?_ ?_ ?_ <;> (repeat' ((conv => whnf) <;> first | exact rfl | exact trivial | apply And.intro | exact Nat.zero_add _)); all_goals ((conv => whnf); try simp only []))
  by_cases k3 : p.1 = 3
  · refine Meets.intro hm (fn := Try.f22) Try.func22 rfl (by decide) (Nat.le_of_ble_eq_true rfl) (fun _ => rfl) ?_; intro S hok; (conv => whnf)
    (repeat' ((conv => whnf); first | apply And.intro | exact ⟨by kernel_rfl⟩ | apply DrawN.mk | apply CodeN.step hm rfl | exact trivial | exact rfl | (intro hh; try simp only [bs] at hh))); all_goals (conv => whnf)
    (refine CallN.q (of3 p k3) [] (fun _ _ => ?_); (repeat' ((conv => whnf); first | apply And.intro | exact ⟨by kernel_rfl⟩ | apply DrawN.mk | apply CodeN.step hm rfl | exact trivial | exact rfl | (intro hh; try simp only [bs] at hh; try exact absurd hh (by decide)))); all_goals (conv => whnf); all_goals try exact ⟨by decide⟩)
    refine InvN.intro 130 (by kernel_rfl) ?_
    (refine CallN.q (lends3 p c k3) [] (fun _ _ => ?_); (repeat' ((conv => whnf); first | apply And.intro | exact ⟨by kernel_rfl⟩ | apply DrawN.mk | apply CodeN.step hm rfl | exact trivial | exact rfl | (intro hh; try simp only [bs] at hh; try exact absurd hh (by decide)))); all_goals (conv => whnf); all_goals try exact ⟨by decide⟩)
    (refine RetN.q () [] ?_ ?_ ?_ <;> (repeat' ((conv => whnf) <;> first | exact rfl | exact trivial | apply And.intro | exact Nat.zero_add _)); all_goals ((conv => whnf); try simp only []))
  by_cases k4 : p.1 = 4
  · refine Meets.intro hm (fn := Try.f22) Try.func22 rfl (by decide) (Nat.le_of_ble_eq_true rfl) (fun _ => rfl) ?_; intro S hok; (conv => whnf)
    (repeat' ((conv => whnf); first | apply And.intro | exact ⟨by kernel_rfl⟩ | apply DrawN.mk | apply CodeN.step hm rfl | exact trivial | exact rfl | (intro hh; try simp only [bs] at hh))); all_goals (conv => whnf)
    (refine CallN.q (of4 p k4) [] (fun _ _ => ?_); (repeat' ((conv => whnf); first | apply And.intro | exact ⟨by kernel_rfl⟩ | apply DrawN.mk | apply CodeN.step hm rfl | exact trivial | exact rfl | (intro hh; try simp only [bs] at hh; try exact absurd hh (by decide)))); all_goals (conv => whnf); all_goals try exact ⟨by decide⟩)
    refine InvN.intro 130 (by kernel_rfl) ?_
    (refine CallN.q (lends4 p c k4) [] (fun _ _ => ?_); (repeat' ((conv => whnf); first | apply And.intro | exact ⟨by kernel_rfl⟩ | apply DrawN.mk | apply CodeN.step hm rfl | exact trivial | exact rfl | (intro hh; try simp only [bs] at hh; try exact absurd hh (by decide)))); all_goals (conv => whnf); all_goals try exact ⟨by decide⟩)
    (refine RetN.q () [] ?_ ?_ ?_ <;> (repeat' ((conv => whnf) <;> first | exact rfl | exact trivial | apply And.intro | exact Nat.zero_add _)); all_goals ((conv => whnf); try simp only []))
  have hno : ¬ PolOk p := fun hp => by have := kind_of hp; omega
  have hmf : mayC p c = false := by unfold mayC; rw [decide_eq_false hno]; rfl
  have ha : endsC p c = 0 := by unfold endsC; rw [hmf]; rfl
  refine Meets.intro hm (fn := Try.f22) Try.func22 rfl (by decide) (Nat.le_of_ble_eq_true rfl) (fun _ => rfl) ?_; intro S hok; (conv => whnf)
  (repeat' ((conv => whnf); first | apply And.intro | exact ⟨by kernel_rfl⟩ | apply DrawN.mk | apply CodeN.step hm rfl | exact trivial | exact rfl | (intro hh; try simp only [bs] at hh))); all_goals (conv => whnf)
  (refine CallN.q (ofN p k1 k2 k3 k4) [] (fun _ _ => ?_); (repeat' ((conv => whnf); first | apply And.intro | exact ⟨by kernel_rfl⟩ | apply DrawN.mk | apply CodeN.step hm rfl | exact trivial | exact rfl | (intro hh; try simp only [bs] at hh; try exact absurd hh (by decide)))); all_goals (conv => whnf); all_goals try exact ⟨by decide⟩)
  refine InvN.intro 133 (by kernel_rfl) ?_
  (refine CallN.q (endsN p c) [] (fun _ _ => ?_); (repeat' ((conv => whnf); first | apply And.intro | exact ⟨by kernel_rfl⟩ | apply DrawN.mk | apply CodeN.step hm rfl | exact trivial | exact rfl | (intro hh; try simp only [bs] at hh; try exact absurd hh (by decide)))); all_goals (conv => whnf); all_goals try exact ⟨by decide⟩)
  (refine RetN.q () [] ?_ ?_ ?_ <;> (repeat' ((conv => whnf) <;> first | exact rfl | exact trivial | apply And.intro | exact Nat.zero_add _)); all_goals ((conv => whnf); try simp only []))
  all_goals first | exact hmf | rw [ha]
theorem cneutralM (p : Pol) (c : Cell) (t : Int) (hc : -9223372036854775808 ≤ c.2.1 ∧ c.2.1 ≤ 9223372036854775807) : Meets Try.prog 14 [polAV p, cellAV c, .int .i64 fun _ => t] [] (Y := Unit) (fun _ => True) (fun _ => .bool fun _ => neutralC p c t) (fun _ => []) := by
  refine Meets.intro hm (fn := Try.f14) Try.func14 rfl (by decide) (Nat.le_of_ble_eq_true rfl) (fun _ => rfl) ?_; intro S hok; (conv => whnf)
  (repeat' ((conv => whnf); first | apply And.intro | exact ⟨by kernel_rfl⟩ | apply DrawN.mk | apply CodeN.step hm rfl | exact trivial | exact rfl | (intro hh; try simp only [bs] at hh))); all_goals (conv => whnf)
  (refine CallN.q (cmayM p c hc) [] (fun _ _ => ?_); (repeat' ((conv => whnf); first | apply And.intro | exact ⟨by kernel_rfl⟩ | apply DrawN.mk | apply CodeN.step hm rfl | exact trivial | exact rfl | (intro hh; try simp only [bs] at hh; try exact absurd hh (by decide)))); all_goals (conv => whnf); all_goals try exact ⟨by decide⟩)
  all_goals try
    (refine CallN.q (cendsM p c hc) [] (fun _ _ => ?_); (repeat' ((conv => whnf); first | apply And.intro | exact ⟨by kernel_rfl⟩ | apply DrawN.mk | apply CodeN.step hm rfl | exact trivial | exact rfl | (intro hh; try simp only [bs] at hh; try exact absurd hh (by decide)))); all_goals (conv => whnf); all_goals try exact ⟨by decide⟩)
  all_goals
    (refine RetN.q () [] ?_ ?_ ?_ <;> (repeat' ((conv => whnf) <;> first | exact rfl | exact trivial | apply And.intro | exact Nat.zero_add _)); all_goals ((conv => whnf); try simp only []))
    unfold neutralC
    simp [*]
end Go.Proofs.Ytkcifdblaboodaa.Ce
set_option linter.unusedVariables false
set_option linter.unusedSimpArgs false
namespace Go.Proofs.Ytkcifdblaboodaa.Hi
open Go Go.RowKit Fw Po
/-- The tick ahead of the i-th hit. -/
def lastOf (l : List Hit) : Nat → Int
  | 0 => 0 | i + 1 => (l.getD i (0, 0)).1
theorem wr2 {n : Nat} (i : Nat) (h : i < n) (hn : n ≤ 1000000000) : IntKind.i64.wrap ((i : Int) + 1) = ((i + 1 : Nat) : Int) := by rw [wr (by omega)]; omega
theorem hit_eta (x : Hit) : (x.1, x.2) = x := rfl
theorem drop_at {l : List Hit} {i : Nat} (h : i < l.length) : l.drop i = l.getD i (0, 0) :: l.drop (i + 1) := by
  rw [List.drop_eq_getElem_cons h]; simp [List.getD_eq_getElem?_getD, h]
theorem may_at {l : List Hit} {i : Nat} (h : i < l.length) : mayGo (lastOf l i) (l.drop i) = (decide (lastOf l i ≤ (l.getD i (0, 0)).1) && decide ((l.getD i (0, 0)).1 ≤ 1099511627776) && weighs (l.getD i (0, 0)).2 && mayGo (lastOf l (i + 1)) (l.drop (i + 1))) := by
  rw [drop_at h, mayGo]; rfl
theorem eqHit (x y : Hit) : eqD HitT (x.1, x.2) (y.1, y.2) = decide (x = y) := by
  obtain ⟨a, b⟩ := x
  obtain ⟨c, d⟩ := y
  have h : eqD HitT (a, b) (c, d) = (@BEq.beq Int _ a c && @BEq.beq Int _ b d) := rfl
  rw [h, Bool.eq_iff_iff]
  simp
theorem mayM (l : List Hit) (hl : l.length ≤ 100000) : Meets Try.prog 26 [.lst HitT fun _ => l] [] (Y := Unit) (fun _ => True) (fun _ => .bool fun _ => may l) (fun _ => []) := by
  refine Meets.intro hm (fn := Try.f26) Try.func26 rfl (by decide) (Nat.le_of_ble_eq_true rfl) (fun _ => rfl) ?_; intro S hok; (conv => whnf)
  (repeat' ((conv => whnf); first | apply And.intro | exact ⟨by kernel_rfl⟩ | apply DrawN.mk | apply CodeN.step hm rfl | exact trivial | exact rfl | (intro hh; try simp only [bs] at hh))); all_goals (conv => whnf)
  refine LoopN.intro hm (X := Nat) (fun i => i ≤ l.length ∧ may l = mayGo (lastOf l i) (l.drop i)) (fun i => l.length - i)
      (fun i => [(8, .int .i64 fun _ => (i : Int)), (7, .int .i64 fun _ => (l.length : Int)), (6, .lst HitT fun _ => l), (3, .int .i64 fun _ => lastOf l i)]) (fun i => []) 0 [] ⟨rfl, rfl, ?_, ?_⟩ ⟨Nat.zero_le _, rfl⟩ (fun i hi => ?_)
  · (repeat' ((conv => whnf) <;> first | exact rfl | exact trivial | apply And.intro | exact Nat.zero_add _))
  · (repeat' ((conv => whnf) <;> first | exact rfl | exact trivial | apply And.intro | exact Nat.zero_add _))
  · obtain ⟨hi, hmy⟩ := hi
    have hma := fun h => hmy.trans (may_at (l := l) (i := i) h)
    generalize hx : l.getD i (0, 0) = x at hma
    have hx' : l.getD (i : Int).toNat HitT.dflt = x := hx
    (repeat' ((conv => whnf); first | apply And.intro | exact ⟨by kernel_rfl⟩ | apply DrawN.mk | apply CodeN.step hm rfl | exact trivial | exact rfl | (intro hh; try simp only [bs] at hh))); all_goals (conv => whnf)
    all_goals (try simp only [hx'] at *)
    · (refine Ob.mk ?_; (try simp only [Ty.dflt, Nat.zero_add, Nat.add_zero, Int.toNat_natCast, Int.toNat_zero, Int.toNat_one, List.length_take, List.length_drop, List.length_append, List.length_replicate, List.length_cons, List.length_nil, List.length_set, List.length_map, true_and, and_true]); omega)
    · (refine CallN.q (weighsM x.2) [] (fun _ _ => ?_); (repeat' ((conv => whnf); first | apply And.intro | exact ⟨by kernel_rfl⟩ | apply DrawN.mk | apply CodeN.step hm rfl | exact trivial | exact rfl | (intro hh; try simp only [bs] at hh; try exact absurd hh (by decide)))); all_goals (conv => whnf); all_goals try exact ⟨by decide⟩)
      rotate_left
      · have hi1 : i < l.length := by omega
        refine ⟨i + 1, [], ⟨rfl, rfl, ?_, ?_⟩, ⟨hi1, ?_⟩, by omega⟩
        · (repeat' ((conv => whnf) <;> first | exact rfl | exact trivial | apply And.intro | exact Nat.zero_add _))
        · (repeat' ((conv => whnf) <;> first | exact rfl | exact trivial | apply And.intro | exact Nat.zero_add _)); all_goals ((conv => whnf); try simp only [])
          all_goals first | exact wr2 i hi1 (by omega) | skip
          show x.1 = (l.getD i (0, 0)).1
          rw [hx]
        · rw [hma hi1, hh]
          simp; omega
      · (refine RetN.q () [] ?_ ?_ ?_ <;> (repeat' ((conv => whnf) <;> first | exact rfl | exact trivial | apply And.intro | exact Nat.zero_add _)); all_goals ((conv => whnf); try simp only []))
        rw [hma (by omega), hh]; simp
    · (refine RetN.q () [] ?_ ?_ ?_ <;> (repeat' ((conv => whnf) <;> first | exact rfl | exact trivial | apply And.intro | exact Nat.zero_add _)); all_goals ((conv => whnf); try simp only []))
      rw [hma (by omega)]; simp; omega
    · (refine RetN.q () [] ?_ ?_ ?_ <;> (repeat' ((conv => whnf) <;> first | exact rfl | exact trivial | apply And.intro | exact Nat.zero_add _)); all_goals ((conv => whnf); try simp only []))
      rw [hma (by omega)]; simp; omega
    · have e : i = l.length := by omega
      (refine RetN.q () [] ?_ ?_ ?_ <;> (repeat' ((conv => whnf) <;> first | exact rfl | exact trivial | apply And.intro | exact Nat.zero_add _)); all_goals ((conv => whnf); try simp only []))
      rw [hmy, e, List.drop_length]; rfl
end Go.Proofs.Ytkcifdblaboodaa.Hi
set_option linter.unusedVariables false
set_option linter.unusedSimpArgs false
namespace Go.Proofs.Ytkcifdblaboodaa.Hi
open Go Go.RowKit Fw Po
theorem those_take (q : Int → Bool) : ∀ (l : List Hit) (i : Nat), i < l.length → those q (l.take (i + 1)) = those q (l.take i) + (if q (l.getD i (0, 0)).1 then (l.getD i (0, 0)).2 else 0)
  | [], i, h => by simp at h
  | x :: r, 0, h => by simp [those]
  | x :: r, i + 1, h => by
    have ih := those_take q r i (by simpa using h)
    have e : (x :: r).getD (i + 1) (0, 0) = r.getD i (0, 0) := by simp
    rw [e]
    simp only [List.take_succ_cons, those, ih]
    omega
theorem HOk.take {l : List Hit} {t : Int} (q : HOk l t) (i : Nat) : HOk (l.take i) t := q.sub (fun h hh => List.mem_of_mem_take hh) (by have := q.len; rw [List.length_take]; omega)
/-- What the ways to count have at hand. -/
def chC (p : Pol) (t s : Int) : List Chunk := [.cells 23 [.int .i64 fun _ => p.1, .int .i64 fun _ => p.2.1, .int .i64 fun _ => p.2.2.1, .int .i64 fun _ => p.2.2.2], .cells 3 [.int .i64 fun _ => t], .cells 3 [.int .i64 fun _ => s]]
theorem tdiv_bound {a s : Int} (h0 : 0 ≤ a) (h1 : a ≤ 4611686018427387904) (hs : 1 ≤ s) : 0 ≤ a.tdiv s ∧ a.tdiv s ≤ 4611686018427387904 := by
  refine ⟨Int.tdiv_nonneg h0 (by omega), ?_⟩
  rw [Int.tdiv_eq_ediv_of_nonneg h0]
  exact Int.le_trans (Int.ediv_le_self _ h0) h1
theorem closA (p : Pol) (t s x : Int) (ht : 0 ≤ t ∧ t ≤ 1125899906842624) (hs : 1 ≤ s ∧ s ≤ 1048576) (hx : 0 ≤ x ∧ x ≤ 1125899906842624) (hW : 1 ≤ p.2.2.1 ∧ p.2.2.1 ≤ 1048576) (hB : 0 ≤ p.2.2.2 ∧ p.2.2.2 ≤ 16) : Meets Try.prog 59 [.int .i64 fun _ => x, .ptr 2 0, .ptr 1 0] (chC p t s) (Y := Unit) (fun _ => True) (fun _ => .bool fun _ => decide (x.tdiv s = t.tdiv s)) (fun _ => chC p t s) := by
  have b1 := tdiv_bound (a := t) (s := s) ht.1 (by omega) hs.1
  have b2 := tdiv_bound (a := x) (s := s) hx.1 (by omega) hs.1
  refine Meets.intro hm (fn := Try.f59) Try.func59 rfl (by decide) (Nat.le_of_ble_eq_true rfl) (fun _ => rfl) ?_; intro S hok; (conv => whnf)
  (repeat' ((conv => whnf); first | apply And.intro | exact ⟨by kernel_rfl⟩ | apply DrawN.mk | apply CodeN.step hm rfl | exact trivial | exact rfl | (intro hh; try simp only [bs] at hh))); all_goals (conv => whnf)
  all_goals first | (refine Ob.mk ?_; simp only []; omega) | skip
  (refine RetN.q () [0, 1, 2] ?_ ?_ ?_ <;> (repeat' ((conv => whnf) <;> first | exact rfl | exact trivial | apply And.intro | exact Nat.zero_add _)); all_goals ((conv => whnf); try simp only []))
  all_goals simp (disch := omega) only [wr]
  all_goals first | (rw [Bool.eq_iff_iff]; simp; done) | skip
theorem thoseA (p : Pol) (t s : Int) (l : List Hit) (hl : HOk l 1125899906842624) (ht : 0 ≤ t ∧ t ≤ 1125899906842624) (hs : 1 ≤ s ∧ s ≤ 1048576) (hW : 1 ≤ p.2.2.1 ∧ p.2.2.1 ≤ 1048576) (hB : 0 ≤ p.2.2.2 ∧ p.2.2.2 ≤ 16) : Meets Try.prog 58 [.lst HitT fun _ => l, .fn (.func 59) [] [.ptr 2 0, .ptr 1 0]] (chC p t s) (Y := Unit) (fun _ => True) (fun _ => .int .i64 fun _ => those (fun x => decide (x.tdiv s = t.tdiv s)) l) (fun _ => chC p t s) := by
  refine Meets.intro hm (fn := Try.f58) Try.func58 rfl (by decide) (Nat.le_of_ble_eq_true rfl) (fun _ => rfl) ?_; intro S hok; (conv => whnf)
  (repeat' ((conv => whnf); first | apply And.intro | exact ⟨by kernel_rfl⟩ | apply DrawN.mk | apply CodeN.step hm rfl | exact trivial | exact rfl | (intro hh; try simp only [bs] at hh))); all_goals (conv => whnf)
  have hlen := hl.len
  refine LoopN.intro hm (X := Nat) (fun i => i ≤ l.length) (fun i => l.length - i)
    (fun i => [(10, .int .i64 fun _ => (i : Int)), (9, .int .i64 fun _ => (l.length : Int)), (8, .lst HitT fun _ => l), (5, .int .i64 fun _ => those (fun x => decide (x.tdiv s = t.tdiv s)) (l.take i)), (1, .fn (.func 59) [] [.ptr 2 0, .ptr 1 0])]) (fun i => chC p t s) 0 [0, 1, 2] ⟨rfl, rfl, ?_, ?_⟩ (Nat.zero_le _) (fun i hi => ?_)
  · (repeat' ((conv => whnf) <;> first | exact rfl | exact trivial | apply And.intro | exact Nat.zero_add _))
  · (repeat' ((conv => whnf) <;> first | exact rfl | exact trivial | apply And.intro | exact Nat.zero_add _))
  · have hb := those_bound (q := fun x => decide (x.tdiv s = t.tdiv s)) _ (hl.take i)
    have hb2 : ((l.take i).length : Int) ≤ 64 := by rw [List.length_take]; omega
    have hst := those_take (fun x => decide (x.tdiv s = t.tdiv s)) l i
    have hmem : i < l.length → l.getD i (0, 0) ∈ l := fun h => by rw [List.getD_eq_getElem?_getD, List.getElem?_eq_getElem h]; exact List.getElem_mem h
    generalize hx : l.getD i (0, 0) = x at hst hmem
    have hx' : l.getD (i : Int).toNat HitT.dflt = x := hx
    generalize hn : those (fun x => decide (x.tdiv s = t.tdiv s)) (l.take i) = n at hb hst
    (repeat' ((conv => whnf); first | apply And.intro | exact ⟨by kernel_rfl⟩ | apply DrawN.mk | apply CodeN.step hm rfl | exact trivial | exact rfl | (intro hh; try simp only [bs] at hh))); all_goals (conv => whnf)
    all_goals (try simp only [hx'] at *)
    · (refine Ob.mk ?_; (try simp only [Ty.dflt, Nat.zero_add, Nat.add_zero, Int.toNat_natCast, Int.toNat_zero, Int.toNat_one, List.length_take, List.length_drop, List.length_append, List.length_replicate, List.length_cons, List.length_nil, List.length_set, List.length_map, true_and, and_true]); omega)
    · have hi1 : i < l.length := by omega
      have ht2 := hl.tick x (hmem hi1)
      have hw2 := hl.weight x (hmem hi1)
      (refine CallN.q (closA p t s x.1 ht hs ht2 hW hB) [0, 1, 2] (fun _ _ => ?_); (repeat' ((conv => whnf); first | apply And.intro | exact ⟨by kernel_rfl⟩ | apply DrawN.mk | apply CodeN.step hm rfl | exact trivial | exact rfl | (intro hh; try simp only [bs] at hh; try exact absurd hh (by decide)))); all_goals (conv => whnf); all_goals try exact ⟨by decide⟩)
      all_goals (refine ⟨i + 1, [0, 1, 2], ⟨rfl, rfl, ?_, ?_⟩, hi1, by omega⟩)
      all_goals (repeat' ((conv => whnf) <;> first | exact rfl | exact trivial | apply And.intro | exact Nat.zero_add _)); all_goals ((conv => whnf); try simp only [])
      all_goals first | exact wr2 i hi1 (by omega) | (rw [hst hi1, if_neg (by simpa using hh), Int.add_zero]; done) | (rw [hst hi1, if_pos (by simpa using hh)]; exact wr (by omega))
    · have e : i = l.length := by omega
      (refine RetN.q () [0, 1, 2] ?_ ?_ ?_ <;> (repeat' ((conv => whnf) <;> first | exact rfl | exact trivial | apply And.intro | exact Nat.zero_add _)); all_goals ((conv => whnf); try simp only []))
      rw [← hn, e, List.take_length]
theorem closB (p : Pol) (t s x : Int) (ht : 0 ≤ t ∧ t ≤ 1125899906842624) (hs : 1 ≤ s ∧ s ≤ 1048576) (hx : 0 ≤ x ∧ x ≤ 1125899906842624) (hW : 1 ≤ p.2.2.1 ∧ p.2.2.1 ≤ 1048576) (hB : 0 ≤ p.2.2.2 ∧ p.2.2.2 ≤ 16) : Meets Try.prog 60 [.int .i64 fun _ => x, .ptr 2 0, .ptr 1 0, .ptr 0 0] (chC p t s) (Y := Unit) (fun _ => True) (fun _ => .bool fun _ => decide (t.tdiv s - p.2.2.2 < x.tdiv s)) (fun _ => chC p t s) := by
  have b1 := tdiv_bound (a := t) (s := s) ht.1 (by omega) hs.1
  have b2 := tdiv_bound (a := x) (s := s) hx.1 (by omega) hs.1
  refine Meets.intro hm (fn := Try.f60) Try.func60 rfl (by decide) (Nat.le_of_ble_eq_true rfl) (fun _ => rfl) ?_; intro S hok; (conv => whnf)
  (repeat' ((conv => whnf); first | apply And.intro | exact ⟨by kernel_rfl⟩ | apply DrawN.mk | apply CodeN.step hm rfl | exact trivial | exact rfl | (intro hh; try simp only [bs] at hh))); all_goals (conv => whnf)
  all_goals first | (refine Ob.mk ?_; simp only []; omega) | skip
  (refine RetN.q () [0, 1, 2] ?_ ?_ ?_ <;> (repeat' ((conv => whnf) <;> first | exact rfl | exact trivial | apply And.intro | exact Nat.zero_add _)); all_goals ((conv => whnf); try simp only []))
  all_goals simp (disch := omega) only [wr]
  all_goals first | (rw [Bool.eq_iff_iff]; simp; done) | skip
theorem thoseB (p : Pol) (t s : Int) (l : List Hit) (hl : HOk l 1125899906842624) (ht : 0 ≤ t ∧ t ≤ 1125899906842624) (hs : 1 ≤ s ∧ s ≤ 1048576) (hW : 1 ≤ p.2.2.1 ∧ p.2.2.1 ≤ 1048576) (hB : 0 ≤ p.2.2.2 ∧ p.2.2.2 ≤ 16) : Meets Try.prog 58 [.lst HitT fun _ => l, .fn (.func 60) [] [.ptr 2 0, .ptr 1 0, .ptr 0 0]] (chC p t s) (Y := Unit) (fun _ => True) (fun _ => .int .i64 fun _ => those (fun x => decide (t.tdiv s - p.2.2.2 < x.tdiv s)) l) (fun _ => chC p t s) := by
  refine Meets.intro hm (fn := Try.f58) Try.func58 rfl (by decide) (Nat.le_of_ble_eq_true rfl) (fun _ => rfl) ?_; intro S hok; (conv => whnf)
  (repeat' ((conv => whnf); first | apply And.intro | exact ⟨by kernel_rfl⟩ | apply DrawN.mk | apply CodeN.step hm rfl | exact trivial | exact rfl | (intro hh; try simp only [bs] at hh))); all_goals (conv => whnf)
  have hlen := hl.len
  refine LoopN.intro hm (X := Nat) (fun i => i ≤ l.length) (fun i => l.length - i)
    (fun i => [(10, .int .i64 fun _ => (i : Int)), (9, .int .i64 fun _ => (l.length : Int)), (8, .lst HitT fun _ => l), (5, .int .i64 fun _ => those (fun x => decide (t.tdiv s - p.2.2.2 < x.tdiv s)) (l.take i)), (1, .fn (.func 60) [] [.ptr 2 0, .ptr 1 0, .ptr 0 0])]) (fun i => chC p t s) 0 [0, 1, 2] ⟨rfl, rfl, ?_, ?_⟩ (Nat.zero_le _) (fun i hi => ?_)
  · (repeat' ((conv => whnf) <;> first | exact rfl | exact trivial | apply And.intro | exact Nat.zero_add _))
  · (repeat' ((conv => whnf) <;> first | exact rfl | exact trivial | apply And.intro | exact Nat.zero_add _))
  · have hb := those_bound (q := fun x => decide (t.tdiv s - p.2.2.2 < x.tdiv s)) _ (hl.take i)
    have hb2 : ((l.take i).length : Int) ≤ 64 := by rw [List.length_take]; omega
    have hst := those_take (fun x => decide (t.tdiv s - p.2.2.2 < x.tdiv s)) l i
    have hmem : i < l.length → l.getD i (0, 0) ∈ l := fun h => by rw [List.getD_eq_getElem?_getD, List.getElem?_eq_getElem h]; exact List.getElem_mem h
    generalize hx : l.getD i (0, 0) = x at hst hmem
    have hx' : l.getD (i : Int).toNat HitT.dflt = x := hx
    generalize hn : those (fun x => decide (t.tdiv s - p.2.2.2 < x.tdiv s)) (l.take i) = n at hb hst
    (repeat' ((conv => whnf); first | apply And.intro | exact ⟨by kernel_rfl⟩ | apply DrawN.mk | apply CodeN.step hm rfl | exact trivial | exact rfl | (intro hh; try simp only [bs] at hh))); all_goals (conv => whnf)
    all_goals (try simp only [hx'] at *)
    · (refine Ob.mk ?_; (try simp only [Ty.dflt, Nat.zero_add, Nat.add_zero, Int.toNat_natCast, Int.toNat_zero, Int.toNat_one, List.length_take, List.length_drop, List.length_append, List.length_replicate, List.length_cons, List.length_nil, List.length_set, List.length_map, true_and, and_true]); omega)
    · have hi1 : i < l.length := by omega
      have ht2 := hl.tick x (hmem hi1)
      have hw2 := hl.weight x (hmem hi1)
      (refine CallN.q (closB p t s x.1 ht hs ht2 hW hB) [0, 1, 2] (fun _ _ => ?_); (repeat' ((conv => whnf); first | apply And.intro | exact ⟨by kernel_rfl⟩ | apply DrawN.mk | apply CodeN.step hm rfl | exact trivial | exact rfl | (intro hh; try simp only [bs] at hh; try exact absurd hh (by decide)))); all_goals (conv => whnf); all_goals try exact ⟨by decide⟩)
      all_goals (refine ⟨i + 1, [0, 1, 2], ⟨rfl, rfl, ?_, ?_⟩, hi1, by omega⟩)
      all_goals (repeat' ((conv => whnf) <;> first | exact rfl | exact trivial | apply And.intro | exact Nat.zero_add _)); all_goals ((conv => whnf); try simp only [])
      all_goals first | exact wr2 i hi1 (by omega) | (rw [hst hi1, if_neg (by simpa using hh), Int.add_zero]; done) | (rw [hst hi1, if_pos (by simpa using hh)]; exact wr (by omega))
    · have e : i = l.length := by omega
      (refine RetN.q () [0, 1, 2] ?_ ?_ ?_ <;> (repeat' ((conv => whnf) <;> first | exact rfl | exact trivial | apply And.intro | exact Nat.zero_add _)); all_goals ((conv => whnf); try simp only []))
      rw [← hn, e, List.take_length]
theorem closC (p : Pol) (t s x : Int) (ht : 0 ≤ t ∧ t ≤ 1125899906842624) (hs : 1 ≤ s ∧ s ≤ 1048576) (hx : 0 ≤ x ∧ x ≤ 1125899906842624) (hW : 1 ≤ p.2.2.1 ∧ p.2.2.1 ≤ 1048576) (hB : 0 ≤ p.2.2.2 ∧ p.2.2.2 ≤ 16) : Meets Try.prog 61 [.int .i64 fun _ => x, .ptr 1 0, .ptr 0 0] (chC p t s) (Y := Unit) (fun _ => True) (fun _ => .bool fun _ => decide (t - p.2.2.1 < x)) (fun _ => chC p t s) := by
  have b1 := tdiv_bound (a := t) (s := s) ht.1 (by omega) hs.1
  have b2 := tdiv_bound (a := x) (s := s) hx.1 (by omega) hs.1
  refine Meets.intro hm (fn := Try.f61) Try.func61 rfl (by decide) (Nat.le_of_ble_eq_true rfl) (fun _ => rfl) ?_; intro S hok; (conv => whnf)
  (repeat' ((conv => whnf); first | apply And.intro | exact ⟨by kernel_rfl⟩ | apply DrawN.mk | apply CodeN.step hm rfl | exact trivial | exact rfl | (intro hh; try simp only [bs] at hh))); all_goals (conv => whnf)
  all_goals first | (refine Ob.mk ?_; simp only []; omega) | skip
  (refine RetN.q () [0, 1, 2] ?_ ?_ ?_ <;> (repeat' ((conv => whnf) <;> first | exact rfl | exact trivial | apply And.intro | exact Nat.zero_add _)); all_goals ((conv => whnf); try simp only []))
  all_goals simp (disch := omega) only [wr]
  all_goals first | (rw [Bool.eq_iff_iff]; simp; done) | skip
theorem thoseC (p : Pol) (t s : Int) (l : List Hit) (hl : HOk l 1125899906842624) (ht : 0 ≤ t ∧ t ≤ 1125899906842624) (hs : 1 ≤ s ∧ s ≤ 1048576) (hW : 1 ≤ p.2.2.1 ∧ p.2.2.1 ≤ 1048576) (hB : 0 ≤ p.2.2.2 ∧ p.2.2.2 ≤ 16) : Meets Try.prog 58 [.lst HitT fun _ => l, .fn (.func 61) [] [.ptr 1 0, .ptr 0 0]] (chC p t s) (Y := Unit) (fun _ => True) (fun _ => .int .i64 fun _ => those (fun x => decide (t - p.2.2.1 < x)) l) (fun _ => chC p t s) := by
  refine Meets.intro hm (fn := Try.f58) Try.func58 rfl (by decide) (Nat.le_of_ble_eq_true rfl) (fun _ => rfl) ?_; intro S hok; (conv => whnf)
  (repeat' ((conv => whnf); first | apply And.intro | exact ⟨by kernel_rfl⟩ | apply DrawN.mk | apply CodeN.step hm rfl | exact trivial | exact rfl | (intro hh; try simp only [bs] at hh))); all_goals (conv => whnf)
  have hlen := hl.len
  refine LoopN.intro hm (X := Nat) (fun i => i ≤ l.length) (fun i => l.length - i)
    (fun i => [(10, .int .i64 fun _ => (i : Int)), (9, .int .i64 fun _ => (l.length : Int)), (8, .lst HitT fun _ => l), (5, .int .i64 fun _ => those (fun x => decide (t - p.2.2.1 < x)) (l.take i)), (1, .fn (.func 61) [] [.ptr 1 0, .ptr 0 0])]) (fun i => chC p t s) 0 [0, 1, 2] ⟨rfl, rfl, ?_, ?_⟩ (Nat.zero_le _) (fun i hi => ?_)
  · (repeat' ((conv => whnf) <;> first | exact rfl | exact trivial | apply And.intro | exact Nat.zero_add _))
  · (repeat' ((conv => whnf) <;> first | exact rfl | exact trivial | apply And.intro | exact Nat.zero_add _))
  · have hb := those_bound (q := fun x => decide (t - p.2.2.1 < x)) _ (hl.take i)
    have hb2 : ((l.take i).length : Int) ≤ 64 := by rw [List.length_take]; omega
    have hst := those_take (fun x => decide (t - p.2.2.1 < x)) l i
    have hmem : i < l.length → l.getD i (0, 0) ∈ l := fun h => by rw [List.getD_eq_getElem?_getD, List.getElem?_eq_getElem h]; exact List.getElem_mem h
    generalize hx : l.getD i (0, 0) = x at hst hmem
    have hx' : l.getD (i : Int).toNat HitT.dflt = x := hx
    generalize hn : those (fun x => decide (t - p.2.2.1 < x)) (l.take i) = n at hb hst
    (repeat' ((conv => whnf); first | apply And.intro | exact ⟨by kernel_rfl⟩ | apply DrawN.mk | apply CodeN.step hm rfl | exact trivial | exact rfl | (intro hh; try simp only [bs] at hh))); all_goals (conv => whnf)
    all_goals (try simp only [hx'] at *)
    · (refine Ob.mk ?_; (try simp only [Ty.dflt, Nat.zero_add, Nat.add_zero, Int.toNat_natCast, Int.toNat_zero, Int.toNat_one, List.length_take, List.length_drop, List.length_append, List.length_replicate, List.length_cons, List.length_nil, List.length_set, List.length_map, true_and, and_true]); omega)
    · have hi1 : i < l.length := by omega
      have ht2 := hl.tick x (hmem hi1)
      have hw2 := hl.weight x (hmem hi1)
      (refine CallN.q (closC p t s x.1 ht hs ht2 hW hB) [0, 1, 2] (fun _ _ => ?_); (repeat' ((conv => whnf); first | apply And.intro | exact ⟨by kernel_rfl⟩ | apply DrawN.mk | apply CodeN.step hm rfl | exact trivial | exact rfl | (intro hh; try simp only [bs] at hh; try exact absurd hh (by decide)))); all_goals (conv => whnf); all_goals try exact ⟨by decide⟩)
      all_goals (refine ⟨i + 1, [0, 1, 2], ⟨rfl, rfl, ?_, ?_⟩, hi1, by omega⟩)
      all_goals (repeat' ((conv => whnf) <;> first | exact rfl | exact trivial | apply And.intro | exact Nat.zero_add _)); all_goals ((conv => whnf); try simp only [])
      all_goals first | exact wr2 i hi1 (by omega) | (rw [hst hi1, if_neg (by simpa using hh), Int.add_zero]; done) | (rw [hst hi1, if_pos (by simpa using hh)]; exact wr (by omega))
    · have e : i = l.length := by omega
      (refine RetN.q () [0, 1, 2] ?_ ?_ ?_ <;> (repeat' ((conv => whnf) <;> first | exact rfl | exact trivial | apply And.intro | exact Nat.zero_add _)); all_goals ((conv => whnf); try simp only []))
      rw [← hn, e, List.take_length]
end Go.Proofs.Ytkcifdblaboodaa.Hi
set_option linter.unusedVariables false
set_option linter.unusedSimpArgs false
namespace Go.Proofs.Ytkcifdblaboodaa.Hi
open Go Go.RowKit Fw Po
/-- The hits from the last one back. -/
def backs (l : List Hit) : List (Int × Hit) := (List.range l.length).map fun k => (((l.length - 1 - k : Nat) : Int), l.getD (l.length - 1 - k) (0, 0))
theorem backs_len (l : List Hit) : (backs l).length = l.length := by simp [backs]
theorem backs_at {l : List Hit} {k : Nat} (h : k < l.length) : (backs l)[k]? = some (((l.length - 1 - k : Nat) : Int), l.getD (l.length - 1 - k) (0, 0)) := by simp [backs, h]
theorem RL.ints {g g' : Gh} : ∀ {cs : List AV} {us : List Value}, (∀ c ∈ cs, ∃ k n, c = .int k n) → RL g cs us → RL g' cs us
  | [], [], _, _ => trivial
  | [], _ :: _, _, h => h.elim
  | _ :: _, [], _, h => h.elim
  | c :: r, u :: us, hc, h => by
    obtain ⟨k, n, rfl⟩ := hc c (List.mem_cons_self ..)
    refine ⟨by rw [h.1.int_iff]; exact .int _ _, RL.ints (fun c hm => hc c (List.mem_cons_of_mem _ hm)) h.2⟩
theorem RL.hit {g g' : Gh} {a b c : Unit → Int} {us : List Value} (h : RL g [.int .i64 a, .agg [.int .i64 b, .int .i64 c]] us) : RL g' [.int .i64 a, .agg [.int .i64 b, .int .i64 c]] us := by
  match us, h with
  | [u, v], h =>
    obtain ⟨vs, rfl, hl⟩ := h.2.1.agg_iff
    refine ⟨by rw [h.1.int_iff]; exact .int _ _, ?_, trivial⟩
    have h2 := R.mkAgg (RL.ints (g' := g') (by simp) hl)
    simpa using h2
theorem backIt (l : List Hit) (hl : l.length ≤ 1000000) : ItMeets Try.prog 108 [.cptr [.lst HitT fun _ => l] 0] (fun x : Int × Hit => [.int .i64 fun _ => x.1, .agg [.int .i64 fun _ => x.2.1, .int .i64 fun _ => x.2.2]]) (backs l) := by
  refine ItMeets.intro hm (fn := Try.f108) Try.func108 rfl (by decide) (Nat.le_of_ble_eq_true rfl) (fun x g g' us h => ?_) ?_
  · exact RL.hit h
  · intro S ll hyi
    (repeat' ((conv => whnf); first | apply And.intro | exact ⟨by kernel_rfl⟩ | apply DrawN.mk | apply CodeN.step hm rfl | exact trivial | exact rfl | (intro hh; try simp only [bs] at hh))); all_goals (conv => whnf)
    refine LoopN.intro hm (X := Nat) (fun k => k ≤ l.length) (fun k => l.length - k)
      (fun k => [(3, .int .i64 fun _ => (l.length : Int) - 1 - k), (1, .cptr [.lst HitT fun _ => l] 0), (0, .fn (.yield ll) [] [])]) (fun k => [.count fun _ => k]) 0 [0] ⟨rfl, rfl, ?_, ?_⟩ (Nat.zero_le _) (fun k hk => ?_)
    · (repeat' ((conv => whnf) <;> first | exact rfl | exact trivial | apply And.intro | exact Nat.zero_add _))
    · (repeat' ((conv => whnf) <;> first | exact rfl | exact trivial | apply And.intro | exact Nat.zero_add _)); all_goals ((conv => whnf); try simp only [])
      · rw [wr (by omega)]; simp
      all_goals first | (split <;> first | exact ⟨trivial, trivial⟩ | (rename_i h _; exact (h rfl).elim)) | skip
    · (repeat' ((conv => whnf); first | apply And.intro | exact ⟨by kernel_rfl⟩ | apply DrawN.mk | apply CodeN.step hm rfl | exact trivial | exact rfl | (intro hh; try simp only [bs] at hh))); all_goals (conv => whnf)
      · (refine Ob.mk ?_; (try simp only [Ty.dflt, Nat.zero_add, Nat.add_zero, Int.toNat_natCast, Int.toNat_zero, Int.toNat_one, List.length_take, List.length_drop, List.length_append, List.length_replicate, List.length_cons, List.length_nil, List.length_set, List.length_map, true_and, and_true]); omega)
      · have hk1 : k < l.length := by omega
        have e : ((l.length - 1 - k : Nat) : Int) = (l.length : Int) - 1 - k := by omega
        refine hyi k (((l.length - 1 - k : Nat) : Int), l.getD (l.length - 1 - k) (0, 0)) [(3, .int .i64 fun _ => (l.length : Int) - 1 - k), (1, .cptr [.lst HitT fun _ => l] 0), (0, .fn (.yield ll) [] [])] (backs_at hk1) ?_ ⟨rfl, rfl, ?_, ?_⟩ ?_ ?_
        · rw [← e]
          (repeat' ((conv => whnf) <;> first | exact rfl | exact trivial | apply And.intro | exact Nat.zero_add _)); all_goals ((conv => whnf); try simp only [])
          all_goals rfl
        · (repeat' ((conv => whnf) <;> first | exact rfl | exact trivial | apply And.intro | exact Nat.zero_add _)); all_goals ((conv => whnf); try simp only [])
        · (repeat' ((conv => whnf) <;> first | exact rfl | exact trivial | apply And.intro | exact Nat.zero_add _)); all_goals ((conv => whnf); try simp only [])
          all_goals first | (split <;> first | exact ⟨trivial, trivial⟩ | (rename_i h _; exact (h rfl).elim)) | skip
        · (repeat' ((conv => whnf); first | apply And.intro | exact ⟨by kernel_rfl⟩ | apply DrawN.mk | apply CodeN.step hm rfl | exact trivial | exact rfl | (intro hh; try simp only [bs] at hh))); all_goals (conv => whnf)
          refine ⟨k + 1, [0], ⟨rfl, rfl, ?_, ?_⟩, hk1, by omega⟩
          · (repeat' ((conv => whnf) <;> first | exact rfl | exact trivial | apply And.intro | exact Nat.zero_add _)); all_goals ((conv => whnf); try simp only [])
          · (repeat' ((conv => whnf) <;> first | exact rfl | exact trivial | apply And.intro | exact Nat.zero_add _)); all_goals ((conv => whnf); try simp only [])
            · rw [wr (by omega)]; omega
            all_goals first | (split <;> first | exact ⟨trivial, trivial⟩ | (rename_i h _; exact (h rfl).elim)) | skip
        · (repeat' ((conv => whnf); first | apply And.intro | exact ⟨by kernel_rfl⟩ | apply DrawN.mk | apply CodeN.step hm rfl | exact trivial | exact rfl | (intro hh; try simp only [bs] at hh))); all_goals (conv => whnf)
          exact ⟨_, ⟨rfl, trivial⟩, .inr rfl⟩
      · have e : k = l.length := by omega
        exact ⟨k, ⟨rfl, trivial⟩, .inl (by rw [backs_len, e])⟩
theorem backM (l : List Hit) : Meets Try.prog 92 [.lst HitT fun _ => l] [] (Y := Unit) (fun _ => True)
    (fun _ => .fn (.func 108) [] [.ptr 0 0]) (fun _ => [.cells 29 [.lst HitT fun _ => l]]) := by
  refine Meets.intro hm (fn := Try.f92) Try.func92 rfl (by decide) (Nat.le_of_ble_eq_true rfl) (fun _ => rfl) ?_; intro S hok; (conv => whnf)
  (repeat' ((conv => whnf); first | apply And.intro | exact ⟨by kernel_rfl⟩ | apply DrawN.mk | apply CodeN.step hm rfl | exact trivial | exact rfl | (intro hh; try simp only [bs] at hh))); all_goals (conv => whnf)
  (refine RetN.q () [0] ?_ ?_ ?_ <;> (repeat' ((conv => whnf) <;> first | exact rfl | exact trivial | apply And.intro | exact Nat.zero_add _)); all_goals ((conv => whnf); try simp only []))
theorem backs_inv {l : List Hit} {k : Nat} (h : k < l.length) : l.drop (l.length - (k + 1)) = l.getD (l.length - 1 - k) (0, 0) :: l.drop (l.length - k) := by
  rw [show l.length - (k + 1) = l.length - 1 - k by omega, drop_at (by omega), show l.length - 1 - k + 1 = l.length - k by omega]
theorem HOk.drop {l : List Hit} {t : Int} (q : HOk l t) (i : Nat) : HOk (l.drop i) t := q.sub (fun h hh => List.mem_of_mem_drop hh) (by have := q.len; rw [List.length_drop]; omega)
theorem levelM (p : Pol) (l : List Hit) (t : Int) (hp : PolOk p) (hl : HOk l t) (ht : 0 ≤ t ∧ t ≤ 2199023255552) : Meets Try.prog 57 [polAV p, .lst HitT fun _ => l, .int .i64 fun _ => t] [] (Y := Unit) (fun _ => True) (fun _ => .int .i64 fun _ => (lev p t l).2) (fun _ => []) := by
  refine Meets.intro hm (fn := Try.f57) Try.func57 rfl (by decide) (Nat.le_of_ble_eq_true rfl) (fun _ => rfl) ?_; intro S hok; (conv => whnf)
  (repeat' ((conv => whnf); first | apply And.intro | exact ⟨by kernel_rfl⟩ | apply DrawN.mk | apply CodeN.step hm rfl | exact trivial | exact rfl | (intro hh; try simp only [bs] at hh))); all_goals (conv => whnf)
  (refine CallN.q (backM l) [] (fun y hy => ?_); (repeat' ((conv => whnf); first | apply And.intro | exact ⟨by kernel_rfl⟩ | apply DrawN.mk | apply CodeN.step hm rfl | exact trivial | exact rfl | (intro hh; try simp only [bs] at hh))); all_goals (conv => whnf))
  refine CodeN.range hm hok [0, 1, 4] ?_
  (conv => whnf)
  have hlen := hl.len
  refine RangeQ.intro (backIt l (by omega)) _ (X := Int × Int) (fun k x => x = lev p t (l.drop (l.length - k))) (fun _ _ => False)
    (fun x => [.none, .none, .cells 3 [.int .i64 fun _ => x.2], .cells 3 [.int .i64 fun _ => x.1], .none]) (0, 0) rfl ?_ (fun _ => rfl) ?_ ?_ (fun _ => rfl) ⟨rfl, rfl⟩ (by simp [lev]) ?_ ?_ ?_
  · (repeat' ((conv => whnf) <;> first | exact rfl | exact trivial | apply And.intro | exact Nat.zero_add _)); all_goals ((conv => whnf); try simp only [])
  · intro p hp; simp at hp; rcases hp with rfl | rfl <;> decide
  · (repeat' ((conv => whnf) <;> first | exact rfl | exact trivial | apply And.intro | exact Nat.zero_add _))
  · intro S1 S2 k x y hy hx
    obtain ⟨hk, hye⟩ : k < l.length ∧ y = (((l.length - 1 - k : Nat) : Int), l.getD (l.length - 1 - k) (0, 0)) := by
      have hk : k < l.length := by
        have := (List.getElem?_eq_some_iff.1 hy).1
        rwa [backs_len] at this
      rw [backs_at hk] at hy
      exact ⟨hk, by simpa using hy.symm⟩
    have hbi := backs_inv hk
    have hb := lev_bound hp _ (hl.drop (l.length - k))
    have hdl : (l.drop (l.length - k)).length ≤ 64 := by rw [List.length_drop]; omega
    rw [← hx] at hb
    have hmem : l.getD (l.length - 1 - k) (0, 0) ∈ l := by rw [List.getD_eq_getElem?_getD, List.getElem?_eq_getElem (by omega)]; exact List.getElem_mem _
    have htk := hl.tick _ hmem
    have hwt := hl.weight _ hmem
    have hlv : lev p t (l.drop (l.length - (k + 1))) = (x.1 + (l.getD (l.length - 1 - k) (0, 0)).2 * p.2.2.1, max x.2 (x.1 + (l.getD (l.length - 1 - k) (0, 0)).2 * p.2.2.1 - p.2.1 * (t - (l.getD (l.length - 1 - k) (0, 0)).1))) := by
      rw [hbi, lev, ← hx]
    generalize l.getD (l.length - 1 - k) (0, 0) = z at *
    subst hye
    have hL := hp.limit
    have hW := hp.window
    have h1 : 0 ≤ z.2 * p.2.2.1 := Int.mul_nonneg (by omega) (by omega)
    have h2 : z.2 * p.2.2.1 ≤ 1048576 * 1048576 := Int.mul_le_mul hwt.2 hW.2 (by omega) (by omega)
    have h3 : 0 ≤ p.2.1 * (t - z.1) := Int.mul_nonneg (by omega) (by omega)
    have h4 : p.2.1 * (t - z.1) ≤ 1048576 * 2199023255552 := Int.mul_le_mul hL.2 (by omega) (by omega) (by omega)
    have hdl' : ((l.drop (l.length - k)).length : Int) ≤ 64 := by omega
    have e1 : IntKind.i64.wrap (z.2 * p.2.2.1) = z.2 * p.2.2.1 := wr (by omega)
    have e2 : IntKind.i64.wrap (x.1 + z.2 * p.2.2.1) = x.1 + z.2 * p.2.2.1 := wr (by omega)
    have e3 : IntKind.i64.wrap (t - z.1) = t - z.1 := wr (by omega)
    have e4 : IntKind.i64.wrap (p.2.1 * (t - z.1)) = p.2.1 * (t - z.1) := wr (by omega)
    have e5 : IntKind.i64.wrap (x.1 + z.2 * p.2.2.1 - p.2.1 * (t - z.1)) = x.1 + z.2 * p.2.2.1 - p.2.1 * (t - z.1) := wr (by omega)
    (repeat' ((conv => whnf); first | apply And.intro | exact ⟨by kernel_rfl⟩ | apply DrawN.mk | apply CodeN.step hm rfl | exact trivial | exact rfl | (intro hh; try simp only [bs] at hh))); all_goals (conv => whnf)
    refine ⟨_, [0, 1, 2, 3, 4], rfl, rfl, ?_, rfl⟩
    rw [hlv]
    (repeat' ((conv => whnf) <;> first | exact rfl | exact trivial | apply And.intro | exact Nat.zero_add _)); all_goals ((conv => whnf); try simp only [])
    all_goals (simp only [e1, e2, e3, e4, e5])
    all_goals first | (split <;> omega) | skip
  · intro x hx
    refine ⟨rfl, ?_⟩
    rw [backs_len, Nat.sub_self, List.drop_zero] at hx
    (repeat' ((conv => whnf); first | apply And.intro | exact ⟨by kernel_rfl⟩ | apply DrawN.mk | apply CodeN.step hm rfl | exact trivial | exact rfl | (intro hh; try simp only [bs] at hh))); all_goals (conv => whnf)
    (refine RetN.q () [] ?_ ?_ ?_ <;> (repeat' ((conv => whnf) <;> first | exact rfl | exact trivial | apply And.intro | exact Nat.zero_add _)); all_goals ((conv => whnf); try simp only []))
    rw [hx]
  · intro e x h; exact h.elim
end Go.Proofs.Ytkcifdblaboodaa.Hi
set_option linter.unusedVariables false
set_option linter.unusedSimpArgs false
namespace Go.Proofs.Ytkcifdblaboodaa.Hi
open Go Go.RowKit Fw Po
theorem PolOk.ringB {p : Pol} (hp : PolOk p) : 0 ≤ p.2.2.2 ∧ p.2.2.2 ≤ 16 := by
  by_cases h : p.1 = 3
  · have := hp.ring h; omega
  · have := hp.plain h; omega
theorem HOk.up {l : List Hit} {t t' : Int} (q : HOk l t) (h : t ≤ t') : HOk l t' := q.later h
theorem countsM (p : Pol) (l : List Hit) (t : Int) (hp : PolOk p) (hl : HOk l t) (ht : 0 ≤ t ∧ t ≤ 2199023255552) : Meets Try.prog 31 [polAV p, .lst HitT fun _ => l, .int .i64 fun _ => t] [] (Y := Unit) (fun _ => True) (fun _ => .int .i64 fun _ => counts p l t) (fun _ => []) := by
  have hs := slot_bound hp
  have hk := hp.kind
  have ht' : 0 ≤ t ∧ t ≤ 1125899906842624 := by omega
  refine Meets.intro hm (fn := Try.f31) Try.func31 rfl (by decide) (Nat.le_of_ble_eq_true rfl) (fun _ => rfl) ?_; intro S hok; (conv => whnf)
  (repeat' ((conv => whnf); first | apply And.intro | exact ⟨by kernel_rfl⟩ | apply DrawN.mk | apply CodeN.step hm rfl | exact trivial | exact rfl | (intro hh; try simp only [bs] at hh))); all_goals (conv => whnf)
  refine CallN.intro (slotM p) [] rfl rfl ?_ ?_ ?_
  · (repeat' ((conv => whnf) <;> first | exact rfl | exact trivial | apply And.intro | exact Nat.zero_add _))
  · (repeat' ((conv => whnf) <;> first | exact rfl | exact trivial | apply And.intro | exact Nat.zero_add _))
  intro y hy
  rw [if_pos hp]
  (repeat' ((conv => whnf); first | apply And.intro | exact ⟨by kernel_rfl⟩ | apply DrawN.mk | apply CodeN.step hm rfl | exact trivial | exact rfl | (intro hh; try simp only [bs] at hh))); all_goals (conv => whnf)
  · (refine CallN.q (levelM p l t hp hl ht) [] (fun _ _ => ?_); (repeat' ((conv => whnf); first | apply And.intro | exact ⟨by kernel_rfl⟩ | apply DrawN.mk | apply CodeN.step hm rfl | exact trivial | exact rfl | (intro hh; try simp only [bs] at hh; try exact absurd hh (by decide)))); all_goals (conv => whnf); all_goals try exact ⟨by decide⟩)
    (refine RetN.q () [] ?_ ?_ ?_ <;> (repeat' ((conv => whnf) <;> first | exact rfl | exact trivial | apply And.intro | exact Nat.zero_add _)); all_goals ((conv => whnf); try simp only []))
    simp [counts, hh]
  · (refine CallN.q (thoseA p t (slotOf p) l (hl.up ht'.2) ht' hs hp.window hp.ringB) [0, 1, 2] (fun _ _ => ?_); (repeat' ((conv => whnf); first | apply And.intro | exact ⟨by kernel_rfl⟩ | apply DrawN.mk | apply CodeN.step hm rfl | exact trivial | exact rfl | (intro hh; try simp only [bs] at hh; try exact absurd hh (by decide)))); all_goals (conv => whnf); all_goals try exact ⟨by decide⟩)
    (refine RetN.q () [] ?_ ?_ ?_ <;> (repeat' ((conv => whnf) <;> first | exact rfl | exact trivial | apply And.intro | exact Nat.zero_add _)); all_goals ((conv => whnf); try simp only []))
    simp only [counts, if_neg ‹¬p.1 = 1›]
    congr 1
    funext x
    simp [cq, hh]
  · (refine CallN.q (thoseB p t (slotOf p) l (hl.up ht'.2) ht' hs hp.window hp.ringB) [0, 1, 2] (fun _ _ => ?_); (repeat' ((conv => whnf); first | apply And.intro | exact ⟨by kernel_rfl⟩ | apply DrawN.mk | apply CodeN.step hm rfl | exact trivial | exact rfl | (intro hh; try simp only [bs] at hh; try exact absurd hh (by decide)))); all_goals (conv => whnf); all_goals try exact ⟨by decide⟩)
    (refine RetN.q () [] ?_ ?_ ?_ <;> (repeat' ((conv => whnf) <;> first | exact rfl | exact trivial | apply And.intro | exact Nat.zero_add _)); all_goals ((conv => whnf); try simp only []))
    simp only [counts, if_neg ‹¬p.1 = 1›]
    congr 1
    funext x
    simp [cq, hh]
  · (refine CallN.q (thoseC p t (slotOf p) l (hl.up ht'.2) ht' hs hp.window hp.ringB) [0, 1, 2] (fun _ _ => ?_); (repeat' ((conv => whnf); first | apply And.intro | exact ⟨by kernel_rfl⟩ | apply DrawN.mk | apply CodeN.step hm rfl | exact trivial | exact rfl | (intro hh; try simp only [bs] at hh; try exact absurd hh (by decide)))); all_goals (conv => whnf); all_goals try exact ⟨by decide⟩)
    (refine RetN.q () [] ?_ ?_ ?_ <;> (repeat' ((conv => whnf) <;> first | exact rfl | exact trivial | apply And.intro | exact Nat.zero_add _)); all_goals ((conv => whnf); try simp only []))
    simp only [counts, if_neg ‹¬p.1 = 1›]
    congr 1
    funext x
    simp only [cq]
    rw [if_neg (by omega), if_neg (by omega)]
theorem getD_mem {l : List Hit} {i : Nat} (h : i < l.length) : l.getD i (0, 0) ∈ l := by rw [List.getD_eq_getElem?_getD, List.getElem?_eq_getElem h]; exact List.getElem_mem h
theorem mem_take_at {l : List Hit} {i : Nat} {x : Hit} (h : x ∈ l.take i) : ∃ j, j < i ∧ j < l.length ∧ x = l.getD j (0, 0) := by
  obtain ⟨j, hj, e⟩ := List.getElem_of_mem h
  rw [List.length_take] at hj
  refine ⟨j, by omega, by omega, ?_⟩
  rw [← e, List.getElem_take, List.getD_eq_getElem?_getD, List.getElem?_eq_getElem (by omega)]; rfl
theorem may_tick {l : List Hit} (h : may l = true) {i : Nat} (hi : i < l.length) : 0 ≤ (l.getD i (0, 0)).1 ∧ (l.getD i (0, 0)).1 ≤ 1099511627776 := by
  have := (mayGo_ok l 0 h (Int.le_refl _)).1 _ (getD_mem hi); omega
theorem may_take {l : List Hit} (h : may l = true) (hl : l.length ≤ 64) {i : Nat} (hi : i < l.length) : HOk (l.take (i + 1)) (l.getD i (0, 0)).1 := by
  obtain ⟨h1, h2⟩ := mayGo_ok l 0 h (Int.le_refl _)
  refine ⟨fun x hx => ?_, fun x hx => ?_, by rw [List.length_take]; omega⟩
  · obtain ⟨j, hj, hj2, rfl⟩ := mem_take_at hx
    exact ⟨(h1 _ (getD_mem hj2)).1, h2 j i (by omega) hi⟩
  · have := h1 x (List.mem_of_mem_take hx); omega
theorem last_at {l : List Hit} (h : 0 < l.length) (t : Int) : lastOk l t = decide ((l.getD (l.length - 1) (0, 0)).1 ≤ t) := by
  unfold lastOk
  rw [List.getLast?_eq_getElem?, List.getD_eq_getElem?_getD, List.getElem?_eq_getElem (by omega)]
  rfl
theorem fitsTo_stop {p : Pol} {l : List Hit} {i : Nat} (h : fitsTo p l i = false) : ∀ n, i ≤ n → fitsTo p l n = false := by
  intro n hn
  induction n with
  | zero => rw [show i = 0 by omega] at h; exact h
  | succ n ih =>
    by_cases e : i = n + 1
    · rw [← e]; exact h
    · rw [fitsTo, ih (by omega)]; rfl
theorem fitsM (p : Pol) (l : List Hit) (t : Int) (hl : l.length ≤ 64) : Meets Try.prog 28 [polAV p, .lst HitT fun _ => l, .int .i64 fun _ => t] [] (Y := Unit) (fun _ => True) (fun _ => .bool fun _ => fits p l t) (fun _ => []) := by
  by_cases hp : PolOk p
  · refine Meets.intro hm (fn := Try.f28) Try.func28 rfl (by decide) (Nat.le_of_ble_eq_true rfl) (fun _ => rfl) ?_; intro S hok; (conv => whnf)
    (repeat' ((conv => whnf); first | apply And.intro | exact ⟨by kernel_rfl⟩ | apply DrawN.mk | apply CodeN.step hm rfl | exact trivial | exact rfl | (intro hh; try simp only [bs] at hh))); all_goals (conv => whnf)
    refine CallN.intro (checkM p) [] rfl rfl ?_ ?_ ?_
    · (repeat' ((conv => whnf) <;> first | exact rfl | exact trivial | apply And.intro | exact Nat.zero_add _))
    · (repeat' ((conv => whnf) <;> first | exact rfl | exact trivial | apply And.intro | exact Nat.zero_add _))
    intro y hy
    rw [if_pos hp]
    clear y hy
    (repeat' ((conv => whnf); first | apply And.intro | exact ⟨by kernel_rfl⟩ | apply DrawN.mk | apply CodeN.step hm rfl | exact trivial | exact rfl | (intro hh; try simp only [bs] at hh; try exact absurd hh (by decide)))); all_goals (conv => whnf)
    have hlst : 0 < l.length → (l.getD (IntKind.i64.wrap ((l.length : Int) - 1)).toNat HitT.dflt) = l.getD (l.length - 1) (0, 0) := fun h => by
      rw [wr (by omega), show ((l.length : Int) - 1).toNat = l.length - 1 by omega]; rfl
    (refine CallN.q (mayM l (by omega)) [] (fun _ _ => ?_); (repeat' ((conv => whnf); first | apply And.intro | exact ⟨by kernel_rfl⟩ | apply DrawN.mk | apply CodeN.step hm rfl | exact trivial | exact rfl | (intro hh; try simp only [bs] at hh; try exact absurd hh (by decide)))); all_goals (conv => whnf); all_goals try exact ⟨by decide⟩)
    · refine Ob.mk ?_
      have e : IntKind.i64.wrap ((l.length : Int) - 1) = (l.length : Int) - 1 := wr (by omega)
      simp only [e]; omega
    · rw [hlst (by omega)] at hh
      (refine RetN.q () [] ?_ ?_ ?_ <;> (repeat' ((conv => whnf) <;> first | exact rfl | exact trivial | apply And.intro | exact Nat.zero_add _)); all_goals ((conv => whnf); try simp only []))
      have := last_at (l := l) (by omega) t
      have hh : t < (l.getD (l.length - 1) (0, 0)).1 := hh
      have hf : lastOk l t = false := by rw [this]; exact decide_eq_false (by omega)
      simp [fits, hf]
    all_goals first
      | ((refine RetN.q () [] ?_ ?_ ?_ <;> (repeat' ((conv => whnf) <;> first | exact rfl | exact trivial | apply And.intro | exact Nat.zero_add _)); all_goals ((conv => whnf); try simp only [])); simp [fits, *]; done)
      | ((refine RetN.q () [] ?_ ?_ ?_ <;> (repeat' ((conv => whnf) <;> first | exact rfl | exact trivial | apply And.intro | exact Nat.zero_add _)); all_goals ((conv => whnf); try simp only [])); have : ¬ (0 ≤ t ∧ t ≤ 1099511627776) := by omega
         simp [fits]; omega)
      | skip
    all_goals
      have hlo : lastOk l t = true := by
        by_cases h0 : 0 < l.length
        · rw [last_at h0]
          first
            | exact absurd h0 (by omega)
            | (rw [hlst h0] at hh
               have hh : ¬ t < (l.getD (l.length - 1) (0, 0)).1 := hh
               exact decide_eq_true (by omega))
        · have : l = [] := List.eq_nil_of_length_eq_zero (by omega)
          rw [this]; rfl
      have hma : may l = true := by assumption
      have hft : fits p l t = fitsTo p l l.length := by
        unfold fits
        rw [hlo, hma, decide_eq_true hp, decide_eq_true (show (0 : Int) ≤ t by omega), decide_eq_true (show t ≤ 1099511627776 by omega)]
        rfl
      clear hlo hlst hh
      refine LoopN.intro hm (X := Nat) (fun i => i ≤ l.length ∧ fitsTo p l i = true) (fun i => l.length - i)
        (fun i => [(43, .int .i64 fun _ => (i : Int)), (42, .int .i64 fun _ => (l.length : Int)), (41, .lst HitT fun _ => l), (3, .ptr 0 0), (1, .lst HitT fun _ => l)])
        (fun i => [.cells 23 [.int .i64 fun _ => p.1, .int .i64 fun _ => p.2.1, .int .i64 fun _ => p.2.2.1, .int .i64 fun _ => p.2.2.2]]) 0 [0] ⟨rfl, rfl, ?_, ?_⟩ ⟨Nat.zero_le _, rfl⟩ (fun i hi => ?_)
      · (repeat' ((conv => whnf) <;> first | exact rfl | exact trivial | apply And.intro | exact Nat.zero_add _))
      · (repeat' ((conv => whnf) <;> first | exact rfl | exact trivial | apply And.intro | exact Nat.zero_add _))
      · obtain ⟨hi, hfi⟩ := hi
        have hx' : l.getD (i : Int).toNat HitT.dflt = l.getD i (0, 0) := rfl
        (repeat' ((conv => whnf); first | apply And.intro | exact ⟨by kernel_rfl⟩ | apply DrawN.mk | apply CodeN.step hm rfl | exact trivial | exact rfl | (intro hh; try simp only [bs] at hh))); all_goals (conv => whnf)
        all_goals (try simp only [hx'] at *)
        · (refine Ob.mk ?_; (try simp only [Ty.dflt, Nat.zero_add, Nat.add_zero, Int.toNat_natCast, Int.toNat_zero, Int.toNat_one, List.length_take, List.length_drop, List.length_append, List.length_replicate, List.length_cons, List.length_nil, List.length_set, List.length_map, true_and, and_true]); omega)
        · refine Ob.mk ?_
          have e := wr2 i (n := l.length) (by omega) (by omega)
          simp only [e]; omega
        · have hi1 : i < l.length := by omega
          have e := wr2 i hi1 (by omega)
          have e0 : List.drop (Int.toNat 0) (List.take ((i + 1 : Nat) : Int).toNat l) = l.take (i + 1) := rfl
          simp only [e, e0]
          have hH := may_take hma hl hi1
          have hT := may_tick hma hi1
          have hst : fitsTo p l (i + 1) = decide (counts p (l.take (i + 1)) (l.getD i (0, 0)).1 ≤ worth p p.2.1) := by rw [fitsTo, hfi, Bool.true_and]
          (refine CallN.q (countsM p (l.take (i + 1)) (l.getD i (0, 0)).1 hp hH (by omega)) [] (fun _ _ => ?_); (repeat' ((conv => whnf); first | apply And.intro | exact ⟨by kernel_rfl⟩ | apply DrawN.mk | apply CodeN.step hm rfl | exact trivial | exact rfl | (intro hh; try simp only [bs] at hh; try exact absurd hh (by decide)))); all_goals (conv => whnf); all_goals try exact ⟨by decide⟩)
          (refine CallN.q (worthM p hp p.2.1 hp.limit) [] (fun _ _ => ?_); (repeat' ((conv => whnf); first | apply And.intro | exact ⟨by kernel_rfl⟩ | apply DrawN.mk | apply CodeN.step hm rfl | exact trivial | exact rfl | (intro hh; try simp only [bs] at hh; try exact absurd hh (by decide)))); all_goals (conv => whnf); all_goals try exact ⟨by decide⟩)
          · have hs := fitsTo_stop (i := i + 1) (p := p) (l := l) (by rw [hst]; exact decide_eq_false (by omega)) l.length hi1
            (refine RetN.q () [] ?_ ?_ ?_ <;> (repeat' ((conv => whnf) <;> first | exact rfl | exact trivial | apply And.intro | exact Nat.zero_add _)); all_goals ((conv => whnf); try simp only []))
            rw [hft, hs]
          · refine ⟨i + 1, [0], ⟨rfl, rfl, ?_, ?_⟩, ⟨hi1, by rw [hst]; exact decide_eq_true (by omega)⟩, by omega⟩
            · (repeat' ((conv => whnf) <;> first | exact rfl | exact trivial | apply And.intro | exact Nat.zero_add _))
            · (repeat' ((conv => whnf) <;> first | exact rfl | exact trivial | apply And.intro | exact Nat.zero_add _)); all_goals ((conv => whnf); try simp only [])
              exact wr2 i hi1 (by omega)
        · have e : i = l.length := by omega
          (refine RetN.q () [] ?_ ?_ ?_ <;> (repeat' ((conv => whnf) <;> first | exact rfl | exact trivial | apply And.intro | exact Nat.zero_add _)); all_goals ((conv => whnf); try simp only []))
          rw [hft, ← e, hfi]
  · refine Meets.intro hm (fn := Try.f28) Try.func28 rfl (by decide) (Nat.le_of_ble_eq_true rfl) (fun _ => rfl) ?_; intro S hok; (conv => whnf)
    (repeat' ((conv => whnf); first | apply And.intro | exact ⟨by kernel_rfl⟩ | apply DrawN.mk | apply CodeN.step hm rfl | exact trivial | exact rfl | (intro hh; try simp only [bs] at hh))); all_goals (conv => whnf)
    refine CallN.intro (checkM p) [] rfl rfl ?_ ?_ ?_
    · (repeat' ((conv => whnf) <;> first | exact rfl | exact trivial | apply And.intro | exact Nat.zero_add _))
    · (repeat' ((conv => whnf) <;> first | exact rfl | exact trivial | apply And.intro | exact Nat.zero_add _))
    intro y hy
    rw [if_neg hp]
    (repeat' ((conv => whnf); first | apply And.intro | exact ⟨by kernel_rfl⟩ | apply DrawN.mk | apply CodeN.step hm rfl | exact trivial | exact rfl | (intro hh; try simp only [bs] at hh; try exact absurd hh (by decide)))); all_goals (conv => whnf)
    (refine RetN.q () [] ?_ ?_ ?_ <;> (repeat' ((conv => whnf) <;> first | exact rfl | exact trivial | apply And.intro | exact Nat.zero_add _)); all_goals ((conv => whnf); try simp only []))
    simp [fits, hp]
end Go.Proofs.Ytkcifdblaboodaa.Hi
set_option linter.unusedVariables false
set_option linter.unusedSimpArgs false
namespace Go.Proofs.Ytkcifdblaboodaa.Hi
open Go Go.RowKit Fw Po
theorem waitM (p : Pol) (l : List Hit) (t most : Int) (hp : PolOk p) (hl : HOk l t) (ht : 0 ≤ t ∧ t ≤ 1099511627776) : Meets Try.prog 33 [polAV p, .lst HitT fun _ => l, .int .i64 fun _ => t, .int .i64 fun _ => most] [] (Y := Unit) (fun _ => True) (fun _ => .int .i64 fun _ => wait p l t most) (fun _ => []) := by
  have hW := hp.window
  refine Meets.intro hm (fn := Try.f33) Try.func33 rfl (by decide) (Nat.le_of_ble_eq_true rfl) (fun _ => rfl) ?_; intro S hok; (conv => whnf)
  (repeat' ((conv => whnf); first | apply And.intro | exact ⟨by kernel_rfl⟩ | apply DrawN.mk | apply CodeN.step hm rfl | exact trivial | exact rfl | (intro hh; try simp only [bs] at hh))); all_goals (conv => whnf)
  refine LoopN.intro hm (X := Int × Int) (fun x => 0 ≤ x.1 ∧ x.1 ≤ x.2 ∧ x.2 ≤ p.2.2.1 ∧ (x.1 = 0 ∨ most < counts p l (t + (x.1 - 1))) ∧ (x.2 = p.2.2.1 ∨ counts p l (t + x.2) ≤ most)) (fun x => (x.2 - x.1).toNat)
    (fun x => [(9, .int .i64 fun _ => x.1), (10, .int .i64 fun _ => x.2), (4, .ptr 0 0), (1, .lst HitT fun _ => l), (2, .int .i64 fun _ => t), (3, .int .i64 fun _ => most)])
    (fun i => [.cells 23 [.int .i64 fun _ => p.1, .int .i64 fun _ => p.2.1, .int .i64 fun _ => p.2.2.1, .int .i64 fun _ => p.2.2.2]]) (0, p.2.2.1) [0] ⟨rfl, rfl, ?_, ?_⟩ ⟨by simp, by simp; omega, by simp, .inl rfl, .inl rfl⟩ (fun x hx => ?_)
  · (repeat' ((conv => whnf) <;> first | exact rfl | exact trivial | apply And.intro | exact Nat.zero_add _))
  · (repeat' ((conv => whnf) <;> first | exact rfl | exact trivial | apply And.intro | exact Nat.zero_add _))
  · obtain ⟨a, b⟩ := x
    simp only [] at hx
    obtain ⟨h0, h1, h2, h3, h4⟩ := hx
    have e1 : IntKind.i64.wrap (a + b) = a + b := wr (by omega)
    have hh0 : 0 ≤ (a + b).tdiv 2 := Int.tdiv_nonneg (by omega) (by omega)
    have hh1 : (a + b).tdiv 2 = (a + b) / 2 := Int.tdiv_eq_ediv_of_nonneg (by omega)
    have e2 : IntKind.i64.wrap ((a + b).tdiv 2) = (a + b) / 2 := by rw [hh1]; exact wr (by omega)
    have e3 : IntKind.i64.wrap (t + (a + b) / 2) = t + (a + b) / 2 := wr (by omega)
    (repeat' ((conv => whnf); first | apply And.intro | exact ⟨by kernel_rfl⟩ | apply DrawN.mk | apply CodeN.step hm rfl | exact trivial | exact rfl | (intro hh; try simp only [bs] at hh))); all_goals (conv => whnf)
    all_goals (try simp only [e1, e2, e3])
    · exact Ob.mk (by decide)
    · (refine CallN.q (countsM p l (t + (a + b) / 2) hp (hl.up (by omega)) (by omega)) [] (fun _ _ => ?_); (repeat' ((conv => whnf); first | apply And.intro | exact ⟨by kernel_rfl⟩ | apply DrawN.mk | apply CodeN.step hm rfl | exact trivial | exact rfl | (intro hh; try simp only [bs] at hh; try exact absurd hh (by decide)))); all_goals (conv => whnf); all_goals try exact ⟨by decide⟩)
      · refine ⟨(a, (a + b) / 2), [0], ⟨rfl, rfl, ?_, ?_⟩, ⟨h0, ?_, ?_, h3, .inr hh⟩, ?_⟩
        · (repeat' ((conv => whnf) <;> first | exact rfl | exact trivial | apply And.intro | exact Nat.zero_add _))
        · (repeat' ((conv => whnf) <;> first | exact rfl | exact trivial | apply And.intro | exact Nat.zero_add _))
        · simp only []; omega
        · simp only []; omega
        · simp only []; omega
      · refine ⟨((a + b) / 2 + 1, b), [0], ⟨rfl, rfl, ?_, ?_⟩, ⟨?_, ?_, h2, .inr ?_, h4⟩, ?_⟩
        · (repeat' ((conv => whnf) <;> first | exact rfl | exact trivial | apply And.intro | exact Nat.zero_add _))
        · (repeat' ((conv => whnf) <;> first | exact rfl | exact trivial | apply And.intro | exact Nat.zero_add _)); all_goals ((conv => whnf); try simp only [])
          exact wr (by omega)
        · simp only []; omega
        · simp only []; omega
        · simp only []
          rw [show t + ((a + b) / 2 + 1 - 1) = t + (a + b) / 2 by omega]; omega
        · simp only []; omega
    · have e : a = b := by omega
      subst e
      (refine RetN.q () [] ?_ ?_ ?_ <;> (repeat' ((conv => whnf) <;> first | exact rfl | exact trivial | apply And.intro | exact Nat.zero_add _)); all_goals ((conv => whnf); try simp only []))
      exact (wait_eq hp hl h0 h2 h3 h4).symm
theorem growM (n : Int) (hn : 1 ≤ n ∧ n ≤ 1000000) : Meets Try.prog 62 [.snil, .int .i64 fun _ => n] [] (Y := Unit) (fun _ => True) (fun _ => .vec 0 2 (fun _ => 0) (fun _ => 0)) (fun _ => [.vect 64 HitT fun _ => List.replicate n.toNat (0, 0)]) := by
  have e0 : IntKind.i64.wrap (n - IntKind.i64.wrap (0 - 0)) = n := by
    rw [show IntKind.i64.wrap (0 - 0) = 0 from wr (by omega), wr (by omega)]; omega
  refine Meets.intro hm (fn := Try.f62) Try.func62 rfl (by decide) (Nat.le_of_ble_eq_true rfl) (fun _ => rfl) ?_; intro S hok; (conv => whnf)
  (repeat' ((conv => whnf); first | apply And.intro | exact ⟨by kernel_rfl⟩ | apply DrawN.mk | apply CodeN.step hm rfl | exact trivial | exact rfl | (intro hh; try simp only [bs] at hh))); all_goals (conv => whnf)
  all_goals (try simp only [e0] at *)
  · exact absurd hh (by omega)
  · exact Ob.mk (by decide)
  · refine Ob.mk ?_
    have e : ((Try.t64.bytes : Nat) : Int) = 16 := rfl
    rw [e]; omega
  · exact absurd hh (by omega)
  · exact absurd hh (by omega)
  · exact Ob.mk ⟨Int.le_refl _, Int.le_refl _, Int.natCast_nonneg _⟩
  · (refine RetN.q () [0] ?_ ?_ ?_ <;> (repeat' ((conv => whnf) <;> first | exact rfl | exact trivial | apply And.intro | exact Nat.zero_add _)); all_goals ((conv => whnf); try simp only []))
  · exact absurd hh (by omega)
theorem concatM (ls : List (List Hit)) (hn : 1 ≤ ls.flatten.length ∧ ls.flatten.length ≤ 1000000) (hls : ls.length ≤ 1000) : Meets Try.prog 32 [.lst (.list HitT) fun _ => ls] [] (Y := Unit) (fun _ => True) (fun _ => .vec 0 2 (fun _ => 0) (fun _ => ls.flatten.length)) (fun _ => [.vect 64 HitT fun _ => ls.flatten]) := by
  refine Meets.intro hm (fn := Try.f32) Try.func32 rfl (by decide) (Nat.le_of_ble_eq_true rfl) (fun _ => rfl) ?_; intro S hok; (conv => whnf)
  (repeat' ((conv => whnf); first | apply And.intro | exact ⟨by kernel_rfl⟩ | apply DrawN.mk | apply CodeN.step hm rfl | exact trivial | exact rfl | (intro hh; try simp only [bs] at hh))); all_goals (conv => whnf)
  have hsz : ∀ i, (ls.take i).flatten.length ≤ ls.flatten.length := fun i => by
    conv => rhs; rw [← List.take_append_drop i ls]
    rw [List.flatten_append, List.length_append]; omega
  have hst : ∀ i, i < ls.length → (ls.take (i + 1)).flatten = (ls.take i).flatten ++ ls.getD i [] := fun i hi => by
    rw [List.take_add_one, List.getElem?_eq_getElem hi, List.flatten_append]; simp [List.getD_eq_getElem?_getD, hi]
  refine LoopN.intro hm (X := Nat) (fun i => i ≤ ls.length) (fun i => ls.length - i)
    (fun i => [(11, .int .i64 fun _ => (i : Int)), (10, .int .i64 fun _ => (ls.length : Int)), (9, .lst (.list HitT) fun _ => ls), (3, .int .i64 fun _ => ((ls.take i).flatten.length : Int)), (0, .lst (.list HitT) fun _ => ls), (2, .snil)])
    (fun i => []) 0 [] ⟨rfl, rfl, ?_, ?_⟩ (Nat.zero_le _) (fun i hi => ?_)
  · (repeat' ((conv => whnf) <;> first | exact rfl | exact trivial | apply And.intro | exact Nat.zero_add _))
  · (repeat' ((conv => whnf) <;> first | exact rfl | exact trivial | apply And.intro | exact Nat.zero_add _))
  · have h1 := hsz (i + 1)
    have hst := hst i
    have hx' : ls.getD (i : Int).toNat (Ty.list HitT).dflt = ls.getD i [] := rfl
    (repeat' ((conv => whnf); first | apply And.intro | exact ⟨by kernel_rfl⟩ | apply DrawN.mk | apply CodeN.step hm rfl | exact trivial | exact rfl | (intro hh; try simp only [bs] at hh))); all_goals (conv => whnf)
    all_goals (try simp only [hx'] at *)
    · (refine Ob.mk ?_; (try simp only [Ty.dflt, Nat.zero_add, Nat.add_zero, Int.toNat_natCast, Int.toNat_zero, Int.toNat_one, List.length_take, List.length_drop, List.length_append, List.length_replicate, List.length_cons, List.length_nil, List.length_set, List.length_map, true_and, and_true]); omega)
    · rw [hst (by omega), List.length_append] at h1
      rw [wr (by omega)] at hh
      exact absurd hh (by omega)
    · have hi1 : i < ls.length := by omega
      refine ⟨i + 1, [], ⟨rfl, rfl, ?_, ?_⟩, hi1, by omega⟩
      · (repeat' ((conv => whnf) <;> first | exact rfl | exact trivial | apply And.intro | exact Nat.zero_add _))
      · rw [hst hi1, List.length_append] at h1
        (repeat' ((conv => whnf) <;> first | exact rfl | exact trivial | apply And.intro | exact Nat.zero_add _)); all_goals ((conv => whnf); try simp only [])
        · exact wr2 i hi1 (by omega)
        · rw [hst hi1, List.length_append, wr (by omega)]; omega
    · have e : i = ls.length := by omega
      subst e
      rw [List.take_length]
      (refine CallN.q (growM ls.flatten.length (by omega)) [] (fun _ _ => ?_); (repeat' ((conv => whnf); first | apply And.intro | exact ⟨by kernel_rfl⟩ | apply DrawN.mk | apply CodeN.step hm rfl | exact trivial | exact rfl | (intro hh; try simp only [bs] at hh; try exact absurd hh (by decide)))); all_goals (conv => whnf); all_goals try exact ⟨by decide⟩)
      clear hi h1 hst hh
      refine LoopN.intro hm (X := Nat × List Hit) (fun x => x.1 ≤ ls.length ∧ (0 < x.1 → x.2 = (ls.take x.1).flatten)) (fun x => ls.length - x.1)
        (fun x => [(27, .int .i64 fun _ => (x.1 : Int)), (26, .int .i64 fun _ => (ls.length : Int)), (25, .lst (.list HitT) fun _ => ls), (6, .vec 0 2 (fun _ => 0) fun _ => (ls.take x.1).flatten.length)])
        (fun x => [.vect 64 HitT fun _ => x.2]) (0, List.replicate ls.flatten.length (0, 0)) [0] ⟨rfl, rfl, ?_, ?_⟩ ⟨Nat.zero_le _, fun h => by simp at h⟩ (fun x hx => ?_)
      · (repeat' ((conv => whnf) <;> first | exact rfl | exact trivial | apply And.intro | exact Nat.zero_add _))
      · (repeat' ((conv => whnf) <;> first | exact rfl | exact trivial | apply And.intro | exact Nat.zero_add _))
      · obtain ⟨i, xs⟩ := x
        obtain ⟨hi, hxs⟩ := hx
        simp only [] at hi hxs
        have h1 := hsz (i + 1)
        have hst := ‹∀ i, i < ls.length → _› i
        have hx' : ls.getD (i : Int).toNat (Ty.list HitT).dflt = ls.getD i [] := rfl
        (repeat' ((conv => whnf); first | apply And.intro | exact ⟨by kernel_rfl⟩ | apply DrawN.mk | apply CodeN.step hm rfl | exact trivial | exact rfl | (intro hh; try simp only [bs] at hh))); all_goals (conv => whnf)
        all_goals (try simp only [hx'] at *)
        · (refine Ob.mk ?_; (try simp only [Ty.dflt, Nat.zero_add, Nat.add_zero, Int.toNat_natCast, Int.toNat_zero, Int.toNat_one, List.length_take, List.length_drop, List.length_append, List.length_replicate, List.length_cons, List.length_nil, List.length_set, List.length_map, true_and, and_true]); omega)
        · refine Ob.mk ?_
          have e : (Try.t64.bytes : Nat) = 16 := rfl
          rw [hst (by omega), List.length_append] at h1
          rw [e]
          exact ⟨trivial, by omega, by omega⟩
        · have hi1 : i < ls.length := by omega
          have hap : xs.take (ls.take i).flatten.length ++ ls.getD i [] = (ls.take (i + 1)).flatten := by
            rw [hst hi1]
            by_cases h0 : 0 < i
            · rw [hxs h0, List.take_length]
            · have e : i = 0 := by omega
              subst e; simp
          refine ⟨(i + 1, xs.take (ls.take i).flatten.length ++ ls.getD i []), [0], ⟨rfl, rfl, ?_, ?_⟩, ⟨hi1, fun _ => hap⟩, by simp only []; omega⟩
          · (repeat' ((conv => whnf) <;> first | exact rfl | exact trivial | apply And.intro | exact Nat.zero_add _))
          · (repeat' ((conv => whnf) <;> first | exact rfl | exact trivial | apply And.intro | exact Nat.zero_add _)); all_goals ((conv => whnf); try simp only [])
            · exact wr2 i hi1 (by omega)
            · rw [hst hi1, List.length_append]
        · have e : i = ls.length := by omega
          have h0 : 0 < i := by
            rcases Nat.eq_zero_or_pos i with h0 | h0
            · exfalso
              have : ls = [] := List.eq_nil_of_length_eq_zero (by omega)
              rw [this] at hn; simp at hn
            · exact h0
          have hxs := hxs h0
          (refine RetN.q () [0] ?_ ?_ ?_ <;> (repeat' ((conv => whnf) <;> first | exact rfl | exact trivial | apply And.intro | exact Nat.zero_add _)); all_goals ((conv => whnf); try simp only []))
          · rw [hxs, e, List.take_length]
          · rw [e, List.take_length]
end Go.Proofs.Ytkcifdblaboodaa.Hi
set_option linter.unusedVariables false
set_option linter.unusedSimpArgs false
namespace Go.Proofs.Ytkcifdblaboodaa.Hi
open Go Go.RowKit Fw Po
theorem fits_iff {p : Pol} {l : List Hit} {t : Int} (h : fits p l t = true) (hl : l.length ≤ 64) : PolOk p ∧ may l = true ∧ 0 ≤ t ∧ t ≤ 1099511627776 ∧ HOk l t := by
  simp only [fits, Bool.and_eq_true, decide_eq_true_eq] at h
  obtain ⟨⟨⟨⟨⟨h1, h2⟩, h3⟩, h4⟩, h5⟩, h6⟩ := h
  refine ⟨h1, h2, h3, h4, ?_⟩
  by_cases h0 : 0 < l.length
  · have := may_take h2 hl (i := l.length - 1) (by omega)
    rw [show l.length - 1 + 1 = l.length by omega, List.take_length] at this
    rw [last_at h0] at h5
    exact this.up (of_decide_eq_true h5)
  · have : l = [] := List.eq_nil_of_length_eq_zero (by omega)
    subst this
    exact ⟨by simp, by simp, by simp⟩
theorem countsRM (p : Pol) (l : List Hit) (t : Int) (hl : l.length ≤ 64) : Meets Try.prog 25 [polAV p, .lst HitT fun _ => l, .int .i64 fun _ => t] [] (Y := Unit) (fun _ => True) (fun _ => .int .i64 fun _ => countsR p l t) (fun _ => []) := by
  refine Meets.intro hm (fn := Try.f25) Try.func25 rfl (by decide) (Nat.le_of_ble_eq_true rfl) (fun _ => rfl) ?_; intro S hok; (conv => whnf)
  (repeat' ((conv => whnf); first | apply And.intro | exact ⟨by kernel_rfl⟩ | apply DrawN.mk | apply CodeN.step hm rfl | exact trivial | exact rfl | (intro hh; try simp only [bs] at hh))); all_goals (conv => whnf)
  (refine CallN.q (fitsM p l t hl) [] (fun _ _ => ?_); (repeat' ((conv => whnf); first | apply And.intro | exact ⟨by kernel_rfl⟩ | apply DrawN.mk | apply CodeN.step hm rfl | exact trivial | exact rfl | (intro hh; try simp only [bs] at hh; try exact absurd hh (by decide)))); all_goals (conv => whnf); all_goals try exact ⟨by decide⟩)
  · (refine RetN.q () [] ?_ ?_ ?_ <;> (repeat' ((conv => whnf) <;> first | exact rfl | exact trivial | apply And.intro | exact Nat.zero_add _)); all_goals ((conv => whnf); try simp only []))
    simp [countsR, hh]
  · obtain ⟨h1, h2, h3, h4, h5⟩ := fits_iff hh hl
    (refine CallN.q (countsM p l t h1 h5 (by omega)) [] (fun _ _ => ?_); (repeat' ((conv => whnf); first | apply And.intro | exact ⟨by kernel_rfl⟩ | apply DrawN.mk | apply CodeN.step hm rfl | exact trivial | exact rfl | (intro hh; try simp only [bs] at hh; try exact absurd hh (by decide)))); all_goals (conv => whnf); all_goals try exact ⟨by decide⟩)
    (refine RetN.q () [] ?_ ?_ ?_ <;> (repeat' ((conv => whnf) <;> first | exact rfl | exact trivial | apply And.intro | exact Nat.zero_add _)); all_goals ((conv => whnf); try simp only []))
    simp [countsR, hh]
theorem neutralM (p : Pol) (l : List Hit) (t : Int) (hl : l.length ≤ 64) : Meets Try.prog 15 [polAV p, .lst HitT fun _ => l, .int .i64 fun _ => t] [] (Y := Unit) (fun _ => True) (fun _ => .bool fun _ => neutral p l t) (fun _ => []) := by
  refine Meets.intro hm (fn := Try.f15) Try.func15 rfl (by decide) (Nat.le_of_ble_eq_true rfl) (fun _ => rfl) ?_; intro S hok; (conv => whnf)
  (repeat' ((conv => whnf); first | apply And.intro | exact ⟨by kernel_rfl⟩ | apply DrawN.mk | apply CodeN.step hm rfl | exact trivial | exact rfl | (intro hh; try simp only [bs] at hh))); all_goals (conv => whnf)
  (refine CallN.q (fitsM p l t hl) [] (fun _ _ => ?_); (repeat' ((conv => whnf); first | apply And.intro | exact ⟨by kernel_rfl⟩ | apply DrawN.mk | apply CodeN.step hm rfl | exact trivial | exact rfl | (intro hh; try simp only [bs] at hh; try exact absurd hh (by decide)))); all_goals (conv => whnf); all_goals try exact ⟨by decide⟩)
  · obtain ⟨h1, h2, h3, h4, h5⟩ := fits_iff hh hl
    (refine CallN.q (countsM p l t h1 h5 (by omega)) [] (fun _ _ => ?_); (repeat' ((conv => whnf); first | apply And.intro | exact ⟨by kernel_rfl⟩ | apply DrawN.mk | apply CodeN.step hm rfl | exact trivial | exact rfl | (intro hh; try simp only [bs] at hh; try exact absurd hh (by decide)))); all_goals (conv => whnf); all_goals try exact ⟨by decide⟩)
    (refine RetN.q () [] ?_ ?_ ?_ <;> (repeat' ((conv => whnf) <;> first | exact rfl | exact trivial | apply And.intro | exact Nat.zero_add _)); all_goals ((conv => whnf); try simp only []))
    rw [neutral, hh, Bool.true_and]; rfl
  · (refine RetN.q () [] ?_ ?_ ?_ <;> (repeat' ((conv => whnf) <;> first | exact rfl | exact trivial | apply And.intro | exact Nat.zero_add _)); all_goals ((conv => whnf); try simp only []))
    simp [neutral, hh]
theorem rem_eq {m c d : Int} (hm : 0 ≤ m ∧ m ≤ 1099511627776) (hc : 0 ≤ c ∧ c ≤ 70368744177664) (hd : 1 ≤ d) :
    IntKind.i64.wrap ((if IntKind.i64.wrap (m - c) > 0 then IntKind.i64.wrap (m - c) else 0).tdiv d) = (max 0 (m - c)).tdiv d := by
  rw [wr (x := m - c) (by omega)]
  have e : (if m - c > 0 then m - c else 0) = max 0 (m - c) := by split <;> omega
  rw [e]
  have := tdiv_bound (a := max 0 (m - c)) (s := d) (by omega) (by omega) hd
  exact wr (by omega)
theorem askM (p : Pol) (l : List Hit) (t w : Int) (hl : l.length ≤ 63) : Meets Try.prog 13 [polAV p, .lst HitT fun _ => l, .int .i64 fun _ => t, .int .i64 fun _ => w] [] (Y := Unit) (fun _ => True) (fun _ => .tup [.lst HitT fun _ => (ask p l t w).1, verAV (ask p l t w).2]) (fun _ => []) := by
  refine Meets.intro hm (fn := Try.f13) Try.func13 rfl (by decide) (Nat.le_of_ble_eq_true rfl) (fun _ => rfl) ?_; intro S hok; (conv => whnf)
  (repeat' ((conv => whnf); first | apply And.intro | exact ⟨by kernel_rfl⟩ | apply DrawN.mk | apply CodeN.step hm rfl | exact trivial | exact rfl | (intro hh; try simp only [bs] at hh))); all_goals (conv => whnf)
  (refine CallN.q (fitsM p l t (by omega)) [] (fun _ _ => ?_); (repeat' ((conv => whnf); first | apply And.intro | exact ⟨by kernel_rfl⟩ | apply DrawN.mk | apply CodeN.step hm rfl | exact trivial | exact rfl | (intro hh; try simp only [bs] at hh; try exact absurd hh (by decide)))); all_goals (conv => whnf); all_goals try exact ⟨by decide⟩)
  · (refine CallN.q (weighsM w) [] (fun _ _ => ?_); (repeat' ((conv => whnf); first | apply And.intro | exact ⟨by kernel_rfl⟩ | apply DrawN.mk | apply CodeN.step hm rfl | exact trivial | exact rfl | (intro hh; try simp only [bs] at hh; try exact absurd hh (by decide)))); all_goals (conv => whnf); all_goals try exact ⟨by decide⟩)
    · have ha : ask p l t w = (l, false, 0, 0, 0) := by
        unfold ask; rw [hh, Bool.and_false]; rfl
      (refine RetN.q () [] ?_ ?_ ?_ <;> (repeat' ((conv => whnf) <;> first | exact rfl | exact trivial | apply And.intro | exact Nat.zero_add _)); all_goals ((conv => whnf); try simp only []))
      all_goals rw [ha]
    · obtain ⟨h1, h2, h3, h4, h5⟩ := fits_iff ‹_› (by omega)
      have hw : 1 ≤ w ∧ w ≤ 1048576 := by simpa [weighs] using hh
      have hfw : (fits p l t && weighs w) = true := by rw [‹fits p l t = true›, hh]; rfl
      clear hh
      have hwb := worth_bound h1 hw
      have hcb := counts_bound h1 h5
      have hmb := worth_bound h1 h1.limit
      have h1b := worth_bound h1 (w := 1) (by omega)
      have e1 : IntKind.i64.wrap (counts p l t + worth p w) = counts p l t + worth p w := wr (by omega)
      have e3 : IntKind.i64.wrap (worth p p.2.1 - worth p w) = worth p p.2.1 - worth p w := wr (by omega)
      (refine CallN.q (worthM p h1 p.2.1 h1.limit) [] (fun _ _ => ?_); (repeat' ((conv => whnf); first | apply And.intro | exact ⟨by kernel_rfl⟩ | apply DrawN.mk | apply CodeN.step hm rfl | exact trivial | exact rfl | (intro hh; try simp only [bs] at hh; try exact absurd hh (by decide)))); all_goals (conv => whnf); all_goals try exact ⟨by decide⟩)
      (refine CallN.q (countsM p l t h1 h5 (by omega)) [] (fun _ _ => ?_); (repeat' ((conv => whnf); first | apply And.intro | exact ⟨by kernel_rfl⟩ | apply DrawN.mk | apply CodeN.step hm rfl | exact trivial | exact rfl | (intro hh; try simp only [bs] at hh; try exact absurd hh (by decide)))); all_goals (conv => whnf); all_goals try exact ⟨by decide⟩)
      (refine CallN.q (worthM p h1 w hw) [] (fun _ _ => ?_); (repeat' ((conv => whnf); first | apply And.intro | exact ⟨by kernel_rfl⟩ | apply DrawN.mk | apply CodeN.step hm rfl | exact trivial | exact rfl | (intro hh; try simp only [bs] at hh; try exact absurd hh (by decide)))); all_goals (conv => whnf); all_goals try exact ⟨by decide⟩)
      all_goals (try simp only [e1] at hh ⊢)
      · refine CallN.frz 4 ?_ (concatM [[(t, w)]] (by simp) (by simp)).callable
        (conv => whnf)
        have e : ((((List.take 2 (List.drop 0 [l, List.take 1 (List.drop 0 [(t, w)])]))) : List (List Hit))) = [l, [(t, w)]] := rfl
        have hl' : HOk (l ++ [(t, w)]) t := ⟨fun x hx => by
          rcases List.mem_append.1 hx with hx | hx
          · exact h5.tick x hx
          · simp at hx; subst hx; simp; omega, fun x hx => by
          rcases List.mem_append.1 hx with hx | hx
          · exact h5.weight x hx
          · simp at hx; subst hx; exact hw, by simp; omega⟩
        have ef : [l, [(t, w)]].flatten = l ++ [(t, w)] := by simp
        (refine CallN.q (concatM [l, [(t, w)]] (by rw [ef]; have := hl'.len; simp at this ⊢; omega) (by simp)) [] (fun _ _ => ?_); (repeat' ((conv => whnf); first | apply And.intro | exact ⟨by kernel_rfl⟩ | apply DrawN.mk | apply CodeN.step hm rfl | exact trivial | exact rfl | (intro hh; try simp only [bs] at hh; try exact absurd hh (by decide)))); all_goals (conv => whnf); all_goals try exact ⟨by decide⟩)
        rw [ef]
        have hcb' := counts_bound h1 hl'
        have e5 : (List.take (l ++ [(t, w)]).length (List.drop 0 (l ++ [(t, w)]))) = l ++ [(t, w)] := by rw [List.drop_zero, List.take_length]
        refine CallN.frz 5 ?_ (countsM p l t h1 h5 (by omega)).callable
        (conv => whnf)
        simp only [e5]
        have ha : ask p l t w = (l ++ [(t, w)], true, (max 0 (worth p p.2.1 - counts p (l ++ [(t, w)]) t)).tdiv (worth p 1), 0, wait p (l ++ [(t, w)]) t 0) := by
          unfold ask; rw [if_pos hfw]; simp only [if_pos hh, decide_eq_true hh]
        (refine CallN.q (countsM p (l ++ [(t, w)]) t h1 hl' (by omega)) [] (fun _ _ => ?_); (repeat' ((conv => whnf); first | apply And.intro | exact ⟨by kernel_rfl⟩ | apply DrawN.mk | apply CodeN.step hm rfl | exact trivial | exact rfl | (intro hh; try simp only [bs] at hh; try exact absurd hh (by decide)))); all_goals (conv => whnf); all_goals try exact ⟨by decide⟩)
        (refine CallN.q (worthM p h1 1 (by omega)) [] (fun _ _ => ?_); (repeat' ((conv => whnf); first | apply And.intro | exact ⟨by kernel_rfl⟩ | apply DrawN.mk | apply CodeN.step hm rfl | exact trivial | exact rfl | (intro hh; try simp only [bs] at hh; try exact absurd hh (by decide)))); all_goals (conv => whnf); all_goals try exact ⟨by decide⟩)
        · exact Ob.mk (by simp only []; omega)
        (refine CallN.q (waitM p (l ++ [(t, w)]) t 0 h1 hl' (by omega)) [] (fun _ _ => ?_); (repeat' ((conv => whnf); first | apply And.intro | exact ⟨by kernel_rfl⟩ | apply DrawN.mk | apply CodeN.step hm rfl | exact trivial | exact rfl | (intro hh; try simp only [bs] at hh; try exact absurd hh (by decide)))); all_goals (conv => whnf); all_goals try exact ⟨by decide⟩)
        (refine RetN.q () [] ?_ ?_ ?_ <;> (repeat' ((conv => whnf) <;> first | exact rfl | exact trivial | apply And.intro | exact Nat.zero_add _)); all_goals ((conv => whnf); try simp only []))
        all_goals rw [ha]
        exact rem_eq (by omega) hcb' h1b.1
      · have hn : ¬ counts p l t + worth p w ≤ worth p p.2.1 := by rw [← e1]; assumption
        have ha : ask p l t w = (l, false, (max 0 (worth p p.2.1 - counts p l t)).tdiv (worth p 1), 2199023255552, wait p l t 0) := by
          unfold ask; rw [if_pos hfw]; simp only [if_neg hn, decide_eq_false hn, if_pos hh]
        (refine CallN.q (countsM p l t h1 h5 (by omega)) [] (fun _ _ => ?_); (repeat' ((conv => whnf); first | apply And.intro | exact ⟨by kernel_rfl⟩ | apply DrawN.mk | apply CodeN.step hm rfl | exact trivial | exact rfl | (intro hh; try simp only [bs] at hh; try exact absurd hh (by decide)))); all_goals (conv => whnf); all_goals try exact ⟨by decide⟩)
        (refine CallN.q (worthM p h1 1 (by omega)) [] (fun _ _ => ?_); (repeat' ((conv => whnf); first | apply And.intro | exact ⟨by kernel_rfl⟩ | apply DrawN.mk | apply CodeN.step hm rfl | exact trivial | exact rfl | (intro hh; try simp only [bs] at hh; try exact absurd hh (by decide)))); all_goals (conv => whnf); all_goals try exact ⟨by decide⟩)
        · exact Ob.mk (by simp only []; omega)
        (refine CallN.q (waitM p l t 0 h1 h5 (by omega)) [] (fun _ _ => ?_); (repeat' ((conv => whnf); first | apply And.intro | exact ⟨by kernel_rfl⟩ | apply DrawN.mk | apply CodeN.step hm rfl | exact trivial | exact rfl | (intro hh; try simp only [bs] at hh; try exact absurd hh (by decide)))); all_goals (conv => whnf); all_goals try exact ⟨by decide⟩)
        (refine RetN.q () [] ?_ ?_ ?_ <;> (repeat' ((conv => whnf) <;> first | exact rfl | exact trivial | apply And.intro | exact Nat.zero_add _)); all_goals ((conv => whnf); try simp only []))
        all_goals rw [ha]
        exact rem_eq (by omega) hcb h1b.1
      · have hn : ¬ counts p l t + worth p w ≤ worth p p.2.1 := by rw [← e1]; assumption
        have ha : ask p l t w = (l, false, (max 0 (worth p p.2.1 - counts p l t)).tdiv (worth p 1), wait p l t (worth p p.2.1 - worth p w), wait p l t 0) := by
          unfold ask; rw [if_pos hfw]; simp only [if_neg hn, decide_eq_false hn, if_neg hh]
        (refine CallN.q (worthM p h1 w hw) [] (fun _ _ => ?_); (repeat' ((conv => whnf); first | apply And.intro | exact ⟨by kernel_rfl⟩ | apply DrawN.mk | apply CodeN.step hm rfl | exact trivial | exact rfl | (intro hh; try simp only [bs] at hh; try exact absurd hh (by decide)))); all_goals (conv => whnf); all_goals try exact ⟨by decide⟩)
        simp only [e3]
        (refine CallN.q (waitM p l t (worth p p.2.1 - worth p w) h1 h5 (by omega)) [] (fun _ _ => ?_); (repeat' ((conv => whnf); first | apply And.intro | exact ⟨by kernel_rfl⟩ | apply DrawN.mk | apply CodeN.step hm rfl | exact trivial | exact rfl | (intro hh; try simp only [bs] at hh; try exact absurd hh (by decide)))); all_goals (conv => whnf); all_goals try exact ⟨by decide⟩)
        (refine CallN.q (countsM p l t h1 h5 (by omega)) [] (fun _ _ => ?_); (repeat' ((conv => whnf); first | apply And.intro | exact ⟨by kernel_rfl⟩ | apply DrawN.mk | apply CodeN.step hm rfl | exact trivial | exact rfl | (intro hh; try simp only [bs] at hh; try exact absurd hh (by decide)))); all_goals (conv => whnf); all_goals try exact ⟨by decide⟩)
        (refine CallN.q (worthM p h1 1 (by omega)) [] (fun _ _ => ?_); (repeat' ((conv => whnf); first | apply And.intro | exact ⟨by kernel_rfl⟩ | apply DrawN.mk | apply CodeN.step hm rfl | exact trivial | exact rfl | (intro hh; try simp only [bs] at hh; try exact absurd hh (by decide)))); all_goals (conv => whnf); all_goals try exact ⟨by decide⟩)
        · exact Ob.mk (by simp only []; omega)
        (refine CallN.q (waitM p l t 0 h1 h5 (by omega)) [] (fun _ _ => ?_); (repeat' ((conv => whnf); first | apply And.intro | exact ⟨by kernel_rfl⟩ | apply DrawN.mk | apply CodeN.step hm rfl | exact trivial | exact rfl | (intro hh; try simp only [bs] at hh; try exact absurd hh (by decide)))); all_goals (conv => whnf); all_goals try exact ⟨by decide⟩)
        (refine RetN.q () [] ?_ ?_ ?_ <;> (repeat' ((conv => whnf) <;> first | exact rfl | exact trivial | apply And.intro | exact Nat.zero_add _)); all_goals ((conv => whnf); try simp only []))
        all_goals rw [ha]
        exact rem_eq (by omega) hcb h1b.1
  · have ha : ask p l t w = (l, false, 0, 0, 0) := by
      unfold ask; rw [hh, Bool.false_and]; rfl
    (refine RetN.q () [] ?_ ?_ ?_ <;> (repeat' ((conv => whnf) <;> first | exact rfl | exact trivial | apply And.intro | exact Nat.zero_add _)); all_goals ((conv => whnf); try simp only []))
    all_goals rw [ha]
end Go.Proofs.Ytkcifdblaboodaa.Hi
set_option linter.unusedVariables false
set_option linter.unusedSimpArgs false
namespace Go.Proofs.Ytkcifdblaboodaa.Hi
open Go Go.RowKit Fw Po
/-- The weights of all, and what counts. -/
def rc (p : Pol) (t : Int) (l : List Hit) : Int × Int := (if p.1 = 1 then those (fun _ => true) l else 0, counts p l t)
theorem lev_sum (p : Pol) (t : Int) (l : List Hit) : (lev p t l).1 = p.2.2.1 * those (fun _ => true) l := by
  induction l with
  | nil => simp [lev, those]
  | cons x r ih =>
    simp only [lev, those, ih, if_true, Int.mul_add]
    rw [Int.mul_comm x.2, Int.add_comm]
theorem counts_cons (p : Pol) (t : Int) (x : Hit) (l : List Hit) (h : p.1 ≠ 1) : counts p (x :: l) t = if cq p t x.1 then counts p l t + x.2 else counts p l t := by
  unfold counts; rw [if_neg h, those]; rw [if_neg h]; split <;> omega
theorem rc_one {p : Pol} (h : p.1 = 1) (t : Int) (z : Hit) (D : List Hit) : rc p t (z :: D) = (those (fun _ => true) D + z.2, max (counts p D t) (p.2.2.1 * (those (fun _ => true) D + z.2) - p.2.1 * (t - z.1))) := by
  have e := lev_sum p t D
  simp only [rc, counts, if_pos h, lev, those, if_true, e, Int.mul_add]
  rw [Int.mul_comm z.2, Int.add_comm]
theorem rc_other {p : Pol} (h : p.1 ≠ 1) (t : Int) (z : Hit) (D : List Hit) : rc p t (z :: D) = (0, if cq p t z.1 then counts p D t + z.2 else counts p D t) := by
  simp only [rc, if_neg h, counts_cons p t z D h]
end Go.Proofs.Ytkcifdblaboodaa.Hi
set_option linter.unusedVariables false
set_option linter.unusedSimpArgs false
namespace Go.Proofs.Ytkcifdblaboodaa.Hi
open Go Go.RowKit Fw Po
end Go.Proofs.Ytkcifdblaboodaa.Hi
set_option linter.unusedVariables false
set_option linter.unusedSimpArgs false
namespace Go.Proofs.Ytkcifdblaboodaa.Hi
open Go Go.RowKit Fw Po
abbrev exP : Pol := (1, 2, 10, 0)
abbrev exQ : Pol := (3, 2, 30, 3)
theorem ex1 : ask exP [] 100 2 = ([(100, 2)], true, 0, 0, 10) := by kernel_rfl
theorem ex2 : ask exP [(100, 2)] 101 1 = ([(100, 2)], false, 0, 4, 9) := by kernel_rfl
theorem ex3 : ask exP [(100, 2)] 105 1 = ([(100, 2), (105, 1)], true, 0, 0, 10) := by kernel_rfl
theorem ex4 : ask exP [(100, 2)] 99 1 = ([(100, 2)], false, 0, 0, 0) := by kernel_rfl
theorem ex5 : ask exQ [(5, 1), (14, 1)] 29 1 = ([(5, 1), (14, 1)], false, 0, 1, 11) := by kernel_rfl
theorem ex6 : countsR exP [(100, 2)] 104 = 12 := by kernel_rfl
theorem ex7 : neutral exP [(100, 2)] 110 = true := by kernel_rfl
theorem ex8 : neutral exP [(100, 2)] 109 = false := by kernel_rfl
theorem ex9 : may [(100, 2)] = true := by kernel_rfl
theorem ex10 : may [(5, 1), (4, 1)] = false := by kernel_rfl
set_option maxRecDepth 4000 in
theorem liveM : Meets Try.prog 10 [] [] (Y := Unit) (fun _ => True) (fun _ => .tt) (fun _ => []) := by
  have M1 := askM exP [] 100 2 (by simp)
  have M2 := askM exP [(100, 2)] 101 1 (by simp)
  have M3 := askM exP [(100, 2)] 105 1 (by simp)
  have M4 := askM exP [(100, 2)] 99 1 (by simp)
  have M5 := askM exQ [(5, 1), (14, 1)] 29 1 (by simp)
  have M6 := countsRM exP [(100, 2)] 104 (by simp)
  have M7 := neutralM exP [(100, 2)] 110 (by simp)
  have M8 := neutralM exP [(100, 2)] 109 (by simp)
  have M9 := mayM [(100, 2)] (by simp)
  have M10 := mayM [(5, 1), (4, 1)] (by simp)
  rw [ex1] at M1
  rw [ex2] at M2
  rw [ex3] at M3
  rw [ex4] at M4
  rw [ex5] at M5
  rw [ex6] at M6
  rw [ex7] at M7
  rw [ex8] at M8
  rw [ex9] at M9
  rw [ex10] at M10
  refine Meets.intro hm (fn := Try.f10) Try.func10 rfl (by decide) (Nat.le_of_ble_eq_true rfl) (fun _ => rfl) ?_; intro S hok; (conv => whnf)
  (repeat' ((conv => whnf); first | apply And.intro | exact ⟨by kernel_rfl⟩ | apply DrawN.mk | apply CodeN.step hm rfl | exact trivial | exact rfl | (intro hh; try simp only [bs] at hh))); all_goals (conv => whnf)
  (refine CallN.q M1 [] (fun _ _ => ?_); (repeat' ((conv => whnf); first | apply And.intro | exact ⟨by kernel_rfl⟩ | apply DrawN.mk | apply CodeN.step hm rfl | exact trivial | exact rfl | (intro hh; try simp only [bs] at hh; try exact absurd hh (by decide)))); all_goals (conv => whnf); all_goals try exact ⟨by decide⟩)
  (refine CallN.q M2 [] (fun _ _ => ?_); (repeat' ((conv => whnf); first | apply And.intro | exact ⟨by kernel_rfl⟩ | apply DrawN.mk | apply CodeN.step hm rfl | exact trivial | exact rfl | (intro hh; try simp only [bs] at hh; try exact absurd hh (by decide)))); all_goals (conv => whnf); all_goals try exact ⟨by decide⟩)
  (refine CallN.q M3 [] (fun _ _ => ?_); (repeat' ((conv => whnf); first | apply And.intro | exact ⟨by kernel_rfl⟩ | apply DrawN.mk | apply CodeN.step hm rfl | exact trivial | exact rfl | (intro hh; try simp only [bs] at hh; try exact absurd hh (by decide)))); all_goals (conv => whnf); all_goals try exact ⟨by decide⟩)
  (refine CallN.q M4 [] (fun _ _ => ?_); (repeat' ((conv => whnf); first | apply And.intro | exact ⟨by kernel_rfl⟩ | apply DrawN.mk | apply CodeN.step hm rfl | exact trivial | exact rfl | (intro hh; try simp only [bs] at hh; try exact absurd hh (by decide)))); all_goals (conv => whnf); all_goals try exact ⟨by decide⟩)
  refine CallN.frz 6 ?_ M5.callable
  (conv => whnf)
  (refine CallN.q M5 [] (fun _ _ => ?_); (repeat' ((conv => whnf); first | apply And.intro | exact ⟨by kernel_rfl⟩ | apply DrawN.mk | apply CodeN.step hm rfl | exact trivial | exact rfl | (intro hh; try simp only [bs] at hh; try exact absurd hh (by decide)))); all_goals (conv => whnf); all_goals try exact ⟨by decide⟩)
  (refine CallN.q M6 [] (fun _ _ => ?_); (repeat' ((conv => whnf); first | apply And.intro | exact ⟨by kernel_rfl⟩ | apply DrawN.mk | apply CodeN.step hm rfl | exact trivial | exact rfl | (intro hh; try simp only [bs] at hh; try exact absurd hh (by decide)))); all_goals (conv => whnf); all_goals try exact ⟨by decide⟩)
  (refine CallN.q M7 [] (fun _ _ => ?_); (repeat' ((conv => whnf); first | apply And.intro | exact ⟨by kernel_rfl⟩ | apply DrawN.mk | apply CodeN.step hm rfl | exact trivial | exact rfl | (intro hh; try simp only [bs] at hh; try exact absurd hh (by decide)))); all_goals (conv => whnf); all_goals try exact ⟨by decide⟩)
  (refine CallN.q M8 [] (fun _ _ => ?_); (repeat' ((conv => whnf); first | apply And.intro | exact ⟨by kernel_rfl⟩ | apply DrawN.mk | apply CodeN.step hm rfl | exact trivial | exact rfl | (intro hh; try simp only [bs] at hh; try exact absurd hh (by decide)))); all_goals (conv => whnf); all_goals try exact ⟨by decide⟩)
  (refine CallN.q M9 [] (fun _ _ => ?_); (repeat' ((conv => whnf); first | apply And.intro | exact ⟨by kernel_rfl⟩ | apply DrawN.mk | apply CodeN.step hm rfl | exact trivial | exact rfl | (intro hh; try simp only [bs] at hh; try exact absurd hh (by decide)))); all_goals (conv => whnf); all_goals try exact ⟨by decide⟩)
  refine CallN.frz 8 ?_ M10.callable
  (conv => whnf)
  (refine CallN.q M10 [] (fun _ _ => ?_); (repeat' ((conv => whnf); first | apply And.intro | exact ⟨by kernel_rfl⟩ | apply DrawN.mk | apply CodeN.step hm rfl | exact trivial | exact rfl | (intro hh; try simp only [bs] at hh; try exact absurd hh (by decide)))); all_goals (conv => whnf); all_goals try exact ⟨by decide⟩)
  (refine RetN.q () [] ?_ ?_ ?_ <;> (repeat' ((conv => whnf) <;> first | exact rfl | exact trivial | apply And.intro | exact Nat.zero_add _)); all_goals ((conv => whnf); try simp only []))
abbrev ArrT : Ty := .pair (.int .i64) (.int .i64)
def arrAV (n : Int × Int) : AV := .agg [.int .i64 fun _ => n.1, .int .i64 fun _ => n.2]
/-- Are two verdicts the same? -/
theorem eqVer (x y : Ver) : eqD VerT (x.1, x.2.1, x.2.2.1, x.2.2.2) (y.1, y.2.1, y.2.2.1, y.2.2.2) = decide (x = y) := by
  obtain ⟨a, b, c, d⟩ := x
  obtain ⟨a', b', c', d'⟩ := y
  have h : eqD VerT (a, b, c, d) (a', b', c', d') = (@BEq.beq Bool _ a a' && (@BEq.beq Int _ b b' && (@BEq.beq Int _ c c' && @BEq.beq Int _ d d'))) := rfl
  simp only [h]
  rw [Bool.eq_iff_iff]
  simp
theorem ask_len (p : Pol) (l : List Hit) (t w : Int) : (ask p l t w).1.length ≤ l.length + 1 := by
  unfold ask
  split
  · simp only []; split <;> simp
  · simp
end Go.Proofs.Ytkcifdblaboodaa.Hi
set_option linter.unusedVariables false
set_option linter.unusedSimpArgs false
namespace Go.Proofs.Ytkcifdblaboodaa.Ce
open Go Go.RowKit Fw Hi Po
theorem may_level {p : Pol} {c : Cell} (h : mayC p c = true) : -9223372036854775808 ≤ c.2.1 ∧ c.2.1 ≤ 9223372036854775807 := by
  obtain ⟨hp, _⟩ := may_pol h
  have hL := hp.limit
  have hW := hp.window
  have hLW : p.2.1 * p.2.2.1 ≤ 1048576 * 1048576 := Int.mul_le_mul hL.2 hW.2 (by omega) (by omega)
  rcases kind_of hp with k | k | k | k
  · have := (may1 k).1 h; omega
  · have := (may2 k).1 h; omega
  · have := ((may3 k).1 h).level; omega
  · have := ((may4 k).1 h).level; omega
set_option maxHeartbeats 4000000 in
set_option maxRecDepth 4000 in
theorem sameM (p : Pol) (l : List Hit) (b : Int) : Meets Try.prog 3 [polAV p, .lst HitT fun _ => l, .int .i64 fun _ => b] [] (Y := Unit) (fun _ => True) (fun _ => .tt) (fun _ => []) := by
  refine Meets.intro hm (fn := Try.f3) Try.func3 rfl (by decide) (Nat.le_of_ble_eq_true rfl) (fun _ => rfl) ?_; intro S hok; (conv => whnf)
  (repeat' ((conv => whnf); first | apply And.intro | exact ⟨by kernel_rfl⟩ | apply DrawN.mk | apply CodeN.step hm rfl | exact trivial | exact rfl | (intro hh; try simp only [bs] at hh))); all_goals (conv => whnf)
  all_goals first | (exact Ob.mk (by decide)) | skip
  · by_cases hp : PolOk p
    · refine CallN.intro (rcheckM p) [] rfl rfl ?_ ?_ ?_
      · (repeat' ((conv => whnf) <;> first | exact rfl | exact trivial | apply And.intro | exact Nat.zero_add _))
      · (repeat' ((conv => whnf) <;> first | exact rfl | exact trivial | apply And.intro | exact Nat.zero_add _))
      intro y hy
      rw [if_pos hp]
      clear y hy
      (repeat' ((conv => whnf); first | apply And.intro | exact ⟨by kernel_rfl⟩ | apply DrawN.mk | apply CodeN.step hm rfl | exact trivial | exact rfl | (intro hh; try simp only [bs] at hh; try exact absurd hh (by decide)))); all_goals (conv => whnf)
      all_goals first | (exact Ob.mk (by decide)) | skip
      all_goals first
        | ((refine CallN.q liveM [] (fun _ _ => ?_); (repeat' ((conv => whnf); first | apply And.intro | exact ⟨by kernel_rfl⟩ | apply DrawN.mk | apply CodeN.step hm rfl | exact trivial | exact rfl | (intro hh; try simp only [bs] at hh; try exact absurd hh (by decide)))); all_goals (conv => whnf); all_goals try exact ⟨by decide⟩)
           (refine RetN.q () [] ?_ ?_ ?_ <;> (repeat' ((conv => whnf) <;> first | exact rfl | exact trivial | apply And.intro | exact Nat.zero_add _)); all_goals ((conv => whnf); try simp only [])))
        | skip
      have hl : l.length ≤ 30 := by omega
      have hb : 0 ≤ b ∧ b ≤ 2097152 := by omega
      refine LoopN.intro hm (X := Nat × Cell × List Hit × Int) (fun x => x.1 ≤ l.length ∧ x.2.2.1.length ≤ x.1 ∧ 0 ≤ x.2.2.2 ∧ x.2.2.2 ≤ 1048576 * x.1 ∧ Rel p x.2.1 x.2.2.1 ∧ x.2.1.1 ≤ x.2.2.2) (fun x => l.length - x.1)
        (fun x => [(10, .int .i64 fun _ => (x.1 : Int)), (9, .int .i64 fun _ => x.2.2.2), (8, .lst HitT fun _ => x.2.2.1), (7, .ptr 1 0), (3, .ptr 0 0), (1, .lst HitT fun _ => l), (2, .int .i64 fun _ => b)])
        (fun x => [.cells 23 [.int .i64 fun _ => p.1, .int .i64 fun _ => p.2.1, .int .i64 fun _ => p.2.2.1, .int .i64 fun _ => p.2.2.2], .cells 31 [.int .i64 fun _ => x.2.1.1, .int .i64 fun _ => x.2.1.2.1, .lst (.int .i64) fun _ => x.2.1.2.2.1, .lst HitT fun _ => x.2.1.2.2.2]])
        (0, (0, 0, [], []), [], 0) [0, 1] ⟨rfl, rfl, ?_, ?_⟩ ⟨Nat.zero_le _, Nat.zero_le _, Int.le_refl _, Int.le_refl _, Rel.nil hp, Int.le_refl _⟩ (fun x hx => ?_)
      · (repeat' ((conv => whnf) <;> first | exact rfl | exact trivial | apply And.intro | exact Nat.zero_add _))
      · (repeat' ((conv => whnf) <;> first | exact rfl | exact trivial | apply And.intro | exact Nat.zero_add _))
      · obtain ⟨i, c, h, t⟩ := x
        obtain ⟨hi, hlh, ht0, htb, hr, hct⟩ := hx
        simp only [] at hi hlh ht0 htb hr hct
        have hx' : l.getD (i : Int).toNat HitT.dflt = l.getD i (0, 0) := rfl
        generalize hz : l.getD i (0, 0) = z at hx'
        have hcl := may_level hr.may
        (repeat' ((conv => whnf); first | apply And.intro | exact ⟨by kernel_rfl⟩ | apply DrawN.mk | apply CodeN.step hm rfl | exact trivial | exact rfl | (intro hh; try simp only [bs] at hh))); all_goals (conv => whnf)
        all_goals (try simp only [hx'] at hh ⊢)
        all_goals first | (exact Ob.mk (by decide)) | skip
        all_goals first | ((refine Ob.mk ?_; (try simp only [Ty.dflt, Nat.zero_add, Nat.add_zero, Int.toNat_natCast, Int.toNat_zero, Int.toNat_one, List.length_take, List.length_drop, List.length_append, List.length_replicate, List.length_cons, List.length_nil, List.length_set, List.length_map, true_and, and_true]); omega)) | skip
        all_goals first
          | ((refine CallN.q liveM [] (fun _ _ => ?_); (repeat' ((conv => whnf); first | apply And.intro | exact ⟨by kernel_rfl⟩ | apply DrawN.mk | apply CodeN.step hm rfl | exact trivial | exact rfl | (intro hh; try simp only [bs] at hh; try exact absurd hh (by decide)))); all_goals (conv => whnf); all_goals try exact ⟨by decide⟩)
             (refine RetN.q () [] ?_ ?_ ?_ <;> (repeat' ((conv => whnf) <;> first | exact rfl | exact trivial | apply And.intro | exact Nat.zero_add _)); all_goals ((conv => whnf); try simp only [])))
          | skip
        have hz0 : ¬ (l.getD (i : Int).toNat HitT.dflt).1 < 0 := by assumption
        rw [hx'] at hz0
        have hi1 : i < l.length := by omega
        have e1 : IntKind.i64.wrap (t + z.1) = t + z.1 := wr (by omega)
        have e2 : IntKind.i64.wrap (t + z.1 + b) = t + z.1 + b := wr (by omega)
        have MW := rweighsM z.2
        by_cases hww : weighs z.2 = true
        rotate_left
        · rw [Bool.eq_false_iff.2 hww] at MW
          (refine CallN.q MW [] (fun _ _ => ?_); (repeat' ((conv => whnf); first | apply And.intro | exact ⟨by kernel_rfl⟩ | apply DrawN.mk | apply CodeN.step hm rfl | exact trivial | exact rfl | (intro hh; try simp only [bs] at hh; try exact absurd hh (by decide)))); all_goals (conv => whnf); all_goals try exact ⟨by decide⟩)
          (refine CallN.q liveM [] (fun _ _ => ?_); (repeat' ((conv => whnf); first | apply And.intro | exact ⟨by kernel_rfl⟩ | apply DrawN.mk | apply CodeN.step hm rfl | exact trivial | exact rfl | (intro hh; try simp only [bs] at hh; try exact absurd hh (by decide)))); all_goals (conv => whnf); all_goals try exact ⟨by decide⟩)
          (refine RetN.q () [] ?_ ?_ ?_ <;> (repeat' ((conv => whnf) <;> first | exact rfl | exact trivial | apply And.intro | exact Nat.zero_add _)); all_goals ((conv => whnf); try simp only []))
        rw [hww] at MW
        obtain ⟨q1, q2, q3⟩ := ask_same hr (t := t + z.1) (w := z.2) (by omega) (by omega) hww (by omega)
        have hcl2 := may_level q2.may
        have hlen := ask_len p h (t + z.1) z.2
        have qn1 := neutral_same q2 (t := t + z.1) (by omega) (by omega)
        have qn2 := neutral_same q2 (t := t + z.1 + b) (by omega) (by omega)
        have MC := caskM p c (t + z.1) z.2 hcl
        have MA := askM p h (t + z.1) z.2 (by omega)
        have MN1 := cneutralM p (askC p c (t + z.1) z.2).1 (t + z.1) hcl2
        have MN2 := cneutralM p (askC p c (t + z.1) z.2).1 (t + z.1 + b) hcl2
        have MH1 := neutralM p (Hi.ask p h (t + z.1) z.2).1 (t + z.1) (by omega)
        have MH2 := neutralM p (Hi.ask p h (t + z.1) z.2).1 (t + z.1 + b) (by omega)
        generalize askC p c (t + z.1) z.2 = A at *
        obtain ⟨c1, u⟩ := A
        generalize Hi.ask p h (t + z.1) z.2 = B at *
        obtain ⟨h1, v⟩ := B
        simp only [] at q1 q2 q3 hlen qn1 qn2 MC MA MN1 MN2 MH1 MH2
        subst q1
        rw [← qn1] at MH1
        rw [← qn2] at MH2
        (refine CallN.q MW [] (fun _ _ => ?_); (repeat' ((conv => whnf); first | apply And.intro | exact ⟨by kernel_rfl⟩ | apply DrawN.mk | apply CodeN.step hm rfl | exact trivial | exact rfl | (intro hh; try simp only [bs] at hh; try exact absurd hh (by decide)))); all_goals (conv => whnf); all_goals try exact ⟨by decide⟩)
        all_goals (try simp only [hx', e1, e2])
        all_goals first | ((refine Ob.mk ?_; (try simp only [Ty.dflt, Nat.zero_add, Nat.add_zero, Int.toNat_natCast, Int.toNat_zero, Int.toNat_one, List.length_take, List.length_drop, List.length_append, List.length_replicate, List.length_cons, List.length_nil, List.length_set, List.length_map, true_and, and_true]); omega)) | skip
        all_goals
          (refine CallN.q MC [] (fun _ _ => ?_); (repeat' ((conv => whnf); first | apply And.intro | exact ⟨by kernel_rfl⟩ | apply DrawN.mk | apply CodeN.step hm rfl | exact trivial | exact rfl | (intro hh; try simp only [bs] at hh; try exact absurd hh (by decide)))); all_goals (conv => whnf); all_goals try exact ⟨by decide⟩)
        all_goals (try simp only [hx', e1, e2])
        all_goals first | ((refine Ob.mk ?_; (try simp only [Ty.dflt, Nat.zero_add, Nat.add_zero, Int.toNat_natCast, Int.toNat_zero, Int.toNat_one, List.length_take, List.length_drop, List.length_append, List.length_replicate, List.length_cons, List.length_nil, List.length_set, List.length_map, true_and, and_true]); omega)) | skip
        all_goals
          (refine CallN.q MA [] (fun _ _ => ?_); (repeat' ((conv => whnf); first | apply And.intro | exact ⟨by kernel_rfl⟩ | apply DrawN.mk | apply CodeN.step hm rfl | exact trivial | exact rfl | (intro hh; try simp only [bs] at hh; try exact absurd hh (by decide)))); all_goals (conv => whnf); all_goals try exact ⟨by decide⟩)
        all_goals first | (exfalso; exact (eqD_no (.pair .bool (.pair (.int .i64) (.pair (.int .i64) (.int .i64)))) rfl _ _).1 hh rfl) | skip
        all_goals (try simp only [e2])
        all_goals first
          | ((refine CallN.q MN2 [] (fun _ _ => ?_); (repeat' ((conv => whnf); first | apply And.intro | exact ⟨by kernel_rfl⟩ | apply DrawN.mk | apply CodeN.step hm rfl | exact trivial | exact rfl | (intro hh; try simp only [bs] at hh; try exact absurd hh (by decide)))); all_goals (conv => whnf); all_goals try exact ⟨by decide⟩))
          | skip
        all_goals (try simp only [e2])
        all_goals first
          | ((refine CallN.q MH2 [] (fun _ _ => ?_); (repeat' ((conv => whnf); first | apply And.intro | exact ⟨by kernel_rfl⟩ | apply DrawN.mk | apply CodeN.step hm rfl | exact trivial | exact rfl | (intro hh; try simp only [bs] at hh; try exact absurd hh (by decide)))); all_goals (conv => whnf); all_goals try exact ⟨by decide⟩))
          | skip
        all_goals first | (exfalso; exact hh rfl) | (exfalso; simp at hh; done) | skip
        all_goals (try simp only [e2])
        all_goals first
          | ((refine CallN.q MN1 [] (fun _ _ => ?_); (repeat' ((conv => whnf); first | apply And.intro | exact ⟨by kernel_rfl⟩ | apply DrawN.mk | apply CodeN.step hm rfl | exact trivial | exact rfl | (intro hh; try simp only [bs] at hh; try exact absurd hh (by decide)))); all_goals (conv => whnf); all_goals try exact ⟨by decide⟩))
          | skip
        all_goals first
          | ((refine CallN.q MH1 [] (fun _ _ => ?_); (repeat' ((conv => whnf); first | apply And.intro | exact ⟨by kernel_rfl⟩ | apply DrawN.mk | apply CodeN.step hm rfl | exact trivial | exact rfl | (intro hh; try simp only [bs] at hh; try exact absurd hh (by decide)))); all_goals (conv => whnf); all_goals try exact ⟨by decide⟩))
          | skip
        all_goals first | (exfalso; exact hh rfl) | (exfalso; simp at hh; done) | skip
        all_goals
          first
            | (refine ⟨(i + 1, c1, h1, t + z.1), [0, 1], ⟨rfl, rfl, ?_, ?_⟩, ⟨by simp only []; omega, by simp only []; omega, by simp only []; omega, by simp only []; omega, q2, by simp only []; omega⟩, by simp only []; omega⟩
               · (repeat' ((conv => whnf) <;> first | exact rfl | exact trivial | apply And.intro | exact Nat.zero_add _))
               · (repeat' ((conv => whnf) <;> first | exact rfl | exact trivial | apply And.intro | exact Nat.zero_add _)); all_goals ((conv => whnf); try simp only [])
                 exact wr2 (n := l.length) i (by omega) (by omega))
    · refine CallN.intro (rcheckM p) [] rfl rfl ?_ ?_ ?_
      · (repeat' ((conv => whnf) <;> first | exact rfl | exact trivial | apply And.intro | exact Nat.zero_add _))
      · (repeat' ((conv => whnf) <;> first | exact rfl | exact trivial | apply And.intro | exact Nat.zero_add _))
      intro y hy
      rw [if_neg hp]
      clear y hy
      (repeat' ((conv => whnf); first | apply And.intro | exact ⟨by kernel_rfl⟩ | apply DrawN.mk | apply CodeN.step hm rfl | exact trivial | exact rfl | (intro hh; try simp only [bs] at hh; try exact absurd hh (by decide)))); all_goals (conv => whnf)
      (refine CallN.q liveM [] (fun _ _ => ?_); (repeat' ((conv => whnf); first | apply And.intro | exact ⟨by kernel_rfl⟩ | apply DrawN.mk | apply CodeN.step hm rfl | exact trivial | exact rfl | (intro hh; try simp only [bs] at hh; try exact absurd hh (by decide)))); all_goals (conv => whnf); all_goals try exact ⟨by decide⟩)
      (refine RetN.q () [] ?_ ?_ ?_ <;> (repeat' ((conv => whnf) <;> first | exact rfl | exact trivial | apply And.intro | exact Nat.zero_add _)); all_goals ((conv => whnf); try simp only []))
  · (refine CallN.q liveM [] (fun _ _ => ?_); (repeat' ((conv => whnf); first | apply And.intro | exact ⟨by kernel_rfl⟩ | apply DrawN.mk | apply CodeN.step hm rfl | exact trivial | exact rfl | (intro hh; try simp only [bs] at hh; try exact absurd hh (by decide)))); all_goals (conv => whnf); all_goals try exact ⟨by decide⟩)
    (refine RetN.q () [] ?_ ?_ ?_ <;> (repeat' ((conv => whnf) <;> first | exact rfl | exact trivial | apply And.intro | exact Nat.zero_add _)); all_goals ((conv => whnf); try simp only []))
end Go.Proofs.Ytkcifdblaboodaa.Ce
set_option linter.unusedVariables false
set_option linter.unusedSimpArgs false
namespace Go.Proofs.Ytkcifdblaboodaa.Fw
open Go Go.RowKit Go.ChangeShapes

/-- All that is there rests. -/
def gW (W : World) : Gh := { n := 0, Φ := fun b => W.heap[b]?, B := fun _ => 0, V := fun _ => none, L := fun _ => 0, k := 0 }
theorem sim_gW (W : World) : Sim (gW W) [] W := by
  refine ⟨rfl, fun b o h => h, fun i => trivial, fun i j b hi => ?_, fun i b hi => ?_⟩
  · simp [getE, Chunk.blk] at hi
  · simp [getE, Chunk.blk] at hi

/-- Numbers of their kinds, lengths that a machine bears. -/
def wfD : (t : Ty) → t.den → Prop
  | .int k, n => k.min ≤ n ∧ n ≤ k.max
  | .bool, _ => True
  | .str, s => List.length s ≤ maxLen
  | .list e, xs => List.length xs ≤ maxLen ∧ ∀ x, x ∈ (xs : List e.den) → wfD e x
  | .pair a b, x => wfD a x.1 ∧ wfD b x.2

theorem cells_at {w : World} {base : Nat} {a : Addr} {n : Nat} {cs : List Value} (h : w.cells? base a n = some cs) : cs.length = n ∧ ∀ (j : Nat) (u : Value), cs[j]? = some u → w.cell? (a.add j) = some u := by
  unfold World.cells? at h
  split at h
  · rename_i hb
    have key : ∀ (l : List Nat) (cs : List Value), l.mapM (fun i => w.cell? (a.add i)) = some cs → cs.length = l.length ∧ ∀ (j : Nat) (u : Value) (i : Nat), cs[j]? = some u → l[j]? = some i → w.cell? (a.add i) = some u := by
      intro l
      induction l with
      | nil => intro cs h; simp at h; subst h; simp
      | cons i l ih =>
        intro cs h
        simp only [List.mapM_cons, Option.bind_eq_bind, Option.bind_eq_some_iff, Option.pure_def, Option.some.injEq] at h
        obtain ⟨u, h1, r, h2, rfl⟩ := h
        obtain ⟨h3, h4⟩ := ih r h2
        refine ⟨by simp [h3], fun j v i' hj hi => ?_⟩
        cases j with
        | zero => simp at hj hi; subst hj hi; exact h1
        | succ j => exact h4 j v i' (by simpa using hj) (by simpa using hi)
    obtain ⟨h1, h2⟩ := key _ _ h
    refine ⟨by simpa using h1, fun j u hj => h2 j u j hj ?_⟩
    have := (List.getElem?_eq_some_iff.1 hj).1
    rw [List.getElem?_range (by rw [h1] at this; simpa using this)]
  · cases h
theorem cell_at_gW {W : World} {a : Addr} {u : Value} (h : W.cell? a = some u) : ∃ cells T fr, a.spot = none ∧ (gW W).Φ a.block = some (.cells cells T fr) ∧ cells[a.off]? = some u := by
  unfold World.cell? at h
  split at h
  · rename_i c T fr hc
    split at h
    · cases h
    · rename_i hs
      exact ⟨c, T, fr, by simpa using hs, hc, h⟩
  · cases h
theorem list_of {α : Type} {p : Nat → α → Prop} : ∀ n : Nat, (∀ i, i < n → ∃ x, p i x) → ∃ xs : List α, xs.length = n ∧ ∀ (i : Nat) (x : α), xs[i]? = some x → p i x
  | 0, _ => ⟨[], rfl, by simp⟩
  | n + 1, h => by
    obtain ⟨xs, h1, h2⟩ := list_of n (fun i hi => h i (by omega))
    obtain ⟨x, hx⟩ := h n (by omega)
    refine ⟨xs ++ [x], by simp [h1], fun i y hy => ?_⟩
    rw [List.getElem?_append] at hy
    split at hy
    · exact h2 i y hy
    · rename_i hi
      have : i - xs.length = 0 := by
        have := (List.getElem?_eq_some_iff.1 hy).1
        simp at this; omega
      rw [this] at hy
      simp at hy
      subst hy
      have : i = n := by omega
      subst this; exact hx

section
variable {H : Type} {enc' : TypeId × Value → H} {P : Program} {W : World} {base : Nat} {sp : Nat → Bool} {held : Bool}

/-- What reads, reads as data. -/
theorem trod_data (K : Kids P (· < P.types.size)) : ∀ (d : Nat) (t : Nat) (ty : Ty), t < P.types.size → tyOf P d t = some ty → ∀ (fuel : Nat) (cs : List Value) (x : DataW H × List MemPlace), DataW.trod enc' P W base sp held fuel t cs = some x →
    ∃ a : ty.den, RL (gW W) (enc ty (fun _ => a) []) cs ∧ wfD ty a
  | 0, _, _, _, h => by simp [tyOf] at h
  | d + 1, t, ty, hlt, h => by
    intro fuel cs x hx
    simp only [tyOf] at h
    split at h
    · rename_i k ht
      cases h
      obtain ⟨n, rfl, _, hw⟩ := DataW.trod_int (tund_und ht) hx
      simp only [Lit.wf, Bool.and_eq_true, decide_eq_true_eq] at hw
      exact ⟨n, ⟨.int k (fun _ => n), trivial⟩, hw⟩
    · rename_i ht
      cases h
      obtain ⟨b, rfl, _⟩ := DataW.trod_bool (tund_und ht) hx
      exact ⟨b, ⟨.bool (fun _ => b), trivial⟩, trivial⟩
    · rename_i ht
      cases h
      obtain ⟨s, rfl, _, hs⟩ := DataW.trod_string (tund_und ht) hx
      refine ⟨s.data.toList, ⟨?_, trivial⟩, ?_⟩
      · have := R.str (g := gW W) (fun _ => s.data.toList)
        simpa using this
      · show s.data.toList.length ≤ maxLen
        rw [Array.length_toList]; exact hs
    · rename_i e ht
      split at h <;> try cases h
      rename_i y hy
      have hye : y = y := rfl
      have hte := K.slice hlt (tund_und ht)
      rcases DataW.trod_slice (tund_und ht) hx with ⟨rfl, _⟩ | ⟨a, len, cap, elems, rest, n, _, rfl, _, _, hlc, hcm, hlen, hel, _⟩
      · refine ⟨([] : List y.den), ⟨?_, trivial⟩, ?_⟩
        · exact R.lst y (fun _ => []) none 0 (fun _ _ => .nilIface) (Nat.le_refl _) (by simp) (fun i x j z hx => by simp at hx) (fun i x j z hx => by simp at hx)
        · refine ⟨?_, fun x hx => ?_⟩
          · show ([] : List y.den).length ≤ maxLen
            simp
          · cases hx
      · have hl63 : maxLen = 9223372036854775807 := by decide
        have each : ∀ i, i < len → ∃ p : y.den × List Value, W.cells? base (a.add (i * P.cellsOf e)) (P.cellsOf e) = some p.2 ∧ RL (gW W) (enc y (fun _ => p.1) []) p.2 ∧ wfD y p.1 := by
          intro i hi
          have h1 := hel i hi
          rw [List.getElem?_eq_getElem (by omega)] at h1
          obtain ⟨cs', h2, h3⟩ := Option.bind_eq_some_iff.1 h1
          obtain ⟨b, h4, h5⟩ := trod_data K d e y hte hy n cs' _ h3
          exact ⟨(b, cs'), h2, h4, h5⟩
        obtain ⟨ps, hps, hp⟩ := list_of len each
        have hsz : ∀ (i : Nat) (p : y.den × List Value), ps[i]? = some p → P.cellsOf e = y.size := by
          intro i p hi
          obtain ⟨h1, h2, _⟩ := hp i p hi
          have := h2.length
          rw [enc_length, (cells_at h1).1] at this
          exact this.symm
        refine ⟨ps.map (·.1), ⟨?_, trivial⟩, ?_, ?_⟩
        · have hlm : (ps.map (·.1)).length = len := by simp [hps]
          have := R.lst (g := gW W) y (fun _ => ps.map (·.1)) (some a) cap (fun i j => ((ps[i]?.map (·.2)).getD [])[j]?.getD .nilIface) (by simp only [hlm]; exact hlc) (by simp only [hlm]; omega) ?_ ?_
          · simp only [hlm] at this; exact this
          · intro i x j z hx hz
            simp only [List.getElem?_map] at hx
            cases hq : ps[i]? with
            | none => rw [hq] at hx; cases hx
            | some p =>
              rw [hq] at hx
              simp only [Option.map_some, Option.some.injEq] at hx
              subst hx
              obtain ⟨h1, h2, _⟩ := hp i p hq
              obtain ⟨u, hu, _⟩ := h2.get hz
              have hc := (cells_at h1).2 j u hu
              obtain ⟨cells, T, fr, hs, hΦ, hcell⟩ := cell_at_gW hc
              have hsp : a.spot = none ∨ (i * P.cellsOf e = 0 ∧ j = 0) := by
                by_cases h0 : i * P.cellsOf e = 0 ∧ j = 0
                · exact .inr h0
                · left
                  by_cases h00 : i * P.cellsOf e + j = 0
                  · exact (h0 ⟨by omega, by omega⟩).elim
                  · -- the cells of the first one have the same spot
                    have h0i : 0 < len := by have := (List.getElem?_eq_some_iff.1 hq).1; omega
                    obtain ⟨p0, hp0⟩ : ∃ p0, ps[0]? = some p0 := ⟨ps[0]'(by omega), List.getElem?_eq_getElem (by omega)⟩
                    obtain ⟨g1, g2, _⟩ := hp 0 p0 hp0
                    have hy0 : (enc y (fun _ => p0.1) [])[0]? ≠ none := by
                      have := enc_length y (fun _ => p0.1)
                      have h0 := Ty.size_pos y
                      intro hn
                      rw [List.getElem?_eq_none_iff] at hn
                      omega
                    cases hz0 : (enc y (fun _ => p0.1) [])[0]? with
                    | none => exact (hy0 hz0).elim
                    | some z0 =>
                      obtain ⟨u0, hu0, _⟩ := g2.get hz0
                      have hc0 := (cells_at g1).2 0 u0 hu0
                      obtain ⟨_, _, _, hs0, _⟩ := cell_at_gW hc0
                      simpa [Addr.add] using hs0
              have hsp' : a.spot = none := by
                rcases hsp with h | ⟨h0, hj0⟩
                · exact h
                · subst hj0
                  rw [h0] at hs
                  simpa [Addr.add] using hs
              have e1 : (a.add (i * P.cellsOf e)).add j = ⟨a.block, a.off + (i * P.cellsOf e + j), none⟩ := by
                rw [add_none hsp', add_none rfl]; simp [Nat.add_assoc]
              rw [e1] at hΦ hcell
              refine ⟨a.block, a.off, cells, T, fr, by cases a; simp at hsp' ⊢; exact hsp', hΦ, ?_⟩
              rw [hsz i p hq] at hcell
              simp only [Option.map_some, Option.getD_some, hu]
              exact hcell
          · intro i x j z hx hz
            simp only [List.getElem?_map] at hx
            cases hq : ps[i]? with
            | none => rw [hq] at hx; cases hx
            | some p =>
              rw [hq] at hx
              simp only [Option.map_some, Option.some.injEq] at hx
              subst hx
              obtain ⟨h1, h2, _⟩ := hp i p hq
              obtain ⟨u, hu, hr⟩ := h2.get hz
              simp only [hq, Option.map_some, Option.getD_some, hu]
              exact hr
        · show (ps.map (·.1)).length ≤ maxLen
          rw [List.length_map]; omega
        · intro x hx
          obtain ⟨p, hp1, rfl⟩ := List.mem_map.1 hx
          obtain ⟨i, hi⟩ := List.mem_iff_getElem?.1 hp1
          exact (hp i p hi).2.2
    · rename_i fs ht
      obtain ⟨xs, n, _, _, hcl, hxl, hf⟩ := DataW.trod_struct (tund_und ht) hx
      obtain ⟨hft, hsum, hoff⟩ := K.struct hlt (tund_und ht)
      have go : ∀ (l : List Field) (k : Nat) (ty : Ty), tyFs (tyOf P d) l = some ty → (∀ f ∈ l, f.type < P.types.size) → (∀ (j : Nat) f, l[j]? = some f → f.offset = k + ((l.take j).map fun f => P.cellsOf f.type).sum) →
          (∀ f ∈ l, ∃ z, DataW.trod enc' P W base sp held n f.type ((cs.drop f.offset).take (P.cellsOf f.type)) = some z) → (cs.drop k).length = (l.map fun f => P.cellsOf f.type).sum →
          ∃ a : ty.den, RL (gW W) (enc ty (fun _ => a) []) (cs.drop k) ∧ wfD ty a := by
        intro l
        induction l with
        | nil => intro k ty h; simp [tyFs] at h
        | cons f r ih =>
          intro k ty h ht ho hz hl
          obtain ⟨z, hz0⟩ := hz f (List.mem_cons_self ..)
          have ho0 : f.offset = k := by simpa using ho 0 f rfl
          rw [ho0] at hz0
          have htf := ht f (List.mem_cons_self ..)
          cases r with
          | nil =>
            simp only [tyFs] at h
            obtain ⟨a, h1, h2⟩ := trod_data K d f.type ty htf h n _ _ hz0
            refine ⟨a, ?_, h2⟩
            simp only [List.map_cons, List.map_nil, List.sum_cons, List.sum_nil, Nat.add_zero] at hl
            rwa [List.take_of_length_le (by omega)] at h1
          | cons f2 r2 =>
            simp only [tyFs] at h
            split at h <;> try cases h
            rename_i ta tb hta htb
            obtain ⟨a, h1, h2⟩ := trod_data K d f.type ta htf hta n _ _ hz0
            obtain ⟨b, h3, h4⟩ := ih (k + P.cellsOf f.type) tb htb (fun q hq => ht q (List.mem_cons_of_mem _ hq)) (fun j q hq => by
              have := ho (j + 1) q (by simpa using hq)
              simp only [List.take_succ_cons, List.map_cons, List.sum_cons] at this
              omega) (fun q hq => hz q (List.mem_cons_of_mem _ hq)) (by
              simp only [List.map_cons, List.sum_cons, List.length_drop] at hl ⊢
              omega)
            refine ⟨(a, b), ?_, h2, h4⟩
            simp only [enc]
            rw [enc_append ta]
            have := h1.append h3
            rw [← List.drop_drop] at this
            rwa [List.take_append_drop] at this
      have := go fs.toList 0 ty h hft (fun j f hj => by simpa using hoff j f hj) (fun f hfm => by
        obtain ⟨i, hi⟩ := List.mem_iff_getElem?.1 hfm
        have hi' : fs[i]? = some f := by simpa using hi
        have h1 := hf i f hi'
        have hil := (List.getElem?_eq_some_iff.1 hi).1
        rw [List.getElem?_eq_getElem (by simp at hil; omega)] at h1
        exact ⟨_, h1⟩) (by simpa [hcl] using hsum)
      simpa using this
    · rename_i n e ht
      split at h <;> try cases h
      rename_i y hy
      obtain ⟨xs, m, _, _, hcl, hxl, hf⟩ := DataW.trod_array (tund_und ht) hx
      obtain ⟨hte, hsz⟩ := K.array hlt (tund_und ht)
      rw [hsz] at hcl
      have go : ∀ (n k : Nat) (ty : Ty), tyRep n y = some ty → (∀ i, i < n → ∃ z, DataW.trod enc' P W base sp held m e ((cs.drop ((k + i) * P.cellsOf e)).take (P.cellsOf e)) = some z) → (cs.drop (k * P.cellsOf e)).length = n * P.cellsOf e →
          ∃ a : ty.den, RL (gW W) (enc ty (fun _ => a) []) (cs.drop (k * P.cellsOf e)) ∧ wfD ty a := by
        intro n
        induction n with
        | zero => intro k ty h; simp [tyRep] at h
        | succ n ih =>
          intro k ty h hz hl
          obtain ⟨z, hz0⟩ := hz 0 (by omega)
          rw [Nat.add_zero] at hz0
          obtain ⟨a, h1, h2⟩ := trod_data K d e y hte hy m _ _ hz0
          cases n with
          | zero =>
            simp only [tyRep, Option.some.injEq] at h
            subst h
            rw [List.take_of_length_le (by omega)] at h1
            exact ⟨a, h1, h2⟩
          | succ n =>
            simp only [tyRep] at h
            split at h <;> try cases h
            rename_i tz htz
            obtain ⟨b, h3, h4⟩ := ih (k + 1) tz htz (fun i hi => by have := hz (i + 1) (by omega); rwa [show k + 1 + i = k + (i + 1) by omega]) (by
              rw [List.length_drop] at hl ⊢
              rw [Nat.add_mul, Nat.one_mul] at hl ⊢
              omega)
            refine ⟨(a, b), ?_, h2, h4⟩
            simp only [enc]
            rw [enc_append y]
            have := h1.append h3
            rw [Nat.add_mul, Nat.one_mul, ← List.drop_drop] at this
            rwa [List.take_append_drop] at this
      have := go n 0 ty h (fun i hi => by
        have h1 := hf i hi
        rw [List.getElem?_eq_getElem (by omega)] at h1
        exact ⟨_, by rw [Nat.zero_add]; exact h1⟩) (by simpa using hcl)
      simpa using this
    · cases h
end
end Go.Proofs.Ytkcifdblaboodaa.Fw
set_option linter.unusedVariables false
set_option linter.unusedSimpArgs false
namespace Go.Proofs.Ytkcifdblaboodaa.Fw
open Go Go.RowKit Go.ChangeShapes Go.WideShapes

theorem wf_i64 {n : Int} (h : wfD (.int .i64) n) : -9223372036854775808 ≤ n ∧ n ≤ 9223372036854775807 := h
theorem wf_u64 {n : Int} (h : wfD (.int .u64) n) : 0 ≤ n ∧ n ≤ 18446744073709551615 := h
def leafB : TypeDesc → Bool
  | .int _ => true | .bool => true | .string => true | .slice _ => true | _ => false
section
variable {H : Type} {enc' : TypeId × Value → H} {P : Program} {W : World} {base : Nat} {sp : Nat → Bool} {held : Bool}

theorem arg_leaf (K : Kids P (· < P.types.size)) {b0 : Nat} {t : Nat} {ty : Ty} {d : TypeDesc} (hd : tund P t = some d) (hb : leafB d = true) (hlt : t < P.types.size) (hty : tyOf P 6 t = some ty) {v : Value} {x : DataW H} {ps : List MemPlace}
    (hval : Value.okWide P W .any b0 t v) (h : DataW.Trod enc' P W base sp held t v x ps) : ∃ a : ty.den, RL (gW W) (enc ty (fun _ => a) []) [v] ∧ wfD ty a := by
  obtain ⟨fuel, hf⟩ := h
  obtain ⟨a, h1, h2⟩ := trod_data K 6 t ty hlt hty fuel _ _ hf
  refine ⟨a, ?_, h2⟩
  have hc : v.cells.toList = [v] := by
    have hu := tund_und hd
    cases v <;> first | rfl | skip
    cases d <;> first | (cases hb; done) | (simp [Value.okWide, hu, Cell.okWide, Cell.ok] at hval)
  rwa [hc] at h1
def aggB : TypeDesc → Bool
  | .struct _ => true | .array _ _ => true | _ => false
theorem arg_struct (K : Kids P (· < P.types.size)) {b0 : Nat} {t : Nat} {ty : Ty} {d : TypeDesc} (hd : tund P t = some d) (hb : aggB d = true) (hlt : t < P.types.size) (hty : tyOf P 6 t = some ty) {v : Value} {x : DataW H} {ps : List MemPlace}
    (hval : Value.okWide P W .any b0 t v) (h : DataW.Trod enc' P W base sp held t v x ps) : ∃ a : ty.den, R (gW W) (.agg (enc ty (fun _ => a) [])) v ∧ wfD ty a := by
  obtain ⟨fuel, hf⟩ := h
  obtain ⟨a, h1, h2⟩ := trod_data K 6 t ty hlt hty fuel _ _ hf
  have hu := tund_und hd
  have hv : ∃ cs, v = .agg cs := by
    cases d <;> first | (cases hb; done) | skip
    all_goals
      simp only [Value.okWide, hu] at hval
      obtain ⟨cs, rfl, _⟩ := hval
      exact ⟨cs, rfl⟩
  obtain ⟨cs, rfl⟩ := hv
  refine ⟨a, ?_, h2⟩
  have := R.mkAgg h1
  simpa [Value.cells] using this

theorem law_run {f : FuncId} {args : List AV} {vals : List Value} {Y : Type} {Q : Y → Prop} {res : Y → AV} {out : Y → List Chunk} (hm : Meets P f args [] Q res out) (hres : ∀ y, Q y → res y = .tt) (hr : RL (gW W) args vals) :
    Calls P f vals.toArray W fun e W' => e = .returned (.bool true) ∧ Below W.heap.size W W' := by
  refine (hm.h (gW W) W vals (sim_gW W) hr).mono ?_
  rintro e W' ⟨y, c, g', hq, rfl, h1, h2, h3⟩
  rw [hres y hq] at h1
  rw [h1.tt_iff]
  refine ⟨rfl, h3.os, h3.tape, h3.output, h3.size, fun b hb => h3.keep b hb ?_⟩
  rintro ⟨i, hi⟩
  simp [getE, Chunk.blk] at hi

theorem trodAll_stays (hl : laidOutB P = true) {W' : World} (hb : Below W.heap.size W W') : ∀ {ts : List TypeId} {vs : List Value} {ds : List (DataW H)} {ps : List MemPlace} (sp' : Nat → Bool), (∀ t ∈ ts, P.readableRec t = true ∧ t < P.types.size) →
    DataW.TrodAll enc' P W 0 (fun _ => true) true ts vs ds ps → (∀ p ∈ ps, p.block < W.heap.size) → (∀ p ∈ ps, sp' p.block = true) → DataW.TrodAll enc' P W' 0 sp' true ts vs ds ps
  | [], [], [], ps, sp', _, h, _, _ => h
  | t :: ts, v :: vs, d :: ds, ps, sp', ht, h, hlt, hsp => by
    obtain ⟨p, q, h1, h2, rfl⟩ := h
    obtain ⟨hr, hrow⟩ := ht t (List.mem_cons_self ..)
    refine ⟨p, q, WideElems.Trod_stays hl hr hrow h1 (fun x hx => hb.same (hlt x (List.mem_append_left _ hx))) (fun x hx => hsp x (List.mem_append_left _ hx)), ?_, rfl⟩
    exact trodAll_stays hl hb sp' (fun t ht' => ht t (List.mem_cons_of_mem _ ht')) h2 (fun x hx => hlt x (List.mem_append_right _ hx)) (fun x hx => hsp x (List.mem_append_right _ hx))
  | [], _ :: _, _, _, _, _, h, _, _ => h.elim
  | [], [], _ :: _, _, _, _, h, _, _ => h.elim
  | _ :: _, [], _, _, _, _, h, _, _ => h.elim
  | _ :: _, _ :: _, [], _, _, _, h, _, _ => h.elim

theorem law_post {f : Func} {s : ChangeSpec} {W' : World} {args : Array Value} {ds gs : List (DataW H)} {before : List MemPlace} (hl : laidOutB P = true) {tb : TypeId}
    (hW : DataW.Whole enc' P f.params.toList s.vars false W args.toList ds gs before) (hv : s.vars = []) (hfn : s.fn H (ds ++ gs) = { results := [.lit (.bool true)], args := ds })
    (hres : f.resultTypes = #[tb]) (htb : P.underlying tb = some .bool) (ht : ∀ t ∈ f.params.toList, P.readableRec t = true ∧ t < P.types.size) (hb : Below W.heap.size W W') :
    s.post enc' P f false true false false W args (.bool true) W' := by
  have hlt := hW.lt
  have hW' := hW
  obtain ⟨p, q, hA, hV, hpq, hfz, hnd⟩ := hW'
  rw [hv] at hV
  have hgq : gs = [] ∧ q = [] := by
    cases gs with
    | nil => exact ⟨rfl, hV⟩
    | cons g r => exact hV.elim
  obtain ⟨rfl, rfl⟩ := hgq
  rw [List.append_nil] at hpq
  subst hpq
  have hold : ∀ p ∈ before, (fun b => decide (b < W.heap.size)) p.block = true := fun p hp => by simpa using hlt p hp
  have hargs : ∀ sp : Nat → Bool, (∀ p ∈ before, sp p.block = true) → DataW.TrodAll enc' P W' 0 sp true f.params.toList args.toList ds before := fun sp hsp => trodAll_stays hl hb sp ht hA hlt hsp
  have hresT : ∀ (b : Nat) (sp : Nat → Bool) (hd : Bool), DataW.TrodAll enc' P W' b sp hd f.resultTypes.toList ((Value.bool true).resultList f.resultTypes.size) [.lit (.bool true)] [] := by
    intro b sp hd
    rw [hres]
    exact trodAll_mk1 (shut_bool htb true)
  refine ⟨ds, [], before, [], before, [], hW, ?_, ?_, ?_, World.keptBut_mono (fun p hp => ⟨hp, ?_⟩) (hb.frame (· ∈ before)), fun h => by cases h⟩
  · rw [hfn]; exact hresT _ _ _
  · rw [hfn]; exact hargs _ hold
  · rw [hfn, hv]; rfl
  · exact .inr (by simpa using hp)
end
end Go.Proofs.Ytkcifdblaboodaa.Fw
set_option linter.unusedVariables false
set_option linter.unusedSimpArgs false
namespace Go.Proofs.Ytkcifdblaboodaa.RHistSame
open Go Go.ChangeShapes Go.WideShapes Go.ChangeAt Go.RowKit Fw
theorem own : ownKnob Try.prog.godebug = none := by kernel_rfl
theorem laidOut : laidOutB Try.prog = true := by kernel_rfl
theorem mapsOk : mapsRowed Try.prog = true := by kernel_rfl
theorem kids : Kids Try.prog (· < Try.prog.types.size) := kids_rows laidOut mapsOk
theorem readable : ∀ t ∈ Try.f3.params.toList, Try.prog.readableRec t = true ∧ t < Try.prog.types.size := by
  have h : (Try.f3.params.toList.all fun t => Try.prog.readableRec t && decide (t < Try.prog.types.size)) = true := by kernel_rfl
  intro t ht
  have := List.all_eq_true.1 h t ht
  rw [Bool.and_eq_true, decide_eq_true_eq] at this
  exact this
set_option maxRecDepth 100000 in
theorem lifted (os : Os) (started : os.Started) (H : Type) (enc : TypeId × Value → H) :
    ReturnsInHanded {} Try.checked os 3 .any (Rows.histSameSpec.pre6 enc Try.prog Try.f3 Rows.histSameRow.domain false) (Rows.histSameSpec.post enc Try.prog Try.f3 false true false false) := by
  refine returnsInHanded_of_change (C := Try.checked) own started (by kernel_rfl) Try.func3
    (ChangeSpec.witness6 (enc := enc) (C := Try.checked) false ⟨#[], #[.agg #[.int .i64 0, .int .i64 0, .int .i64 0, .int .i64 0], .slice none 0 0, .int .i64 0], []⟩ 8 (by kernel_rfl) (by kernel_rfl) (by kernel_rfl) (by kernel_rfl)) ?_
  intro W base args ds gs before hval0 hW hcnd _
  have hval : ∀ (j : Nat) t v, Try.f3.params[j]? = some t → args[j]? = some v → Value.okWide Try.prog W .any base t v := hval0
  have hW' : DataW.Whole enc Try.prog Try.f3.params.toList Rows.histSameSpec.vars false W args.toList ds gs before := hW
  obtain ⟨p, q, hA0, hV, _, _, _⟩ := hW'
  have hA : DataW.TrodAll enc Try.prog W 0 (fun _ => true) true Try.f3.params.toList args.toList ds p := hA0
  rw [Try.params3] at hA hval
  obtain ⟨v0, v1, v2, d0, d1, d2, p0, p1, p2, rfl, rfl, rfl, h0, h1, h2⟩ := trodAll_three hA
  obtain ⟨rfl, rfl⟩ := trodVars_none hV
  obtain ⟨a0, r0, w0⟩ := arg_struct (ty := Hi.PolT) kids rfl rfl (of_decide_eq_true (by kernel_rfl)) (by kernel_rfl) (hval 0 _ v0 rfl rfl) h0
  obtain ⟨a1, r1, w1⟩ := arg_leaf (ty := (.list Hi.HitT)) kids rfl rfl (of_decide_eq_true (by kernel_rfl)) (by kernel_rfl) (hval 1 _ v1 rfl rfl) h1
  obtain ⟨a2, r2, w2⟩ := arg_leaf (ty := (.int .i64)) kids rfl rfl (of_decide_eq_true (by kernel_rfl)) (by kernel_rfl) (hval 2 _ v2 rfl rfl) h2
  refine (law_run (vals := [v0, v1, v2]) (Ce.sameM a0 a1 a2) (fun _ _ => rfl) ⟨r0, r1.1, r2.1, trivial⟩).mono ?_
  rintro e W' ⟨rfl, hb⟩
  exact ⟨_, rfl, law_post laidOut hW rfl rfl (by rfl) Try.underlying4 readable hb⟩

theorem holds : Rows.HistSameSaid :=
  OpenClaim.holds_of_wide 3 Try.f3 rfl rfl rfl rfl rfl rfl rfl ⟨rfl, rfl, rfl, rfl, rfl⟩ rfl rfl rfl rfl rfl (by kernel_rfl) Try.func3 (by kernel_rfl)
    (of_decide_eq_true (by kernel_rfl)) (by unfold Func.isWrapper; first | (rw [if_pos (by decide +kernel)]; kernel_rfl) | (rw [if_neg (by decide +kernel)]; exact ⟨rfl, rfl⟩))
    (fun os started H enc _ => lifted os started H enc)
end Go.Proofs.Ytkcifdblaboodaa.RHistSame
#print axioms Go.Proofs.Ytkcifdblaboodaa.RHistSame.holds
