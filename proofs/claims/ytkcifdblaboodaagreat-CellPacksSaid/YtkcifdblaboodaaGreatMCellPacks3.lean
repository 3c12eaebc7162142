/- The law CellPacks holds at every input that its statement lets in; part 4 of its proof. -/
import Derived.Test.YtkcifdblaboodaaGreatMCellPacks2
set_option linter.unusedVariables false
set_option linter.unusedSimpArgs false
namespace Go.Proofs.YtkcifdblaboodaaGreat.Ce
open Go Go.RowKit Fw Hi Po
/-! ### Hits that rise -/
theorem hit_mem {l : List Hit} {i : Nat} (h : i < l.length) : l.getD i (0, 0) ∈ l := by rw [List.getD_eq_getElem?_getD, List.getElem?_eq_getElem h]; exact List.getElem_mem h
theorem hit_drop {l : List Hit} {i : Nat} (h : i < l.length) : l.drop i = l.getD i (0, 0) :: l.drop (i + 1) := by
  rw [List.drop_eq_getElem_cons h, List.getD_eq_getElem?_getD, List.getElem?_eq_getElem h]; rfl
theorem sumH_take {l : List Hit} {i : Nat} (h : i < l.length) : sumH (l.take (i + 1)) = sumH (l.take i) + (l.getD i (0, 0)).2 := by
  rw [List.take_add_one, List.getElem?_eq_getElem h, sumH_append, List.getD_eq_getElem?_getD, List.getElem?_eq_getElem h]; simp [sumH]
theorem sumH_bound {m : Int} (hm : 0 ≤ m) : ∀ {l : List Hit}, (∀ h ∈ l, 0 ≤ h.2 ∧ h.2 ≤ m) → 0 ≤ sumH l ∧ sumH l ≤ m * l.length
  | [], _ => by simp [sumH]
  | x :: r, h => by
    have h1 := h x (List.mem_cons_self ..)
    have h2 := sumH_bound hm fun y hy => h y (List.mem_cons_of_mem _ hy)
    rw [sumH_cons, List.length_cons, Int.natCast_add, Int.mul_add]
    omega
theorem since_drop {p : Pol} {t : Int} : ∀ {i : Nat} {l : List Hit}, i ≤ l.length → (∀ j, j < i → (l.getD j (0, 0)).1 ≤ t - p.2.2.1) → (i < l.length → t - p.2.2.1 < (l.getD i (0, 0)).1) → sinceE p l t = l.drop i
  | 0, [], _, _, _ => rfl
  | 0, x :: r, _, _, h2 => by
    have h2 : t - p.2.2.1 < x.1 := h2 (by simp)
    unfold sinceE
    rw [List.dropWhile_cons, if_neg (by simp; omega)]; rfl
  | i + 1, [], h, _, _ => by simp at h
  | i + 1, x :: r, h, h1, h2 => by
    have h3 : x.1 ≤ t - p.2.2.1 := h1 0 (by omega)
    have ih := since_drop (p := p) (t := t) (i := i) (l := r) (by simpa using h) (fun j hj => h1 (j + 1) (by omega)) (fun hi => h2 (by simpa using hi))
    unfold sinceE at ih ⊢
    rw [List.dropWhile_cons, if_pos (by simpa using h3), ih]; rfl
theorem mayH_at {a L : Int} : ∀ {l : List Hit} {last : Int} {i : Nat}, mayHGo a L last l = true → i < l.length → mayHGo a L (l.getD i (0, 0)).1 (l.drop (i + 1)) = true
  | [], _, i, _, h => by simp at h
  | x :: r, last, i, hm, h => by
    simp only [mayHGo, Bool.and_eq_true] at hm
    cases i with
    | zero => exact hm.2
    | succ i => exact mayH_at (l := r) hm.2 (by simpa using h)
theorem mayH_lt {a L : Int} {l : List Hit} {last : Int} {i j : Nat} (hm : mayHGo a L last l = true) (hij : i < j) (hj : j < l.length) : (l.getD i (0, 0)).1 < (l.getD j (0, 0)).1 := by
  refine (mayH_mem _ _ (mayH_at hm (i := i) (by omega)) (l.getD j (0, 0)) ?_).1
  rw [List.mem_iff_getElem?]
  exact ⟨j - (i + 1), by rw [List.getElem?_drop, show i + 1 + (j - (i + 1)) = j by omega, List.getD_eq_getElem?_getD, List.getElem?_eq_getElem hj]; rfl⟩
def lastH (last0 : Int) (l : List Hit) : Nat → Int
  | 0 => last0
  | i + 1 => (l.getD i (0, 0)).1
theorem mayH_step {a L last0 : Int} {l : List Hit} {i : Nat} (h : i < l.length) : mayHGo a L (lastH last0 l i) (l.drop i) = (decide (lastH last0 l i < (l.getD i (0, 0)).1) && decide ((l.getD i (0, 0)).1 ≤ a) && decide (1 ≤ (l.getD i (0, 0)).2) && decide ((l.getD i (0, 0)).2 ≤ L) && mayHGo a L (lastH last0 l (i + 1)) (l.drop (i + 1))) := by
  rw [hit_drop h, mayHGo]; rfl
theorem may_no4 {p : Pol} {c : Cell} (k : p.1 = 4) (h : ¬ (timeB c.1 = true ∧ c.2.1 = 0 ∧ (c.2.2.1.length : Int) = 0 ∧ mayHGo c.1 p.2.1 (max (-1) (c.1 - p.2.2.1)) c.2.2.2 = true ∧ sumH c.2.2.2 ≤ p.2.1)) : mayC p c = false := by
  rw [← Bool.not_eq_true, may4 k]
  intro g
  exact h ⟨by simp [timeB]; exact g.time, g.level, by rw [g.sums]; rfl, g.go, g.sum⟩
theorem emayM (p : Pol) (c : Cell) (k : p.1 = 4) : Meets Tryz.prog 50 [polAV p, cellAV c] [] (Y := Unit) (fun _ => True) (fun _ => .bool fun _ => mayC p c) (fun _ => []) := by
  by_cases hp : PolOk p
  · have hL := hp.limit
    have hW := hp.window
    have htb : timeB c.1 = true ↔ 0 ≤ c.1 ∧ c.1 ≤ 1099511627776 := by simp [timeB]
    refine Meets.intro hm (fn := Tryz.f50) Tryz.func50 rfl (by decide) (Nat.le_of_ble_eq_true rfl) (fun _ => rfl) ?_; intro S hok; (conv => whnf)
    (repeat' ((conv => whnf); first | apply And.intro | exact ⟨by kernel_rfl⟩ | apply DrawN.mk | apply CodeN.step hm rfl | exact trivial | exact rfl | (intro hh; try simp only [bs] at hh))); all_goals (conv => whnf)
    (refine CallN.q (check_ok hp) [] (fun _ _ => ?_); (repeat' ((conv => whnf); first | apply And.intro | exact ⟨by kernel_rfl⟩ | apply DrawN.mk | apply CodeN.step hm rfl | exact trivial | exact rfl | (intro hh; try simp only [bs] at hh; try exact absurd hh (by decide)))); all_goals (conv => whnf); all_goals try exact ⟨by decide⟩)
    all_goals try
      (refine CallN.q (etimeM c.1) [] (fun _ _ => ?_); (repeat' ((conv => whnf); first | apply And.intro | exact ⟨by kernel_rfl⟩ | apply DrawN.mk | apply CodeN.step hm rfl | exact trivial | exact rfl | (intro hh; try simp only [bs] at hh; try exact absurd hh (by decide)))); all_goals (conv => whnf); all_goals try exact ⟨by decide⟩)
    all_goals first
      | ((refine RetN.q () [] ?_ ?_ ?_ <;> (repeat' ((conv => whnf) <;> first | exact rfl | exact trivial | apply And.intro | exact Nat.zero_add _)); all_goals ((conv => whnf); try simp only []))
         have hf := may_no4 (p := p) (c := c) k (by
           rintro ⟨h1, h2, h3, h4⟩
           first
             | omega
             | (rw [h1] at hh; cases hh))
         first | exact hf | exact hf.symm)
      | skip
    have ht : timeB c.1 = true := by assumption
    have ht2 := htb.1 ht
    have ew : IntKind.i64.wrap (c.1 - p.2.2.1) = c.1 - p.2.2.1 := wr (by omega)
    have h0 : (if c.1 - p.2.2.1 > -1 then c.1 - p.2.2.1 else -1) = max (-1) (c.1 - p.2.2.1) := by split <;> omega
    have hlv : c.2.1 = 0 := by assumption
    have hsl : (c.2.2.1.length : Int) = 0 := hh
    refine LoopN.intro hm (X := Nat) (fun i => i ≤ c.2.2.2.length ∧ mayHGo c.1 p.2.1 (max (-1) (c.1 - p.2.2.1)) c.2.2.2 = mayHGo c.1 p.2.1 (lastH (max (-1) (c.1 - p.2.2.1)) c.2.2.2 i) (c.2.2.2.drop i) ∧ -1 + (i : Int) ≤ lastH (max (-1) (c.1 - p.2.2.1)) c.2.2.2 i ∧ lastH (max (-1) (c.1 - p.2.2.1)) c.2.2.2 i ≤ c.1 ∧ 0 ≤ sumH (c.2.2.2.take i) ∧ sumH (c.2.2.2.take i) ≤ 1048576 * (i : Int)) (fun i => c.2.2.2.length - i)
      (fun i => [(43, .int .i64 fun _ => (i : Int)), (42, .int .i64 fun _ => (c.2.2.2.length : Int)), (41, .lst HitT fun _ => c.2.2.2), (6, .int .i64 fun _ => lastH (max (-1) (c.1 - p.2.2.1)) c.2.2.2 i), (5, .int .i64 fun _ => sumH (c.2.2.2.take i)), (3, .ptr 1 0), (2, .ptr 0 0)])
      (fun i => [.cells 23 [.int .i64 fun _ => p.1, .int .i64 fun _ => p.2.1, .int .i64 fun _ => p.2.2.1, .int .i64 fun _ => p.2.2.2], .cells 27 [.int .i64 fun _ => c.1, .int .i64 fun _ => c.2.1, .lst (.int .i64) fun _ => c.2.2.1, .lst HitT fun _ => c.2.2.2]]) 0 [0, 1] ⟨rfl, rfl, ?_, ?_⟩ ⟨Nat.zero_le _, rfl, by show -1 + ((0 : Nat) : Int) ≤ max (-1) (c.1 - p.2.2.1); omega, by show max (-1) (c.1 - p.2.2.1) ≤ c.1; omega, Int.le_refl _, by simp [sumH]⟩ (fun i hi => ?_)
    · (repeat' ((conv => whnf) <;> first | exact rfl | exact trivial | apply And.intro | exact Nat.zero_add _))
    · (repeat' ((conv => whnf) <;> first | exact rfl | exact trivial | apply And.intro | exact Nat.zero_add _)); all_goals ((conv => whnf); try simp only [])
      simp only [ew]
      exact h0
    obtain ⟨hi, hgo, hb1, hb2, hb3, hb4⟩ := hi
    have hstep := fun h => mayH_step (a := c.1) (L := p.2.1) (last0 := max (-1) (c.1 - p.2.2.1)) (l := c.2.2.2) (i := i) h
    have hst := fun h => sumH_take (l := c.2.2.2) (i := i) h
    have hl1 : lastH (max (-1) (c.1 - p.2.2.1)) c.2.2.2 (i + 1) = (c.2.2.2.getD i (0, 0)).1 := rfl
    have hl2 : i < c.2.2.2.length → (c.2.2.2.getD i (0, 0)).1 ≤ c.1 → mayHGo c.1 p.2.1 (lastH (max (-1) (c.1 - p.2.2.1)) c.2.2.2 i) (c.2.2.2.drop i) = mayHGo c.1 p.2.1 (lastH (max (-1) (c.1 - p.2.2.1)) c.2.2.2 (i + 1)) (c.2.2.2.drop (i + 1)) → 1 ≤ (c.2.2.2.getD i (0, 0)).2 → (c.2.2.2.getD i (0, 0)).2 ≤ 1048576 → lastH (max (-1) (c.1 - p.2.2.1)) c.2.2.2 i < (c.2.2.2.getD i (0, 0)).1 →
        (i + 1 ≤ c.2.2.2.length ∧ mayHGo c.1 p.2.1 (max (-1) (c.1 - p.2.2.1)) c.2.2.2 = mayHGo c.1 p.2.1 (lastH (max (-1) (c.1 - p.2.2.1)) c.2.2.2 (i + 1)) (c.2.2.2.drop (i + 1)) ∧ -1 + ((i + 1 : Nat) : Int) ≤ lastH (max (-1) (c.1 - p.2.2.1)) c.2.2.2 (i + 1) ∧ lastH (max (-1) (c.1 - p.2.2.1)) c.2.2.2 (i + 1) ≤ c.1 ∧ 0 ≤ sumH (c.2.2.2.take (i + 1)) ∧ sumH (c.2.2.2.take (i + 1)) ≤ 1048576 * ((i + 1 : Nat) : Int)) := fun q1 q2 q3 q4 q5 q6 => by
      rw [hst q1]
      exact ⟨q1, hgo.trans q3, by rw [hl1]; omega, by rw [hl1]; exact q2, by omega, by omega⟩
    generalize hx : c.2.2.2.getD i (0, 0) = x at *
    have hx' : c.2.2.2.getD (i : Int).toNat HitT.dflt = x := hx
    (repeat' ((conv => whnf); first | apply And.intro | exact ⟨by kernel_rfl⟩ | apply DrawN.mk | apply CodeN.step hm rfl | exact trivial | exact rfl | (intro hh; try simp only [bs] at hh))); all_goals (conv => whnf)
    all_goals (try simp only [hx'] at *)
    all_goals first
      | (refine Ob.mk ?_; first | omega | (simp only []; omega))
      | ((refine RetN.q () [] ?_ ?_ ?_ <;> (repeat' ((conv => whnf) <;> first | exact rfl | exact trivial | apply And.intro | exact Nat.zero_add _)); all_goals ((conv => whnf); try simp only []))
         have hf := may_no4 (p := p) (c := c) k (by
           rintro ⟨_, _, _, h4, _⟩
           rw [hgo, hstep (by omega)] at h4
           simp only [Bool.and_eq_true, decide_eq_true_eq] at h4
           omega)
         first | exact hf | exact hf.symm)
      | (have hi2 : i < c.2.2.2.length := by omega
         have q2 : ¬ c.1 < x.1 := by assumption
         have q4 : ¬ x.2 < 1 := by assumption
         have q5 : ¬ p.2.1 < x.2 := by assumption
         have q6 : ¬ x.1 ≤ lastH (max (-1) (c.1 - p.2.2.1)) c.2.2.2 i := by assumption
         have q3 := hstep hi2
         rw [decide_eq_true (by omega), decide_eq_true (by omega), decide_eq_true (by omega), decide_eq_true (by omega), Bool.and_self, Bool.and_self, Bool.and_self, Bool.true_and] at q3
         have hh2 := hst hi2
         refine ⟨i + 1, [0, 1], ⟨rfl, rfl, ?_, ?_⟩, hl2 hi2 (by omega) q3 (by omega) (by omega) (by omega), by omega⟩
         · (repeat' ((conv => whnf) <;> first | exact rfl | exact trivial | apply And.intro | exact Nat.zero_add _))
         · (repeat' ((conv => whnf) <;> first | exact rfl | exact trivial | apply And.intro | exact Nat.zero_add _)); all_goals ((conv => whnf); try simp only [])
           · exact wr (by omega)
           · exact hl1.symm
           · rw [hh2]
             exact wr (by omega))
      | (have e : i = c.2.2.2.length := by omega
         (refine RetN.q () [] ?_ ?_ ?_ <;> (repeat' ((conv => whnf) <;> first | exact rfl | exact trivial | apply And.intro | exact Nat.zero_add _)); all_goals ((conv => whnf); try simp only []))
         have hg1 : mayHGo c.1 p.2.1 (max (-1) (c.1 - p.2.2.1)) c.2.2.2 = true := by rw [hgo, e, List.drop_length]; rfl
         rw [Bool.eq_iff_iff, may4 k, decide_eq_true_eq]
         rw [e, List.take_length]
         constructor
         · intro h
           exact ⟨hp, ht2, hlv, List.length_eq_zero_iff.1 (by omega), hg1, h⟩
         · intro g
           exact g.sum)
  · have hf : mayC p c = false := by unfold mayC; rw [decide_eq_false hp]; rfl
    refine Meets.intro hm (fn := Tryz.f50) Tryz.func50 rfl (by decide) (Nat.le_of_ble_eq_true rfl) (fun _ => rfl) ?_; intro S hok; (conv => whnf)
    (repeat' ((conv => whnf); first | apply And.intro | exact ⟨by kernel_rfl⟩ | apply DrawN.mk | apply CodeN.step hm rfl | exact trivial | exact rfl | (intro hh; try simp only [bs] at hh))); all_goals (conv => whnf)
    (refine CallN.q (check_no hp) [] (fun _ _ => ?_); (repeat' ((conv => whnf); first | apply And.intro | exact ⟨by kernel_rfl⟩ | apply DrawN.mk | apply CodeN.step hm rfl | exact trivial | exact rfl | (intro hh; try simp only [bs] at hh; try exact absurd hh (by decide)))); all_goals (conv => whnf); all_goals try exact ⟨by decide⟩)
    (refine RetN.q () [] ?_ ?_ ?_ <;> (repeat' ((conv => whnf) <;> first | exact rfl | exact trivial | apply And.intro | exact Nat.zero_add _)); all_goals ((conv => whnf); try simp only []))
    exact hf
theorem ecountM (l : List Hit) (hl : l.length ≤ 1100000) (hw : ∀ h ∈ l, 0 ≤ h.2 ∧ h.2 ≤ 1048576) : Meets Tryz.prog 95 [.lst HitT fun _ => l] [] (Y := Unit) (fun _ => True) (fun _ => .int .i64 fun _ => sumH l) (fun _ => []) := by
  refine Meets.intro hm (fn := Tryz.f95) Tryz.func95 rfl (by decide) (Nat.le_of_ble_eq_true rfl) (fun _ => rfl) ?_; intro S hok; (conv => whnf)
  (repeat' ((conv => whnf); first | apply And.intro | exact ⟨by kernel_rfl⟩ | apply DrawN.mk | apply CodeN.step hm rfl | exact trivial | exact rfl | (intro hh; try simp only [bs] at hh))); all_goals (conv => whnf)
  refine LoopN.intro hm (X := Nat) (fun i => i ≤ l.length) (fun i => l.length - i)
    (fun i => [(8, .int .i64 fun _ => (i : Int)), (7, .int .i64 fun _ => (l.length : Int)), (6, .lst HitT fun _ => l), (3, .int .i64 fun _ => sumH (l.take i))]) (fun _ => []) 0 [] ⟨rfl, rfl, ?_, ?_⟩ (Nat.zero_le _) (fun i hi => ?_)
  · (repeat' ((conv => whnf) <;> first | exact rfl | exact trivial | apply And.intro | exact Nat.zero_add _))
  · (repeat' ((conv => whnf) <;> first | exact rfl | exact trivial | apply And.intro | exact Nat.zero_add _))
  have hb := sumH_bound (m := 1048576) (by omega) (l := l.take i) fun h hh => hw h (List.mem_of_mem_take hh)
  rw [List.length_take] at hb
  have hst := fun h => sumH_take (l := l) (i := i) h
  have hwi := fun h => hw _ (hit_mem (l := l) (i := i) h)
  (repeat' ((conv => whnf); first | apply And.intro | exact ⟨by kernel_rfl⟩ | apply DrawN.mk | apply CodeN.step hm rfl | exact trivial | exact rfl | (intro hh; try simp only [bs] at hh))); all_goals (conv => whnf)
  all_goals first
    | (refine Ob.mk ?_; first | omega | (simp only []; omega))
    | (have hi2 : i < l.length := by omega
       have h1 := hst hi2
       have h2 := hwi hi2
       refine ⟨i + 1, [], ⟨rfl, rfl, ?_, ?_⟩, hi2, Nat.sub_lt_sub_left hi2 (Nat.lt_succ_self _)⟩
       · (repeat' ((conv => whnf) <;> first | exact rfl | exact trivial | apply And.intro | exact Nat.zero_add _))
       · (repeat' ((conv => whnf) <;> first | exact rfl | exact trivial | apply And.intro | exact Nat.zero_add _)); all_goals ((conv => whnf); try simp only [])
         · exact wr (by omega)
         · show IntKind.i64.wrap (sumH (l.take i) + (l.getD i (0, 0)).2) = _
           rw [h1]
           exact wr (by omega))
    | (have e : i = l.length := by omega
       (refine RetN.q () [] ?_ ?_ ?_ <;> (repeat' ((conv => whnf) <;> first | exact rfl | exact trivial | apply And.intro | exact Nat.zero_add _)); all_goals ((conv => whnf); try simp only []))
       rw [e, List.take_length])
theorem esinceM (p : Pol) (l : List Hit) (t : Int) (hp : PolOk p) (ht : 0 ≤ t ∧ t ≤ 4398046511104) (hl : l.length ≤ 1100000) : Meets Tryz.prog 94 [polAV p, .lst HitT fun _ => l, .int .i64 fun _ => t] [] (Y := Unit) (fun _ => True) (fun _ => .lst HitT fun _ => sinceE p l t) (fun _ => []) := by
  have hW := hp.window
  have ew : IntKind.i64.wrap (t - p.2.2.1) = t - p.2.2.1 := wr (by omega)
  refine Meets.intro hm (fn := Tryz.f94) Tryz.func94 rfl (by decide) (Nat.le_of_ble_eq_true rfl) (fun _ => rfl) ?_; intro S hok; (conv => whnf)
  (repeat' ((conv => whnf); first | apply And.intro | exact ⟨by kernel_rfl⟩ | apply DrawN.mk | apply CodeN.step hm rfl | exact trivial | exact rfl | (intro hh; try simp only [bs] at hh))); all_goals (conv => whnf)
  refine LoopN.intro hm (X := Nat) (fun i => i ≤ l.length ∧ ∀ j, j < i → (l.getD j (0, 0)).1 ≤ t - p.2.2.1) (fun i => l.length - i)
    (fun i => [(7, .int .i64 fun _ => (i : Int)), (3, .ptr 0 0), (1, .lst HitT fun _ => l), (2, .int .i64 fun _ => t)]) (fun _ => [.cells 23 [.int .i64 fun _ => p.1, .int .i64 fun _ => p.2.1, .int .i64 fun _ => p.2.2.1, .int .i64 fun _ => p.2.2.2]]) 0 [0] ⟨rfl, rfl, ?_, ?_⟩ ⟨Nat.zero_le _, fun j hj => by omega⟩ (fun i hi => ?_)
  · (repeat' ((conv => whnf) <;> first | exact rfl | exact trivial | apply And.intro | exact Nat.zero_add _))
  · (repeat' ((conv => whnf) <;> first | exact rfl | exact trivial | apply And.intro | exact Nat.zero_add _))
  obtain ⟨hi, hj⟩ := hi
  (repeat' ((conv => whnf); first | apply And.intro | exact ⟨by kernel_rfl⟩ | apply DrawN.mk | apply CodeN.step hm rfl | exact trivial | exact rfl | (intro hh; try simp only [bs] at hh))); all_goals (conv => whnf)
  · refine Ob.mk ?_
    simp only []; omega
  · refine Ob.mk ?_
    simp only []; omega
  · (refine RetN.q () [] ?_ ?_ ?_ <;> (repeat' ((conv => whnf) <;> first | exact rfl | exact trivial | apply And.intro | exact Nat.zero_add _)); all_goals ((conv => whnf); try simp only []))
    rw [Int.toNat_natCast, Int.toNat_natCast, List.take_length]
    exact (since_drop hi hj fun h => by rw [← ew]; exact hh).symm
  · have hi2 : i < l.length := by omega
    have h1 : ¬ t - p.2.2.1 < (l.getD i (0, 0)).1 := by rw [← ew]; exact hh
    refine ⟨i + 1, [0], ⟨rfl, rfl, ?_, ?_⟩, ⟨by omega, fun j hj2 => ?_⟩, by omega⟩
    · (repeat' ((conv => whnf) <;> first | exact rfl | exact trivial | apply And.intro | exact Nat.zero_add _))
    · (repeat' ((conv => whnf) <;> first | exact rfl | exact trivial | apply And.intro | exact Nat.zero_add _)); all_goals ((conv => whnf); try simp only [])
      exact wr (by omega)
    · by_cases e : j = i
      · rw [e]; omega
      · exact hj j (by omega)
  · refine Ob.mk ?_
    simp only []; omega
  · (refine RetN.q () [] ?_ ?_ ?_ <;> (repeat' ((conv => whnf) <;> first | exact rfl | exact trivial | apply And.intro | exact Nat.zero_add _)); all_goals ((conv => whnf); try simp only []))
    rw [Int.toNat_natCast, Int.toNat_natCast, List.take_length]
    exact (since_drop hi hj fun h => by omega).symm
theorem mayH_len {a L : Int} : ∀ {l : List Hit} {last : Int}, mayHGo a L last l = true → last + l.length ≤ max last a
  | [], last, _ => by simp; omega
  | x :: r, last, h => by
    simp only [mayHGo, Bool.and_eq_true, decide_eq_true_eq] at h
    have ih := mayH_len h.2
    rw [List.length_cons, Int.natCast_add]
    omega
theorem elen {p : Pol} {c : Cell} (hm : mayC p c = true) (k : p.1 = 4) : c.2.2.2.length ≤ 1048576 := by
  have g := (may4 k).1 hm
  have hW := g.pol.window
  have hT := g.time
  have := mayH_len g.go
  omega
/-- It counts at a time what is left of the hits. -/
theorem ecnt {p : Pol} {T t : Int} {l : List Hit} (k : p.1 = 4) : cnt p (T, 0, [], l) t = sumH (sinceE p l t) := by
  unfold cnt; rw [if_neg (by omega), if_neg (by omega), if_neg (by omega)]
theorem ewait_at {p : Pol} {T m : Int} {l : List Hit} (k : p.1 = 4) (hm : mayC p (T, 0, [], l) = true) {i : Nat} (hi : i ≤ l.length) (h1 : i = 0 ∨ m < sumH (l.drop (i - 1))) (h2 : sumH (l.drop i) ≤ m) :
    wt p (T, 0, [], l) m = lastH (T - p.2.2.1) l i + p.2.2.1 - T := by
  have g := (may4 k).1 hm
  have hW := g.pol.window
  have hgo : mayHGo T p.2.1 (max (-1) (T - p.2.2.1)) l = true := g.go
  have hmem := mayH_mem _ _ hgo
  cases i with
  | zero =>
    refine wt_eq hm (show 0 ≤ T - p.2.2.1 + p.2.2.1 - T by omega) (show T - p.2.2.1 + p.2.2.1 - T ≤ _ by omega) (.inl (show T - p.2.2.1 + p.2.2.1 - T = 0 by omega)) (.inr ?_)
    rw [ecnt k]
    have : sinceE p l ((T, (0 : Int), ([] : List Int), l).1 + (lastH (T - p.2.2.1) l 0 + p.2.2.1 - T)) = l.drop 0 := by
      refine since_drop (Nat.zero_le _) (fun j hj => by omega) fun h => ?_
      have := hmem _ (hit_mem h)
      show T + (T - p.2.2.1 + p.2.2.1 - T) - p.2.2.1 < _
      omega
    rw [this]; exact h2
  | succ i =>
    have hx : max (-1) (T - p.2.2.1) < lastH (T - p.2.2.1) l (i + 1) ∧ lastH (T - p.2.2.1) l (i + 1) ≤ T := ⟨(hmem _ (hit_mem (l := l) (i := i) (by omega))).1, (hmem _ (hit_mem (l := l) (i := i) (by omega))).2.1⟩
    have h1 : m < sumH (l.drop i) := h1.resolve_left (by omega)
    have hlt : ∀ j, j < i + 1 → (l.getD j (0, 0)).1 ≤ lastH (T - p.2.2.1) l (i + 1) := fun j hj => by
      by_cases e : j = i
      · rw [e]; exact Int.le_refl _
      · exact Int.le_of_lt (mayH_lt hgo (by omega) (by omega))
    have hlt1 : ∀ j, j < i → (l.getD j (0, 0)).1 < lastH (T - p.2.2.1) l (i + 1) := fun j hj => mayH_lt hgo (by omega) (by omega)
    have hlt3 : lastH (T - p.2.2.1) l (i + 1) ≤ (l.getD i (0, 0)).1 := Int.le_refl _
    have hlt2 : i + 1 < l.length → lastH (T - p.2.2.1) l (i + 1) < (l.getD (i + 1) (0, 0)).1 := fun hj => mayH_lt hgo (by omega) hj
    generalize lastH (T - p.2.2.1) l (i + 1) = x at *
    refine wt_eq hm (by omega) (by omega) (.inr ?_) (.inr ?_)
    · rw [ecnt k]
      have : sinceE p l ((T, (0 : Int), ([] : List Int), l).1 + (x + p.2.2.1 - T - 1)) = l.drop i := by
        refine since_drop (by omega) (fun j hj => ?_) fun h => ?_
        · have := hlt1 j hj
          show _ ≤ T + (x + p.2.2.1 - T - 1) - p.2.2.1
          omega
        · show T + (x + p.2.2.1 - T - 1) - p.2.2.1 < _
          have := hlt3
          omega
      rw [this]; exact h1
    · rw [ecnt k]
      have : sinceE p l ((T, (0 : Int), ([] : List Int), l).1 + (x + p.2.2.1 - T)) = l.drop (i + 1) := by
        refine since_drop hi (fun j hj => ?_) fun h => ?_
        · show _ ≤ T + (x + p.2.2.1 - T) - p.2.2.1
          have := hlt j hj
          omega
        · have := hlt2 h
          show T + (x + p.2.2.1 - T) - p.2.2.1 < _
          omega
      rw [this]; exact h2
theorem ewaitM (p : Pol) (l : List Hit) (T m : Int) (k : p.1 = 4) (hmy : mayC p (T, 0, [], l) = true) (hm0 : 0 ≤ m) : Meets Tryz.prog 96 [polAV p, .lst HitT fun _ => l, .int .i64 fun _ => T, .int .i64 fun _ => m] [] (Y := Unit) (fun _ => True) (fun _ => .int .i64 fun _ => wt p (T, 0, [], l) m) (fun _ => []) := by
  have g := (may4 k).1 hmy
  have hp := g.pol
  have hT := g.time
  have hL := hp.limit
  have hW := hp.window
  have hgo : mayHGo T p.2.1 (max (-1) (T - p.2.2.1)) l = true := g.go
  have hmem := mayH_mem _ _ hgo
  have hlen := elen hmy k
  refine Meets.intro hm (fn := Tryz.f96) Tryz.func96 rfl (by decide) (Nat.le_of_ble_eq_true rfl) (fun _ => rfl) ?_; intro S hok; (conv => whnf)
  (repeat' ((conv => whnf); first | apply And.intro | exact ⟨by kernel_rfl⟩ | apply DrawN.mk | apply CodeN.step hm rfl | exact trivial | exact rfl | (intro hh; try simp only [bs] at hh))); all_goals (conv => whnf)
  (refine CallN.q (ecountM l (by simp only [] at hlen; omega) (fun h hh => by have := hmem h hh; omega)) [] (fun _ _ => ?_); (repeat' ((conv => whnf); first | apply And.intro | exact ⟨by kernel_rfl⟩ | apply DrawN.mk | apply CodeN.step hm rfl | exact trivial | exact rfl | (intro hh; try simp only [bs] at hh; try exact absurd hh (by decide)))); all_goals (conv => whnf); all_goals try exact ⟨by decide⟩)
  have hlen2 : l.length ≤ 1048576 := hlen
  refine LoopN.intro hm (X := Nat) (fun i => i ≤ l.length ∧ (i = 0 ∨ m < sumH (l.drop (i - 1)))) (fun i => l.length - i)
    (fun i => [(18, .int .i64 fun _ => (i : Int)), (17, .int .i64 fun _ => (l.length : Int)), (16, .lst HitT fun _ => l), (10, .int .i64 fun _ => lastH (T - p.2.2.1) l i + p.2.2.1), (9, .int .i64 fun _ => sumH (l.drop i)), (4, .ptr 0 0), (2, .int .i64 fun _ => T), (3, .int .i64 fun _ => m)])
    (fun _ => [.cells 23 [.int .i64 fun _ => p.1, .int .i64 fun _ => p.2.1, .int .i64 fun _ => p.2.2.1, .int .i64 fun _ => p.2.2.2]]) 0 [0] ⟨rfl, rfl, ?_, ?_⟩ ⟨Nat.zero_le _, .inl rfl⟩ (fun i hi => ?_)
  · (repeat' ((conv => whnf) <;> first | exact rfl | exact trivial | apply And.intro | exact Nat.zero_add _))
  · (repeat' ((conv => whnf) <;> first | exact rfl | exact trivial | apply And.intro | exact Nat.zero_add _)); all_goals ((conv => whnf); try simp only [])
    show T = T - p.2.2.1 + p.2.2.1
    omega
  obtain ⟨hi, hlo⟩ := hi
  have hwa := ewait_at k hmy hi hlo
  have hsb := sumH_bound (m := 1048576) (by omega) (l := l.drop i) fun h hh => by have := hmem h (List.mem_of_mem_drop hh); omega
  rw [List.length_drop] at hsb
  have hdr := fun h => congrArg sumH (hit_drop (l := l) (i := i) h)
  have hmi := fun h => hmem _ (hit_mem (l := l) (i := i) h)
  have hla : lastH (T - p.2.2.1) l (i + 1) = (l.getD i (0, 0)).1 := rfl
  (repeat' ((conv => whnf); first | apply And.intro | exact ⟨by kernel_rfl⟩ | apply DrawN.mk | apply CodeN.step hm rfl | exact trivial | exact rfl | (intro hh; try simp only [bs] at hh))); all_goals (conv => whnf)
  · refine Ob.mk ?_
    simp only []; omega
  · have hw := hwa hh
    have hwb := wt_bound (p := p) (d := (T, 0, [], l)) hp m
    (refine RetN.q () [] ?_ ?_ ?_ <;> (repeat' ((conv => whnf) <;> first | exact rfl | exact trivial | apply And.intro | exact Nat.zero_add _)); all_goals ((conv => whnf); try simp only []))
    rw [hw] at hwb ⊢
    exact wr (by omega)
  · have hi2 : i < l.length := by omega
    have h1 := hdr hi2
    have h2 := hmi hi2
    rw [sumH_cons] at h1
    refine ⟨i + 1, [0], ⟨rfl, rfl, ?_, ?_⟩, ⟨by omega, .inr ?_⟩, by omega⟩
    · (repeat' ((conv => whnf) <;> first | exact rfl | exact trivial | apply And.intro | exact Nat.zero_add _))
    · (repeat' ((conv => whnf) <;> first | exact rfl | exact trivial | apply And.intro | exact Nat.zero_add _)); all_goals ((conv => whnf); try simp only [])
      · exact wr (by omega)
      · show IntKind.i64.wrap ((l.getD i (0, 0)).1 + p.2.2.1) = _
        rw [wr (by omega)]; rfl
      · show IntKind.i64.wrap (sumH (l.drop i) - (l.getD i (0, 0)).2) = _
        rw [wr (by omega)]; omega
    · rw [Nat.add_sub_cancel]; omega
  · have e : i = l.length := by omega
    have hw := hwa (by rw [e, List.drop_length]; exact hm0)
    have hwb := wt_bound (p := p) (d := (T, 0, [], l)) hp m
    (refine RetN.q () [] ?_ ?_ ?_ <;> (repeat' ((conv => whnf) <;> first | exact rfl | exact trivial | apply And.intro | exact Nat.zero_add _)); all_goals ((conv => whnf); try simp only []))
    rw [hw] at hwb ⊢
    exact wr (by omega)
theorem cloneH (xs : List Hit) (hl : xs.length ≤ 2000000) : Meets Tryz.prog 93 [.lst HitT fun _ => xs] [] (Y := Unit) (fun _ => True)
    (fun _ => .vec 0 2 (fun _ => 0) (fun _ => xs.length)) (fun _ => [.vect 52 HitT fun _ => xs]) := by
  refine Meets.intro hm (fn := Tryz.f93) Tryz.func93 rfl (by decide) (Nat.le_of_ble_eq_true rfl) (fun _ => rfl) ?_; intro S hok; (conv => whnf)
  (repeat' ((conv => whnf); first | apply And.intro | exact ⟨by kernel_rfl⟩ | apply DrawN.mk | apply CodeN.step hm rfl | exact trivial | exact rfl | (intro hh; try simp only [bs] at hh))); all_goals (conv => whnf)
  · have hx : xs = [] := ‹_ = true → xs = []› hh
    refine RetN.nil 52 HitT 0 ?_
    (conv => whnf)
    (refine RetN.q () [0] ?_ ?_ ?_ <;> (repeat' ((conv => whnf) <;> first | exact rfl | exact trivial | apply And.intro | exact Nat.zero_add _)); all_goals ((conv => whnf); try simp only []))
    all_goals simp [hx]
  · refine ⟨⟨rfl, ?_, ?_⟩⟩
    · show 0 + xs.length ≤ _
      omega
    · show (0 + xs.length) * 16 ≤ _
      omega
  · (refine RetN.q () [0] ?_ ?_ ?_ <;> (repeat' ((conv => whnf) <;> first | exact rfl | exact trivial | apply And.intro | exact Nat.zero_add _)); all_goals ((conv => whnf); try simp only []))
    all_goals simp
theorem addH_new {l : List Hit} {T w : Int} (h : l.length = 0 ∨ (l.getD (l.length - 1) (0, 0)).1 ≠ T) : addH l T w = l ++ [(T, w)] := by
  unfold addH
  rw [List.getLast?_eq_getElem?]
  cases e : l[l.length - 1]? with
  | none =>
    rw [List.getElem?_eq_none_iff] at e
    have : l = [] := List.length_eq_zero_iff.1 (by omega)
    subst this; rfl
  | some x =>
    have hx := (List.getElem?_eq_some_iff.1 e).1
    have h := h.resolve_left (by omega)
    rw [List.getD_eq_getElem?_getD, e] at h
    exact if_neg h
theorem addH_last {l : List Hit} {T w : Int} (h0 : l.length ≠ 0) (h : (l.getD (l.length - 1) (0, 0)).1 = T) : addH l T w = l.set (l.length - 1) ((l.getD (l.length - 1) (0, 0)).1, (l.getD (l.length - 1) (0, 0)).2 + w) := by
  have hne : l ≠ [] := fun e => h0 (by rw [e]; rfl)
  obtain ⟨r, x, rfl⟩ : ∃ r x, l = r ++ [x] := ⟨_, _, (List.dropLast_concat_getLast hne).symm⟩
  have e1 : (r ++ [x]).length - 1 = r.length := by simp
  rw [e1] at h ⊢
  have e2 : (r ++ [x]).getD r.length (0, 0) = x := by simp [List.getD_eq_getElem?_getD]
  rw [e2] at h ⊢
  unfold addH
  rw [List.getLast?_concat]
  simp only []
  rw [if_pos h, List.dropLast_concat, ← h]
  simp [List.set_append]
theorem ask4 {p : Pol} {c : Cell} {t w : Int} (k : p.1 = 4) (h1 : mayC p c = true) (h2 : timeB t = true) (h3 : weighs w = true) :
    askC p c t w = if sumH (sinceE p c.2.2.2 (max t c.1)) + w ≤ p.2.1 then (added p (moved p c (max t c.1)) w, true, p.2.1 - (sumH (sinceE p c.2.2.2 (max t c.1)) + w), 0, wt p (added p (moved p c (max t c.1)) w) 0)
    else (moved p c (max t c.1), false, p.2.1 - sumH (sinceE p c.2.2.2 (max t c.1)), (if p.2.1 < w then 2199023255552 else wt p (moved p c (max t c.1)) (p.2.1 - w)), wt p (moved p c (max t c.1)) 0) := by
  have em : own p (moved p c (max t c.1)) = sumH (sinceE p c.2.2.2 (max t c.1)) := by unfold own moved; simp only [if_neg (show ¬ (p.1 = 1 ∨ p.1 = 2) by omega), if_neg (show ¬ p.1 = 3 by omega)]
  have ewt : ∀ w, worth p w = w := fun w => by unfold worth; rw [if_neg (by omega)]
  rw [ask_ok h1 h2 h3, em, ewt, ewt, ewt, Int.tdiv_one, Int.tdiv_one]
set_option maxRecDepth 4000 in
theorem easkM (p : Pol) (c : Cell) (t w : Int) (k : p.1 = 4) : Meets Tryz.prog 51 [polAV p, cellAV c, .int .i64 fun _ => t, .int .i64 fun _ => w] [] (Y := Unit) (fun _ => True) (fun _ => .tup [cellAV (askC p c t w).1, verAV (askC p c t w).2]) (fun _ => []) := by
  by_cases hv : mayC p c = true ∧ timeB t = true ∧ weighs w = true
  · obtain ⟨h1, h2, h3⟩ := hv
    have M1 := emayM p c k
    have M2 := etimeM t
    have M3 := weighsM w
    rw [h1] at M1
    rw [h2] at M2
    rw [h3] at M3
    have ht : 0 ≤ t ∧ t ≤ 1099511627776 := by simpa [timeB] using h2
    have hw : 1 ≤ w ∧ w ≤ 1048576 := by simpa [weighs] using h3
    have g := (may4 k).1 h1
    have hp := g.pol
    have hct := g.time
    have hL := hp.limit
    have hW := hp.window
    have hln := elen h1 k
    have hmx : (if c.1 > t then c.1 else t) = max t c.1 := by split <;> omega
    have ha := ask4 k h1 h2 h3
    have hmm := moved_may h1 (t := max t c.1) (by omega) (by omega)
    have em : moved p c (max t c.1) = (max t c.1, 0, [], sinceE p c.2.2.2 (max t c.1)) := by unfold moved; rw [if_neg (by omega), if_neg (by omega)]
    rw [em] at hmm ha
    have M4 := esinceM p c.2.2.2 (max t c.1) hp (by omega) (by omega)
    have hT : 0 ≤ max t c.1 ∧ max t c.1 ≤ 1099511627776 := by omega
    refine Meets.intro hm (fn := Tryz.f51) Tryz.func51 rfl (by decide) (Nat.le_of_ble_eq_true rfl) (fun _ => rfl) ?_; intro S hok; (conv => whnf)
    (repeat' ((conv => whnf); first | apply And.intro | exact ⟨by kernel_rfl⟩ | apply DrawN.mk | apply CodeN.step hm rfl | exact trivial | exact rfl | (intro hh; try simp only [bs] at hh))); all_goals (conv => whnf)
    (refine CallN.q M1 [] (fun _ _ => ?_); (repeat' ((conv => whnf); first | apply And.intro | exact ⟨by kernel_rfl⟩ | apply DrawN.mk | apply CodeN.step hm rfl | exact trivial | exact rfl | (intro hh; try simp only [bs] at hh; try exact absurd hh (by decide)))); all_goals (conv => whnf); all_goals try exact ⟨by decide⟩)
    (refine CallN.q M2 [] (fun _ _ => ?_); (repeat' ((conv => whnf); first | apply And.intro | exact ⟨by kernel_rfl⟩ | apply DrawN.mk | apply CodeN.step hm rfl | exact trivial | exact rfl | (intro hh; try simp only [bs] at hh; try exact absurd hh (by decide)))); all_goals (conv => whnf); all_goals try exact ⟨by decide⟩)
    (refine CallN.q M3 [] (fun _ _ => ?_); (repeat' ((conv => whnf); first | apply And.intro | exact ⟨by kernel_rfl⟩ | apply DrawN.mk | apply CodeN.step hm rfl | exact trivial | exact rfl | (intro hh; try simp only [bs] at hh; try exact absurd hh (by decide)))); all_goals (conv => whnf); all_goals try exact ⟨by decide⟩)
    refine CallN.q M4 [] (fun _ _ => ?_) rfl rfl ?_ trivial
    rotate_left
    · (repeat' ((conv => whnf) <;> first | exact rfl | exact trivial | apply And.intro | exact Nat.zero_add _))
      exact hmx
    have g2 := (may4 k).1 hmm
    have hl2 := elen hmm k
    have hl3 : (sinceE p c.2.2.2 (max t c.1)).length ≤ 1048576 := hl2
    have hmem : ∀ h ∈ sinceE p c.2.2.2 (max t c.1), 0 ≤ h.2 ∧ h.2 ≤ 1048576 := fun h hh => by have := mayH_mem _ _ g2.go h hh; omega
    clear em M1 M2 M3 M4
    generalize max t c.1 = T at *
    generalize sinceE p c.2.2.2 T = l at *
    have M5 := ecountM l (by omega) hmem
    (repeat' ((conv => whnf); first | apply And.intro | exact ⟨by kernel_rfl⟩ | apply DrawN.mk | apply CodeN.step hm rfl | exact trivial | exact rfl | (intro hh; try simp only [bs] at hh; try exact absurd hh (by decide)))); all_goals (conv => whnf)
    (refine CallN.q (cloneH l (by omega)) [] (fun _ _ => ?_); (repeat' ((conv => whnf); first | apply And.intro | exact ⟨by kernel_rfl⟩ | apply DrawN.mk | apply CodeN.step hm rfl | exact trivial | exact rfl | (intro hh; try simp only [bs] at hh; try exact absurd hh (by decide)))); all_goals (conv => whnf); all_goals try exact ⟨by decide⟩)
    have hsb := sumH_bound (m := 1048576) (by omega) hmem
    have enw : IntKind.i64.wrap (sumH l + w) = sumH l + w := wr (by omega)
    have el2 : IntKind.i64.wrap (((l.length + 1 : Nat) : Int) - 1) = l.length := by rw [wr (by omega)]; omega
    have e5 : (l ++ [(T, (0 : Int))]).getD l.length HitT.dflt = (T, 0) := by simp [List.getD_eq_getElem?_getD]
    have e6 : IntKind.i64.wrap w = w := wr (by omega)
    have hq : l.length ≠ 0 → 0 + (IntKind.i64.wrap ((l.length : Int) - 1)).toNat = l.length - 1 := fun h => by rw [wr (by omega)]; omega
    refine CallN.rest M5 [4] ?_ (fun _ _ => ⟨rfl, rfl⟩) ?_
    · (repeat' ((conv => whnf) <;> first | exact rfl | exact trivial | apply And.intro | exact Nat.zero_add _)); all_goals ((conv => whnf); try simp only [])
      rw [List.drop_zero, List.take_length]
    intro y hy
    (repeat' ((conv => whnf); first | apply And.intro | exact ⟨by kernel_rfl⟩ | apply DrawN.mk | apply CodeN.step hm rfl | exact trivial | exact rfl | (intro hh; try simp only [bs] at hh; try exact absurd hh (by decide)))); all_goals (conv => whnf)
    all_goals try
      have hle : sumH l + w ≤ p.2.1 := by rw [← enw]; assumption
      rw [if_pos hle] at ha
      have hadd : added p (T, 0, [], l) w = (T, 0, [], addH l T w) := by
        unfold added; simp only [if_neg (show ¬ p.1 = 1 by omega), if_neg (show ¬ p.1 = 2 by omega), if_neg (show ¬ p.1 = 3 by omega)]
      have hf : Full p (T, 0, [], l) := fun h => by omega
      have ham := added_may hmm hf hw.1 (by
        unfold own worth; simp only [if_neg (show ¬ p.1 = 1 by omega), if_neg (show ¬ (p.1 = 1 ∨ p.1 = 2) by omega), if_neg (show ¬ p.1 = 3 by omega)]; exact hle)
      have hown := added_own hmm hf w
      rw [hadd] at ha ham hown
      have g3 := (may4 k).1 ham
      have hl4 := elen ham k
      have hl5 : (addH l T w).length ≤ 1048576 := hl4
      have hmem3 : ∀ h ∈ addH l T w, 0 ≤ h.2 ∧ h.2 ≤ 1048576 := fun h hh => by have := mayH_mem _ _ g3.go h hh; omega
      have hsum : sumH (addH l T w) = sumH l + w := by
        unfold own worth at hown
        simpa only [if_neg (show ¬ p.1 = 1 by omega), if_neg (show ¬ (p.1 = 1 ∨ p.1 = 2) by omega), if_neg (show ¬ p.1 = 3 by omega)] using hown
      have M6 := ecountM (addH l T w) (by omega) hmem3
      have M7 := ewaitM p (addH l T w) T 0 k ham (Int.le_refl _)
      rw [hsum] at M6
    all_goals try
      refine Ob.mk ?_
      have el : IntKind.i64.wrap ((l.length : Int) - 1) = (l.length : Int) - 1 := wr (by omega)
      have el2 : IntKind.i64.wrap (((l.length + 1 : Nat) : Int) - 1) = l.length := by rw [wr (by omega)]; omega
      have hb : ((Tryz.t52).bytes : Nat) = 16 := rfl
      simp only [hmx, List.drop_zero, List.take_succ_cons, List.take_zero, List.length_cons, List.length_nil, Nat.zero_add, el, el2, hb, true_and]
      omega
    all_goals try
      have hnew : addH l T w = l ++ [(T, w)] := by
        refine addH_new ?_
        first
          | exact .inl (by omega)
          | (refine .inr fun e => ?_
             rw [hq (by omega), hmx] at hh
             exact hh e)
      rw [hnew] at M6 M7 ha
    all_goals try
      have hnew : addH l T w = l.set (l.length - 1) ((l.getD (l.length - 1) (0, 0)).1, (l.getD (l.length - 1) (0, 0)).2 + w) := by
        refine addH_last (by omega) ?_
        rw [hq (by omega), hmx] at hh
        exact hh
      have hgm := hmem _ (hit_mem (l := l) (i := l.length - 1) (by omega))
      have ew : IntKind.i64.wrap ((l.getD (l.length - 1) (0, 0)).2 + w) = (l.getD (l.length - 1) (0, 0)).2 + w := wr (by omega)
      have hq := hq (by omega)
      rw [hnew] at M6 M7 ha
    all_goals try
      refine CallN.rest M6 [4] ?_ (fun _ _ => ⟨rfl, rfl⟩) ?_
      · (repeat' ((conv => whnf) <;> first | exact rfl | exact trivial | apply And.intro | exact Nat.zero_add _)); all_goals ((conv => whnf); try simp only [])
        first
          | (simp only [hmx, List.drop_zero, List.take_succ_cons, List.take_zero, List.length_cons, List.length_nil, Nat.zero_add, Int.zero_add, el2, Int.toNat_natCast, List.take_length, e5, e6]
             rw [List.set_append_right _ _ (Nat.le_refl _), Nat.sub_self, List.set_cons_zero, List.take_of_length_le (by simp)])
          | (rw [hq, List.drop_zero]
             refine Eq.trans (List.take_of_length_le (by rw [List.length_set]; exact Nat.le_refl _)) ?_
             show l.set (l.length - 1) ((l.getD (l.length - 1) (0, 0)).1, IntKind.i64.wrap ((l.getD (l.length - 1) (0, 0)).2 + w)) = _
             rw [ew])
      intro y hy
      (repeat' ((conv => whnf); first | apply And.intro | exact ⟨by kernel_rfl⟩ | apply DrawN.mk | apply CodeN.step hm rfl | exact trivial | exact rfl | (intro hh; try simp only [bs] at hh; try exact absurd hh (by decide)))); all_goals (conv => whnf)
      refine CallN.rest M7 [4] ?_ (fun _ _ => ⟨rfl, rfl⟩) ?_
      · (repeat' ((conv => whnf) <;> first | exact rfl | exact trivial | apply And.intro | exact Nat.zero_add _)); all_goals ((conv => whnf); try simp only [])
        · first
            | (simp only [hmx, List.drop_zero, List.take_succ_cons, List.take_zero, List.length_cons, List.length_nil, Nat.zero_add, Int.zero_add, el2, Int.toNat_natCast, List.take_length, e5, e6]
               rw [List.set_append_right _ _ (Nat.le_refl _), Nat.sub_self, List.set_cons_zero, List.take_of_length_le (by simp)])
            | (rw [hq, List.drop_zero]
               refine Eq.trans (List.take_of_length_le (by rw [List.length_set]; exact Nat.le_refl _)) ?_
               show l.set (l.length - 1) ((l.getD (l.length - 1) (0, 0)).1, IntKind.i64.wrap ((l.getD (l.length - 1) (0, 0)).2 + w)) = _
               rw [ew])
        · exact hmx
      intro y hy
      (repeat' ((conv => whnf); first | apply And.intro | exact ⟨by kernel_rfl⟩ | apply DrawN.mk | apply CodeN.step hm rfl | exact trivial | exact rfl | (intro hh; try simp only [bs] at hh; try exact absurd hh (by decide)))); all_goals (conv => whnf)
      (refine RetN.frz 4 ?_; (conv => whnf))
      (refine RetN.q () [] ?_ ?_ ?_ <;> (repeat' ((conv => whnf) <;> first | exact rfl | exact trivial | apply And.intro | exact Nat.zero_add _)); all_goals ((conv => whnf); try simp only []))
      all_goals rw [ha]
      all_goals try first | exact hmx | exact wr (by omega)
      all_goals
        first
          | (simp only [hmx, List.drop_zero, List.take_succ_cons, List.take_zero, List.length_cons, List.length_nil, Nat.zero_add, Int.zero_add, el2, Int.toNat_natCast, List.take_length, e5, e6]
             rw [List.set_append_right _ _ (Nat.le_refl _), Nat.sub_self, List.set_cons_zero, List.take_of_length_le (by simp)])
          | (rw [hq, List.drop_zero]
             refine Eq.trans (List.take_of_length_le (by rw [List.length_set]; exact Nat.le_refl _)) ?_
             show l.set (l.length - 1) ((l.getD (l.length - 1) (0, 0)).1, IntKind.i64.wrap ((l.getD (l.length - 1) (0, 0)).2 + w)) = _
             rw [ew])
    all_goals
      have hgt : ¬ sumH l + w ≤ p.2.1 := by rw [← enw]; assumption
      rw [if_neg hgt] at ha
    · rw [if_pos hh] at ha
      refine CallN.rest M5 [4] ?_ (fun _ _ => ⟨rfl, rfl⟩) ?_
      · (repeat' ((conv => whnf) <;> first | exact rfl | exact trivial | apply And.intro | exact Nat.zero_add _)); all_goals ((conv => whnf); try simp only [])
        rw [List.drop_zero, List.take_length]
      intro y hy
      (repeat' ((conv => whnf); first | apply And.intro | exact ⟨by kernel_rfl⟩ | apply DrawN.mk | apply CodeN.step hm rfl | exact trivial | exact rfl | (intro hh; try simp only [bs] at hh; try exact absurd hh (by decide)))); all_goals (conv => whnf)
      refine CallN.rest (ewaitM p l T 0 k hmm (Int.le_refl _)) [4] ?_ (fun _ _ => ⟨rfl, rfl⟩) ?_
      · (repeat' ((conv => whnf) <;> first | exact rfl | exact trivial | apply And.intro | exact Nat.zero_add _)); all_goals ((conv => whnf); try simp only [])
        · rw [List.drop_zero, List.take_length]
        · exact hmx
      intro y hy
      (repeat' ((conv => whnf); first | apply And.intro | exact ⟨by kernel_rfl⟩ | apply DrawN.mk | apply CodeN.step hm rfl | exact trivial | exact rfl | (intro hh; try simp only [bs] at hh; try exact absurd hh (by decide)))); all_goals (conv => whnf)
      (refine RetN.frz 4 ?_; (conv => whnf))
      (refine RetN.q () [] ?_ ?_ ?_ <;> (repeat' ((conv => whnf) <;> first | exact rfl | exact trivial | apply And.intro | exact Nat.zero_add _)); all_goals ((conv => whnf); try simp only []))
      all_goals rw [ha]
      all_goals first
        | done
        | exact hmx
        | exact wr (by omega)
        | rw [List.drop_zero, List.take_length]
    · rw [if_neg hh] at ha
      refine CallN.rest (ewaitM p l T (p.2.1 - w) k hmm (by omega)) [4] ?_ (fun _ _ => ⟨rfl, rfl⟩) ?_
      · (repeat' ((conv => whnf) <;> first | exact rfl | exact trivial | apply And.intro | exact Nat.zero_add _)); all_goals ((conv => whnf); try simp only [])
        · rw [List.drop_zero, List.take_length]
        · exact hmx
        · exact wr (by omega)
      intro y hy
      (repeat' ((conv => whnf); first | apply And.intro | exact ⟨by kernel_rfl⟩ | apply DrawN.mk | apply CodeN.step hm rfl | exact trivial | exact rfl | (intro hh; try simp only [bs] at hh; try exact absurd hh (by decide)))); all_goals (conv => whnf)
      refine CallN.rest M5 [4] ?_ (fun _ _ => ⟨rfl, rfl⟩) ?_
      · (repeat' ((conv => whnf) <;> first | exact rfl | exact trivial | apply And.intro | exact Nat.zero_add _)); all_goals ((conv => whnf); try simp only [])
        rw [List.drop_zero, List.take_length]
      intro y hy
      (repeat' ((conv => whnf); first | apply And.intro | exact ⟨by kernel_rfl⟩ | apply DrawN.mk | apply CodeN.step hm rfl | exact trivial | exact rfl | (intro hh; try simp only [bs] at hh; try exact absurd hh (by decide)))); all_goals (conv => whnf)
      refine CallN.rest (ewaitM p l T 0 k hmm (Int.le_refl _)) [4] ?_ (fun _ _ => ⟨rfl, rfl⟩) ?_
      · (repeat' ((conv => whnf) <;> first | exact rfl | exact trivial | apply And.intro | exact Nat.zero_add _)); all_goals ((conv => whnf); try simp only [])
        · rw [List.drop_zero, List.take_length]
        · exact hmx
      intro y hy
      (repeat' ((conv => whnf); first | apply And.intro | exact ⟨by kernel_rfl⟩ | apply DrawN.mk | apply CodeN.step hm rfl | exact trivial | exact rfl | (intro hh; try simp only [bs] at hh; try exact absurd hh (by decide)))); all_goals (conv => whnf)
      (refine RetN.frz 4 ?_; (conv => whnf))
      (refine RetN.q () [] ?_ ?_ ?_ <;> (repeat' ((conv => whnf) <;> first | exact rfl | exact trivial | apply And.intro | exact Nat.zero_add _)); all_goals ((conv => whnf); try simp only []))
      all_goals rw [ha]
      all_goals first
        | done
        | exact hmx
        | exact wr (by omega)
        | rw [List.drop_zero, List.take_length]
  · rw [ask_bad hv]
    refine Meets.intro hm (fn := Tryz.f51) Tryz.func51 rfl (by decide) (Nat.le_of_ble_eq_true rfl) (fun _ => rfl) ?_; intro S hok; (conv => whnf)
    (repeat' ((conv => whnf); first | apply And.intro | exact ⟨by kernel_rfl⟩ | apply DrawN.mk | apply CodeN.step hm rfl | exact trivial | exact rfl | (intro hh; try simp only [bs] at hh))); all_goals (conv => whnf)
    (refine CallN.q (emayM p c k) [] (fun _ _ => ?_); (repeat' ((conv => whnf); first | apply And.intro | exact ⟨by kernel_rfl⟩ | apply DrawN.mk | apply CodeN.step hm rfl | exact trivial | exact rfl | (intro hh; try simp only [bs] at hh; try exact absurd hh (by decide)))); all_goals (conv => whnf); all_goals try exact ⟨by decide⟩)
    all_goals try
      (refine CallN.q (etimeM t) [] (fun _ _ => ?_); (repeat' ((conv => whnf); first | apply And.intro | exact ⟨by kernel_rfl⟩ | apply DrawN.mk | apply CodeN.step hm rfl | exact trivial | exact rfl | (intro hh; try simp only [bs] at hh; try exact absurd hh (by decide)))); all_goals (conv => whnf); all_goals try exact ⟨by decide⟩)
    all_goals try
      (refine CallN.q (weighsM w) [] (fun _ _ => ?_); (repeat' ((conv => whnf); first | apply And.intro | exact ⟨by kernel_rfl⟩ | apply DrawN.mk | apply CodeN.step hm rfl | exact trivial | exact rfl | (intro hh; try simp only [bs] at hh; try exact absurd hh (by decide)))); all_goals (conv => whnf); all_goals try exact ⟨by decide⟩)
    all_goals first
      | (exfalso; exact hv ⟨by assumption, by assumption, by assumption⟩)
      | (refine RetN.q () [] ?_ ?_ ?_ <;> (repeat' ((conv => whnf) <;> first | exact rfl | exact trivial | apply And.intro | exact Nat.zero_add _)); all_goals ((conv => whnf); try simp only []))
theorem eendsM (p : Pol) (c : Cell) (k : p.1 = 4) : Meets Tryz.prog 52 [polAV p, cellAV c] [] (Y := Unit) (fun _ => True) (fun _ => .int .i64 fun _ => endsC p c) (fun _ => []) := by
  refine Meets.intro hm (fn := Tryz.f52) Tryz.func52 rfl (by decide) (Nat.le_of_ble_eq_true rfl) (fun _ => rfl) ?_; intro S hok; (conv => whnf)
  (repeat' ((conv => whnf); first | apply And.intro | exact ⟨by kernel_rfl⟩ | apply DrawN.mk | apply CodeN.step hm rfl | exact trivial | exact rfl | (intro hh; try simp only [bs] at hh))); all_goals (conv => whnf)
  (refine CallN.q (emayM p c k) [] (fun _ _ => ?_); (repeat' ((conv => whnf); first | apply And.intro | exact ⟨by kernel_rfl⟩ | apply DrawN.mk | apply CodeN.step hm rfl | exact trivial | exact rfl | (intro hh; try simp only [bs] at hh; try exact absurd hh (by decide)))); all_goals (conv => whnf); all_goals try exact ⟨by decide⟩)
  · (refine RetN.q () [] ?_ ?_ ?_ <;> (repeat' ((conv => whnf) <;> first | exact rfl | exact trivial | apply And.intro | exact Nat.zero_add _)); all_goals ((conv => whnf); try simp only []))
    unfold endsC
    rw [if_neg (by simp [*])]
  have h1 : mayC p c = true := by assumption
  have g := (may4 k).1 h1
  have hp := g.pol
  have hct := g.time
  have hW := hp.window
  have hmm := moved_may h1 (Int.le_refl _) hct.2
  have em : moved p c c.1 = (c.1, 0, [], c.2.2.2) := by
    unfold moved; rw [if_neg (by omega), if_neg (by omega), since_own g]
  have he : endsC p c = c.1 + wt p (c.1, 0, [], c.2.2.2) 0 := by unfold endsC; rw [if_pos h1, em]
  rw [em] at hmm
  rw [he]
  have hwb := wt_bound (p := p) (d := (c.1, 0, [], c.2.2.2)) hp 0
  (refine CallN.q (ewaitM p c.2.2.2 c.1 0 k hmm (Int.le_refl _)) [] (fun _ _ => ?_); (repeat' ((conv => whnf); first | apply And.intro | exact ⟨by kernel_rfl⟩ | apply DrawN.mk | apply CodeN.step hm rfl | exact trivial | exact rfl | (intro hh; try simp only [bs] at hh; try exact absurd hh (by decide)))); all_goals (conv => whnf); all_goals try exact ⟨by decide⟩)
  (refine RetN.q () [] ?_ ?_ ?_ <;> (repeat' ((conv => whnf) <;> first | exact rfl | exact trivial | apply And.intro | exact Nat.zero_add _)); all_goals ((conv => whnf); try simp only []))
  exact wr (by omega)
end Go.Proofs.YtkcifdblaboodaaGreat.Ce
set_option linter.unusedVariables false
set_option linter.unusedSimpArgs false
namespace Go.Proofs.YtkcifdblaboodaaGreat.Ce
open Go Go.RowKit Fw Hi Po
theorem of1 (p : Pol) (k : p.1 = 1) : Meets Tryz.prog 21 [polAV p] [] (Y := Unit) (fun _ => True) (fun _ => .ifc 58 (.agg [.fn (.func 41) [] [], .fn (.func 42) [] [], .fn (.func 43) [] []])) (fun _ => []) := by
  refine Meets.intro hm (fn := Tryz.f21) Tryz.func21 rfl (by decide) (Nat.le_of_ble_eq_true rfl) (fun _ => rfl) ?_; intro S hok; (conv => whnf)
  (repeat' ((conv => whnf); first | apply And.intro | exact ⟨by kernel_rfl⟩ | apply DrawN.mk | apply CodeN.step hm rfl | exact trivial | exact rfl | (intro hh; try simp only [bs] at hh))); all_goals (conv => whnf)
  all_goals first | (exfalso; omega) | skip
  (refine RetN.q () [] ?_ ?_ ?_ <;> (repeat' ((conv => whnf) <;> first | exact rfl | exact trivial | apply And.intro | exact Nat.zero_add _)); all_goals ((conv => whnf); try simp only []))
theorem lmay1 (p : Pol) (c : Cell) (k : p.1 = 1) (hc : -9223372036854775808 ≤ c.2.1 ∧ c.2.1 ≤ 9223372036854775807) : Meets Tryz.prog 137 [.agg [.fn (.func 41) [] [], .fn (.func 42) [] [], .fn (.func 43) [] []], polAV p, cellAV c] [] (Y := Unit) (fun _ => True) (fun _ => .bool fun _ => mayC p c) (fun _ => []) := by
  refine Meets.intro hm (fn := Tryz.f137) Tryz.func137 rfl (by decide) (Nat.le_of_ble_eq_true rfl) (fun _ => rfl) ?_; intro S hok; (conv => whnf)
  (repeat' ((conv => whnf); first | apply And.intro | exact ⟨by kernel_rfl⟩ | apply DrawN.mk | apply CodeN.step hm rfl | exact trivial | exact rfl | (intro hh; try simp only [bs] at hh))); all_goals (conv => whnf)
  (refine CallN.q (gmayM p c k hc) [] (fun _ _ => ?_); (repeat' ((conv => whnf); first | apply And.intro | exact ⟨by kernel_rfl⟩ | apply DrawN.mk | apply CodeN.step hm rfl | exact trivial | exact rfl | (intro hh; try simp only [bs] at hh; try exact absurd hh (by decide)))); all_goals (conv => whnf); all_goals try exact ⟨by decide⟩)
  (refine RetN.q () [] ?_ ?_ ?_ <;> (repeat' ((conv => whnf) <;> first | exact rfl | exact trivial | apply And.intro | exact Nat.zero_add _)); all_goals ((conv => whnf); try simp only []))
theorem lask1 (p : Pol) (c : Cell) (t w : Int) (k : p.1 = 1) (hc : -9223372036854775808 ≤ c.2.1 ∧ c.2.1 ≤ 9223372036854775807) : Meets Tryz.prog 135 [.agg [.fn (.func 41) [] [], .fn (.func 42) [] [], .fn (.func 43) [] []], polAV p, cellAV c, .int .i64 fun _ => t, .int .i64 fun _ => w] [] (Y := Unit) (fun _ => True) (fun _ => .tup [cellAV (askC p c t w).1, verAV (askC p c t w).2]) (fun _ => []) := by
  refine Meets.intro hm (fn := Tryz.f135) Tryz.func135 rfl (by decide) (Nat.le_of_ble_eq_true rfl) (fun _ => rfl) ?_; intro S hok; (conv => whnf)
  (repeat' ((conv => whnf); first | apply And.intro | exact ⟨by kernel_rfl⟩ | apply DrawN.mk | apply CodeN.step hm rfl | exact trivial | exact rfl | (intro hh; try simp only [bs] at hh))); all_goals (conv => whnf)
  (refine CallN.q (gaskM p c t w k hc) [] (fun _ _ => ?_); (repeat' ((conv => whnf); first | apply And.intro | exact ⟨by kernel_rfl⟩ | apply DrawN.mk | apply CodeN.step hm rfl | exact trivial | exact rfl | (intro hh; try simp only [bs] at hh; try exact absurd hh (by decide)))); all_goals (conv => whnf); all_goals try exact ⟨by decide⟩)
  (refine RetN.q () [] ?_ ?_ ?_ <;> (repeat' ((conv => whnf) <;> first | exact rfl | exact trivial | apply And.intro | exact Nat.zero_add _)); all_goals ((conv => whnf); try simp only []))
theorem lends1 (p : Pol) (c : Cell) (k : p.1 = 1) (hc : -9223372036854775808 ≤ c.2.1 ∧ c.2.1 ≤ 9223372036854775807) : Meets Tryz.prog 136 [.agg [.fn (.func 41) [] [], .fn (.func 42) [] [], .fn (.func 43) [] []], polAV p, cellAV c] [] (Y := Unit) (fun _ => True) (fun _ => .int .i64 fun _ => endsC p c) (fun _ => []) := by
  refine Meets.intro hm (fn := Tryz.f136) Tryz.func136 rfl (by decide) (Nat.le_of_ble_eq_true rfl) (fun _ => rfl) ?_; intro S hok; (conv => whnf)
  (repeat' ((conv => whnf); first | apply And.intro | exact ⟨by kernel_rfl⟩ | apply DrawN.mk | apply CodeN.step hm rfl | exact trivial | exact rfl | (intro hh; try simp only [bs] at hh))); all_goals (conv => whnf)
  (refine CallN.q (gendsM p c k hc) [] (fun _ _ => ?_); (repeat' ((conv => whnf); first | apply And.intro | exact ⟨by kernel_rfl⟩ | apply DrawN.mk | apply CodeN.step hm rfl | exact trivial | exact rfl | (intro hh; try simp only [bs] at hh; try exact absurd hh (by decide)))); all_goals (conv => whnf); all_goals try exact ⟨by decide⟩)
  (refine RetN.q () [] ?_ ?_ ?_ <;> (repeat' ((conv => whnf) <;> first | exact rfl | exact trivial | apply And.intro | exact Nat.zero_add _)); all_goals ((conv => whnf); try simp only []))
theorem of2 (p : Pol) (k : p.1 = 2) : Meets Tryz.prog 21 [polAV p] [] (Y := Unit) (fun _ => True) (fun _ => .ifc 58 (.agg [.fn (.func 44) [] [], .fn (.func 45) [] [], .fn (.func 46) [] []])) (fun _ => []) := by
  refine Meets.intro hm (fn := Tryz.f21) Tryz.func21 rfl (by decide) (Nat.le_of_ble_eq_true rfl) (fun _ => rfl) ?_; intro S hok; (conv => whnf)
  (repeat' ((conv => whnf); first | apply And.intro | exact ⟨by kernel_rfl⟩ | apply DrawN.mk | apply CodeN.step hm rfl | exact trivial | exact rfl | (intro hh; try simp only [bs] at hh))); all_goals (conv => whnf)
  all_goals first | (exfalso; omega) | skip
  (refine RetN.q () [] ?_ ?_ ?_ <;> (repeat' ((conv => whnf) <;> first | exact rfl | exact trivial | apply And.intro | exact Nat.zero_add _)); all_goals ((conv => whnf); try simp only []))
theorem lmay2 (p : Pol) (c : Cell) (k : p.1 = 2) : Meets Tryz.prog 137 [.agg [.fn (.func 44) [] [], .fn (.func 45) [] [], .fn (.func 46) [] []], polAV p, cellAV c] [] (Y := Unit) (fun _ => True) (fun _ => .bool fun _ => mayC p c) (fun _ => []) := by
  refine Meets.intro hm (fn := Tryz.f137) Tryz.func137 rfl (by decide) (Nat.le_of_ble_eq_true rfl) (fun _ => rfl) ?_; intro S hok; (conv => whnf)
  (repeat' ((conv => whnf); first | apply And.intro | exact ⟨by kernel_rfl⟩ | apply DrawN.mk | apply CodeN.step hm rfl | exact trivial | exact rfl | (intro hh; try simp only [bs] at hh))); all_goals (conv => whnf)
  (refine CallN.q (fmayM p c k) [] (fun _ _ => ?_); (repeat' ((conv => whnf); first | apply And.intro | exact ⟨by kernel_rfl⟩ | apply DrawN.mk | apply CodeN.step hm rfl | exact trivial | exact rfl | (intro hh; try simp only [bs] at hh; try exact absurd hh (by decide)))); all_goals (conv => whnf); all_goals try exact ⟨by decide⟩)
  (refine RetN.q () [] ?_ ?_ ?_ <;> (repeat' ((conv => whnf) <;> first | exact rfl | exact trivial | apply And.intro | exact Nat.zero_add _)); all_goals ((conv => whnf); try simp only []))
theorem lask2 (p : Pol) (c : Cell) (t w : Int) (k : p.1 = 2) : Meets Tryz.prog 135 [.agg [.fn (.func 44) [] [], .fn (.func 45) [] [], .fn (.func 46) [] []], polAV p, cellAV c, .int .i64 fun _ => t, .int .i64 fun _ => w] [] (Y := Unit) (fun _ => True) (fun _ => .tup [cellAV (askC p c t w).1, verAV (askC p c t w).2]) (fun _ => []) := by
  refine Meets.intro hm (fn := Tryz.f135) Tryz.func135 rfl (by decide) (Nat.le_of_ble_eq_true rfl) (fun _ => rfl) ?_; intro S hok; (conv => whnf)
  (repeat' ((conv => whnf); first | apply And.intro | exact ⟨by kernel_rfl⟩ | apply DrawN.mk | apply CodeN.step hm rfl | exact trivial | exact rfl | (intro hh; try simp only [bs] at hh))); all_goals (conv => whnf)
  (refine CallN.q (faskM p c t w k) [] (fun _ _ => ?_); (repeat' ((conv => whnf); first | apply And.intro | exact ⟨by kernel_rfl⟩ | apply DrawN.mk | apply CodeN.step hm rfl | exact trivial | exact rfl | (intro hh; try simp only [bs] at hh; try exact absurd hh (by decide)))); all_goals (conv => whnf); all_goals try exact ⟨by decide⟩)
  (refine RetN.q () [] ?_ ?_ ?_ <;> (repeat' ((conv => whnf) <;> first | exact rfl | exact trivial | apply And.intro | exact Nat.zero_add _)); all_goals ((conv => whnf); try simp only []))
theorem lends2 (p : Pol) (c : Cell) (k : p.1 = 2) : Meets Tryz.prog 136 [.agg [.fn (.func 44) [] [], .fn (.func 45) [] [], .fn (.func 46) [] []], polAV p, cellAV c] [] (Y := Unit) (fun _ => True) (fun _ => .int .i64 fun _ => endsC p c) (fun _ => []) := by
  refine Meets.intro hm (fn := Tryz.f136) Tryz.func136 rfl (by decide) (Nat.le_of_ble_eq_true rfl) (fun _ => rfl) ?_; intro S hok; (conv => whnf)
  (repeat' ((conv => whnf); first | apply And.intro | exact ⟨by kernel_rfl⟩ | apply DrawN.mk | apply CodeN.step hm rfl | exact trivial | exact rfl | (intro hh; try simp only [bs] at hh))); all_goals (conv => whnf)
  (refine CallN.q (fendsM p c k) [] (fun _ _ => ?_); (repeat' ((conv => whnf); first | apply And.intro | exact ⟨by kernel_rfl⟩ | apply DrawN.mk | apply CodeN.step hm rfl | exact trivial | exact rfl | (intro hh; try simp only [bs] at hh; try exact absurd hh (by decide)))); all_goals (conv => whnf); all_goals try exact ⟨by decide⟩)
  (refine RetN.q () [] ?_ ?_ ?_ <;> (repeat' ((conv => whnf) <;> first | exact rfl | exact trivial | apply And.intro | exact Nat.zero_add _)); all_goals ((conv => whnf); try simp only []))
theorem of3 (p : Pol) (k : p.1 = 3) : Meets Tryz.prog 21 [polAV p] [] (Y := Unit) (fun _ => True) (fun _ => .ifc 58 (.agg [.fn (.func 47) [] [], .fn (.func 48) [] [], .fn (.func 49) [] []])) (fun _ => []) := by
  refine Meets.intro hm (fn := Tryz.f21) Tryz.func21 rfl (by decide) (Nat.le_of_ble_eq_true rfl) (fun _ => rfl) ?_; intro S hok; (conv => whnf)
  (repeat' ((conv => whnf); first | apply And.intro | exact ⟨by kernel_rfl⟩ | apply DrawN.mk | apply CodeN.step hm rfl | exact trivial | exact rfl | (intro hh; try simp only [bs] at hh))); all_goals (conv => whnf)
  all_goals first | (exfalso; omega) | skip
  (refine RetN.q () [] ?_ ?_ ?_ <;> (repeat' ((conv => whnf) <;> first | exact rfl | exact trivial | apply And.intro | exact Nat.zero_add _)); all_goals ((conv => whnf); try simp only []))
theorem lmay3 (p : Pol) (c : Cell) (k : p.1 = 3) : Meets Tryz.prog 137 [.agg [.fn (.func 47) [] [], .fn (.func 48) [] [], .fn (.func 49) [] []], polAV p, cellAV c] [] (Y := Unit) (fun _ => True) (fun _ => .bool fun _ => mayC p c) (fun _ => []) := by
  refine Meets.intro hm (fn := Tryz.f137) Tryz.func137 rfl (by decide) (Nat.le_of_ble_eq_true rfl) (fun _ => rfl) ?_; intro S hok; (conv => whnf)
  (repeat' ((conv => whnf); first | apply And.intro | exact ⟨by kernel_rfl⟩ | apply DrawN.mk | apply CodeN.step hm rfl | exact trivial | exact rfl | (intro hh; try simp only [bs] at hh))); all_goals (conv => whnf)
  (refine CallN.q (rmayM p c k) [] (fun _ _ => ?_); (repeat' ((conv => whnf); first | apply And.intro | exact ⟨by kernel_rfl⟩ | apply DrawN.mk | apply CodeN.step hm rfl | exact trivial | exact rfl | (intro hh; try simp only [bs] at hh; try exact absurd hh (by decide)))); all_goals (conv => whnf); all_goals try exact ⟨by decide⟩)
  (refine RetN.q () [] ?_ ?_ ?_ <;> (repeat' ((conv => whnf) <;> first | exact rfl | exact trivial | apply And.intro | exact Nat.zero_add _)); all_goals ((conv => whnf); try simp only []))
theorem lask3 (p : Pol) (c : Cell) (t w : Int) (k : p.1 = 3) : Meets Tryz.prog 135 [.agg [.fn (.func 47) [] [], .fn (.func 48) [] [], .fn (.func 49) [] []], polAV p, cellAV c, .int .i64 fun _ => t, .int .i64 fun _ => w] [] (Y := Unit) (fun _ => True) (fun _ => .tup [cellAV (askC p c t w).1, verAV (askC p c t w).2]) (fun _ => []) := by
  refine Meets.intro hm (fn := Tryz.f135) Tryz.func135 rfl (by decide) (Nat.le_of_ble_eq_true rfl) (fun _ => rfl) ?_; intro S hok; (conv => whnf)
  (repeat' ((conv => whnf); first | apply And.intro | exact ⟨by kernel_rfl⟩ | apply DrawN.mk | apply CodeN.step hm rfl | exact trivial | exact rfl | (intro hh; try simp only [bs] at hh))); all_goals (conv => whnf)
  (refine CallN.q (raskM p c t w k) [] (fun _ _ => ?_); (repeat' ((conv => whnf); first | apply And.intro | exact ⟨by kernel_rfl⟩ | apply DrawN.mk | apply CodeN.step hm rfl | exact trivial | exact rfl | (intro hh; try simp only [bs] at hh; try exact absurd hh (by decide)))); all_goals (conv => whnf); all_goals try exact ⟨by decide⟩)
  (refine RetN.q () [] ?_ ?_ ?_ <;> (repeat' ((conv => whnf) <;> first | exact rfl | exact trivial | apply And.intro | exact Nat.zero_add _)); all_goals ((conv => whnf); try simp only []))
theorem lends3 (p : Pol) (c : Cell) (k : p.1 = 3) : Meets Tryz.prog 136 [.agg [.fn (.func 47) [] [], .fn (.func 48) [] [], .fn (.func 49) [] []], polAV p, cellAV c] [] (Y := Unit) (fun _ => True) (fun _ => .int .i64 fun _ => endsC p c) (fun _ => []) := by
  refine Meets.intro hm (fn := Tryz.f136) Tryz.func136 rfl (by decide) (Nat.le_of_ble_eq_true rfl) (fun _ => rfl) ?_; intro S hok; (conv => whnf)
  (repeat' ((conv => whnf); first | apply And.intro | exact ⟨by kernel_rfl⟩ | apply DrawN.mk | apply CodeN.step hm rfl | exact trivial | exact rfl | (intro hh; try simp only [bs] at hh))); all_goals (conv => whnf)
  (refine CallN.q (rendsM p c k) [] (fun _ _ => ?_); (repeat' ((conv => whnf); first | apply And.intro | exact ⟨by kernel_rfl⟩ | apply DrawN.mk | apply CodeN.step hm rfl | exact trivial | exact rfl | (intro hh; try simp only [bs] at hh; try exact absurd hh (by decide)))); all_goals (conv => whnf); all_goals try exact ⟨by decide⟩)
  (refine RetN.q () [] ?_ ?_ ?_ <;> (repeat' ((conv => whnf) <;> first | exact rfl | exact trivial | apply And.intro | exact Nat.zero_add _)); all_goals ((conv => whnf); try simp only []))
theorem of4 (p : Pol) (k : p.1 = 4) : Meets Tryz.prog 21 [polAV p] [] (Y := Unit) (fun _ => True) (fun _ => .ifc 58 (.agg [.fn (.func 50) [] [], .fn (.func 51) [] [], .fn (.func 52) [] []])) (fun _ => []) := by
  refine Meets.intro hm (fn := Tryz.f21) Tryz.func21 rfl (by decide) (Nat.le_of_ble_eq_true rfl) (fun _ => rfl) ?_; intro S hok; (conv => whnf)
  (repeat' ((conv => whnf); first | apply And.intro | exact ⟨by kernel_rfl⟩ | apply DrawN.mk | apply CodeN.step hm rfl | exact trivial | exact rfl | (intro hh; try simp only [bs] at hh))); all_goals (conv => whnf)
  all_goals first | (exfalso; omega) | skip
  (refine RetN.q () [] ?_ ?_ ?_ <;> (repeat' ((conv => whnf) <;> first | exact rfl | exact trivial | apply And.intro | exact Nat.zero_add _)); all_goals ((conv => whnf); try simp only []))
theorem lmay4 (p : Pol) (c : Cell) (k : p.1 = 4) : Meets Tryz.prog 137 [.agg [.fn (.func 50) [] [], .fn (.func 51) [] [], .fn (.func 52) [] []], polAV p, cellAV c] [] (Y := Unit) (fun _ => True) (fun _ => .bool fun _ => mayC p c) (fun _ => []) := by
  refine Meets.intro hm (fn := Tryz.f137) Tryz.func137 rfl (by decide) (Nat.le_of_ble_eq_true rfl) (fun _ => rfl) ?_; intro S hok; (conv => whnf)
  (repeat' ((conv => whnf); first | apply And.intro | exact ⟨by kernel_rfl⟩ | apply DrawN.mk | apply CodeN.step hm rfl | exact trivial | exact rfl | (intro hh; try simp only [bs] at hh))); all_goals (conv => whnf)
  (refine CallN.q (emayM p c k) [] (fun _ _ => ?_); (repeat' ((conv => whnf); first | apply And.intro | exact ⟨by kernel_rfl⟩ | apply DrawN.mk | apply CodeN.step hm rfl | exact trivial | exact rfl | (intro hh; try simp only [bs] at hh; try exact absurd hh (by decide)))); all_goals (conv => whnf); all_goals try exact ⟨by decide⟩)
  (refine RetN.q () [] ?_ ?_ ?_ <;> (repeat' ((conv => whnf) <;> first | exact rfl | exact trivial | apply And.intro | exact Nat.zero_add _)); all_goals ((conv => whnf); try simp only []))
theorem lask4 (p : Pol) (c : Cell) (t w : Int) (k : p.1 = 4) : Meets Tryz.prog 135 [.agg [.fn (.func 50) [] [], .fn (.func 51) [] [], .fn (.func 52) [] []], polAV p, cellAV c, .int .i64 fun _ => t, .int .i64 fun _ => w] [] (Y := Unit) (fun _ => True) (fun _ => .tup [cellAV (askC p c t w).1, verAV (askC p c t w).2]) (fun _ => []) := by
  refine Meets.intro hm (fn := Tryz.f135) Tryz.func135 rfl (by decide) (Nat.le_of_ble_eq_true rfl) (fun _ => rfl) ?_; intro S hok; (conv => whnf)
  (repeat' ((conv => whnf); first | apply And.intro | exact ⟨by kernel_rfl⟩ | apply DrawN.mk | apply CodeN.step hm rfl | exact trivial | exact rfl | (intro hh; try simp only [bs] at hh))); all_goals (conv => whnf)
  (refine CallN.q (easkM p c t w k) [] (fun _ _ => ?_); (repeat' ((conv => whnf); first | apply And.intro | exact ⟨by kernel_rfl⟩ | apply DrawN.mk | apply CodeN.step hm rfl | exact trivial | exact rfl | (intro hh; try simp only [bs] at hh; try exact absurd hh (by decide)))); all_goals (conv => whnf); all_goals try exact ⟨by decide⟩)
  (refine RetN.q () [] ?_ ?_ ?_ <;> (repeat' ((conv => whnf) <;> first | exact rfl | exact trivial | apply And.intro | exact Nat.zero_add _)); all_goals ((conv => whnf); try simp only []))
theorem lends4 (p : Pol) (c : Cell) (k : p.1 = 4) : Meets Tryz.prog 136 [.agg [.fn (.func 50) [] [], .fn (.func 51) [] [], .fn (.func 52) [] []], polAV p, cellAV c] [] (Y := Unit) (fun _ => True) (fun _ => .int .i64 fun _ => endsC p c) (fun _ => []) := by
  refine Meets.intro hm (fn := Tryz.f136) Tryz.func136 rfl (by decide) (Nat.le_of_ble_eq_true rfl) (fun _ => rfl) ?_; intro S hok; (conv => whnf)
  (repeat' ((conv => whnf); first | apply And.intro | exact ⟨by kernel_rfl⟩ | apply DrawN.mk | apply CodeN.step hm rfl | exact trivial | exact rfl | (intro hh; try simp only [bs] at hh))); all_goals (conv => whnf)
  (refine CallN.q (eendsM p c k) [] (fun _ _ => ?_); (repeat' ((conv => whnf); first | apply And.intro | exact ⟨by kernel_rfl⟩ | apply DrawN.mk | apply CodeN.step hm rfl | exact trivial | exact rfl | (intro hh; try simp only [bs] at hh; try exact absurd hh (by decide)))); all_goals (conv => whnf); all_goals try exact ⟨by decide⟩)
  (refine RetN.q () [] ?_ ?_ ?_ <;> (repeat' ((conv => whnf) <;> first | exact rfl | exact trivial | apply And.intro | exact Nat.zero_add _)); all_goals ((conv => whnf); try simp only []))
theorem ofN (p : Pol) (h1 : p.1 ≠ 1) (h2 : p.1 ≠ 2) (h3 : p.1 ≠ 3) (h4 : p.1 ≠ 4) : Meets Tryz.prog 21 [polAV p] [] (Y := Unit) (fun _ => True) (fun _ => .ifc 62 (.agg [])) (fun _ => []) := by
  refine Meets.intro hm (fn := Tryz.f21) Tryz.func21 rfl (by decide) (Nat.le_of_ble_eq_true rfl) (fun _ => rfl) ?_; intro S hok; (conv => whnf)
  (repeat' ((conv => whnf); first | apply And.intro | exact ⟨by kernel_rfl⟩ | apply DrawN.mk | apply CodeN.step hm rfl | exact trivial | exact rfl | (intro hh; try simp only [bs] at hh))); all_goals (conv => whnf)
  all_goals first | (exfalso; omega) | skip
  (refine RetN.q () [] ?_ ?_ ?_ <;> (repeat' ((conv => whnf) <;> first | exact rfl | exact trivial | apply And.intro | exact Nat.zero_add _)); all_goals ((conv => whnf); try simp only []))
theorem mayN (p : Pol) (c : Cell) : Meets Tryz.prog 140 [.agg [], polAV p, cellAV c] [] (Y := Unit) (fun _ => True) (fun _ => .ff) (fun _ => []) := by
  refine Meets.intro hm (fn := Tryz.f140) Tryz.func140 rfl (by decide) (Nat.le_of_ble_eq_true rfl) (fun _ => rfl) ?_; intro S hok; (conv => whnf)
  (repeat' ((conv => whnf); first | apply And.intro | exact ⟨by kernel_rfl⟩ | apply DrawN.mk | apply CodeN.step hm rfl | exact trivial | exact rfl | (intro hh; try simp only [bs] at hh))); all_goals (conv => whnf)
  (refine RetN.q () [] ?_ ?_ ?_ <;> (repeat' ((conv => whnf) <;> first | exact rfl | exact trivial | apply And.intro | exact Nat.zero_add _)); all_goals ((conv => whnf); try simp only []))
theorem askN (p : Pol) (c : Cell) (t w : Int) : Meets Tryz.prog 138 [.agg [], polAV p, cellAV c, .int .i64 fun _ => t, .int .i64 fun _ => w] [] (Y := Unit) (fun _ => True) (fun _ => .tup [cellAV c, verAV zeroV]) (fun _ => []) := by
  refine Meets.intro hm (fn := Tryz.f138) Tryz.func138 rfl (by decide) (Nat.le_of_ble_eq_true rfl) (fun _ => rfl) ?_; intro S hok; (conv => whnf)
  (repeat' ((conv => whnf); first | apply And.intro | exact ⟨by kernel_rfl⟩ | apply DrawN.mk | apply CodeN.step hm rfl | exact trivial | exact rfl | (intro hh; try simp only [bs] at hh))); all_goals (conv => whnf)
  (refine RetN.q () [] ?_ ?_ ?_ <;> (repeat' ((conv => whnf) <;> first | exact rfl | exact trivial | apply And.intro | exact Nat.zero_add _)); all_goals ((conv => whnf); try simp only []))
theorem endsN (p : Pol) (c : Cell) : Meets Tryz.prog 139 [.agg [], polAV p, cellAV c] [] (Y := Unit) (fun _ => True) (fun _ => .int .i64 fun _ => 0) (fun _ => []) := by
  refine Meets.intro hm (fn := Tryz.f139) Tryz.func139 rfl (by decide) (Nat.le_of_ble_eq_true rfl) (fun _ => rfl) ?_; intro S hok; (conv => whnf)
  (repeat' ((conv => whnf); first | apply And.intro | exact ⟨by kernel_rfl⟩ | apply DrawN.mk | apply CodeN.step hm rfl | exact trivial | exact rfl | (intro hh; try simp only [bs] at hh))); all_goals (conv => whnf)
  (refine RetN.q () [] ?_ ?_ ?_ <;> (repeat' ((conv => whnf) <;> first | exact rfl | exact trivial | apply And.intro | exact Nat.zero_add _)); all_goals ((conv => whnf); try simp only []))
theorem cmayM (p : Pol) (c : Cell) (hc : -9223372036854775808 ≤ c.2.1 ∧ c.2.1 ≤ 9223372036854775807) : Meets Tryz.prog 10 [polAV p, cellAV c] [] (Y := Unit) (fun _ => True) (fun _ => .bool fun _ => mayC p c) (fun _ => []) := by
  by_cases k1 : p.1 = 1
  · refine Meets.intro hm (fn := Tryz.f10) Tryz.func10 rfl (by decide) (Nat.le_of_ble_eq_true rfl) (fun _ => rfl) ?_; intro S hok; (conv => whnf)
    (repeat' ((conv => whnf); first | apply And.intro | exact ⟨by kernel_rfl⟩ | apply DrawN.mk | apply CodeN.step hm rfl | exact trivial | exact rfl | (intro hh; try simp only [bs] at hh))); all_goals (conv => whnf)
    (refine CallN.q (of1 p k1) [] (fun _ _ => ?_); (repeat' ((conv => whnf); first | apply And.intro | exact ⟨by kernel_rfl⟩ | apply DrawN.mk | apply CodeN.step hm rfl | exact trivial | exact rfl | (intro hh; try simp only [bs] at hh; try exact absurd hh (by decide)))); all_goals (conv => whnf); all_goals try exact ⟨by decide⟩)
    refine InvN.intro 137 (by kernel_rfl) ?_
    (refine CallN.q (lmay1 p c k1 hc) [] (fun _ _ => ?_); (repeat' ((conv => whnf); first | apply And.intro | exact ⟨by kernel_rfl⟩ | apply DrawN.mk | apply CodeN.step hm rfl | exact trivial | exact rfl | (intro hh; try simp only [bs] at hh; try exact absurd hh (by decide)))); all_goals (conv => whnf); all_goals try exact ⟨by decide⟩)
    (refine RetN.q () [] ?_ ?_ ?_ <;> (repeat' ((conv => whnf) <;> first | exact rfl | exact trivial | apply And.intro | exact Nat.zero_add _)); all_goals ((conv => whnf); try simp only []))
  by_cases k2 : p.1 = 2
  · refine Meets.intro hm (fn := Tryz.f10) Tryz.func10 rfl (by decide) (Nat.le_of_ble_eq_true rfl) (fun _ => rfl) ?_; intro S hok; (conv => whnf)
    (repeat' ((conv => whnf); first | apply And.intro | exact ⟨by kernel_rfl⟩ | apply DrawN.mk | apply CodeN.step hm rfl | exact trivial | exact rfl | (intro hh; try simp only [bs] at hh))); all_goals (conv => whnf)
    (refine CallN.q (of2 p k2) [] (fun _ _ => ?_); (repeat' ((conv => whnf); first | apply And.intro | exact ⟨by kernel_rfl⟩ | apply DrawN.mk | apply CodeN.step hm rfl | exact trivial | exact rfl | (intro hh; try simp only [bs] at hh; try exact absurd hh (by decide)))); all_goals (conv => whnf); all_goals try exact ⟨by decide⟩)
    refine InvN.intro 137 (by kernel_rfl) ?_
    (refine CallN.q (lmay2 p c k2) [] (fun _ _ => ?_); (repeat' ((conv => whnf); first | apply And.intro | exact ⟨by kernel_rfl⟩ | apply DrawN.mk | apply CodeN.step hm rfl | exact trivial | exact rfl | (intro hh; try simp only [bs] at hh; try exact absurd hh (by decide)))); all_goals (conv => whnf); all_goals try exact ⟨by decide⟩)
    (refine RetN.q () [] ?_ ?_ ?_ <;> (repeat' ((conv => whnf) <;> first | exact rfl | exact trivial | apply And.intro | exact Nat.zero_add _)); all_goals ((conv => whnf); try simp only []))
  by_cases k3 : p.1 = 3
  · refine Meets.intro hm (fn := Tryz.f10) Tryz.func10 rfl (by decide) (Nat.le_of_ble_eq_true rfl) (fun _ => rfl) ?_; intro S hok; (conv => whnf)
    (repeat' ((conv => whnf); first | apply And.intro | exact ⟨by kernel_rfl⟩ | apply DrawN.mk | apply CodeN.step hm rfl | exact trivial | exact rfl | (intro hh; try simp only [bs] at hh))); all_goals (conv => whnf)
    (refine CallN.q (of3 p k3) [] (fun _ _ => ?_); (repeat' ((conv => whnf); first | apply And.intro | exact ⟨by kernel_rfl⟩ | apply DrawN.mk | apply CodeN.step hm rfl | exact trivial | exact rfl | (intro hh; try simp only [bs] at hh; try exact absurd hh (by decide)))); all_goals (conv => whnf); all_goals try exact ⟨by decide⟩)
    refine InvN.intro 137 (by kernel_rfl) ?_
    (refine CallN.q (lmay3 p c k3) [] (fun _ _ => ?_); (repeat' ((conv => whnf); first | apply And.intro | exact ⟨by kernel_rfl⟩ | apply DrawN.mk | apply CodeN.step hm rfl | exact trivial | exact rfl | (intro hh; try simp only [bs] at hh; try exact absurd hh (by decide)))); all_goals (conv => whnf); all_goals try exact ⟨by decide⟩)
    (refine RetN.q () [] ?_ ?_ ?_ <;> (repeat' ((conv => whnf) <;> first | exact rfl | exact trivial | apply And.intro | exact Nat.zero_add _)); all_goals ((conv => whnf); try simp only []))
  by_cases k4 : p.1 = 4
  · refine Meets.intro hm (fn := Tryz.f10) Tryz.func10 rfl (by decide) (Nat.le_of_ble_eq_true rfl) (fun _ => rfl) ?_; intro S hok; (conv => whnf)
    (repeat' ((conv => whnf); first | apply And.intro | exact ⟨by kernel_rfl⟩ | apply DrawN.mk | apply CodeN.step hm rfl | exact trivial | exact rfl | (intro hh; try simp only [bs] at hh))); all_goals (conv => whnf)
    (refine CallN.q (of4 p k4) [] (fun _ _ => ?_); (repeat' ((conv => whnf); first | apply And.intro | exact ⟨by kernel_rfl⟩ | apply DrawN.mk | apply CodeN.step hm rfl | exact trivial | exact rfl | (intro hh; try simp only [bs] at hh; try exact absurd hh (by decide)))); all_goals (conv => whnf); all_goals try exact ⟨by decide⟩)
    refine InvN.intro 137 (by kernel_rfl) ?_
    (refine CallN.q (lmay4 p c k4) [] (fun _ _ => ?_); (repeat' ((conv => whnf); first | apply And.intro | exact ⟨by kernel_rfl⟩ | apply DrawN.mk | apply CodeN.step hm rfl | exact trivial | exact rfl | (intro hh; try simp only [bs] at hh; try exact absurd hh (by decide)))); all_goals (conv => whnf); all_goals try exact ⟨by decide⟩)
    (refine RetN.q () [] ?_ ?_ ?_ <;> (repeat' ((conv => whnf) <;> first | exact rfl | exact trivial | apply And.intro | exact Nat.zero_add _)); all_goals ((conv => whnf); try simp only []))
  have hno : ¬ PolOk p := fun hp => by have := kind_of hp; omega
  have hmf : mayC p c = false := by unfold mayC; rw [decide_eq_false hno]; rfl
  
  refine Meets.intro hm (fn := Tryz.f10) Tryz.func10 rfl (by decide) (Nat.le_of_ble_eq_true rfl) (fun _ => rfl) ?_; intro S hok; (conv => whnf)
  (repeat' ((conv => whnf); first | apply And.intro | exact ⟨by kernel_rfl⟩ | apply DrawN.mk | apply CodeN.step hm rfl | exact trivial | exact rfl | (intro hh; try simp only [bs] at hh))); all_goals (conv => whnf)
  (refine CallN.q (ofN p k1 k2 k3 k4) [] (fun _ _ => ?_); (repeat' ((conv => whnf); first | apply And.intro | exact ⟨by kernel_rfl⟩ | apply DrawN.mk | apply CodeN.step hm rfl | exact trivial | exact rfl | (intro hh; try simp only [bs] at hh; try exact absurd hh (by decide)))); all_goals (conv => whnf); all_goals try exact ⟨by decide⟩)
  refine InvN.intro 140 (by kernel_rfl) ?_
  (refine CallN.q (mayN p c) [] (fun _ _ => ?_); (repeat' ((conv => whnf); first | apply And.intro | exact ⟨by kernel_rfl⟩ | apply DrawN.mk | apply CodeN.step hm rfl | exact trivial | exact rfl | (intro hh; try simp only [bs] at hh; try exact absurd hh (by decide)))); all_goals (conv => whnf); all_goals try exact ⟨by decide⟩)
  (refine RetN.q () [] ?_ ?_ ?_ <;> (repeat' ((conv => whnf) <;> first | exact rfl | exact trivial | apply And.intro | exact Nat.zero_add _)); all_goals ((conv => whnf); try simp only []))
  all_goals first | exact hmf | rw [ha]
theorem caskM (p : Pol) (c : Cell) (t w : Int) (hc : -9223372036854775808 ≤ c.2.1 ∧ c.2.1 ≤ 9223372036854775807) : Meets Tryz.prog 7 [polAV p, cellAV c, .int .i64 fun _ => t, .int .i64 fun _ => w] [] (Y := Unit) (fun _ => True) (fun _ => .tup [cellAV (askC p c t w).1, verAV (askC p c t w).2]) (fun _ => []) := by
  by_cases k1 : p.1 = 1
  · refine Meets.intro hm (fn := Tryz.f7) Tryz.func7 rfl (by decide) (Nat.le_of_ble_eq_true rfl) (fun _ => rfl) ?_; intro S hok; (conv => whnf)
    (repeat' ((conv => whnf); first | apply And.intro | exact ⟨by kernel_rfl⟩ | apply DrawN.mk | apply CodeN.step hm rfl | exact trivial | exact rfl | (intro hh; try simp only [bs] at hh))); all_goals (conv => whnf)
    (refine CallN.q (of1 p k1) [] (fun _ _ => ?_); (repeat' ((conv => whnf); first | apply And.intro | exact ⟨by kernel_rfl⟩ | apply DrawN.mk | apply CodeN.step hm rfl | exact trivial | exact rfl | (intro hh; try simp only [bs] at hh; try exact absurd hh (by decide)))); all_goals (conv => whnf); all_goals try exact ⟨by decide⟩)
    refine InvN.intro 135 (by kernel_rfl) ?_
    (refine CallN.q (lask1 p c t w k1 hc) [] (fun _ _ => ?_); (repeat' ((conv => whnf); first | apply And.intro | exact ⟨by kernel_rfl⟩ | apply DrawN.mk | apply CodeN.step hm rfl | exact trivial | exact rfl | (intro hh; try simp only [bs] at hh; try exact absurd hh (by decide)))); all_goals (conv => whnf); all_goals try exact ⟨by decide⟩)
    (refine RetN.q () [] ?_ ?_ ?_ <;> (repeat' ((conv => whnf) <;> first | exact rfl | exact trivial | apply And.intro | exact Nat.zero_add _)); all_goals ((conv => whnf); try simp only []))
  by_cases k2 : p.1 = 2
  · refine Meets.intro hm (fn := Tryz.f7) Tryz.func7 rfl (by decide) (Nat.le_of_ble_eq_true rfl) (fun _ => rfl) ?_; intro S hok; (conv => whnf)
    (repeat' ((conv => whnf); first | apply And.intro | exact ⟨by kernel_rfl⟩ | apply DrawN.mk | apply CodeN.step hm rfl | exact trivial | exact rfl | (intro hh; try simp only [bs] at hh))); all_goals (conv => whnf)
    (refine CallN.q (of2 p k2) [] (fun _ _ => ?_); (repeat' ((conv => whnf); first | apply And.intro | exact ⟨by kernel_rfl⟩ | apply DrawN.mk | apply CodeN.step hm rfl | exact trivial | exact rfl | (intro hh; try simp only [bs] at hh; try exact absurd hh (by decide)))); all_goals (conv => whnf); all_goals try exact ⟨by decide⟩)
    refine InvN.intro 135 (by kernel_rfl) ?_
    (refine CallN.q (lask2 p c t w k2) [] (fun _ _ => ?_); (repeat' ((conv => whnf); first | apply And.intro | exact ⟨by kernel_rfl⟩ | apply DrawN.mk | apply CodeN.step hm rfl | exact trivial | exact rfl | (intro hh; try simp only [bs] at hh; try exact absurd hh (by decide)))); all_goals (conv => whnf); all_goals try exact ⟨by decide⟩)
    (refine RetN.q () [] ?_ ?_ ?_ <;> (repeat' ((conv => whnf) <;> first | exact rfl | exact trivial | apply And.intro | exact Nat.zero_add _)); all_goals ((conv => whnf); try simp only []))
  by_cases k3 : p.1 = 3
  · refine Meets.intro hm (fn := Tryz.f7) Tryz.func7 rfl (by decide) (Nat.le_of_ble_eq_true rfl) (fun _ => rfl) ?_; intro S hok; (conv => whnf)
    (repeat' ((conv => whnf); first | apply And.intro | exact ⟨by kernel_rfl⟩ | apply DrawN.mk | apply CodeN.step hm rfl | exact trivial | exact rfl | (intro hh; try simp only [bs] at hh))); all_goals (conv => whnf)
    (refine CallN.q (of3 p k3) [] (fun _ _ => ?_); (repeat' ((conv => whnf); first | apply And.intro | exact ⟨by kernel_rfl⟩ | apply DrawN.mk | apply CodeN.step hm rfl | exact trivial | exact rfl | (intro hh; try simp only [bs] at hh; try exact absurd hh (by decide)))); all_goals (conv => whnf); all_goals try exact ⟨by decide⟩)
    refine InvN.intro 135 (by kernel_rfl) ?_
    (refine CallN.q (lask3 p c t w k3) [] (fun _ _ => ?_); (repeat' ((conv => whnf); first | apply And.intro | exact ⟨by kernel_rfl⟩ | apply DrawN.mk | apply CodeN.step hm rfl | exact trivial | exact rfl | (intro hh; try simp only [bs] at hh; try exact absurd hh (by decide)))); all_goals (conv => whnf); all_goals try exact ⟨by decide⟩)
    (refine RetN.q () [] ?_ ?_ ?_ <;> (repeat' ((conv => whnf) <;> first | exact rfl | exact trivial | apply And.intro | exact Nat.zero_add _)); all_goals ((conv => whnf); try simp only []))
  by_cases k4 : p.1 = 4
  · refine Meets.intro hm (fn := Tryz.f7) Tryz.func7 rfl (by decide) (Nat.le_of_ble_eq_true rfl) (fun _ => rfl) ?_; intro S hok; (conv => whnf)
    (repeat' ((conv => whnf); first | apply And.intro | exact ⟨by kernel_rfl⟩ | apply DrawN.mk | apply CodeN.step hm rfl | exact trivial | exact rfl | (intro hh; try simp only [bs] at hh))); all_goals (conv => whnf)
    (refine CallN.q (of4 p k4) [] (fun _ _ => ?_); (repeat' ((conv => whnf); first | apply And.intro | exact ⟨by kernel_rfl⟩ | apply DrawN.mk | apply CodeN.step hm rfl | exact trivial | exact rfl | (intro hh; try simp only [bs] at hh; try exact absurd hh (by decide)))); all_goals (conv => whnf); all_goals try exact ⟨by decide⟩)
    refine InvN.intro 135 (by kernel_rfl) ?_
    (refine CallN.q (lask4 p c t w k4) [] (fun _ _ => ?_); (repeat' ((conv => whnf); first | apply And.intro | exact ⟨by kernel_rfl⟩ | apply DrawN.mk | apply CodeN.step hm rfl | exact trivial | exact rfl | (intro hh; try simp only [bs] at hh; try exact absurd hh (by decide)))); all_goals (conv => whnf); all_goals try exact ⟨by decide⟩)
    (refine RetN.q () [] ?_ ?_ ?_ <;> (repeat' ((conv => whnf) <;> first | exact rfl | exact trivial | apply And.intro | exact Nat.zero_add _)); all_goals ((conv => whnf); try simp only []))
  have hno : ¬ PolOk p := fun hp => by have := kind_of hp; omega
  have hmf : mayC p c = false := by unfold mayC; rw [decide_eq_false hno]; rfl
  have ha : askC p c t w = (c, zeroV) := by unfold askC; rw [hmf]; rfl
  refine Meets.intro hm (fn := Tryz.f7) Tryz.func7 rfl (by decide) (Nat.le_of_ble_eq_true rfl) (fun _ => rfl) ?_; intro S hok; (conv => whnf)
  (repeat' ((conv => whnf); first | apply And.intro | exact ⟨by kernel_rfl⟩ | apply DrawN.mk | apply CodeN.step hm rfl | exact trivial | exact rfl | (intro hh; try simp only [bs] at hh))); all_goals (conv => whnf)
  (refine CallN.q (ofN p k1 k2 k3 k4) [] (fun _ _ => ?_); (repeat' ((conv => whnf); first | apply And.intro | exact ⟨by kernel_rfl⟩ | apply DrawN.mk | apply CodeN.step hm rfl | exact trivial | exact rfl | (intro hh; try simp only [bs] at hh; try exact absurd hh (by decide)))); all_goals (conv => whnf); all_goals try exact ⟨by decide⟩)
  refine InvN.intro 138 (by kernel_rfl) ?_
  (refine CallN.q (askN p c t w) [] (fun _ _ => ?_); (repeat' ((conv => whnf); first | apply And.intro | exact ⟨by kernel_rfl⟩ | apply DrawN.mk | apply CodeN.step hm rfl | exact trivial | exact rfl | (intro hh; try simp only [bs] at hh; try exact absurd hh (by decide)))); all_goals (conv => whnf); all_goals try exact ⟨by decide⟩)
  (refine RetN.q () [] ?_ ?_ ?_ <;> (repeat' ((conv => whnf) <;> first | exact rfl | exact trivial | apply And.intro | exact Nat.zero_add _)); all_goals ((conv => whnf); try simp only []))
  all_goals first | exact hmf | rw [ha]
theorem cendsM (p : Pol) (c : Cell) (hc : -9223372036854775808 ≤ c.2.1 ∧ c.2.1 ≤ 9223372036854775807) : Meets Tryz.prog 12 [polAV p, cellAV c] [] (Y := Unit) (fun _ => True) (fun _ => .int .i64 fun _ => endsC p c) (fun _ => []) := by
  by_cases k1 : p.1 = 1
  · refine Meets.intro hm (fn := Tryz.f12) Tryz.func12 rfl (by decide) (Nat.le_of_ble_eq_true rfl) (fun _ => rfl) ?_; intro S hok; (conv => whnf)
    (repeat' ((conv => whnf); first | apply And.intro | exact ⟨by kernel_rfl⟩ | apply DrawN.mk | apply CodeN.step hm rfl | exact trivial | exact rfl | (intro hh; try simp only [bs] at hh))); all_goals (conv => whnf)
    (refine CallN.q (of1 p k1) [] (fun _ _ => ?_); (repeat' ((conv => whnf); first | apply And.intro | exact ⟨by kernel_rfl⟩ | apply DrawN.mk | apply CodeN.step hm rfl | exact trivial | exact rfl | (intro hh; try simp only [bs] at hh; try exact absurd hh (by decide)))); all_goals (conv => whnf); all_goals try exact ⟨by decide⟩)
    refine InvN.intro 136 (by kernel_rfl) ?_
    (refine CallN.q (lends1 p c k1 hc) [] (fun _ _ => ?_); (repeat' ((conv => whnf); first | apply And.intro | exact ⟨by kernel_rfl⟩ | apply DrawN.mk | apply CodeN.step hm rfl | exact trivial | exact rfl | (intro hh; try simp only [bs] at hh; try exact absurd hh (by decide)))); all_goals (conv => whnf); all_goals try exact ⟨by decide⟩)
    (refine RetN.q () [] ?_ ?_ ?_ <;> (repeat' ((conv => whnf) <;> first | exact rfl | exact trivial | apply And.intro | exact Nat.zero_add _)); all_goals ((conv => whnf); try simp only []))
  by_cases k2 : p.1 = 2
  · refine Meets.intro hm (fn := Tryz.f12) Tryz.func12 rfl (by decide) (Nat.le_of_ble_eq_true rfl) (fun _ => rfl) ?_; intro S hok; (conv => whnf)
    (repeat' ((conv => whnf); first | apply And.intro | exact ⟨by kernel_rfl⟩ | apply DrawN.mk | apply CodeN.step hm rfl | exact trivial | exact rfl | (intro hh; try simp only [bs] at hh))); all_goals (conv => whnf)
    (refine CallN.q (of2 p k2) [] (fun _ _ => ?_); (repeat' ((conv => whnf); first | apply And.intro | exact ⟨by kernel_rfl⟩ | apply DrawN.mk | apply CodeN.step hm rfl | exact trivial | exact rfl | (intro hh; try simp only [bs] at hh; try exact absurd hh (by decide)))); all_goals (conv => whnf); all_goals try exact ⟨by decide⟩)
    refine InvN.intro 136 (by kernel_rfl) ?_
    (refine CallN.q (lends2 p c k2) [] (fun _ _ => ?_); (repeat' ((conv => whnf); first | apply And.intro | exact ⟨by kernel_rfl⟩ | apply DrawN.mk | apply CodeN.step hm rfl | exact trivial | exact rfl | (intro hh; try simp only [bs] at hh; try exact absurd hh (by decide)))); all_goals (conv => whnf); all_goals try exact ⟨by decide⟩)
    (refine RetN.q () [] ?_ ?_ ?_ <;> (repeat' ((conv => whnf) <;> first | exact rfl | exact trivial | apply And.intro | exact Nat.zero_add _)); all_goals ((conv => whnf); try simp only []))
  by_cases k3 : p.1 = 3
  · refine Meets.intro hm (fn := Tryz.f12) Tryz.func12 rfl (by decide) (Nat.le_of_ble_eq_true rfl) (fun _ => rfl) ?_; intro S hok; (conv => whnf)
    (repeat' ((conv => whnf); first | apply And.intro | exact ⟨by kernel_rfl⟩ | apply DrawN.mk | apply CodeN.step hm rfl | exact trivial | exact rfl | (intro hh; try simp only [bs] at hh))); all_goals (conv => whnf)
    (refine CallN.q (of3 p k3) [] (fun _ _ => ?_); (repeat' ((conv => whnf); first | apply And.intro | exact ⟨by kernel_rfl⟩ | apply DrawN.mk | apply CodeN.step hm rfl | exact trivial | exact rfl | (intro hh; try simp only [bs] at hh; try exact absurd hh (by decide)))); all_goals (conv => whnf); all_goals try exact ⟨by decide⟩)
    refine InvN.intro 136 (by kernel_rfl) ?_
    (refine CallN.q (lends3 p c k3) [] (fun _ _ => ?_); (repeat' ((conv => whnf); first | apply And.intro | exact ⟨by kernel_rfl⟩ | apply DrawN.mk | apply CodeN.step hm rfl | exact trivial | exact rfl | (intro hh; try simp only [bs] at hh; try exact absurd hh (by decide)))); all_goals (conv => whnf); all_goals try exact ⟨by decide⟩)
    (refine RetN.q () [] ?_ ?_ ?_ <;> (repeat' ((conv => whnf) <;> first | exact rfl | exact trivial | apply And.intro | exact Nat.zero_add _)); all_goals ((conv => whnf); try simp only []))
  by_cases k4 : p.1 = 4
  · refine Meets.intro hm (fn := Tryz.f12) Tryz.func12 rfl (by decide) (Nat.le_of_ble_eq_true rfl) (fun _ => rfl) ?_; intro S hok; (conv => whnf)
    (repeat' ((conv => whnf); first | apply And.intro | exact ⟨by kernel_rfl⟩ | apply DrawN.mk | apply CodeN.step hm rfl | exact trivial | exact rfl | (intro hh; try simp only [bs] at hh))); all_goals (conv => whnf)
    (refine CallN.q (of4 p k4) [] (fun _ _ => ?_); (repeat' ((conv => whnf); first | apply And.intro | exact ⟨by kernel_rfl⟩ | apply DrawN.mk | apply CodeN.step hm rfl | exact trivial | exact rfl | (intro hh; try simp only [bs] at hh; try exact absurd hh (by decide)))); all_goals (conv => whnf); all_goals try exact ⟨by decide⟩)
    refine InvN.intro 136 (by kernel_rfl) ?_
    (refine CallN.q (lends4 p c k4) [] (fun _ _ => ?_); (repeat' ((conv => whnf); first | apply And.intro | exact ⟨by kernel_rfl⟩ | apply DrawN.mk | apply CodeN.step hm rfl | exact trivial | exact rfl | (intro hh; try simp only [bs] at hh; try exact absurd hh (by decide)))); all_goals (conv => whnf); all_goals try exact ⟨by decide⟩)
    (refine RetN.q () [] ?_ ?_ ?_ <;> (repeat' ((conv => whnf) <;> first | exact rfl | exact trivial | apply And.intro | exact Nat.zero_add _)); all_goals ((conv => whnf); try simp only []))
  have hno : ¬ PolOk p := fun hp => by have := kind_of hp; omega
  have hmf : mayC p c = false := by unfold mayC; rw [decide_eq_false hno]; rfl
  have ha : endsC p c = 0 := by unfold endsC; rw [hmf]; rfl
  refine Meets.intro hm (fn := Tryz.f12) Tryz.func12 rfl (by decide) (Nat.le_of_ble_eq_true rfl) (fun _ => rfl) ?_; intro S hok; (conv => whnf)
  (repeat' ((conv => whnf); first | apply And.intro | exact ⟨by kernel_rfl⟩ | apply DrawN.mk | apply CodeN.step hm rfl | exact trivial | exact rfl | (intro hh; try simp only [bs] at hh))); all_goals (conv => whnf)
  (refine CallN.q (ofN p k1 k2 k3 k4) [] (fun _ _ => ?_); (repeat' ((conv => whnf); first | apply And.intro | exact ⟨by kernel_rfl⟩ | apply DrawN.mk | apply CodeN.step hm rfl | exact trivial | exact rfl | (intro hh; try simp only [bs] at hh; try exact absurd hh (by decide)))); all_goals (conv => whnf); all_goals try exact ⟨by decide⟩)
  refine InvN.intro 139 (by kernel_rfl) ?_
  (refine CallN.q (endsN p c) [] (fun _ _ => ?_); (repeat' ((conv => whnf); first | apply And.intro | exact ⟨by kernel_rfl⟩ | apply DrawN.mk | apply CodeN.step hm rfl | exact trivial | exact rfl | (intro hh; try simp only [bs] at hh; try exact absurd hh (by decide)))); all_goals (conv => whnf); all_goals try exact ⟨by decide⟩)
  (refine RetN.q () [] ?_ ?_ ?_ <;> (repeat' ((conv => whnf) <;> first | exact rfl | exact trivial | apply And.intro | exact Nat.zero_add _)); all_goals ((conv => whnf); try simp only []))
  all_goals first | exact hmf | rw [ha]
theorem cneutralM (p : Pol) (c : Cell) (t : Int) (hc : -9223372036854775808 ≤ c.2.1 ∧ c.2.1 ≤ 9223372036854775807) : Meets Tryz.prog 14 [polAV p, cellAV c, .int .i64 fun _ => t] [] (Y := Unit) (fun _ => True) (fun _ => .bool fun _ => neutralC p c t) (fun _ => []) := by
  refine Meets.intro hm (fn := Tryz.f14) Tryz.func14 rfl (by decide) (Nat.le_of_ble_eq_true rfl) (fun _ => rfl) ?_; intro S hok; (conv => whnf)
  (repeat' ((conv => whnf); first | apply And.intro | exact ⟨by kernel_rfl⟩ | apply DrawN.mk | apply CodeN.step hm rfl | exact trivial | exact rfl | (intro hh; try simp only [bs] at hh))); all_goals (conv => whnf)
  (refine CallN.q (cmayM p c hc) [] (fun _ _ => ?_); (repeat' ((conv => whnf); first | apply And.intro | exact ⟨by kernel_rfl⟩ | apply DrawN.mk | apply CodeN.step hm rfl | exact trivial | exact rfl | (intro hh; try simp only [bs] at hh; try exact absurd hh (by decide)))); all_goals (conv => whnf); all_goals try exact ⟨by decide⟩)
  all_goals try
    (refine CallN.q (cendsM p c hc) [] (fun _ _ => ?_); (repeat' ((conv => whnf); first | apply And.intro | exact ⟨by kernel_rfl⟩ | apply DrawN.mk | apply CodeN.step hm rfl | exact trivial | exact rfl | (intro hh; try simp only [bs] at hh; try exact absurd hh (by decide)))); all_goals (conv => whnf); all_goals try exact ⟨by decide⟩)
  all_goals
    (refine RetN.q () [] ?_ ?_ ?_ <;> (repeat' ((conv => whnf) <;> first | exact rfl | exact trivial | apply And.intro | exact Nat.zero_add _)); all_goals ((conv => whnf); try simp only []))
    unfold neutralC
    simp [*]
end Go.Proofs.YtkcifdblaboodaaGreat.Ce
set_option linter.unusedVariables false
set_option linter.unusedSimpArgs false
namespace Go.Proofs.YtkcifdblaboodaaGreat.Bt
open Go Go.RowKit Fw Hi Po
theorem pow_le {n : Nat} (h : n ≤ 64) : 2 ^ n ≤ 18446744073709551616 := Nat.pow_le_pow_right (by decide) h
theorem shl2 (a b : Nat) (h : b ≤ 64) : IntKind.u64.wrap ((a : Int) * 2 ^ (min b IntKind.u64.bits)) = ((a * 2 ^ b % 2 ^ 64 : Nat) : Int) := shl_int a b h
theorem shr2 (a b : Nat) (h : b ≤ 64) : ((a : Int)).fdiv (2 ^ (min b IntKind.u64.bits)) = ((a / 2 ^ b : Nat) : Int) := shr_int a b h
theorem maskM (n : Nat) (h : n ≤ 64) : Meets Tryz.prog 68 [.int .i64 fun _ => (n : Int)] [] (Y := Unit) (fun _ => True) (fun _ => .int .u64 fun _ => ((2 ^ n - 1 : Nat) : Int)) (fun _ => []) := by
  have hp := pow_le h
  have h1 : 1 ≤ 2 ^ n := Nat.one_le_two_pow
  refine Meets.intro hm (fn := Tryz.f68) Tryz.func68 rfl (by decide) (Nat.le_of_ble_eq_true rfl) (fun _ => rfl) ?_; intro S hok; (conv => whnf)
  (repeat' ((conv => whnf); first | apply And.intro | exact ⟨by kernel_rfl⟩ | apply DrawN.mk | apply CodeN.step hm rfl | exact trivial | exact rfl | (intro hh; try simp only [bs] at hh))); all_goals (conv => whnf)
  · (refine RetN.q () [] ?_ ?_ ?_ <;> (repeat' ((conv => whnf) <;> first | exact rfl | exact trivial | apply And.intro | exact Nat.zero_add _)); all_goals ((conv => whnf); try simp only []))
    have e : n = 64 := by omega
    subst e; rfl
  · exact Ob.mk (by simp only []; omega)
  · (refine RetN.q () [] ?_ ?_ ?_ <;> (repeat' ((conv => whnf) <;> first | exact rfl | exact trivial | apply And.intro | exact Nat.zero_add _)); all_goals ((conv => whnf); try simp only []))
    have h2 : 2 ^ n * 2 ≤ 18446744073709551616 := by rw [← Nat.pow_succ]; exact pow_le (by omega)
    have e := shl_int 1 n h
    rw [Nat.one_mul, Nat.mod_eq_of_lt (by omega)] at e
    have e : IntKind.u64.wrap (1 * 2 ^ min ((n : Int)).toNat IntKind.u64.bits) = ((2 ^ n : Nat) : Int) := e
    rw [e]
    have e2 := wrap_nat (x := 2 ^ n - 1) (by omega)
    rw [← e2]
    congr 1
    omega
theorem thereM (w : List Int) (a n : Nat) (h : a + n ≤ 64 * w.length) (hn : n ≤ 64) (hl : w.length ≤ 1000) : Meets Tryz.prog 99 [.lst (.int .u64) fun _ => w, .int .i64 fun _ => (a : Int), .int .i64 fun _ => (n : Int)] [] (Y := Unit) (fun _ => True) (fun _ => .tt) (fun _ => []) := by
  have e0 : IntKind.i64.wrap (64 * (w.length : Int)) = 64 * (w.length : Int) := wr (by omega)
  have e1 := e0
  have e2 : IntKind.i64.wrap (64 * (w.length : Int) - a) = 64 * (w.length : Int) - a := wr (by omega)
  refine Meets.intro hm (fn := Tryz.f99) Tryz.func99 rfl (by decide) (Nat.le_of_ble_eq_true rfl) (fun _ => rfl) ?_; intro S hok; (conv => whnf)
  (repeat' ((conv => whnf); first | apply And.intro | exact ⟨by kernel_rfl⟩ | apply DrawN.mk | apply CodeN.step hm rfl | exact trivial | exact rfl | (intro hh; try simp only [bs] at hh))); all_goals (conv => whnf)
  all_goals (try rw [e0] at hh)
  all_goals first
    | (exfalso; omega)
    | skip
  (refine RetN.q () [] ?_ ?_ ?_ <;> (repeat' ((conv => whnf) <;> first | exact rfl | exact trivial | apply And.intro | exact Nat.zero_add _)); all_goals ((conv => whnf); try simp only []))
  refine decide_eq_true ?_
  rw [e0, e2]
  omega
theorem getM (w : List Int) (a n : Nat) (hw : Wd w) (h : a + n ≤ 64 * w.length) (hn : n ≤ 64) (hl : w.length ≤ 1000) : Meets Tryz.prog 73 [.lst (.int .u64) fun _ => w, .int .i64 fun _ => (a : Int), .int .i64 fun _ => (n : Int)] [] (Y := Unit) (fun _ => True) (fun _ => .tup [.int .u64 fun _ => (fld (numOf w) a n : Int), .tt]) (fun _ => []) := by
  have ei0 : (a : Int).tdiv 64 = ((a / 64 : Nat) : Int) := by rw [Int.tdiv_eq_ediv_of_nonneg (by omega)]; omega
  have el : (a : Int).tmod 64 = ((a % 64 : Nat) : Int) := by rw [Int.tmod_eq_emod_of_nonneg (by omega)]; omega
  have ei : IntKind.i64.wrap ((a / 64 : Nat) : Int) = ((a / 64 : Nat) : Int) := wr (by omega)
  have ei1 : IntKind.i64.wrap (((a / 64 : Nat) : Int) + 1) = ((a / 64 + 1 : Nat) : Int) := by rw [wr (by omega)]; omega
  have es : IntKind.i64.wrap (((a % 64 : Nat) : Int) + n) = ((a % 64 + n : Nat) : Int) := by rw [wr (by omega)]; omega
  have ec : IntKind.i64.wrap (64 - ((a % 64 : Nat) : Int)) = ((64 - a % 64 : Nat) : Int) := by rw [wr (by omega)]; omega
  have hp := pow_le hn
  have h1 : 1 ≤ 2 ^ n := Nat.one_le_two_pow
  have ha : a = 64 * (a / 64) + a % 64 := by omega
  have hlo : a % 64 < 64 := Nat.mod_lt _ (by decide)
  have hb1 : ∀ i, numOf w / 2 ^ (64 * i) % 2 ^ 64 < 2 ^ 64 := fun i => Nat.mod_lt _ (by decide)
  have hb2 : ∀ i, (numOf w / 2 ^ (64 * i) % 2 ^ 64) / 2 ^ (a % 64) < 2 ^ 64 := fun i => Nat.lt_of_le_of_lt (Nat.div_le_self _ _) (hb1 i)
  refine Meets.intro hm (fn := Tryz.f73) Tryz.func73 rfl (by decide) (Nat.le_of_ble_eq_true rfl) (fun _ => rfl) ?_; intro S hok; (conv => whnf)
  (repeat' ((conv => whnf); first | apply And.intro | exact ⟨by kernel_rfl⟩ | apply DrawN.mk | apply CodeN.step hm rfl | exact trivial | exact rfl | (intro hh; try simp only [bs] at hh))); all_goals (conv => whnf)
  (refine CallN.q (thereM w a n h hn hl) [] (fun _ _ => ?_); (repeat' ((conv => whnf); first | apply And.intro | exact ⟨by kernel_rfl⟩ | apply DrawN.mk | apply CodeN.step hm rfl | exact trivial | exact rfl | (intro hh; try simp only [bs] at hh; try exact absurd hh (by decide)))); all_goals (conv => whnf); all_goals try exact ⟨by decide⟩)
  all_goals (try simp only [ei0, el, ei, ei1, es, ec, Int.toNat_natCast] at hh ⊢)
  · (refine RetN.q () [] ?_ ?_ ?_ <;> (repeat' ((conv => whnf) <;> first | exact rfl | exact trivial | apply And.intro | exact Nat.zero_add _)); all_goals ((conv => whnf); try simp only []))
    have : n = 0 := by omega
    subst this
    simp [fld, Nat.mod_one]
  · refine Ob.mk ?_
    omega
  · refine Ob.mk ?_
    omega
  · refine Ob.mk ?_
    omega
  · refine Ob.mk ?_
    omega
  · (refine CallN.q (maskM n hn) [] (fun _ _ => ?_); (repeat' ((conv => whnf); first | apply And.intro | exact ⟨by kernel_rfl⟩ | apply DrawN.mk | apply CodeN.step hm rfl | exact trivial | exact rfl | (intro hh; try simp only [bs] at hh; try exact absurd hh (by decide)))); all_goals (conv => whnf); all_goals try exact ⟨by decide⟩)
    (refine RetN.q () [] ?_ ?_ ?_ <;> (repeat' ((conv => whnf) <;> first | exact rfl | exact trivial | apply And.intro | exact Nat.zero_add _)); all_goals ((conv => whnf); try simp only []))
    have hi1 : a / 64 + 1 < w.length := by omega
    show IntKind.u64.wrap (BitVec.ofInt IntKind.u64.bits (IntKind.u64.wrap (BitVec.ofInt IntKind.u64.bits (Int.fdiv (w.getD (a / 64) 0) (2 ^ min (a % 64) IntKind.u64.bits)) ||| BitVec.ofInt IntKind.u64.bits (IntKind.u64.wrap (w.getD (a / 64 + 1) 0 * 2 ^ min (64 - a % 64) IntKind.u64.bits))).toNat) &&& BitVec.ofInt IntKind.u64.bits ((2 ^ n - 1 : Nat) : Int)).toNat = _
    have q := fld_words (numOf w) (a / 64) (a % 64) n hlo hn
    rw [← ha] at q
    rw [num_at hw _ (show a / 64 < w.length by omega), num_at hw _ hi1, shr2 _ _ (by omega), shl2 _ _ (by omega), or_int _ _ (hb2 _) (Nat.mod_lt _ (by decide)), and_int _ _ (Nat.or_lt_two_pow (hb2 _) (Nat.mod_lt _ (by decide))) (by omega), q]
  · (refine CallN.q (maskM n hn) [] (fun _ _ => ?_); (repeat' ((conv => whnf); first | apply And.intro | exact ⟨by kernel_rfl⟩ | apply DrawN.mk | apply CodeN.step hm rfl | exact trivial | exact rfl | (intro hh; try simp only [bs] at hh; try exact absurd hh (by decide)))); all_goals (conv => whnf); all_goals try exact ⟨by decide⟩)
    (refine RetN.q () [] ?_ ?_ ?_ <;> (repeat' ((conv => whnf) <;> first | exact rfl | exact trivial | apply And.intro | exact Nat.zero_add _)); all_goals ((conv => whnf); try simp only []))
    show IntKind.u64.wrap (BitVec.ofInt IntKind.u64.bits (Int.fdiv (w.getD (a / 64) 0) (2 ^ min (a % 64) IntKind.u64.bits)) &&& BitVec.ofInt IntKind.u64.bits ((2 ^ n - 1 : Nat) : Int)).toNat = _
    have q := fld_word (numOf w) (a / 64) (a % 64) n (by omega)
    rw [← ha] at q
    rw [num_at hw _ (show a / 64 < w.length by omega), shr2 _ _ (by omega), and_int _ _ (hb2 _) (by omega), q]
theorem cloneU (xs : List Int) (hl : xs.length ≤ 100000) : Meets Tryz.prog 100 [.lst (.int .u64) fun _ => xs] [] (Y := Unit) (fun _ => True)
    (fun _ => .vec 0 1 (fun _ => 0) (fun _ => xs.length)) (fun _ => [.vect 47 (.int .u64) fun _ => xs]) := by
  refine Meets.intro hm (fn := Tryz.f100) Tryz.func100 rfl (by decide) (Nat.le_of_ble_eq_true rfl) (fun _ => rfl) ?_; intro S hok; (conv => whnf)
  (repeat' ((conv => whnf); first | apply And.intro | exact ⟨by kernel_rfl⟩ | apply DrawN.mk | apply CodeN.step hm rfl | exact trivial | exact rfl | (intro hh; try simp only [bs] at hh))); all_goals (conv => whnf)
  · have hx : xs = [] := ‹_ = true → xs = []› hh
    refine RetN.nil 47 (.int .u64) 0 ?_
    (conv => whnf)
    (refine RetN.q () [0] ?_ ?_ ?_ <;> (repeat' ((conv => whnf) <;> first | exact rfl | exact trivial | apply And.intro | exact Nat.zero_add _)); all_goals ((conv => whnf); try simp only []))
    all_goals simp [hx]
  · refine ⟨⟨rfl, ?_, ?_⟩⟩
    · show 0 + xs.length ≤ _
      omega
    · show (0 + xs.length) * 8 ≤ _
      omega
  · (refine RetN.q () [0] ?_ ?_ ?_ <;> (repeat' ((conv => whnf) <;> first | exact rfl | exact trivial | apply And.intro | exact Nat.zero_add _)); all_goals ((conv => whnf); try simp only []))
    all_goals simp
theorem getD_set {l : List Int} {i j : Nat} {x : Int} : (l.set i x).getD j 0 = if i = j ∧ j < l.length then x else l.getD j 0 := by
  rw [List.getD_eq_getElem?_getD, List.getD_eq_getElem?_getD]
  by_cases h : i = j
  · subst h
    by_cases h2 : i < l.length
    · rw [if_pos ⟨rfl, h2⟩, List.getElem?_set_self h2]; rfl
    · rw [if_neg (fun h => h2 h.2), List.getElem?_eq_none (by rw [List.length_set]; omega), List.getElem?_eq_none (by omega)]
  · rw [if_neg (fun h2 => h h2.1), List.getElem?_set_ne h]
theorem set_one {k N a n v : Nat} {X : Int} (hN : N < 2 ^ a) (hv : v < 2 ^ n) (h : a + n ≤ 64 * k) (hn : n ≤ 64) (hlo : a % 64 + n ≤ 64) (hn0 : n ≠ 0)
    (hX : X = (((N + v * 2 ^ a) / 2 ^ (64 * (a / 64)) % 2 ^ 64 : Nat) : Int)) : (wordsOf k N).set (a / 64) X = wordsOf k (N + v * 2 ^ a) := by
  have ha : a = 64 * (a / 64) + a % 64 := by omega
  refine getD_ext (by rw [List.length_set, words_len, words_len]) fun j hj => ?_
  rw [List.length_set, words_len] at hj
  rw [getD_set, words_len, words_at (N := N + v * 2 ^ a) hj]
  by_cases e : a / 64 = j
  · rw [if_pos ⟨e, hj⟩, hX, e]
  · rw [if_neg (fun h => e h.1), words_at hj]
    have q := set_other (N := N) (i := a / 64) (low := a % 64) (n := v) (wd := n) (j := j) (by rw [← ha]; exact hN) hv (Nat.mod_lt _ (by decide)) (fun h => e h.symm) (.inr hlo) hn
    rw [← ha] at q
    rw [q]
theorem set_two {k N a n v : Nat} {X Y : Int} (hN : N < 2 ^ a) (hv : v < 2 ^ n) (h : a + n ≤ 64 * k) (hn : n ≤ 64)
    (hX : X = (((N + v * 2 ^ a) / 2 ^ (64 * (a / 64)) % 2 ^ 64 : Nat) : Int)) (hY : Y = (((N + v * 2 ^ a) / 2 ^ (64 * (a / 64 + 1)) % 2 ^ 64 : Nat) : Int)) : ((wordsOf k N).set (a / 64) X).set (a / 64 + 1) Y = wordsOf k (N + v * 2 ^ a) := by
  have ha : a = 64 * (a / 64) + a % 64 := by omega
  refine getD_ext (by rw [List.length_set, List.length_set, words_len, words_len]) fun j hj => ?_
  rw [List.length_set, List.length_set, words_len] at hj
  rw [getD_set, getD_set, List.length_set, words_len, words_at (N := N + v * 2 ^ a) hj]
  by_cases e1 : a / 64 + 1 = j
  · rw [if_pos ⟨e1, hj⟩, hY, e1]
  · rw [if_neg (fun h => e1 h.1)]
    by_cases e : a / 64 = j
    · rw [if_pos ⟨e, hj⟩, hX, e]
    · rw [if_neg (fun h => e h.1), words_at hj]
      have q := set_other (N := N) (i := a / 64) (low := a % 64) (n := v) (wd := n) (j := j) (by rw [← ha]; exact hN) hv (Nat.mod_lt _ (by decide)) (fun h => e h.symm) (.inl fun h => e1 h.symm) hn
      rw [← ha] at q
      rw [q]
theorem andn_lt (a b : Nat) : andn a b < 2 ^ 64 := BitVec.isLt _
theorem setM (k N a n v : Nat) (hN : N < 2 ^ a) (hv : v < 2 ^ n) (h : a + n ≤ 64 * k) (hn : n ≤ 64) (hl : k ≤ 1000) : Meets Tryz.prog 69 [.lst (.int .u64) fun _ => wordsOf k N, .int .i64 fun _ => (a : Int), .int .i64 fun _ => (n : Int), .int .u64 fun _ => (v : Int)] [] (Y := Unit) (fun _ => True) (fun _ => .tup [.lst (.int .u64) fun _ => wordsOf k (N + v * 2 ^ a), .tt]) (fun _ => []) := by
  have hwl := words_len k N
  have ei0 : (a : Int).tdiv 64 = ((a / 64 : Nat) : Int) := by rw [Int.tdiv_eq_ediv_of_nonneg (by omega)]; omega
  have el : (a : Int).tmod 64 = ((a % 64 : Nat) : Int) := by rw [Int.tmod_eq_emod_of_nonneg (by omega)]; omega
  have ei : IntKind.i64.wrap ((a / 64 : Nat) : Int) = ((a / 64 : Nat) : Int) := wr (by omega)
  have ei1 : IntKind.i64.wrap (((a / 64 : Nat) : Int) + 1) = ((a / 64 + 1 : Nat) : Int) := by rw [wr (by omega)]; omega
  have es : IntKind.i64.wrap (((a % 64 : Nat) : Int) + n) = ((a % 64 + n : Nat) : Int) := by rw [wr (by omega)]; omega
  have ec : IntKind.i64.wrap (64 - ((a % 64 : Nat) : Int)) = ((64 - a % 64 : Nat) : Int) := by rw [wr (by omega)]; omega
  have hp := pow_le hn
  have h1 : 1 ≤ 2 ^ n := Nat.one_le_two_pow
  have ha : a = 64 * (a / 64) + a % 64 := by omega
  have hlo : a % 64 < 64 := Nat.mod_lt _ (by decide)
  have ev : IntKind.u64.wrap (BitVec.ofInt IntKind.u64.bits (v : Int) &&& BitVec.ofInt IntKind.u64.bits ((2 ^ n - 1 : Nat) : Int)).toNat = (v : Int) := by
    rw [and_int _ _ (by omega) (by omega), Nat.and_two_pow_sub_one_eq_mod, Nat.mod_eq_of_lt hv]
  have hval1 : n ≠ 0 → IntKind.u64.wrap (BitVec.ofInt IntKind.u64.bits (IntKind.u64.wrap (BitVec.ofInt IntKind.u64.bits ((wordsOf k N).getD (a / 64) (Ty.int .u64).dflt) &&& ~~~BitVec.ofInt IntKind.u64.bits (IntKind.u64.wrap (((2 ^ n - 1 : Nat) : Int) * 2 ^ min (a % 64) IntKind.u64.bits))).toNat) ||| BitVec.ofInt IntKind.u64.bits (IntKind.u64.wrap (IntKind.u64.wrap (BitVec.ofInt IntKind.u64.bits (v : Int) &&& BitVec.ofInt IntKind.u64.bits ((2 ^ n - 1 : Nat) : Int)).toNat * 2 ^ min (a % 64) IntKind.u64.bits))).toNat = (((N + v * 2 ^ a) / 2 ^ (64 * (a / 64)) % 2 ^ 64 : Nat) : Int) := fun hn0 => by
    show IntKind.u64.wrap (BitVec.ofInt IntKind.u64.bits (IntKind.u64.wrap (BitVec.ofInt IntKind.u64.bits ((wordsOf k N).getD (a / 64) 0) &&& ~~~BitVec.ofInt IntKind.u64.bits (IntKind.u64.wrap (((2 ^ n - 1 : Nat) : Int) * 2 ^ min (a % 64) IntKind.u64.bits))).toNat) ||| BitVec.ofInt IntKind.u64.bits (IntKind.u64.wrap (IntKind.u64.wrap (BitVec.ofInt IntKind.u64.bits (v : Int) &&& BitVec.ofInt IntKind.u64.bits ((2 ^ n - 1 : Nat) : Int)).toNat * 2 ^ min (a % 64) IntKind.u64.bits))).toNat = _
    rw [words_at (show a / 64 < k by omega), ev, shl2 _ _ (by omega), shl2 _ _ (by omega), andn_int, or_int _ _ (andn_lt _ _) (Nat.mod_lt _ (by decide))]
    have q := set_low (N := N) (i := a / 64) (low := a % 64) (n := v) (wd := n) (by rw [← ha]; exact hN) hv hlo hn
    rw [← ha] at q
    rw [q]
  refine Meets.intro hm (fn := Tryz.f69) Tryz.func69 rfl (by decide) (Nat.le_of_ble_eq_true rfl) (fun _ => rfl) ?_; intro S hok; (conv => whnf)
  (repeat' ((conv => whnf); first | apply And.intro | exact ⟨by kernel_rfl⟩ | apply DrawN.mk | apply CodeN.step hm rfl | exact trivial | exact rfl | (intro hh; try simp only [bs] at hh))); all_goals (conv => whnf)
  (refine CallN.q (thereM (wordsOf k N) a n (by rw [words_len]; exact h) hn (by rw [words_len]; exact hl)) [] (fun _ _ => ?_); (repeat' ((conv => whnf); first | apply And.intro | exact ⟨by kernel_rfl⟩ | apply DrawN.mk | apply CodeN.step hm rfl | exact trivial | exact rfl | (intro hh; try simp only [bs] at hh; try exact absurd hh (by decide)))); all_goals (conv => whnf); all_goals try exact ⟨by decide⟩)
  (refine CallN.q (cloneU (wordsOf k N) (by omega)) [] (fun _ _ => ?_); (repeat' ((conv => whnf); first | apply And.intro | exact ⟨by kernel_rfl⟩ | apply DrawN.mk | apply CodeN.step hm rfl | exact trivial | exact rfl | (intro hh; try simp only [bs] at hh; try exact absurd hh (by decide)))); all_goals (conv => whnf); all_goals try exact ⟨by decide⟩)
  · have e : n = 0 := by omega
    subst e
    have e2 : v = 0 := by omega
    subst e2
    (refine RetN.frz 0 ?_; (conv => whnf))
    (refine RetN.q () [] ?_ ?_ ?_ <;> (repeat' ((conv => whnf) <;> first | exact rfl | exact trivial | apply And.intro | exact Nat.zero_add _)); all_goals ((conv => whnf); try simp only []))
    rw [List.drop_zero, List.take_length, Nat.zero_mul, Nat.add_zero]
  have hval1 := hval1 (by omega)
  (refine CallN.q (maskM n hn) [] (fun _ _ => ?_); (repeat' ((conv => whnf); first | apply And.intro | exact ⟨by kernel_rfl⟩ | apply DrawN.mk | apply CodeN.step hm rfl | exact trivial | exact rfl | (intro hh; try simp only [bs] at hh; try exact absurd hh (by decide)))); all_goals (conv => whnf); all_goals try exact ⟨by decide⟩)
  all_goals (try simp only [ei0, el, ei, ei1, es, ec, Int.toNat_natCast, hwl] at hh ⊢)
  all_goals first
    | (refine Ob.mk ?_; first | omega | (simp only []; omega))
    | skip
  (refine CallN.q (maskM n hn) [] (fun _ _ => ?_); (repeat' ((conv => whnf); first | apply And.intro | exact ⟨by kernel_rfl⟩ | apply DrawN.mk | apply CodeN.step hm rfl | exact trivial | exact rfl | (intro hh; try simp only [bs] at hh; try exact absurd hh (by decide)))); all_goals (conv => whnf); all_goals try exact ⟨by decide⟩)
  all_goals (try simp only [ei0, el, ei, ei1, es, ec, Int.toNat_natCast, hwl] at hh ⊢)
  all_goals first
    | (refine Ob.mk ?_; first | omega | (simp only []; omega))
    | skip
  · (refine CallN.q (maskM n hn) [] (fun _ _ => ?_); (repeat' ((conv => whnf); first | apply And.intro | exact ⟨by kernel_rfl⟩ | apply DrawN.mk | apply CodeN.step hm rfl | exact trivial | exact rfl | (intro hh; try simp only [bs] at hh; try exact absurd hh (by decide)))); all_goals (conv => whnf); all_goals try exact ⟨by decide⟩)
    all_goals (try simp only [ei0, el, ei, ei1, es, ec, Int.toNat_natCast, hwl] at hh ⊢)
    all_goals first
      | (refine Ob.mk ?_; first | omega | (simp only []; omega))
      | skip
    (refine RetN.frz 0 ?_; (conv => whnf))
    (refine RetN.q () [] ?_ ?_ ?_ <;> (repeat' ((conv => whnf) <;> first | exact rfl | exact trivial | apply And.intro | exact Nat.zero_add _)); all_goals ((conv => whnf); try simp only []))
    have hi1 : a / 64 + 1 < k := by omega
    rw [Nat.zero_add, Nat.zero_add, List.drop_zero]
    refine Eq.trans (List.take_of_length_le (by rw [List.length_set, List.length_set, words_len]; exact Nat.le_refl _)) ?_
    refine set_two hN hv h hn ?_ ?_
    · exact hval1
    · have eg : ∀ X : Int, ((wordsOf k N).set (a / 64) X).getD (a / 64 + 1) (Ty.int .u64).dflt = ((N / 2 ^ (64 * (a / 64 + 1)) % 2 ^ 64 : Nat) : Int) := fun X => by
        show ((wordsOf k N).set (a / 64) X).getD (a / 64 + 1) 0 = _
        rw [getD_set, if_neg (by omega), words_at hi1]
      rw [eg, ev, shr2 _ _ (by omega), shr2 _ _ (by omega), andn_int, or_int _ _ (andn_lt _ _) (Nat.lt_of_le_of_lt (Nat.div_le_self _ _) (by omega))]
      have q := set_high (N := N) (i := a / 64) (low := a % 64) (n := v) (wd := n) (by rw [← ha]; exact hN) hv hlo hn
      rw [← ha] at q
      rw [q]
  · (refine RetN.frz 0 ?_; (conv => whnf))
    (refine RetN.q () [] ?_ ?_ ?_ <;> (repeat' ((conv => whnf) <;> first | exact rfl | exact trivial | apply And.intro | exact Nat.zero_add _)); all_goals ((conv => whnf); try simp only []))
    rw [Nat.zero_add, List.drop_zero]
    refine Eq.trans (List.take_of_length_le (by rw [List.length_set, words_len]; exact Nat.le_refl _)) ?_
    exact set_one hN hv h hn (by omega) (by omega) hval1
theorem sizeM (l : List Int) (h : ∀ x ∈ l, 0 ≤ x ∧ x ≤ 64) (hl : l.length ≤ 100) : Meets Tryz.prog 67 [.lst (.int .i64) fun _ => l] [] (Y := Unit) (fun _ => True) (fun _ => .tup [.int .i64 fun _ => l.sum, .tt]) (fun _ => []) := by
  refine Meets.intro hm (fn := Tryz.f67) Tryz.func67 rfl (by decide) (Nat.le_of_ble_eq_true rfl) (fun _ => rfl) ?_; intro S hok; (conv => whnf)
  (repeat' ((conv => whnf); first | apply And.intro | exact ⟨by kernel_rfl⟩ | apply DrawN.mk | apply CodeN.step hm rfl | exact trivial | exact rfl | (intro hh; try simp only [bs] at hh))); all_goals (conv => whnf)
  refine LoopN.intro hm (X := Nat) (fun i => i ≤ l.length) (fun i => l.length - i)
    (fun i => [(9, .int .i64 fun _ => (i : Int)), (8, .int .i64 fun _ => (l.length : Int)), (7, .lst (.int .i64) fun _ => l), (4, .int .i64 fun _ => (l.take i).sum), (0, .lst (.int .i64) fun _ => l)]) (fun _ => []) 0 [] ⟨rfl, rfl, ?_, ?_⟩ (Nat.zero_le _) (fun i hi => ?_)
  · (repeat' ((conv => whnf) <;> first | exact rfl | exact trivial | apply And.intro | exact Nat.zero_add _))
  · (repeat' ((conv => whnf) <;> first | exact rfl | exact trivial | apply And.intro | exact Nat.zero_add _))
  have hb := Ce.sum_bound (m := 64) (l := l.take i) (fun x hx => h x (List.mem_of_mem_take hx)) (by omega)
  rw [List.length_take] at hb
  have hx := fun hi : i < l.length => h (l.getD i 0) (by rw [List.getD_eq_getElem?_getD, List.getElem?_eq_getElem hi]; exact List.getElem_mem hi)
  have hst := fun h => Ce.sum_take (l := l) (i := i) h
  (repeat' ((conv => whnf); first | apply And.intro | exact ⟨by kernel_rfl⟩ | apply DrawN.mk | apply CodeN.step hm rfl | exact trivial | exact rfl | (intro hh; try simp only [bs] at hh))); all_goals (conv => whnf)
  all_goals first
    | (refine Ob.mk ?_; first | omega | (simp only []; omega))
    | (exfalso
       have hq := hx (by omega)
       have : l.getD (i : Int).toNat (Ty.int .i64).dflt = l.getD i 0 := rfl
       omega)
    | (have hi2 : i < l.length := by omega
       have hq := hx hi2
       refine ⟨i + 1, [], ⟨rfl, rfl, ?_, ?_⟩, hi2, Nat.sub_lt_sub_left hi2 (Nat.lt_succ_self _)⟩
       · (repeat' ((conv => whnf) <;> first | exact rfl | exact trivial | apply And.intro | exact Nat.zero_add _))
       · (repeat' ((conv => whnf) <;> first | exact rfl | exact trivial | apply And.intro | exact Nat.zero_add _)); all_goals ((conv => whnf); try simp only [])
         · exact wr (by omega)
         · show IntKind.i64.wrap ((l.take i).sum + l.getD i 0) = _
           rw [hst hi2]
           exact wr (by omega))
    | (have e : i = l.length := by omega
       (refine RetN.q () [] ?_ ?_ ?_ <;> (repeat' ((conv => whnf) <;> first | exact rfl | exact trivial | apply And.intro | exact Nat.zero_add _)); all_goals ((conv => whnf); try simp only []))
       · rw [e, List.take_length]
       · exact decide_eq_true (by omega))
end Go.Proofs.YtkcifdblaboodaaGreat.Bt
set_option linter.unusedVariables false
set_option linter.unusedSimpArgs false
namespace Go.Proofs.YtkcifdblaboodaaGreat.Bt
open Go Go.RowKit Fw Hi Po
theorem mul64M (a : Int) (h : a = 1 ∨ a = 2) : Meets Tryz.prog 111 [.int .u64 fun _ => a, .int .u64 fun _ => 16] [] (Y := Unit) (fun _ => True) (fun _ => .tup [.int .u64 fun _ => 0, .int .u64 fun _ => a * 16]) (fun _ => []) := by
  refine Meets.intro hm (fn := Tryz.f111) Tryz.func111 rfl (by decide) (Nat.le_of_ble_eq_true rfl) (fun _ => rfl) ?_; intro S hok; (conv => whnf)
  (repeat' ((conv => whnf); first | apply And.intro | exact ⟨by kernel_rfl⟩ | apply DrawN.mk | apply CodeN.step hm rfl | exact trivial | exact rfl | (intro hh; try simp only [bs] at hh))); all_goals (conv => whnf)
  all_goals first | (exact Ob.mk (by decide)) | skip
  (refine RetN.q () [] ?_ ?_ ?_ <;> (repeat' ((conv => whnf) <;> first | exact rfl | exact trivial | apply And.intro | exact Nat.zero_add _)); all_goals ((conv => whnf); try simp only []))
  all_goals
    rcases h with rfl | rfl <;> decide
theorem mulM (a : Int) (h : a = 1 ∨ a = 2) : Meets Tryz.prog 98 [.int .u64 fun _ => a, .int .u64 fun _ => 16] [] (Y := Unit) (fun _ => True) (fun _ => .tup [.int .u64 fun _ => 0, .int .u64 fun _ => a * 16]) (fun _ => []) := by
  refine Meets.intro hm (fn := Tryz.f98) Tryz.func98 rfl (by decide) (Nat.le_of_ble_eq_true rfl) (fun _ => rfl) ?_; intro S hok; (conv => whnf)
  (repeat' ((conv => whnf); first | apply And.intro | exact ⟨by kernel_rfl⟩ | apply DrawN.mk | apply CodeN.step hm rfl | exact trivial | exact rfl | (intro hh; try simp only [bs] at hh))); all_goals (conv => whnf)
  (refine CallN.q (mul64M a h) [] (fun _ _ => ?_); (repeat' ((conv => whnf); first | apply And.intro | exact ⟨by kernel_rfl⟩ | apply DrawN.mk | apply CodeN.step hm rfl | exact trivial | exact rfl | (intro hh; try simp only [bs] at hh; try exact absurd hh (by decide)))); all_goals (conv => whnf); all_goals try exact ⟨by decide⟩)
  (refine RetN.q () [] ?_ ?_ ?_ <;> (repeat' ((conv => whnf) <;> first | exact rfl | exact trivial | apply And.intro | exact Nat.zero_add _)); all_goals ((conv => whnf); try simp only []))
/-- So many times a list. -/
def times (l : List Int) (n : Nat) : List Int := (List.replicate n l).flatten
def stR (l : List Int) (k : Nat) : List Int := times l (2 ^ k) ++ List.replicate (16 * l.length - 2 ^ k * l.length) 0
theorem rep1 : Meets Tryz.prog 66 [.lst (.int .i64) fun _ => [21], .int .i64 fun _ => 16] [] (Y := Unit) (fun _ => True) (fun _ => .lst (.int .i64) fun _ => times [21] 16) (fun _ => []) := by
  refine Meets.intro hm (fn := Tryz.f66) Tryz.func66 rfl (by decide) (Nat.le_of_ble_eq_true rfl) (fun _ => rfl) ?_; intro S hok; (conv => whnf)
  (repeat' ((conv => whnf); first | apply And.intro | exact ⟨by kernel_rfl⟩ | apply DrawN.mk | apply CodeN.step hm rfl | exact trivial | exact rfl | (intro hh; try simp only [bs] at hh))); all_goals (conv => whnf)
  all_goals first | (exfalso; exact absurd hh (by decide)) | skip
  refine CallN.q (mulM 1 (by decide)) [] (fun _ _ => ?_) rfl rfl ?_ trivial
  rotate_left
  · (repeat' ((conv => whnf) <;> first | exact rfl | exact trivial | apply And.intro | exact Nat.zero_add _))
  (repeat' ((conv => whnf); first | apply And.intro | exact ⟨by kernel_rfl⟩ | apply DrawN.mk | apply CodeN.step hm rfl | exact trivial | exact rfl | (intro hh; try simp only [bs] at hh; try exact absurd hh (by decide)))); all_goals (conv => whnf)
  · exact Ob.mk (by decide)
  refine LoopN.intro hm (X := Nat) (fun k => k ≤ 4) (fun k => 4 - k)
    (fun k => [(8, .int .i64 fun _ => ((2 ^ k * 1 : Nat) : Int)), (7, .vec 0 1 (fun _ => 0) (fun _ => 1 * 16))]) (fun k => [.vect 3 (.int .i64) fun _ => stR [21] k]) 0 [0] ⟨rfl, rfl, ?_, ?_⟩ (Nat.zero_le _) (fun k hk => ?_)
  · (repeat' ((conv => whnf) <;> first | exact rfl | exact trivial | apply And.intro | exact Nat.zero_add _))
  · (repeat' ((conv => whnf) <;> first | exact rfl | exact trivial | apply And.intro | exact Nat.zero_add _)); all_goals ((conv => whnf); try simp only [])
  have hk5 : k = 0 ∨ k = 1 ∨ k = 2 ∨ k = 3 ∨ k = 4 := by omega
  rcases hk5 with rfl | rfl | rfl | rfl | rfl
  all_goals
    (repeat' ((conv => whnf); first | apply And.intro | exact ⟨by kernel_rfl⟩ | apply DrawN.mk | apply CodeN.step hm rfl | exact trivial | exact rfl | (intro hh; try simp only [bs] at hh))); all_goals (conv => whnf)
  all_goals first
    | (exfalso; exact absurd hh (by decide))
    | exact Ob.mk (by decide)
    | (refine ⟨1, [0], ⟨rfl, rfl, ?_, ?_⟩, by decide, by decide⟩
       · (repeat' ((conv => whnf) <;> first | exact rfl | exact trivial | apply And.intro | exact Nat.zero_add _))
       · (repeat' ((conv => whnf) <;> first | exact rfl | exact trivial | apply And.intro | exact Nat.zero_add _)); all_goals ((conv => whnf); try simp only [])
         all_goals decide)
    | (refine ⟨2, [0], ⟨rfl, rfl, ?_, ?_⟩, by decide, by decide⟩
       · (repeat' ((conv => whnf) <;> first | exact rfl | exact trivial | apply And.intro | exact Nat.zero_add _))
       · (repeat' ((conv => whnf) <;> first | exact rfl | exact trivial | apply And.intro | exact Nat.zero_add _)); all_goals ((conv => whnf); try simp only [])
         all_goals decide)
    | (refine ⟨3, [0], ⟨rfl, rfl, ?_, ?_⟩, by decide, by decide⟩
       · (repeat' ((conv => whnf) <;> first | exact rfl | exact trivial | apply And.intro | exact Nat.zero_add _))
       · (repeat' ((conv => whnf) <;> first | exact rfl | exact trivial | apply And.intro | exact Nat.zero_add _)); all_goals ((conv => whnf); try simp only [])
         all_goals decide)
    | (refine ⟨4, [0], ⟨rfl, rfl, ?_, ?_⟩, by decide, by decide⟩
       · (repeat' ((conv => whnf) <;> first | exact rfl | exact trivial | apply And.intro | exact Nat.zero_add _))
       · (repeat' ((conv => whnf) <;> first | exact rfl | exact trivial | apply And.intro | exact Nat.zero_add _)); all_goals ((conv => whnf); try simp only [])
         all_goals decide)
    | ((refine RetN.frz 0 ?_; (conv => whnf))
       (refine RetN.q () [] ?_ ?_ ?_ <;> (repeat' ((conv => whnf) <;> first | exact rfl | exact trivial | apply And.intro | exact Nat.zero_add _)); all_goals ((conv => whnf); try simp only []))
       all_goals decide)
theorem rep2 : Meets Tryz.prog 66 [.lst (.int .i64) fun _ => [41, 5], .int .i64 fun _ => 16] [] (Y := Unit) (fun _ => True) (fun _ => .lst (.int .i64) fun _ => times [41, 5] 16) (fun _ => []) := by
  refine Meets.intro hm (fn := Tryz.f66) Tryz.func66 rfl (by decide) (Nat.le_of_ble_eq_true rfl) (fun _ => rfl) ?_; intro S hok; (conv => whnf)
  (repeat' ((conv => whnf); first | apply And.intro | exact ⟨by kernel_rfl⟩ | apply DrawN.mk | apply CodeN.step hm rfl | exact trivial | exact rfl | (intro hh; try simp only [bs] at hh))); all_goals (conv => whnf)
  all_goals first | (exfalso; exact absurd hh (by decide)) | skip
  refine CallN.q (mulM 2 (by decide)) [] (fun _ _ => ?_) rfl rfl ?_ trivial
  rotate_left
  · (repeat' ((conv => whnf) <;> first | exact rfl | exact trivial | apply And.intro | exact Nat.zero_add _))
  (repeat' ((conv => whnf); first | apply And.intro | exact ⟨by kernel_rfl⟩ | apply DrawN.mk | apply CodeN.step hm rfl | exact trivial | exact rfl | (intro hh; try simp only [bs] at hh; try exact absurd hh (by decide)))); all_goals (conv => whnf)
  · exact Ob.mk (by decide)
  refine LoopN.intro hm (X := Nat) (fun k => k ≤ 4) (fun k => 4 - k)
    (fun k => [(8, .int .i64 fun _ => ((2 ^ k * 2 : Nat) : Int)), (7, .vec 0 1 (fun _ => 0) (fun _ => 2 * 16))]) (fun k => [.vect 3 (.int .i64) fun _ => stR [41, 5] k]) 0 [0] ⟨rfl, rfl, ?_, ?_⟩ (Nat.zero_le _) (fun k hk => ?_)
  · (repeat' ((conv => whnf) <;> first | exact rfl | exact trivial | apply And.intro | exact Nat.zero_add _))
  · (repeat' ((conv => whnf) <;> first | exact rfl | exact trivial | apply And.intro | exact Nat.zero_add _)); all_goals ((conv => whnf); try simp only [])
  have hk5 : k = 0 ∨ k = 1 ∨ k = 2 ∨ k = 3 ∨ k = 4 := by omega
  rcases hk5 with rfl | rfl | rfl | rfl | rfl
  all_goals
    (repeat' ((conv => whnf); first | apply And.intro | exact ⟨by kernel_rfl⟩ | apply DrawN.mk | apply CodeN.step hm rfl | exact trivial | exact rfl | (intro hh; try simp only [bs] at hh))); all_goals (conv => whnf)
  all_goals first
    | (exfalso; exact absurd hh (by decide))
    | exact Ob.mk (by decide)
    | (refine ⟨1, [0], ⟨rfl, rfl, ?_, ?_⟩, by decide, by decide⟩
       · (repeat' ((conv => whnf) <;> first | exact rfl | exact trivial | apply And.intro | exact Nat.zero_add _))
       · (repeat' ((conv => whnf) <;> first | exact rfl | exact trivial | apply And.intro | exact Nat.zero_add _)); all_goals ((conv => whnf); try simp only [])
         all_goals decide)
    | (refine ⟨2, [0], ⟨rfl, rfl, ?_, ?_⟩, by decide, by decide⟩
       · (repeat' ((conv => whnf) <;> first | exact rfl | exact trivial | apply And.intro | exact Nat.zero_add _))
       · (repeat' ((conv => whnf) <;> first | exact rfl | exact trivial | apply And.intro | exact Nat.zero_add _)); all_goals ((conv => whnf); try simp only [])
         all_goals decide)
    | (refine ⟨3, [0], ⟨rfl, rfl, ?_, ?_⟩, by decide, by decide⟩
       · (repeat' ((conv => whnf) <;> first | exact rfl | exact trivial | apply And.intro | exact Nat.zero_add _))
       · (repeat' ((conv => whnf) <;> first | exact rfl | exact trivial | apply And.intro | exact Nat.zero_add _)); all_goals ((conv => whnf); try simp only [])
         all_goals decide)
    | (refine ⟨4, [0], ⟨rfl, rfl, ?_, ?_⟩, by decide, by decide⟩
       · (repeat' ((conv => whnf) <;> first | exact rfl | exact trivial | apply And.intro | exact Nat.zero_add _))
       · (repeat' ((conv => whnf) <;> first | exact rfl | exact trivial | apply And.intro | exact Nat.zero_add _)); all_goals ((conv => whnf); try simp only [])
         all_goals decide)
    | ((refine RetN.frz 0 ?_; (conv => whnf))
       (refine RetN.q () [] ?_ ?_ ?_ <;> (repeat' ((conv => whnf) <;> first | exact rfl | exact trivial | apply And.intro | exact Nat.zero_add _)); all_goals ((conv => whnf); try simp only []))
       all_goals decide)
theorem growM (n : Nat) (h : n ≤ 1000) (h0 : 1 ≤ n) : Meets Tryz.prog 97 [.snil, .int .i64 fun _ => (n : Int)] [] (Y := Unit) (fun _ => True) (fun _ => .vec 0 1 (fun _ => 0) (fun _ => 0)) (fun _ => [.vect 3 (.int .i64) fun _ => List.replicate n 0]) := by
  have e : IntKind.i64.wrap ((n : Int) - IntKind.i64.wrap (0 - 0)) = n := by
    rw [show IntKind.i64.wrap (0 - 0) = 0 from rfl, wr (by omega)]; omega
  have hb : ((Tryz.t3).bytes : Nat) = 8 := rfl
  refine Meets.intro hm (fn := Tryz.f97) Tryz.func97 rfl (by decide) (Nat.le_of_ble_eq_true rfl) (fun _ => rfl) ?_; intro S hok; (conv => whnf)
  (repeat' ((conv => whnf); first | apply And.intro | exact ⟨by kernel_rfl⟩ | apply DrawN.mk | apply CodeN.step hm rfl | exact trivial | exact rfl | (intro hh; try simp only [bs] at hh))); all_goals (conv => whnf)
  all_goals (try simp only [e] at hh ⊢)
  all_goals first
    | (exfalso; omega)
    | (refine Ob.mk ?_; first | decide | omega | (rw [hb]; omega) | (simp only [Int.toNat_natCast]; omega))
    | skip
  (refine RetN.q () [0] ?_ ?_ ?_ <;> (repeat' ((conv => whnf) <;> first | exact rfl | exact trivial | apply And.intro | exact Nat.zero_add _)); all_goals ((conv => whnf); try simp only []))
theorem concatM (l : List (List Int)) (h1 : l.length ≤ 10) (h2 : ∀ x ∈ l, x.length ≤ 100) (h0 : 1 ≤ l.flatten.length) : Meets Tryz.prog 65 [.lst (.list (.int .i64)) fun _ => l] [] (Y := List Int) (fun c => c.take l.flatten.length = l.flatten) (fun _ => .vec 0 1 (fun _ => 0) fun _ => l.flatten.length) (fun c => [.vect 3 (.int .i64) fun _ => c]) := by
  have hfl : ∀ i, ((l.take i).flatten.length : Int) ≤ 100 * i := by
    intro i
    induction i with
    | zero => simp
    | succ i ih =>
      by_cases hi : i < l.length
      · rw [List.take_add_one, List.getElem?_eq_getElem hi, List.flatten_append, List.length_append]
        have := h2 _ (List.getElem_mem hi)
        simp only [Option.toList_some, List.flatten_cons, List.flatten_nil, List.append_nil]
        omega
      · rw [List.take_of_length_le (by omega)]
        rw [List.take_of_length_le (by omega)] at ih
        omega
  have hst : ∀ i, i < l.length → (l.take (i + 1)).flatten = (l.take i).flatten ++ l.getD i [] := fun i hi => by
    rw [List.take_add_one, List.getElem?_eq_getElem hi, List.flatten_append, List.getD_eq_getElem?_getD, List.getElem?_eq_getElem hi]; simp
  refine Meets.intro hm (fn := Tryz.f65) Tryz.func65 rfl (by decide) (Nat.le_of_ble_eq_true rfl) (fun _ => rfl) ?_; intro S hok; (conv => whnf)
  (repeat' ((conv => whnf); first | apply And.intro | exact ⟨by kernel_rfl⟩ | apply DrawN.mk | apply CodeN.step hm rfl | exact trivial | exact rfl | (intro hh; try simp only [bs] at hh))); all_goals (conv => whnf)
  refine LoopN.intro hm (X := Nat) (fun i => i ≤ l.length) (fun i => l.length - i)
    (fun i => [(11, .int .i64 fun _ => (i : Int)), (10, .int .i64 fun _ => (l.length : Int)), (9, .lst (.list (.int .i64)) fun _ => l), (3, .int .i64 fun _ => ((l.take i).flatten.length : Int)), (0, .lst (.list (.int .i64)) fun _ => l)]) (fun _ => []) 0 [] ⟨rfl, rfl, ?_, ?_⟩ (Nat.zero_le _) (fun i hi => ?_)
  · (repeat' ((conv => whnf) <;> first | exact rfl | exact trivial | apply And.intro | exact Nat.zero_add _))
  · (repeat' ((conv => whnf) <;> first | exact rfl | exact trivial | apply And.intro | exact Nat.zero_add _))
  have hfi := hfl i
  have hgl := fun hi : i < l.length => h2 _ (show l.getD i [] ∈ l by rw [List.getD_eq_getElem?_getD, List.getElem?_eq_getElem hi]; exact List.getElem_mem hi)
  have hsi := fun hi => congrArg List.length (hst i hi)
  have eg : l.getD (i : Int).toNat (Ty.list (.int .i64)).dflt = l.getD i [] := rfl
  (repeat' ((conv => whnf); first | apply And.intro | exact ⟨by kernel_rfl⟩ | apply DrawN.mk | apply CodeN.step hm rfl | exact trivial | exact rfl | (intro hh; try simp only [bs] at hh))); all_goals (conv => whnf)
  all_goals (try simp only [eg] at hh ⊢)
  · refine Ob.mk ?_
    omega
  · exfalso
    have hi2 : i < l.length := by omega
    have := hgl hi2
    rw [wr (by omega)] at hh
    omega
  · have hi2 : i < l.length := by omega
    have h3 := hsi hi2
    rw [List.length_append] at h3
    have h4 := hgl hi2
    refine ⟨i + 1, [], ⟨rfl, rfl, ?_, ?_⟩, hi2, Nat.sub_lt_sub_left hi2 (Nat.lt_succ_self _)⟩
    · (repeat' ((conv => whnf) <;> first | exact rfl | exact trivial | apply And.intro | exact Nat.zero_add _))
    · (repeat' ((conv => whnf) <;> first | exact rfl | exact trivial | apply And.intro | exact Nat.zero_add _)); all_goals ((conv => whnf); try simp only [])
      · exact wr (by omega)
      · rw [h3, wr (by omega)]; omega
  · have e : i = l.length := by omega
    rw [e, List.take_length] at hfi
    rw [e]
    simp only [List.take_length]
    (refine CallN.q (growM l.flatten.length (by omega) h0) [] (fun _ _ => ?_); (repeat' ((conv => whnf); first | apply And.intro | exact ⟨by kernel_rfl⟩ | apply DrawN.mk | apply CodeN.step hm rfl | exact trivial | exact rfl | (intro hh; try simp only [bs] at hh; try exact absurd hh (by decide)))); all_goals (conv => whnf); all_goals try exact ⟨by decide⟩)
    refine LoopN.intro hm (X := Nat × List Int) (fun x => x.1 ≤ l.length ∧ x.2.take (l.take x.1).flatten.length = (l.take x.1).flatten) (fun x => l.length - x.1)
      (fun x => [(27, .int .i64 fun _ => (x.1 : Int)), (26, .int .i64 fun _ => (l.length : Int)), (25, .lst (.list (.int .i64)) fun _ => l), (6, .vec 0 1 (fun _ => 0) (fun _ => (l.take x.1).flatten.length))]) (fun x => [.vect 3 (.int .i64) fun _ => x.2]) (0, List.replicate l.flatten.length 0) [0] ⟨rfl, rfl, ?_, ?_⟩ ⟨Nat.zero_le _, rfl⟩ (fun x hx => ?_)
    · (repeat' ((conv => whnf) <;> first | exact rfl | exact trivial | apply And.intro | exact Nat.zero_add _))
    · (repeat' ((conv => whnf) <;> first | exact rfl | exact trivial | apply And.intro | exact Nat.zero_add _)); all_goals ((conv => whnf); try simp only [])
    obtain ⟨j, c⟩ := x
    obtain ⟨hj, hc⟩ := hx
    have hfj := hfl j
    have hgj := fun hi : j < l.length => h2 _ (show l.getD j [] ∈ l by rw [List.getD_eq_getElem?_getD, List.getElem?_eq_getElem hi]; exact List.getElem_mem hi)
    have hsj := fun hi => congrArg List.length (hst j hi)
    have egj : l.getD (j : Int).toNat (Ty.list (.int .i64)).dflt = l.getD j [] := rfl
    simp only [] at hj hc
    (repeat' ((conv => whnf); first | apply And.intro | exact ⟨by kernel_rfl⟩ | apply DrawN.mk | apply CodeN.step hm rfl | exact trivial | exact rfl | (intro hh; try simp only [bs] at hh))); all_goals (conv => whnf)
    all_goals (try simp only [egj] at hh ⊢)
    · refine Ob.mk ?_
      omega
    · have hi2 : j < l.length := by omega
      have h4 := hgj hi2
      have hb : ((Tryz.t3).bytes : Nat) = 8 := rfl
      refine ⟨⟨trivial, ?_, ?_⟩⟩
      · omega
      · rw [hb]; omega
    · have hi2 : j < l.length := by omega
      have h3 := hsj hi2
      rw [List.length_append] at h3
      have h5 := hst j hi2
      refine ⟨(j + 1, (l.take j).flatten ++ l.getD j []), [0], ⟨rfl, rfl, ?_, ?_⟩, ⟨hi2, ?_⟩, Nat.sub_lt_sub_left hi2 (Nat.lt_succ_self _)⟩
      · (repeat' ((conv => whnf) <;> first | exact rfl | exact trivial | apply And.intro | exact Nat.zero_add _)); all_goals ((conv => whnf); try simp only [])
        rw [hc]
      · (repeat' ((conv => whnf) <;> first | exact rfl | exact trivial | apply And.intro | exact Nat.zero_add _)); all_goals ((conv => whnf); try simp only [])
        · exact wr (by omega)
        · exact h3.symm
      · rw [h5, List.take_length]
    · have e2 : j = l.length := by omega
      rw [e2, List.take_length] at hc
      (refine RetN.q c [0] ?_ ?_ ?_ <;> (repeat' ((conv => whnf) <;> first | exact rfl | exact trivial | apply And.intro | exact Nat.zero_add _)); all_goals ((conv => whnf); try simp only []))
      all_goals first | exact hc | rw [e2, List.take_length]
def widthsL : List Int := [41, 41] ++ times [21] 16 ++ [5] ++ times [41, 5] 16 ++ [57]
theorem widthsM : Meets Tryz.prog 34 [] [] (Y := Unit) (fun _ => True) (fun _ => .lst (.int .i64) fun _ => widthsL) (fun _ => []) := by
  have M := concatM [[41, 41], times [21] 16, [5], times [41, 5] 16] (by decide) (by decide) (by decide)
  refine Meets.intro hm (fn := Tryz.f34) Tryz.func34 rfl (by decide) (Nat.le_of_ble_eq_true rfl) (fun _ => rfl) ?_; intro S hok; (conv => whnf)
  (repeat' ((conv => whnf); first | apply And.intro | exact ⟨by kernel_rfl⟩ | apply DrawN.mk | apply CodeN.step hm rfl | exact trivial | exact rfl | (intro hh; try simp only [bs] at hh))); all_goals (conv => whnf)
  refine CallN.frz 1 ?_ rep1.callable
  (conv => whnf)
  (refine CallN.q rep1 [] (fun _ _ => ?_); (repeat' ((conv => whnf); first | apply And.intro | exact ⟨by kernel_rfl⟩ | apply DrawN.mk | apply CodeN.step hm rfl | exact trivial | exact rfl | (intro hh; try simp only [bs] at hh; try exact absurd hh (by decide)))); all_goals (conv => whnf); all_goals try exact ⟨by decide⟩)
  refine CallN.frz 3 ?_ rep2.callable
  (conv => whnf)
  (refine CallN.q rep2 [] (fun _ _ => ?_); (repeat' ((conv => whnf); first | apply And.intro | exact ⟨by kernel_rfl⟩ | apply DrawN.mk | apply CodeN.step hm rfl | exact trivial | exact rfl | (intro hh; try simp only [bs] at hh; try exact absurd hh (by decide)))); all_goals (conv => whnf); all_goals try exact ⟨by decide⟩)
  refine CallN.frz 4 ?_ M.callable
  (conv => whnf)
  refine CallN.q M [] (fun c hc => ?_)
  have hF : [[41, 41], times [21] 16, [5], times [41, 5] 16].flatten = [41, 41] ++ times [21] 16 ++ [5] ++ times [41, 5] 16 := by decide
  have hl0 : [[41, 41], times [21] 16, [5], times [41, 5] 16].flatten.length = 51 := by decide
  have hlen : ([41, 41] ++ times [21] 16 ++ [5] ++ times [41, 5] 16).length = 51 := by decide
  have hall : ∀ i, i < 51 → 0 ≤ ([41, 41] ++ times [21] 16 ++ [5] ++ times [41, 5] 16).getD i 0 ∧ ([41, 41] ++ times [21] 16 ++ [5] ++ times [41, 5] 16).getD i 0 ≤ 64 := by decide
  have hsum : ([41, 41] ++ times [21] 16 ++ [5] ++ times [41, 5] 16).sum = 1159 := by decide
  have hbd : ∀ i, i ≤ 51 → 0 ≤ (([41, 41] ++ times [21] 16 ++ [5] ++ times [41, 5] 16).take i).sum ∧ (([41, 41] ++ times [21] 16 ++ [5] ++ times [41, 5] 16).take i).sum ≤ 1159 := by decide
  have hW : widthsL = ([41, 41] ++ times [21] 16 ++ [5] ++ times [41, 5] 16) ++ [57] := rfl
  rw [hl0] at hc ⊢
  rw [hF] at hc
  generalize [41, 41] ++ times [21] 16 ++ [5] ++ times [41, 5] 16 = F at *
  have hcF : ∀ i, i < 51 → c.getD i 0 = F.getD i 0 := fun i hi => by
    rw [← hc, List.getD_eq_getElem?_getD, List.getD_eq_getElem?_getD, List.getElem?_take, if_pos hi]
  (repeat' ((conv => whnf); first | apply And.intro | exact ⟨by kernel_rfl⟩ | apply DrawN.mk | apply CodeN.step hm rfl | exact trivial | exact rfl | (intro hh; try simp only [bs] at hh; try exact absurd hh (by decide)))); all_goals (conv => whnf)
  refine LoopN.intro hm (X := Nat) (fun i => i ≤ 51) (fun i => 51 - i)
    (fun i => [(15, .int .i64 fun _ => (i : Int)), (14, .int .i64 fun _ => 51), (13, .vec 0 1 (fun _ => 0) fun _ => 51), (2, .int .i64 fun _ => 1216 - (F.take i).sum), (1, .vec 0 1 (fun _ => 0) fun _ => 51)]) (fun _ => [.vect 3 (.int .i64) fun _ => c]) 0 [5] ⟨rfl, rfl, ?_, ?_⟩ (Nat.zero_le _) (fun i hi => ?_)
  · (repeat' ((conv => whnf) <;> first | exact rfl | exact trivial | apply And.intro | exact Nat.zero_add _))
  · (repeat' ((conv => whnf) <;> first | exact rfl | exact trivial | apply And.intro | exact Nat.zero_add _)); all_goals ((conv => whnf); try simp only [])
  have hbi := hbd i (by omega)
  have hst := fun h => Ce.sum_take (l := F) (i := i) h
  have hai := hall i
  (repeat' ((conv => whnf); first | apply And.intro | exact ⟨by kernel_rfl⟩ | apply DrawN.mk | apply CodeN.step hm rfl | exact trivial | exact rfl | (intro hh; try simp only [bs] at hh))); all_goals (conv => whnf)
  · refine Ob.mk ?_
    simp only []; omega
  · have hi2 : i < 51 := by omega
    have h1 := hst (by omega)
    have h2 := hai (by omega)
    refine ⟨i + 1, [0], ⟨rfl, rfl, ?_, ?_⟩, hi2, Nat.sub_lt_sub_left hi2 (Nat.lt_succ_self _)⟩
    · (repeat' ((conv => whnf) <;> first | exact rfl | exact trivial | apply And.intro | exact Nat.zero_add _))
    · (repeat' ((conv => whnf) <;> first | exact rfl | exact trivial | apply And.intro | exact Nat.zero_add _)); all_goals ((conv => whnf); try simp only [])
      · exact wr (by omega)
      · show IntKind.i64.wrap (1216 - (F.take i).sum - c.getD (0 + i) 0) = _
        rw [Nat.zero_add, hcF i hi2, h1, wr (by omega)]; omega
  · have e : i = F.length := by omega
    rw [e, List.take_length, hsum]
    refine LoopN.intro hm (X := Bool) (fun _ => True) (fun b => match b with | false => 1 | true => 0)
      (fun b => match b with | false => [(2, .int .i64 fun _ => 57), (1, .vec 0 1 (fun _ => 0) fun _ => 51)] | true => [(2, .int .i64 fun _ => -7), (1, .vec 0 1 (fun _ => 0) fun _ => 52)]) (fun b => match b with | false => [.vect 3 (.int .i64) fun _ => c] | true => [.vect 3 (.int .i64) fun _ => F ++ [57]]) false [0] ⟨rfl, rfl, ?_, ?_⟩ trivial (fun b _ => ?_)
    · (repeat' ((conv => whnf) <;> first | exact rfl | exact trivial | apply And.intro | exact Nat.zero_add _))
    · (repeat' ((conv => whnf) <;> first | exact rfl | exact trivial | apply And.intro | exact Nat.zero_add _)); all_goals ((conv => whnf); try simp only [])
    cases b
    · (repeat' ((conv => whnf); first | apply And.intro | exact ⟨by kernel_rfl⟩ | apply DrawN.mk | apply CodeN.step hm rfl | exact trivial | exact rfl | (intro hh; try simp only [bs] at hh))); all_goals (conv => whnf)
      · exact Ob.mk (by decide)
      · refine ⟨true, [0], ⟨rfl, rfl, ?_, ?_⟩, trivial, Nat.zero_lt_one⟩
        · (repeat' ((conv => whnf) <;> first | exact rfl | exact trivial | apply And.intro | exact Nat.zero_add _)); all_goals ((conv => whnf); try simp only [])
          rw [hc]; rfl
        · (repeat' ((conv => whnf) <;> first | exact rfl | exact trivial | apply And.intro | exact Nat.zero_add _)); all_goals ((conv => whnf); try simp only [])
          all_goals rfl
      · exact absurd (show (0 : Int) < 57 by decide) hh
    · (repeat' ((conv => whnf); first | apply And.intro | exact ⟨by kernel_rfl⟩ | apply DrawN.mk | apply CodeN.step hm rfl | exact trivial | exact rfl | (intro hh; try simp only [bs] at hh))); all_goals (conv => whnf)
      · exact absurd hh (by decide)
      · exact absurd hh (by decide)
      · (refine RetN.frz 0 ?_; (conv => whnf))
        (refine RetN.q () [] ?_ ?_ ?_ <;> (repeat' ((conv => whnf) <;> first | exact rfl | exact trivial | apply And.intro | exact Nat.zero_add _)); all_goals ((conv => whnf); try simp only []))
        rw [hW, List.drop_zero]
        exact List.take_of_length_le (by simp [hlen])
end Go.Proofs.YtkcifdblaboodaaGreat.Bt
set_option linter.unusedVariables false
set_option linter.unusedSimpArgs false
namespace Go.Proofs.YtkcifdblaboodaaGreat.Bt
open Go Go.RowKit Fw Hi Po
/-- A loop ahead of which a chunk is frozen. -/
theorem loop_frz {P : Program} {N : Nat} {M : List Bool} {S : Sc} {body : Code} {env : Env} {E : List Chunk} {K : Ex → Env → List Chunk → Prop} (i : Nat) (h : Fw.frz i env E [] fun env' E' _ => LoopN P N S M body env' E' K) : LoopN P N S M body env E K where
  h := by
    intro r g a w hr hM hI hN
    obtain ⟨B, hB, hI', hd⟩ := hI
    obtain ⟨g', env', E', cs', h1, h2, h3⟩ := frz_ok hI' (show RL g [] [] from trivial) h
    exact h3.h r g' a w hr hM ⟨B, hB, h1, hd⟩ hN
/-- Values laid side by side, so wide each. -/
def packN : List Int → List Int → Nat
  | w :: ws, v :: vs => v.toNat + 2 ^ w.toNat * packN ws vs
  | _, _ => 0
theorem packN_take : ∀ {ws vs : List Int} {i : Nat}, ws.length = vs.length → i < ws.length → (∀ w ∈ ws, 0 ≤ w) → packN (ws.take (i + 1)) (vs.take (i + 1)) = packN (ws.take i) (vs.take i) + (vs.getD i 0).toNat * 2 ^ (ws.take i).sum.toNat
  | [], _, i, _, h, _ => by simp at h
  | w :: ws, [], i, h, _, _ => by simp at h
  | w :: ws, v :: vs, 0, _, _, _ => by simp [packN]
  | w :: ws, v :: vs, i + 1, hl, hi, hw => by
    have ih := packN_take (ws := ws) (vs := vs) (i := i) (by simpa using hl) (by simpa using hi) fun x hx => hw x (List.mem_cons_of_mem _ hx)
    have h0 := hw w (List.mem_cons_self ..)
    have hs : 0 ≤ (ws.take i).sum := Ce.sum_nonneg fun x hx => hw x (List.mem_cons_of_mem _ (List.mem_of_mem_take hx))
    have e : (w + (ws.take i).sum).toNat = w.toNat + (ws.take i).sum.toNat := by omega
    simp only [List.take_succ_cons, packN, List.sum_cons, List.getD_cons_succ] at ih ⊢
    rw [ih, e, Nat.pow_add, Nat.mul_add, Nat.add_assoc]
    congr 2
    rw [Nat.mul_left_comm]
/-- Values that fit. -/
def Fit (ws vs : List Int) : Prop := ws.length = vs.length ∧ (∀ w ∈ ws, 0 ≤ w ∧ w ≤ 64) ∧ ∀ i, i < ws.length → 0 ≤ vs.getD i 0 ∧ (vs.getD i 0).toNat < 2 ^ (ws.getD i 0).toNat
theorem packN_lt {ws vs : List Int} (h : Fit ws vs) : ∀ i, i ≤ ws.length → packN (ws.take i) (vs.take i) < 2 ^ (ws.take i).sum.toNat := by
  intro i hi
  induction i with
  | zero => simp [packN]
  | succ i ih =>
    have ih := ih (by omega)
    have h3 := (h.2.2 i (by omega)).2
    have hwi := h.2.1 (ws.getD i 0) (by rw [List.getD_eq_getElem?_getD, List.getElem?_eq_getElem (by omega)]; exact List.getElem_mem _)
    have hs : 0 ≤ (ws.take i).sum := Ce.sum_nonneg fun x hx => (h.2.1 x (List.mem_of_mem_take hx)).1
    rw [packN_take h.1 (by omega) fun w hw => (h.2.1 w hw).1, Ce.sum_take (by omega)]
    have e : ((ws.take i).sum + ws.getD i 0).toNat = (ws.getD i 0).toNat + (ws.take i).sum.toNat := by omega
    rw [e, Nat.pow_add]
    have h4 : ((vs.getD i 0).toNat + 1) * 2 ^ (ws.take i).sum.toNat ≤ 2 ^ (ws.getD i 0).toNat * 2 ^ (ws.take i).sum.toNat := Nat.mul_le_mul_right _ h3
    rw [Nat.add_mul, Nat.one_mul] at h4
    omega
/-- The fields of a number, side by side. -/
def flds : List Int → Nat → List Int
  | [], _ => []
  | w :: ws, N => ((N % 2 ^ w.toNat : Nat) : Int) :: flds ws (N / 2 ^ w.toNat)
theorem flds_len : ∀ (ws : List Int) (N : Nat), (flds ws N).length = ws.length
  | [], _ => rfl
  | w :: ws, N => by rw [flds, List.length_cons, List.length_cons, flds_len ws]
theorem flds_take : ∀ {ws : List Int} {i : Nat} {N : Nat}, i < ws.length → (∀ w ∈ ws, 0 ≤ w) → flds (ws.take (i + 1)) N = flds (ws.take i) N ++ [((fld N (ws.take i).sum.toNat (ws.getD i 0).toNat : Nat) : Int)]
  | [], i, _, h, _ => by simp at h
  | w :: ws, 0, N, _, _ => by simp [flds, fld]
  | w :: ws, i + 1, N, hi, hw => by
    have ih := flds_take (ws := ws) (i := i) (N := N / 2 ^ w.toNat) (by simpa using hi) fun x hx => hw x (List.mem_cons_of_mem _ hx)
    have h0 := hw w (List.mem_cons_self ..)
    have hs : 0 ≤ (ws.take i).sum := Ce.sum_nonneg fun x hx => hw x (List.mem_cons_of_mem _ (List.mem_of_mem_take hx))
    have e : (w + (ws.take i).sum).toNat = w.toNat + (ws.take i).sum.toNat := by omega
    rw [List.take_succ_cons, flds, ih, List.take_succ_cons, flds, List.sum_cons, e, List.getD_cons_succ, List.cons_append]
    congr 3
    unfold fld
    rw [Nat.div_div_eq_div_mul, ← Nat.pow_add]
theorem Fit.cons {w v : Int} {ws vs : List Int} (h : Fit (w :: ws) (v :: vs)) : 0 ≤ w ∧ w ≤ 64 ∧ 0 ≤ v ∧ v.toNat < 2 ^ w.toNat ∧ Fit ws vs := by
  have h1 := h.2.1 w (List.mem_cons_self ..)
  have h2 := h.2.2 0 (by simp)
  refine ⟨h1.1, h1.2, h2.1, h2.2, by simpa using h.1, fun x hx => h.2.1 x (List.mem_cons_of_mem _ hx), fun i hi => ?_⟩
  have := h.2.2 (i + 1) (by simpa using hi)
  rwa [List.getD_cons_succ, List.getD_cons_succ] at this
theorem flds_pack : ∀ {ws vs : List Int}, Fit ws vs → flds ws (packN ws vs) = vs
  | [], [], _ => rfl
  | [], v :: vs, h => by have := h.1; simp at this
  | w :: ws, [], h => by have := h.1; simp at this
  | w :: ws, v :: vs, h => by
    obtain ⟨h1, h2, h3, h4, h5⟩ := h.cons
    have hp : 0 < 2 ^ w.toNat := Nat.two_pow_pos _
    rw [packN, flds, Nat.add_mul_mod_self_left, Nat.mod_eq_of_lt h4, Nat.add_mul_div_left _ _ hp, Nat.div_eq_of_lt h4, Nat.zero_add, flds_pack h5]
    congr 1
    omega
theorem pack_flds : ∀ {ws : List Int} {N : Nat}, (∀ w ∈ ws, 0 ≤ w) → N < 2 ^ ws.sum.toNat → packN ws (flds ws N) = N
  | [], N, _, h => by simp at h; rw [h]; rfl
  | w :: ws, N, hw, h => by
    have h0 := hw w (List.mem_cons_self ..)
    have hs : 0 ≤ ws.sum := Ce.sum_nonneg fun x hx => hw x (List.mem_cons_of_mem _ hx)
    have e : (w :: ws).sum.toNat = w.toNat + ws.sum.toNat := by rw [List.sum_cons]; omega
    rw [e, Nat.pow_add] at h
    have h2 : N / 2 ^ w.toNat < 2 ^ ws.sum.toNat := by
      rw [Nat.div_lt_iff_lt_mul (Nat.two_pow_pos _), Nat.mul_comm]; exact h
    rw [flds, packN, pack_flds (fun x hx => hw x (List.mem_cons_of_mem _ hx)) h2, Int.toNat_natCast, Nat.add_comm]
    exact Nat.div_add_mod _ _
theorem flds_at : ∀ {ws : List Int} {i N : Nat}, i < ws.length → (∀ w ∈ ws, 0 ≤ w) → (flds ws N).getD i 0 = ((fld N (ws.take i).sum.toNat (ws.getD i 0).toNat : Nat) : Int)
  | [], i, _, h, _ => by simp at h
  | w :: ws, 0, N, _, _ => by simp [flds, fld]
  | w :: ws, i + 1, N, hi, hw => by
    have ih := flds_at (ws := ws) (i := i) (N := N / 2 ^ w.toNat) (by simpa using hi) fun x hx => hw x (List.mem_cons_of_mem _ hx)
    have h0 := hw w (List.mem_cons_self ..)
    have hs : 0 ≤ (ws.take i).sum := Ce.sum_nonneg fun x hx => hw x (List.mem_cons_of_mem _ (List.mem_of_mem_take hx))
    have e : (w + (ws.take i).sum).toNat = w.toNat + (ws.take i).sum.toNat := by omega
    rw [flds, List.getD_cons_succ, ih, List.take_succ_cons, List.sum_cons, e, List.getD_cons_succ]
    unfold fld
    rw [Nat.div_div_eq_div_mul, ← Nat.pow_add]
theorem fit_flds {ws : List Int} {N : Nat} (h : ∀ w ∈ ws, 0 ≤ w ∧ w ≤ 64) : Fit ws (flds ws N) := by
  refine ⟨(flds_len ws N).symm, h, fun i hi => ?_⟩
  rw [flds_at hi fun w hw => (h w hw).1]
  exact ⟨Int.natCast_nonneg _, by rw [Int.toNat_natCast]; exact Nat.mod_lt _ (Nat.two_pow_pos _)⟩
theorem getD_app {a b : List Int} (i : Nat) : (a ++ b).getD i 0 = if i < a.length then a.getD i 0 else b.getD (i - a.length) 0 := by
  simp only [List.getD_eq_getElem?_getD, List.getElem?_append]
  split <;> rfl
theorem Fit.append {a b c d : List Int} (h1 : Fit a b) (h2 : Fit c d) : Fit (a ++ c) (b ++ d) := by
  refine ⟨by rw [List.length_append, List.length_append, h1.1, h2.1], fun x hx => ?_, fun i hi => ?_⟩
  · rcases List.mem_append.1 hx with h | h
    · exact h1.2.1 x h
    · exact h2.2.1 x h
  · rw [List.length_append] at hi
    have := h1.1
    rw [getD_app, getD_app, ← h1.1]
    by_cases h : i < a.length
    · rw [if_pos h, if_pos h]; exact h1.2.2 i h
    · rw [if_neg h, if_neg h]; exact h2.2.2 _ (by omega)
theorem Fit.nil : Fit [] [] := ⟨rfl, fun x hx => by simp at hx, fun i hi => by simp at hi⟩
theorem Fit.mk {w v : Int} {ws vs : List Int} (h1 : 0 ≤ w ∧ w ≤ 64) (h2 : 0 ≤ v ∧ v.toNat < 2 ^ w.toNat) (h : Fit ws vs) : Fit (w :: ws) (v :: vs) := by
  refine ⟨by simpa using h.1, fun x hx => ?_, fun i hi => ?_⟩
  · rcases List.mem_cons.1 hx with e | e
    · rw [e]; exact h1
    · exact h.2.1 x e
  · cases i with
    | zero => exact h2
    | succ i => rw [List.getD_cons_succ, List.getD_cons_succ]; exact h.2.2 i (by simpa using hi)
theorem nextM (w : List Int) (hl : w.length ≤ 1000) : Meets Tryz.prog 72 [.lst (.int .u64) fun _ => w, .int .i64 fun _ => ((64 * w.length : Nat) : Int)] [] (Y := Unit) (fun _ => True) (fun _ => .tup [.int .i64 fun _ => 0, .ff]) (fun _ => []) := by
  have e1 : (if (0 : Int) > ((64 * w.length : Nat) : Int) then 0 else ((64 * w.length : Nat) : Int)) = ((64 * w.length : Nat) : Int) := if_neg (by omega)
  have e2 : IntKind.i64.wrap (((64 * w.length : Nat) : Int).tdiv 64) = (w.length : Int) := by
    rw [Int.tdiv_eq_ediv_of_nonneg (by omega), wr (by omega)]; omega
  refine Meets.intro hm (fn := Tryz.f72) Tryz.func72 rfl (by decide) (Nat.le_of_ble_eq_true rfl) (fun _ => rfl) ?_; intro S hok; (conv => whnf)
  (repeat' ((conv => whnf); first | apply And.intro | exact ⟨by kernel_rfl⟩ | apply DrawN.mk | apply CodeN.step hm rfl | exact trivial | exact rfl | (intro hh; try simp only [bs] at hh))); all_goals (conv => whnf)
  · exact Ob.mk (by decide)
  refine LoopN.intro hm (X := Unit) (fun _ => True) (fun _ => 0)
    (fun _ => [(6, .int .i64 fun _ => (w.length : Int)), (0, .lst (.int .u64) fun _ => w)]) (fun _ => []) () [] ⟨rfl, rfl, ?_, ?_⟩ trivial (fun _ _ => ?_)
  · (repeat' ((conv => whnf) <;> first | exact rfl | exact trivial | apply And.intro | exact Nat.zero_add _))
  · (repeat' ((conv => whnf) <;> first | exact rfl | exact trivial | apply And.intro | exact Nat.zero_add _)); all_goals ((conv => whnf); try simp only [])
    rw [e1]; exact e2
  (repeat' ((conv => whnf); first | apply And.intro | exact ⟨by kernel_rfl⟩ | apply DrawN.mk | apply CodeN.step hm rfl | exact trivial | exact rfl | (intro hh; try simp only [bs] at hh))); all_goals (conv => whnf)
  all_goals first
    | (exfalso; omega)
    | skip
  (refine RetN.q () [] ?_ ?_ ?_ <;> (repeat' ((conv => whnf) <;> first | exact rfl | exact trivial | apply And.intro | exact Nat.zero_add _)); all_goals ((conv => whnf); try simp only []))
theorem packM (ws vs : List Int) (h : Fit ws vs) (hl : ws.length ≤ 100) : Meets Tryz.prog 35 [.lst (.int .i64) fun _ => ws, .lst (.int .u64) fun _ => vs] [] (Y := Unit) (fun _ => True) (fun _ => .tup [.lst (.int .u64) fun _ => wordsOf ((ws.sum.toNat + 63) / 64) (packN ws vs), .tt]) (fun _ => []) := by
  have hsb := Ce.sum_bound (m := 64) h.2.1 (by omega)
  have e1 : IntKind.i64.wrap (ws.sum + 64) = ws.sum + 64 := wr (by omega)
  have e2 : IntKind.i64.wrap (ws.sum + 64 - 1) = ws.sum + 63 := by rw [wr (by omega)]; omega
  have e3 : IntKind.i64.wrap ((ws.sum + 63).tdiv 64) = (((ws.sum.toNat + 63) / 64 : Nat) : Int) := by
    rw [Int.tdiv_eq_ediv_of_nonneg (by omega), wr (by omega)]; omega
  generalize hK : (ws.sum.toNat + 63) / 64 = K at *
  have hb : ((Tryz.t47).bytes : Nat) = 8 := rfl
  refine Meets.intro hm (fn := Tryz.f35) Tryz.func35 rfl (by decide) (Nat.le_of_ble_eq_true rfl) (fun _ => rfl) ?_; intro S hok; (conv => whnf)
  (repeat' ((conv => whnf); first | apply And.intro | exact ⟨by kernel_rfl⟩ | apply DrawN.mk | apply CodeN.step hm rfl | exact trivial | exact rfl | (intro hh; try simp only [bs] at hh))); all_goals (conv => whnf)
  · exfalso; have := h.1; omega
  (refine CallN.q (sizeM ws h.2.1 hl) [] (fun _ _ => ?_); (repeat' ((conv => whnf); first | apply And.intro | exact ⟨by kernel_rfl⟩ | apply DrawN.mk | apply CodeN.step hm rfl | exact trivial | exact rfl | (intro hh; try simp only [bs] at hh; try exact absurd hh (by decide)))); all_goals (conv => whnf); all_goals try exact ⟨by decide⟩)
  all_goals (try simp only [e1, e2, e3, Int.toNat_natCast] at hh ⊢)
  · refine Ob.mk ?_
    rw [hb]; omega
  refine loop_frz 0 ?_
  (conv => whnf)
  refine LoopN.intro hm (X := Nat) (fun i => i ≤ ws.length) (fun i => ws.length - i)
    (fun i => [(31, .int .i64 fun _ => (i : Int)), (30, .int .i64 fun _ => (ws.length : Int)), (29, .lst (.int .i64) fun _ => ws), (9, .int .i64 fun _ => (ws.take i).sum), (8, .lst (.int .u64) fun _ => wordsOf K (packN (ws.take i) (vs.take i))), (1, .lst (.int .u64) fun _ => vs)]) (fun _ => []) 0 [] ⟨rfl, rfl, ?_, ?_⟩ (Nat.zero_le _) (fun i hi => ?_)
  · (repeat' ((conv => whnf) <;> first | exact rfl | exact trivial | apply And.intro | exact Nat.zero_add _))
  · (repeat' ((conv => whnf) <;> first | exact rfl | exact trivial | apply And.intro | exact Nat.zero_add _)); all_goals ((conv => whnf); try simp only [])
    rw [List.drop_zero, List.take_of_length_le (by simp)]
    refine getD_ext (by rw [words_len]; simp) fun j hj => ?_
    rw [List.length_replicate] at hj
    rw [words_at hj]
    simp [packN, List.getD_eq_getElem?_getD, hj]
  have hwi := fun hi : i < ws.length => h.2.1 (ws.getD i 0) (by rw [List.getD_eq_getElem?_getD, List.getElem?_eq_getElem hi]; exact List.getElem_mem hi)
  have hvi := h.2.2 i
  have hpl := packN_lt h i hi
  have hst := fun hi => Ce.sum_take (l := ws) (i := i) hi
  have hpt := fun hi => packN_take (i := i) h.1 hi fun w hw => (h.2.1 w hw).1
  have hsi : 0 ≤ (ws.take i).sum := Ce.sum_nonneg fun x hx => (h.2.1 x (List.mem_of_mem_take hx)).1
  have hsd : (ws.take i).sum + (ws.drop i).sum = ws.sum := by rw [← List.sum_append, List.take_append_drop]
  have hsd2 : 0 ≤ (ws.drop (i + 1)).sum := Ce.sum_nonneg fun x hx => (h.2.1 x (List.mem_of_mem_drop hx)).1
  have hlen := h.1
  (repeat' ((conv => whnf); first | apply And.intro | exact ⟨by kernel_rfl⟩ | apply DrawN.mk | apply CodeN.step hm rfl | exact trivial | exact rfl | (intro hh; try simp only [bs] at hh))); all_goals (conv => whnf)
  · refine Ob.mk ?_
    simp only []; omega
  · refine Ob.mk ?_
    simp only []; omega
  · have hi2 : i < ws.length := by omega
    have h1 := hwi hi2
    have h2 := hvi hi2
    have h3 := hst hi2
    have h4 := hpt hi2
    have hd : (ws.drop i).sum = ws.getD i 0 + (ws.drop (i + 1)).sum := by
      rw [List.drop_eq_getElem_cons hi2, List.sum_cons, List.getD_eq_getElem?_getD, List.getElem?_eq_getElem hi2]; rfl
    have eg1 : ws.getD (i : Int).toNat (Ty.int .i64).dflt = ((ws.getD i 0).toNat : Int) := by
      show ws.getD i 0 = _
      omega
    have eg2 : vs.getD (i : Int).toNat (Ty.int .u64).dflt = ((vs.getD i 0).toNat : Int) := by
      show vs.getD i 0 = _
      omega
    simp only [eg1, eg2]
    have ez : IntKind.u64.wrap (BitVec.ofInt IntKind.u64.bits (((vs.getD i 0).toNat : Nat) : Int) &&& ~~~BitVec.ofInt IntKind.u64.bits ((2 ^ (ws.getD i 0).toNat - 1 : Nat) : Int)).toNat = 0 := by
      rw [andn_int]
      have : andn (vs.getD i 0).toNat (2 ^ (ws.getD i 0).toNat - 1) = 0 := by
        apply Nat.eq_of_testBit_eq
        intro b
        rw [andn_bit, Nat.testBit_two_pow_sub_one, Nat.zero_testBit]
        by_cases hb2 : b < (ws.getD i 0).toNat
        · rw [decide_eq_true hb2, Bool.not_true, Bool.and_false]
        · rw [low_bit h2.2 (by omega)]; simp
      rw [this]; rfl
    have M := setM K (packN (ws.take i) (vs.take i)) (ws.take i).sum.toNat (ws.getD i 0).toNat (vs.getD i 0).toNat hpl h2.2 (by omega) (by omega) (by omega)
    rw [← h4] at M
    have et : (((ws.take i).sum.toNat : Nat) : Int) = (ws.take i).sum := by omega
    rw [et] at M
    (refine CallN.q (maskM (ws.getD i 0).toNat (by omega)) [] (fun _ _ => ?_); (repeat' ((conv => whnf); first | apply And.intro | exact ⟨by kernel_rfl⟩ | apply DrawN.mk | apply CodeN.step hm rfl | exact trivial | exact rfl | (intro hh; try simp only [bs] at hh; try exact absurd hh (by decide)))); all_goals (conv => whnf); all_goals try exact ⟨by decide⟩)
    all_goals (try simp only [eg1, eg2] at hh ⊢)
    all_goals first
      | (refine Ob.mk ?_; first | omega | (simp only []; omega))
      | (exfalso; exact hh ez)
      | rfl
      | skip
    (refine CallN.q M [] (fun _ _ => ?_); (repeat' ((conv => whnf); first | apply And.intro | exact ⟨by kernel_rfl⟩ | apply DrawN.mk | apply CodeN.step hm rfl | exact trivial | exact rfl | (intro hh; try simp only [bs] at hh; try exact absurd hh (by decide)))); all_goals (conv => whnf); all_goals try exact ⟨by decide⟩)
    refine ⟨i + 1, [], ⟨rfl, rfl, ?_, ?_⟩, hi2, Nat.sub_lt_sub_left hi2 (Nat.lt_succ_self _)⟩
    · (repeat' ((conv => whnf) <;> first | exact rfl | exact trivial | apply And.intro | exact Nat.zero_add _))
    · (repeat' ((conv => whnf) <;> first | exact rfl | exact trivial | apply And.intro | exact Nat.zero_add _)); all_goals ((conv => whnf); try simp only [])
      · exact wr (by omega)
      · rw [h3, wr (by omega)]; omega
  · have e : i = ws.length := by omega
    (refine RetN.q () [] ?_ ?_ ?_ <;> (repeat' ((conv => whnf) <;> first | exact rfl | exact trivial | apply And.intro | exact Nat.zero_add _)); all_goals ((conv => whnf); try simp only []))
    rw [e, List.take_length, hlen, List.take_length]
theorem unpackM_no (ws w : List Int) (K : Nat) (h : ∀ x ∈ ws, 0 ≤ x ∧ x ≤ 64) (hl : ws.length ≤ 100) (hs : ws.sum = 64 * K) (hwl : w.length ≠ K) (hl2 : w.length ≤ 1000) : Meets Tryz.prog 38 [.lst (.int .i64) fun _ => ws, .lst (.int .u64) fun _ => w] [] (Y := Unit) (fun _ => True) (fun _ => .tup [.snil, .ff]) (fun _ => []) := by
  have hsb := Ce.sum_bound (m := 64) h (by omega)
  have e1 : IntKind.i64.wrap (ws.sum + 64) = ws.sum + 64 := wr (by omega)
  have e2 : IntKind.i64.wrap (ws.sum + 64 - 1) = ws.sum + 63 := by rw [wr (by omega)]; omega
  have e3 : IntKind.i64.wrap ((ws.sum + 63).tdiv 64) = (K : Int) := by
    rw [Int.tdiv_eq_ediv_of_nonneg (by omega), wr (by omega)]; omega
  refine Meets.intro hm (fn := Tryz.f38) Tryz.func38 rfl (by decide) (Nat.le_of_ble_eq_true rfl) (fun _ => rfl) ?_; intro S hok; (conv => whnf)
  (repeat' ((conv => whnf); first | apply And.intro | exact ⟨by kernel_rfl⟩ | apply DrawN.mk | apply CodeN.step hm rfl | exact trivial | exact rfl | (intro hh; try simp only [bs] at hh))); all_goals (conv => whnf)
  (refine CallN.q (sizeM ws h hl) [] (fun _ _ => ?_); (repeat' ((conv => whnf); first | apply And.intro | exact ⟨by kernel_rfl⟩ | apply DrawN.mk | apply CodeN.step hm rfl | exact trivial | exact rfl | (intro hh; try simp only [bs] at hh; try exact absurd hh (by decide)))); all_goals (conv => whnf); all_goals try exact ⟨by decide⟩)
  all_goals (try simp only [e1, e2, e3, Int.toNat_natCast] at hh ⊢)
  · (refine RetN.q () [] ?_ ?_ ?_ <;> (repeat' ((conv => whnf) <;> first | exact rfl | exact trivial | apply And.intro | exact Nat.zero_add _)); all_goals ((conv => whnf); try simp only []))
  · exfalso; omega
set_option maxHeartbeats 4000000 in
theorem unpackM (ws w : List Int) (K : Nat) (h : ∀ x ∈ ws, 0 ≤ x ∧ x ≤ 64) (hl : ws.length ≤ 100) (h0 : ws ≠ []) (hs : ws.sum = 64 * K) (hw : Wd w) (hwl : w.length = K) : Meets Tryz.prog 38 [.lst (.int .i64) fun _ => ws, .lst (.int .u64) fun _ => w] [] (Y := Unit) (fun _ => True) (fun _ => .tup [.lst (.int .u64) fun _ => flds ws (numOf w), .tt]) (fun _ => []) := by
  have hsb := Ce.sum_bound (m := 64) h (by omega)
  have e1 : IntKind.i64.wrap (ws.sum + 64) = ws.sum + 64 := wr (by omega)
  have e2 : IntKind.i64.wrap (ws.sum + 64 - 1) = ws.sum + 63 := by rw [wr (by omega)]; omega
  have e3 : IntKind.i64.wrap ((ws.sum + 63).tdiv 64) = (K : Int) := by
    rw [Int.tdiv_eq_ediv_of_nonneg (by omega), wr (by omega)]; omega
  have MN := nextM w (by omega)
  rw [show ((64 * w.length : Nat) : Int) = ws.sum by omega] at MN
  refine Meets.intro hm (fn := Tryz.f38) Tryz.func38 rfl (by decide) (Nat.le_of_ble_eq_true rfl) (fun _ => rfl) ?_; intro S hok; (conv => whnf)
  (repeat' ((conv => whnf); first | apply And.intro | exact ⟨by kernel_rfl⟩ | apply DrawN.mk | apply CodeN.step hm rfl | exact trivial | exact rfl | (intro hh; try simp only [bs] at hh))); all_goals (conv => whnf)
  (refine CallN.q (sizeM ws h hl) [] (fun _ _ => ?_); (repeat' ((conv => whnf); first | apply And.intro | exact ⟨by kernel_rfl⟩ | apply DrawN.mk | apply CodeN.step hm rfl | exact trivial | exact rfl | (intro hh; try simp only [bs] at hh; try exact absurd hh (by decide)))); all_goals (conv => whnf); all_goals try exact ⟨by decide⟩)
  all_goals (try simp only [e1, e2, e3, Int.toNat_natCast] at hh ⊢)
  · exfalso; omega
  (refine CallN.q MN [] (fun _ _ => ?_); (repeat' ((conv => whnf); first | apply And.intro | exact ⟨by kernel_rfl⟩ | apply DrawN.mk | apply CodeN.step hm rfl | exact trivial | exact rfl | (intro hh; try simp only [bs] at hh; try exact absurd hh (by decide)))); all_goals (conv => whnf); all_goals try exact ⟨by decide⟩)
  refine LoopN.intro hm (X := Nat) (fun i => i ≤ ws.length) (fun i => ws.length - i)
    (fun i => [(41, .int .i64 fun _ => (i : Int)), (40, .int .i64 fun _ => (ws.length : Int)), (39, .lst (.int .i64) fun _ => ws), (11, .int .i64 fun _ => (ws.take i).sum), (10, match i with | 0 => .snil | k + 1 => .vec 0 1 (fun _ => 0) fun _ => k + 1), (1, .lst (.int .u64) fun _ => w)]) (fun i => match i with | 0 => [] | k + 1 => [.vect 47 (.int .u64) fun _ => flds (ws.take (k + 1)) (numOf w)]) 0 [] ⟨rfl, rfl, ?_, ?_⟩ (Nat.zero_le _) (fun i hi => ?_)
  · (repeat' ((conv => whnf) <;> first | exact rfl | exact trivial | apply And.intro | exact Nat.zero_add _))
  · (repeat' ((conv => whnf) <;> first | exact rfl | exact trivial | apply And.intro | exact Nat.zero_add _)); all_goals ((conv => whnf); try simp only [])
  have hwi := fun hi : i < ws.length => h (ws.getD i 0) (by rw [List.getD_eq_getElem?_getD, List.getElem?_eq_getElem hi]; exact List.getElem_mem hi)
  have hst := fun hi => Ce.sum_take (l := ws) (i := i) hi
  have hsi : 0 ≤ (ws.take i).sum := Ce.sum_nonneg fun x hx => (h x (List.mem_of_mem_take hx)).1
  have hsd : (ws.take i).sum + (ws.drop i).sum = ws.sum := by rw [← List.sum_append, List.take_append_drop]
  have hsd2 : 0 ≤ (ws.drop (i + 1)).sum := Ce.sum_nonneg fun x hx => (h x (List.mem_of_mem_drop hx)).1
  have hft := fun hi => flds_take (i := i) (N := numOf w) hi fun x hx => (h x hx).1
  have hd : i < ws.length → (ws.drop i).sum = ws.getD i 0 + (ws.drop (i + 1)).sum := fun hi2 => by
    rw [List.drop_eq_getElem_cons hi2, List.sum_cons, List.getD_eq_getElem?_getD, List.getElem?_eq_getElem hi2]; rfl
  have MG := fun hi2 : i < ws.length => getM w (ws.take i).sum.toNat (ws.getD i 0).toNat hw (by have := hd hi2; have := hwi hi2; omega) (by have := hwi hi2; omega) (by omega)
  have et : (((ws.take i).sum.toNat : Nat) : Int) = (ws.take i).sum := by omega
  rw [et] at MG
  have hl0 : 0 < ws.length := List.length_pos_iff.2 h0
  have eg : i < ws.length → ws.getD (i : Int).toNat (Ty.int .i64).dflt = ((ws.getD i 0).toNat : Int) := fun hi2 => by
    show ws.getD i 0 = _
    have := hwi hi2
    omega
  cases i with
  | zero =>
    (repeat' ((conv => whnf); first | apply And.intro | exact ⟨by kernel_rfl⟩ | apply DrawN.mk | apply CodeN.step hm rfl | exact trivial | exact rfl | (intro hh; try simp only [bs] at hh))); all_goals (conv => whnf)
    · refine Ob.mk ?_
      simp only []; omega
    · simp only [eg hl0]
      have h1 := hwi hl0
      have h3 := hst hl0
      (refine CallN.q (MG hl0) [] (fun _ _ => ?_); (repeat' ((conv => whnf); first | apply And.intro | exact ⟨by kernel_rfl⟩ | apply DrawN.mk | apply CodeN.step hm rfl | exact trivial | exact rfl | (intro hh; try simp only [bs] at hh; try exact absurd hh (by decide)))); all_goals (conv => whnf); all_goals try exact ⟨by decide⟩)
      · refine Ob.mk ?_
        show (1 : Nat) * 8 ≤ 140737488355328
        decide
      refine ⟨1, [1], ⟨rfl, rfl, ?_, ?_⟩, hl0, Nat.sub_lt_sub_left hl0 (Nat.lt_succ_self _)⟩
      · (repeat' ((conv => whnf) <;> first | exact rfl | exact trivial | apply And.intro | exact Nat.zero_add _)); all_goals ((conv => whnf); try simp only [])
        exact (hft hl0).symm
      · (repeat' ((conv => whnf) <;> first | exact rfl | exact trivial | apply And.intro | exact Nat.zero_add _)); all_goals ((conv => whnf); try simp only [])
        have : (List.take 1 ws).sum = _ := h3
        rw [this, wr (by omega)]; omega
    · exfalso; omega
  | succ i =>
    (repeat' ((conv => whnf); first | apply And.intro | exact ⟨by kernel_rfl⟩ | apply DrawN.mk | apply CodeN.step hm rfl | exact trivial | exact rfl | (intro hh; try simp only [bs] at hh))); all_goals (conv => whnf)
    · refine Ob.mk ?_
      simp only []; omega
    · have hi2 : i + 1 < ws.length := by omega
      have h1 := hwi hi2
      have h3 := hst hi2
      have h4 := hd hi2
      simp only [eg hi2]
      (refine CallN.q (MG hi2) [] (fun _ _ => ?_); (repeat' ((conv => whnf); first | apply And.intro | exact ⟨by kernel_rfl⟩ | apply DrawN.mk | apply CodeN.step hm rfl | exact trivial | exact rfl | (intro hh; try simp only [bs] at hh; try exact absurd hh (by decide)))); all_goals (conv => whnf); all_goals try exact ⟨by decide⟩)
      · refine Ob.mk ?_
        refine ⟨rfl, ?_, ?_⟩
        · show i + 1 + 1 ≤ _
          omega
        · show (i + 1 + 1) * 8 ≤ _
          omega
      refine ⟨i + 2, [0], ⟨rfl, rfl, ?_, ?_⟩, hi2, Nat.sub_lt_sub_left hi2 (Nat.lt_succ_self _)⟩
      · (repeat' ((conv => whnf) <;> first | exact rfl | exact trivial | apply And.intro | exact Nat.zero_add _)); all_goals ((conv => whnf); try simp only [])
        rw [List.take_of_length_le (by rw [flds_len, List.length_take]; omega)]
        exact (hft hi2).symm
      · (repeat' ((conv => whnf) <;> first | exact rfl | exact trivial | apply And.intro | exact Nat.zero_add _)); all_goals ((conv => whnf); try simp only [])
        · rw [wr (by omega)]; omega
        · have : (List.take (i + 2) ws).sum = _ := h3
          rw [this, wr (by omega)]; omega
    · have e : i + 1 = ws.length := by omega
      rw [e, List.take_length]
      (refine RetN.frz 0 ?_; (conv => whnf))
      (refine RetN.q () [] ?_ ?_ ?_ <;> (repeat' ((conv => whnf) <;> first | exact rfl | exact trivial | apply And.intro | exact Nat.zero_add _)); all_goals ((conv => whnf); try simp only []))
      rw [List.drop_zero]
      exact List.take_of_length_le (by rw [flds_len]; exact Nat.le_refl _)
end Go.Proofs.YtkcifdblaboodaaGreat.Bt
set_option linter.unusedVariables false
set_option linter.unusedSimpArgs false
namespace Go.Proofs.YtkcifdblaboodaaGreat.Hi
open Go Go.RowKit Fw Po
/-- The tick ahead of the i-th hit. -/
def lastOf (l : List Hit) : Nat → Int
  | 0 => 0 | i + 1 => (l.getD i (0, 0)).1
theorem wr2 {n : Nat} (i : Nat) (h : i < n) (hn : n ≤ 1000000000) : IntKind.i64.wrap ((i : Int) + 1) = ((i + 1 : Nat) : Int) := by rw [wr (by omega)]; omega
theorem hit_eta (x : Hit) : (x.1, x.2) = x := rfl
theorem drop_at {l : List Hit} {i : Nat} (h : i < l.length) : l.drop i = l.getD i (0, 0) :: l.drop (i + 1) := by
  rw [List.drop_eq_getElem_cons h]; simp [List.getD_eq_getElem?_getD, h]
theorem may_at {l : List Hit} {i : Nat} (h : i < l.length) : mayGo (lastOf l i) (l.drop i) = (decide (lastOf l i ≤ (l.getD i (0, 0)).1) && decide ((l.getD i (0, 0)).1 ≤ 1099511627776) && weighs (l.getD i (0, 0)).2 && mayGo (lastOf l (i + 1)) (l.drop (i + 1))) := by
  rw [drop_at h, mayGo]; rfl
theorem eqHit (x y : Hit) : eqD HitT (x.1, x.2) (y.1, y.2) = decide (x = y) := by
  obtain ⟨a, b⟩ := x
  obtain ⟨c, d⟩ := y
  have h : eqD HitT (a, b) (c, d) = (@BEq.beq Int _ a c && @BEq.beq Int _ b d) := rfl
  rw [h, Bool.eq_iff_iff]
  simp
end Go.Proofs.YtkcifdblaboodaaGreat.Hi
set_option linter.unusedVariables false
set_option linter.unusedSimpArgs false
namespace Go.Proofs.YtkcifdblaboodaaGreat.Hi
open Go Go.RowKit Fw Po
theorem those_take (q : Int → Bool) : ∀ (l : List Hit) (i : Nat), i < l.length → those q (l.take (i + 1)) = those q (l.take i) + (if q (l.getD i (0, 0)).1 then (l.getD i (0, 0)).2 else 0)
  | [], i, h => by simp at h
  | x :: r, 0, h => by simp [those]
  | x :: r, i + 1, h => by
    have ih := those_take q r i (by simpa using h)
    have e : (x :: r).getD (i + 1) (0, 0) = r.getD i (0, 0) := by simp
    rw [e]
    simp only [List.take_succ_cons, those, ih]
    omega
theorem HOk.take {l : List Hit} {t : Int} (q : HOk l t) (i : Nat) : HOk (l.take i) t := q.sub (fun h hh => List.mem_of_mem_take hh) (by have := q.len; rw [List.length_take]; omega)
/-- What the ways to count have at hand. -/
def chC (p : Pol) (t s : Int) : List Chunk := [.cells 23 [.int .i64 fun _ => p.1, .int .i64 fun _ => p.2.1, .int .i64 fun _ => p.2.2.1, .int .i64 fun _ => p.2.2.2], .cells 3 [.int .i64 fun _ => t], .cells 3 [.int .i64 fun _ => s]]
theorem tdiv_bound {a s : Int} (h0 : 0 ≤ a) (h1 : a ≤ 4611686018427387904) (hs : 1 ≤ s) : 0 ≤ a.tdiv s ∧ a.tdiv s ≤ 4611686018427387904 := by
  refine ⟨Int.tdiv_nonneg h0 (by omega), ?_⟩
  rw [Int.tdiv_eq_ediv_of_nonneg h0]
  exact Int.le_trans (Int.ediv_le_self _ h0) h1
end Go.Proofs.YtkcifdblaboodaaGreat.Hi
set_option linter.unusedVariables false
set_option linter.unusedSimpArgs false
namespace Go.Proofs.YtkcifdblaboodaaGreat.Hi
open Go Go.RowKit Fw Po
/-- The hits from the last one back. -/
def backs (l : List Hit) : List (Int × Hit) := (List.range l.length).map fun k => (((l.length - 1 - k : Nat) : Int), l.getD (l.length - 1 - k) (0, 0))
theorem backs_len (l : List Hit) : (backs l).length = l.length := by simp [backs]
theorem backs_at {l : List Hit} {k : Nat} (h : k < l.length) : (backs l)[k]? = some (((l.length - 1 - k : Nat) : Int), l.getD (l.length - 1 - k) (0, 0)) := by simp [backs, h]
theorem RL.ints {g g' : Gh} : ∀ {cs : List AV} {us : List Value}, (∀ c ∈ cs, ∃ k n, c = .int k n) → RL g cs us → RL g' cs us
  | [], [], _, _ => trivial
  | [], _ :: _, _, h => h.elim
  | _ :: _, [], _, h => h.elim
  | c :: r, u :: us, hc, h => by
    obtain ⟨k, n, rfl⟩ := hc c (List.mem_cons_self ..)
    refine ⟨by rw [h.1.int_iff]; exact .int _ _, RL.ints (fun c hm => hc c (List.mem_cons_of_mem _ hm)) h.2⟩
theorem RL.hit {g g' : Gh} {a b c : Unit → Int} {us : List Value} (h : RL g [.int .i64 a, .agg [.int .i64 b, .int .i64 c]] us) : RL g' [.int .i64 a, .agg [.int .i64 b, .int .i64 c]] us := by
  match us, h with
  | [u, v], h =>
    obtain ⟨vs, rfl, hl⟩ := h.2.1.agg_iff
    refine ⟨by rw [h.1.int_iff]; exact .int _ _, ?_, trivial⟩
    have h2 := R.mkAgg (RL.ints (g' := g') (by simp) hl)
    simpa using h2
theorem backs_inv {l : List Hit} {k : Nat} (h : k < l.length) : l.drop (l.length - (k + 1)) = l.getD (l.length - 1 - k) (0, 0) :: l.drop (l.length - k) := by
  rw [show l.length - (k + 1) = l.length - 1 - k by omega, drop_at (by omega), show l.length - 1 - k + 1 = l.length - k by omega]
theorem HOk.drop {l : List Hit} {t : Int} (q : HOk l t) (i : Nat) : HOk (l.drop i) t := q.sub (fun h hh => List.mem_of_mem_drop hh) (by have := q.len; rw [List.length_drop]; omega)
end Go.Proofs.YtkcifdblaboodaaGreat.Hi
set_option linter.unusedVariables false
set_option linter.unusedSimpArgs false
namespace Go.Proofs.YtkcifdblaboodaaGreat.Hi
open Go Go.RowKit Fw Po
theorem PolOk.ringB {p : Pol} (hp : PolOk p) : 0 ≤ p.2.2.2 ∧ p.2.2.2 ≤ 16 := by
  by_cases h : p.1 = 3
  · have := hp.ring h; omega
  · have := hp.plain h; omega
theorem HOk.up {l : List Hit} {t t' : Int} (q : HOk l t) (h : t ≤ t') : HOk l t' := q.later h
theorem getD_mem {l : List Hit} {i : Nat} (h : i < l.length) : l.getD i (0, 0) ∈ l := by rw [List.getD_eq_getElem?_getD, List.getElem?_eq_getElem h]; exact List.getElem_mem h
theorem mem_take_at {l : List Hit} {i : Nat} {x : Hit} (h : x ∈ l.take i) : ∃ j, j < i ∧ j < l.length ∧ x = l.getD j (0, 0) := by
  obtain ⟨j, hj, e⟩ := List.getElem_of_mem h
  rw [List.length_take] at hj
  refine ⟨j, by omega, by omega, ?_⟩
  rw [← e, List.getElem_take, List.getD_eq_getElem?_getD, List.getElem?_eq_getElem (by omega)]; rfl
theorem may_tick {l : List Hit} (h : may l = true) {i : Nat} (hi : i < l.length) : 0 ≤ (l.getD i (0, 0)).1 ∧ (l.getD i (0, 0)).1 ≤ 1099511627776 := by
  have := (mayGo_ok l 0 h (Int.le_refl _)).1 _ (getD_mem hi); omega
theorem may_take {l : List Hit} (h : may l = true) (hl : l.length ≤ 64) {i : Nat} (hi : i < l.length) : HOk (l.take (i + 1)) (l.getD i (0, 0)).1 := by
  obtain ⟨h1, h2⟩ := mayGo_ok l 0 h (Int.le_refl _)
  refine ⟨fun x hx => ?_, fun x hx => ?_, by rw [List.length_take]; omega⟩
  · obtain ⟨j, hj, hj2, rfl⟩ := mem_take_at hx
    exact ⟨(h1 _ (getD_mem hj2)).1, h2 j i (by omega) hi⟩
  · have := h1 x (List.mem_of_mem_take hx); omega
theorem last_at {l : List Hit} (h : 0 < l.length) (t : Int) : lastOk l t = decide ((l.getD (l.length - 1) (0, 0)).1 ≤ t) := by
  unfold lastOk
  rw [List.getLast?_eq_getElem?, List.getD_eq_getElem?_getD, List.getElem?_eq_getElem (by omega)]
  rfl
theorem fitsTo_stop {p : Pol} {l : List Hit} {i : Nat} (h : fitsTo p l i = false) : ∀ n, i ≤ n → fitsTo p l n = false := by
  intro n hn
  induction n with
  | zero => rw [show i = 0 by omega] at h; exact h
  | succ n ih =>
    by_cases e : i = n + 1
    · rw [← e]; exact h
    · rw [fitsTo, ih (by omega)]; rfl
end Go.Proofs.YtkcifdblaboodaaGreat.Hi
set_option linter.unusedVariables false
set_option linter.unusedSimpArgs false
namespace Go.Proofs.YtkcifdblaboodaaGreat.Hi
open Go Go.RowKit Fw Po
end Go.Proofs.YtkcifdblaboodaaGreat.Hi
set_option linter.unusedVariables false
set_option linter.unusedSimpArgs false
namespace Go.Proofs.YtkcifdblaboodaaGreat.Hi
open Go Go.RowKit Fw Po
theorem fits_iff {p : Pol} {l : List Hit} {t : Int} (h : fits p l t = true) (hl : l.length ≤ 64) : PolOk p ∧ may l = true ∧ 0 ≤ t ∧ t ≤ 1099511627776 ∧ HOk l t := by
  simp only [fits, Bool.and_eq_true, decide_eq_true_eq] at h
  obtain ⟨⟨⟨⟨⟨h1, h2⟩, h3⟩, h4⟩, h5⟩, h6⟩ := h
  refine ⟨h1, h2, h3, h4, ?_⟩
  by_cases h0 : 0 < l.length
  · have := may_take h2 hl (i := l.length - 1) (by omega)
    rw [show l.length - 1 + 1 = l.length by omega, List.take_length] at this
    rw [last_at h0] at h5
    exact this.up (of_decide_eq_true h5)
  · have : l = [] := List.eq_nil_of_length_eq_zero (by omega)
    subst this
    exact ⟨by simp, by simp, by simp⟩
theorem rem_eq {m c d : Int} (hm : 0 ≤ m ∧ m ≤ 1099511627776) (hc : 0 ≤ c ∧ c ≤ 70368744177664) (hd : 1 ≤ d) :
    IntKind.i64.wrap ((if IntKind.i64.wrap (m - c) > 0 then IntKind.i64.wrap (m - c) else 0).tdiv d) = (max 0 (m - c)).tdiv d := by
  rw [wr (x := m - c) (by omega)]
  have e : (if m - c > 0 then m - c else 0) = max 0 (m - c) := by split <;> omega
  rw [e]
  have := tdiv_bound (a := max 0 (m - c)) (s := d) (by omega) (by omega) hd
  exact wr (by omega)
end Go.Proofs.YtkcifdblaboodaaGreat.Hi
set_option linter.unusedVariables false
set_option linter.unusedSimpArgs false
namespace Go.Proofs.YtkcifdblaboodaaGreat.Hi
open Go Go.RowKit Fw Po
/-- The weights of all, and what counts. -/
def rc (p : Pol) (t : Int) (l : List Hit) : Int × Int := (if p.1 = 1 then those (fun _ => true) l else 0, counts p l t)
theorem lev_sum (p : Pol) (t : Int) (l : List Hit) : (lev p t l).1 = p.2.2.1 * those (fun _ => true) l := by
  induction l with
  | nil => simp [lev, those]
  | cons x r ih =>
    simp only [lev, those, ih, if_true, Int.mul_add]
    rw [Int.mul_comm x.2, Int.add_comm]
theorem counts_cons (p : Pol) (t : Int) (x : Hit) (l : List Hit) (h : p.1 ≠ 1) : counts p (x :: l) t = if cq p t x.1 then counts p l t + x.2 else counts p l t := by
  unfold counts; rw [if_neg h, those]; rw [if_neg h]; split <;> omega
theorem rc_one {p : Pol} (h : p.1 = 1) (t : Int) (z : Hit) (D : List Hit) : rc p t (z :: D) = (those (fun _ => true) D + z.2, max (counts p D t) (p.2.2.1 * (those (fun _ => true) D + z.2) - p.2.1 * (t - z.1))) := by
  have e := lev_sum p t D
  simp only [rc, counts, if_pos h, lev, those, if_true, e, Int.mul_add]
  rw [Int.mul_comm z.2, Int.add_comm]
theorem rc_other {p : Pol} (h : p.1 ≠ 1) (t : Int) (z : Hit) (D : List Hit) : rc p t (z :: D) = (0, if cq p t z.1 then counts p D t + z.2 else counts p D t) := by
  simp only [rc, if_neg h, counts_cons p t z D h]
end Go.Proofs.YtkcifdblaboodaaGreat.Hi
set_option linter.unusedVariables false
set_option linter.unusedSimpArgs false
namespace Go.Proofs.YtkcifdblaboodaaGreat.Hi
open Go Go.RowKit Fw Po
end Go.Proofs.YtkcifdblaboodaaGreat.Hi
set_option linter.unusedVariables false
set_option linter.unusedSimpArgs false
namespace Go.Proofs.YtkcifdblaboodaaGreat.Hi
open Go Go.RowKit Fw Po
abbrev exP : Pol := (1, 2, 10, 0)
abbrev exQ : Pol := (3, 2, 30, 3)
theorem ex1 : ask exP [] 100 2 = ([(100, 2)], true, 0, 0, 10) := by kernel_rfl
theorem ex2 : ask exP [(100, 2)] 101 1 = ([(100, 2)], false, 0, 4, 9) := by kernel_rfl
theorem ex3 : ask exP [(100, 2)] 105 1 = ([(100, 2), (105, 1)], true, 0, 0, 10) := by kernel_rfl
theorem ex4 : ask exP [(100, 2)] 99 1 = ([(100, 2)], false, 0, 0, 0) := by kernel_rfl
theorem ex5 : ask exQ [(5, 1), (14, 1)] 29 1 = ([(5, 1), (14, 1)], false, 0, 1, 11) := by kernel_rfl
theorem ex6 : countsR exP [(100, 2)] 104 = 12 := by kernel_rfl
theorem ex7 : neutral exP [(100, 2)] 110 = true := by kernel_rfl
theorem ex8 : neutral exP [(100, 2)] 109 = false := by kernel_rfl
theorem ex9 : may [(100, 2)] = true := by kernel_rfl
theorem ex10 : may [(5, 1), (4, 1)] = false := by kernel_rfl
abbrev ArrT : Ty := .pair (.int .i64) (.int .i64)
def arrAV (n : Int × Int) : AV := .agg [.int .i64 fun _ => n.1, .int .i64 fun _ => n.2]
/-- Are two verdicts the same? -/
theorem eqVer (x y : Ver) : eqD VerT (x.1, x.2.1, x.2.2.1, x.2.2.2) (y.1, y.2.1, y.2.2.1, y.2.2.2) = decide (x = y) := by
  obtain ⟨a, b, c, d⟩ := x
  obtain ⟨a', b', c', d'⟩ := y
  have h : eqD VerT (a, b, c, d) (a', b', c', d') = (@BEq.beq Bool _ a a' && (@BEq.beq Int _ b b' && (@BEq.beq Int _ c c' && @BEq.beq Int _ d d'))) := rfl
  simp only [h]
  rw [Bool.eq_iff_iff]
  simp
theorem ask_len (p : Pol) (l : List Hit) (t w : Int) : (ask p l t w).1.length ≤ l.length + 1 := by
  unfold ask
  split
  · simp only []; split <;> simp
  · simp
end Go.Proofs.YtkcifdblaboodaaGreat.Hi
set_option linter.unusedVariables false
set_option linter.unusedSimpArgs false
namespace Go.Proofs.YtkcifdblaboodaaGreat.Ce
open Go Go.RowKit Fw Hi Po
theorem may_level {p : Pol} {c : Cell} (h : mayC p c = true) : -9223372036854775808 ≤ c.2.1 ∧ c.2.1 ≤ 9223372036854775807 := by
  obtain ⟨hp, _⟩ := may_pol h
  have hL := hp.limit
  have hW := hp.window
  have hLW : p.2.1 * p.2.2.1 ≤ 1048576 * 1048576 := Int.mul_le_mul hL.2 hW.2 (by omega) (by omega)
  rcases kind_of hp with k | k | k | k
  · have := (may1 k).1 h; omega
  · have := (may2 k).1 h; omega
  · have := ((may3 k).1 h).level; omega
  · have := ((may4 k).1 h).level; omega
end Go.Proofs.YtkcifdblaboodaaGreat.Ce
set_option linter.unusedVariables false
set_option linter.unusedSimpArgs false
namespace Go.Proofs.YtkcifdblaboodaaGreat.Ce
open Go Go.RowKit Fw Hi Bt
def hitsV : List Hit → List Int
  | [] => []
  | h :: r => h.1 :: h.2 :: hitsV r
def padS (l : List Int) : List Int := l ++ List.replicate (16 - l.length) 0
def padH (l : List Hit) : List Hit := l ++ List.replicate (16 - l.length) (0, 0)
/-- What is packed of a cell, field by field. -/
def vals (c : Cell) : List Int := [c.1, c.2.1] ++ padS c.2.2.1 ++ [(c.2.2.2.length : Int)] ++ hitsV (padH c.2.2.2) ++ [0]
/-- What fits. -/
structure Packs (c : Cell) : Prop where
  at_ : 0 ≤ c.1 ∧ c.1 ≤ 1099511627776
  level : 0 ≤ c.2.1 ∧ c.2.1 ≤ 1099511627776
  slen : c.2.2.1.length ≤ 16
  sums : ∀ x ∈ c.2.2.1, 0 ≤ x ∧ x ≤ 1048576
  hlen : c.2.2.2.length ≤ 16
  hits : ∀ h ∈ c.2.2.2, (0 ≤ h.1 ∧ h.1 ≤ 1099511627776) ∧ 0 ≤ h.2 ∧ h.2 ≤ 16
theorem times_succ (l : List Int) (n : Nat) : times l (n + 1) = l ++ times l n := by simp [times, List.replicate_succ]
theorem fit_sums : ∀ {l : List Int}, (∀ x ∈ l, 0 ≤ x ∧ x ≤ 1048576) → Fit (times [21] l.length) l
  | [], _ => Fit.nil
  | x :: r, h => by
    have h1 := h x (List.mem_cons_self ..)
    rw [List.length_cons, times_succ]
    exact Fit.mk (by decide) ⟨h1.1, by show x.toNat < 2097152; omega⟩ (fit_sums fun y hy => h y (List.mem_cons_of_mem _ hy))
theorem fit_hits : ∀ {l : List Hit}, (∀ h ∈ l, (0 ≤ h.1 ∧ h.1 ≤ 1099511627776) ∧ 0 ≤ h.2 ∧ h.2 ≤ 16) → Fit (times [41, 5] l.length) (hitsV l)
  | [], _ => Fit.nil
  | x :: r, h => by
    have h1 := h x (List.mem_cons_self ..)
    rw [List.length_cons, times_succ]
    exact Fit.mk (by decide) ⟨h1.1.1, by show x.1.toNat < 2199023255552; omega⟩ (Fit.mk (by decide) ⟨h1.2.1, by show x.2.toNat < 32; omega⟩ (fit_hits fun y hy => h y (List.mem_cons_of_mem _ hy)))
theorem padS_len {l : List Int} (h : l.length ≤ 16) : (padS l).length = 16 := by
  rw [padS, List.length_append, List.length_replicate]; omega
theorem padH_len {l : List Hit} (h : l.length ≤ 16) : (padH l).length = 16 := by
  rw [padH, List.length_append, List.length_replicate]; omega
theorem hitsV_len : ∀ l : List Hit, (hitsV l).length = 2 * l.length
  | [] => rfl
  | h :: r => by rw [hitsV, List.length_cons, List.length_cons, List.length_cons, hitsV_len r]; omega
theorem vals_len {c : Cell} (h : Packs c) : (vals c).length = 52 := by
  have h1 := padS_len h.slen
  have h2 := hitsV_len (padH c.2.2.2)
  have h3 := padH_len h.hlen
  simp only [vals, List.length_append, List.length_cons, List.length_nil]
  omega
theorem vals_fit {c : Cell} (h : Packs c) : Fit widthsL (vals c) := by
  have h1 : Fit (times [21] 16) (padS c.2.2.1) := by
    have := fit_sums (l := padS c.2.2.1) fun x hx => by
      rcases List.mem_append.1 hx with hx | hx
      · exact h.sums x hx
      · rw [List.eq_of_mem_replicate hx]; omega
    rwa [padS_len h.slen] at this
  have h2 : Fit (times [41, 5] 16) (hitsV (padH c.2.2.2)) := by
    have := fit_hits (l := padH c.2.2.2) fun x hx => by
      rcases List.mem_append.1 hx with hx | hx
      · exact h.hits x hx
      · rw [List.eq_of_mem_replicate hx]; decide
    rwa [padH_len h.hlen] at this
  have ha := h.at_
  have hl := h.level
  have hh := h.hlen
  exact (((Fit.mk (w := 41) (by decide) ⟨ha.1, by show c.1.toNat < 2199023255552; omega⟩ (Fit.mk (w := 41) (by decide) ⟨hl.1, by show c.2.1.toNat < 2199023255552; omega⟩ Fit.nil)).append h1).append (Fit.mk (w := 5) (by decide) ⟨Int.natCast_nonneg _, by show ((c.2.2.2.length : Int)).toNat < 32; omega⟩ Fit.nil) |>.append h2).append (Fit.mk (w := 57) (v := 0) (by decide) (by decide) Fit.nil)
/-- The number that a cell is, packed. -/
def packC (c : Cell) : Nat := packN widthsL (vals c)
theorem vals_sums {c : Cell} (h : Packs c) {i : Nat} (hi : i < 16) : (vals c).getD (2 + i) 0 = c.2.2.1.getD i 0 := by
  have hl := padS_len h.slen
  have e : vals c = [c.1, c.2.1] ++ (padS c.2.2.1 ++ ([(c.2.2.2.length : Int)] ++ hitsV (padH c.2.2.2) ++ [0])) := by simp [vals]
  rw [e, getD_app, if_neg (by simp), getD_app, if_pos (by simp; omega)]
  rw [show 2 + i - [c.1, c.2.1].length = i by simp, padS, getD_app]
  split
  · rfl
  · rename_i hq
    rw [List.getD_eq_getElem?_getD, List.getElem?_replicate, List.getD_eq_getElem?_getD, List.getElem?_eq_none (by omega)]
    split <;> rfl
theorem vals_n {c : Cell} (h : Packs c) : (vals c).getD 18 0 = c.2.2.2.length := by
  have hl := padS_len h.slen
  have e : vals c = ([c.1, c.2.1] ++ padS c.2.2.1) ++ ((c.2.2.2.length : Int) :: (hitsV (padH c.2.2.2) ++ [0])) := by simp [vals]
  rw [e, getD_app, if_neg (by simp; omega), show 18 - ([c.1, c.2.1] ++ padS c.2.2.1).length = 0 by simp; omega]
  rfl
theorem hitsV_at : ∀ {l : List Hit} {i : Nat}, (hitsV l).getD (2 * i) 0 = (l.getD i (0, 0)).1 ∧ (hitsV l).getD (2 * i + 1) 0 = (l.getD i (0, 0)).2
  | [], i => by simp [hitsV]
  | h :: r, 0 => ⟨rfl, rfl⟩
  | h :: r, i + 1 => by
    have ih := hitsV_at (l := r) (i := i)
    rw [hitsV, show 2 * (i + 1) = 2 * i + 1 + 1 by omega, List.getD_cons_succ, List.getD_cons_succ, List.getD_cons_succ, List.getD_cons_succ, List.getD_cons_succ]
    exact ih
theorem padH_at {l : List Hit} {i : Nat} : (padH l).getD i (0, 0) = l.getD i (0, 0) := by
  rw [padH, List.getD_eq_getElem?_getD, List.getElem?_append]
  split
  · rfl
  · rw [List.getElem?_replicate, List.getD_eq_getElem?_getD, List.getElem?_eq_none (by omega)]
    split <;> rfl
theorem vals_hits {c : Cell} (h : Packs c) {i : Nat} (hi : i < 16) : (vals c).getD (19 + 2 * i) 0 = (c.2.2.2.getD i (0, 0)).1 ∧ (vals c).getD (20 + 2 * i) 0 = (c.2.2.2.getD i (0, 0)).2 := by
  have hl := padS_len h.slen
  have hl2 := padH_len h.hlen
  have hl3 := hitsV_len (padH c.2.2.2)
  have e : vals c = ([c.1, c.2.1] ++ padS c.2.2.1 ++ [(c.2.2.2.length : Int)]) ++ (hitsV (padH c.2.2.2) ++ [0]) := by simp [vals]
  have el : ([c.1, c.2.1] ++ padS c.2.2.1 ++ [(c.2.2.2.length : Int)]).length = 19 := by simp; omega
  have hv := hitsV_at (l := padH c.2.2.2) (i := i)
  rw [padH_at] at hv
  constructor
  · rw [e, getD_app, if_neg (by omega), el, show 19 + 2 * i - 19 = 2 * i by omega, getD_app, if_pos (by omega)]; exact hv.1
  · rw [e, getD_app, if_neg (by omega), el, show 20 + 2 * i - 19 = 2 * i + 1 by omega, getD_app, if_pos (by omega)]; exact hv.2
/-! ### Packed, and unpacked -/
theorem mayH_num {a L : Int} : ∀ (l : List Hit) (last : Int), mayHGo a L last l = true → (l.length : Int) ≤ sumH l
  | [], _, _ => Int.le_refl _
  | h :: r, last, hm => by
    simp only [mayHGo, Bool.and_eq_true, decide_eq_true_eq] at hm
    have := mayH_num r h.1 hm.2
    rw [sumH_cons, List.length_cons]; omega
theorem may_packs {p : Pol} {c : Cell} (h : mayC p c = true) : Packs c := by
  obtain ⟨hp, h0, h1⟩ := may_pol h
  have hL := hp.limit
  have hW := hp.window
  have hLW : p.2.1 * p.2.2.1 ≤ 1048576 * 1048576 := Int.mul_le_mul hL.2 hW.2 (by omega) (by omega)
  rcases kind_of hp with k | k | k | k
  · have g := (may1 k).1 h
    refine ⟨⟨h0, h1⟩, ⟨by omega, by omega⟩, ?_, ?_, ?_, ?_⟩
    · rw [g.2.2.2.2.1]; decide
    · rw [g.2.2.2.2.1]; simp
    · rw [g.2.2.2.2.2]; decide
    · rw [g.2.2.2.2.2]; simp
  · have g := (may2 k).1 h
    refine ⟨⟨h0, h1⟩, ⟨by omega, by omega⟩, ?_, ?_, ?_, ?_⟩
    · rw [g.2.2.2.2.1]; decide
    · rw [g.2.2.2.2.1]; simp
    · rw [g.2.2.2.2.2]; decide
    · rw [g.2.2.2.2.2]; simp
  · have g := (may3 k).1 h
    have hB := ring_B hp k
    have hv := g.val
    refine ⟨⟨h0, h1⟩, ⟨by rw [g.level]; omega, by rw [g.level]; omega⟩, ?_, fun x hx => ?_, ?_, ?_⟩
    · rcases g.len with e | e
      · rw [e]; decide
      · omega
    · have := hv x hx
      omega
    · rw [g.hits]; decide
    · rw [g.hits]; simp
  · have g := (may4 k).1 h
    have hl := mayH_num _ _ g.go
    have hs := g.sum
    have hx := hp.exact_ k
    refine ⟨⟨h0, h1⟩, ⟨by rw [g.level]; omega, by rw [g.level]; omega⟩, ?_, ?_, by omega, fun x hx => ?_⟩
    · rw [g.sums]; decide
    · rw [g.sums]; simp
    · have := mayH_mem _ _ g.go x hx
      omega
def cellOf (p : Pol) (v : List Int) : Cell := (v.getD 0 0, v.getD 1 0, (if p.1 = 3 then (List.range (min (max p.2.2.2 0) 16).toNat).map (fun i => v.getD (2 + i) 0) else []), (List.range (min (v.getD 18 0) 16).toNat).map fun i => (v.getD (19 + 2 * i) 0, v.getD (20 + 2 * i) 0))
def unpackC (p : Pol) (w : List Int) : Cell × Bool := if w.length = 19 ∧ mayC p (cellOf p (flds widthsL (numOf w))) = true ∧ wordsOf 19 (packC (cellOf p (flds widthsL (numOf w)))) = w then (cellOf p (flds widthsL (numOf w)), true) else ((0, 0, [], []), false)
/-- A cell as it is unpacked: a ring's sums are all there. -/
def norm (p : Pol) (c : Cell) : Cell := (c.1, c.2.1, (if p.1 = 3 then (List.range p.2.2.2.toNat).map (fun i => c.2.2.1.getD i 0) else []), c.2.2.2)
theorem cellOf_vals {p : Pol} {c : Cell} (h : mayC p c = true) : cellOf p (vals c) = norm p c := by
  have hk := may_packs h
  obtain ⟨hp, _⟩ := may_pol h
  have hh : (List.range (min ((vals c).getD 18 0) 16).toNat).map (fun i => ((vals c).getD (19 + 2 * i) 0, (vals c).getD (20 + 2 * i) 0)) = c.2.2.2 := by
    rw [vals_n hk]
    have hl := hk.hlen
    rw [show (min (c.2.2.2.length : Int) 16).toNat = c.2.2.2.length by omega]
    apply List.ext_getElem (by simp)
    intro i h1 h2
    have hv := vals_hits hk (i := i) (by omega)
    rw [List.getElem_map, List.getElem_range, hv.1, hv.2, List.getD_eq_getElem?_getD, List.getElem?_eq_getElem h2]
    rfl
  suffices hs : (if p.1 = 3 then (List.range (min (max p.2.2.2 0) 16).toNat).map (fun i => (vals c).getD (2 + i) 0) else []) = if p.1 = 3 then (List.range p.2.2.2.toNat).map (fun i => c.2.2.1.getD i 0) else [] by
    unfold cellOf norm
    rw [hh, hs]; rfl
  by_cases k : p.1 = 3
  · rw [if_pos k, if_pos k]
    have hB := ring_B hp k
    rw [show (min (max p.2.2.2 0) 16).toNat = p.2.2.2.toNat by omega]
    refine List.map_congr_left fun i hi => ?_
    rw [vals_sums hk (by have := List.mem_range.1 hi; omega)]
  · rw [if_neg k, if_neg k]
theorem norm_eq {p : Pol} {c : Cell} (h : mayC p c = true) : norm p c = c ∨ (p.1 = 3 ∧ c.2.2.1 = [] ∧ norm p c = (c.1, c.2.1, List.replicate p.2.2.2.toNat 0, c.2.2.2)) := by
  obtain ⟨hp, _⟩ := may_pol h
  obtain ⟨a, l, s, hs⟩ := c
  rcases kind_of hp with k | k | k | k
  · have g := ((may1 k).1 h).2.2.2.2.1
    simp only [] at g
    left; unfold norm; rw [if_neg (by omega), g]
  · have g := ((may2 k).1 h).2.2.2.2.1
    simp only [] at g
    left; unfold norm; rw [if_neg (by omega), g]
  · have g := ((may3 k).1 h).len
    simp only [] at g
    unfold norm
    rw [if_pos k]
    rcases g with e | e
    · right
      refine ⟨k, e, ?_⟩
      simp only [e]
      congr 3
      apply List.ext_getElem (by simp)
      intro i h1 h2
      simp
    · left
      simp only []
      rw [show p.2.2.2.toNat = s.length by omega, ← list_range s]
  · have g := ((may4 k).1 h).sums
    simp only [] at g
    left; unfold norm; rw [if_neg (by omega), g]
theorem norm_vals {p : Pol} {c : Cell} (h : mayC p c = true) : vals (norm p c) = vals c := by
  obtain ⟨hp, _⟩ := may_pol h
  rcases norm_eq h with e | ⟨k, e, e2⟩
  · rw [e]
  · rw [e2]
    have hB := ring_B hp k
    unfold vals
    simp only [e]
    congr 4
    unfold padS
    rw [List.length_replicate, List.replicate_append_replicate, List.length_nil, List.nil_append]
    congr 1
    omega
theorem norm_may {p : Pol} {c : Cell} (h : mayC p c = true) : mayC p (norm p c) = true := by
  obtain ⟨hp, h0, h1⟩ := may_pol h
  rcases norm_eq h with e | ⟨k, e, e2⟩
  · rw [e]; exact h
  · rw [e2]
    have g := (may3 k).1 h
    have hB := ring_B hp k
    have hL := hp.limit
    refine (may3 k).2 ⟨hp, g.time, g.level, g.hits, .inr ?_, ?_, ?_, fun j _ => ?_⟩
    · simp only [List.length_replicate]; omega
    · intro x hx
      rw [List.eq_of_mem_replicate hx]
      omega
    · simp; omega
    · simp [List.getD_eq_getElem?_getD, List.getElem?_replicate]
      split <;> rfl
theorem norm_moved {p : Pol} {c : Cell} (h : mayC p c = true) (t : Int) : moved p (norm p c) t = moved p c t ∧ cnt p (norm p c) t = cnt p c t := by
  rcases norm_eq h with e | ⟨k, e, e2⟩
  · rw [e]; exact ⟨rfl, rfl⟩
  · have ea : atR p (norm p c) t = atR p c t := by
      unfold atR
      refine List.map_congr_left fun j hj => ?_
      rw [e2]
      simp only [e]
      congr 1
      simp [List.getD_eq_getElem?_getD, List.getElem?_replicate]
      split <;> rfl
    unfold moved cnt
    simp only [if_neg (show ¬ p.1 = 1 by omega), if_neg (show ¬ p.1 = 2 by omega), if_neg (show ¬ (p.1 = 1 ∨ p.1 = 2) by omega), if_pos k, ea]
    exact ⟨trivial, trivial⟩
theorem norm_ask {p : Pol} {c : Cell} (h : mayC p c = true) (t w : Int) : (askC p (norm p c) t w).2 = (askC p c t w).2 := by
  unfold askC
  rw [norm_may h, h, show (norm p c).1 = c.1 from rfl, (norm_moved h _).1]
  split <;> first | rfl | (split <;> rfl)
theorem norm_ends {p : Pol} {c : Cell} (h : mayC p c = true) : endsC p (norm p c) = endsC p c := by
  unfold endsC
  rw [norm_may h, h, show (norm p c).1 = c.1 from rfl, (norm_moved h _).1]
theorem widths_nonneg : ∀ w ∈ widthsL, 0 ≤ w ∧ w ≤ 64 := by decide
theorem widths_sum : widthsL.sum = 1216 := by decide
set_option exponentiation.threshold 2000 in
theorem pack_lt {c : Cell} (h : Packs c) : packC c < 2 ^ (64 * 19) := by
  have := packN_lt (vals_fit h) widthsL.length (Nat.le_refl _)
  rw [List.take_length, (vals_fit h).1, List.take_length, widths_sum] at this
  exact this
theorem unpack_pack {p : Pol} {c : Cell} (h : mayC p c = true) : unpackC p (wordsOf 19 (packC c)) = (norm p c, true) := by
  have hk := may_packs h
  have e : flds widthsL (numOf (wordsOf 19 (packC c))) = vals c := by
    rw [num_words (pack_lt hk)]
    exact flds_pack (vals_fit hk)
  unfold unpackC
  rw [e, cellOf_vals h, if_pos]
  refine ⟨words_len _ _, norm_may h, ?_⟩
  unfold packC
  rw [norm_vals h]
theorem unpack_back {p : Pol} {w : List Int} (h : (unpackC p w).2 = true) : mayC p (unpackC p w).1 = true ∧ wordsOf 19 (packC (unpackC p w).1) = w := by
  unfold unpackC at h ⊢
  split at h
  · rename_i hh
    rw [if_pos hh]
    exact hh.2
  · exact absurd h (by decide)
end Go.Proofs.YtkcifdblaboodaaGreat.Ce
set_option linter.unusedVariables false
set_option linter.unusedSimpArgs false
namespace Go.Proofs.YtkcifdblaboodaaGreat.Ce
open Go Go.RowKit Fw Hi Po Bt
theorem cpackM_no (p : Pol) (c : Cell) (hc : -9223372036854775808 ≤ c.2.1 ∧ c.2.1 ≤ 9223372036854775807) (h : mayC p c = false) : Meets Tryz.prog 16 [polAV p, cellAV c] [] (Y := Unit) (fun _ => True) (fun _ => .tup [.snil, .ff]) (fun _ => []) := by
  have MM := cmayM p c hc
  rw [h] at MM
  refine Meets.intro hm (fn := Tryz.f16) Tryz.func16 rfl (by decide) (Nat.le_of_ble_eq_true rfl) (fun _ => rfl) ?_; intro S hok; (conv => whnf)
  (repeat' ((conv => whnf); first | apply And.intro | exact ⟨by kernel_rfl⟩ | apply DrawN.mk | apply CodeN.step hm rfl | exact trivial | exact rfl | (intro hh; try simp only [bs] at hh))); all_goals (conv => whnf)
  (refine CallN.q MM [] (fun _ _ => ?_); (repeat' ((conv => whnf); first | apply And.intro | exact ⟨by kernel_rfl⟩ | apply DrawN.mk | apply CodeN.step hm rfl | exact trivial | exact rfl | (intro hh; try simp only [bs] at hh; try exact absurd hh (by decide)))); all_goals (conv => whnf); all_goals try exact ⟨by decide⟩)
  (refine RetN.q () [] ?_ ?_ ?_ <;> (repeat' ((conv => whnf) <;> first | exact rfl | exact trivial | apply And.intro | exact Nat.zero_add _)); all_goals ((conv => whnf); try simp only []))
theorem vals_last {c : Cell} (h : Packs c) : (vals c).getD 51 0 = 0 := by
  have hl := padS_len h.slen
  have hl2 := padH_len h.hlen
  have hl3 := hitsV_len (padH c.2.2.2)
  have el : ([c.1, c.2.1] ++ padS c.2.2.1 ++ [(c.2.2.2.length : Int)] ++ hitsV (padH c.2.2.2)).length = 51 := by simp; omega
  show ([c.1, c.2.1] ++ padS c.2.2.1 ++ [(c.2.2.2.length : Int)] ++ hitsV (padH c.2.2.2) ++ [0]).getD 51 0 = 0
  rw [getD_app, if_neg (by omega), el]; rfl
theorem widths_len : widthsL.length = 52 := by decide
theorem cpackM (p : Pol) (c : Cell) (h : mayC p c = true) : Meets Tryz.prog 16 [polAV p, cellAV c] [] (Y := Unit) (fun _ => True) (fun _ => .tup [.lst (.int .u64) fun _ => wordsOf 19 (packC c), .tt]) (fun _ => []) := by
  have MM := cmayM p c (may_level h)
  rw [h] at MM
  have hk := may_packs h
  refine Meets.intro hm (fn := Tryz.f16) Tryz.func16 rfl (by decide) (Nat.le_of_ble_eq_true rfl) (fun _ => rfl) ?_; intro S hok; (conv => whnf)
  (repeat' ((conv => whnf); first | apply And.intro | exact ⟨by kernel_rfl⟩ | apply DrawN.mk | apply CodeN.step hm rfl | exact trivial | exact rfl | (intro hh; try simp only [bs] at hh))); all_goals (conv => whnf)
  (refine CallN.q MM [] (fun _ _ => ?_); (repeat' ((conv => whnf); first | apply And.intro | exact ⟨by kernel_rfl⟩ | apply DrawN.mk | apply CodeN.step hm rfl | exact trivial | exact rfl | (intro hh; try simp only [bs] at hh; try exact absurd hh (by decide)))); all_goals (conv => whnf); all_goals try exact ⟨by decide⟩)
  (refine CallN.q widthsM [] (fun _ _ => ?_); (repeat' ((conv => whnf); first | apply And.intro | exact ⟨by kernel_rfl⟩ | apply DrawN.mk | apply CodeN.step hm rfl | exact trivial | exact rfl | (intro hh; try simp only [bs] at hh; try exact absurd hh (by decide)))); all_goals (conv => whnf); all_goals try exact ⟨by decide⟩)
  have hat := hk.at_
  have hlv := hk.level
  have eu1 : IntKind.u64.wrap c.1 = c.1 := by rw [IntKind.wrap_u64]; omega
  have eu2 : IntKind.u64.wrap c.2.1 = c.2.1 := by rw [IntKind.wrap_u64]; omega
  have hsl := hk.slen
  have hhl := hk.hlen
  refine LoopN.intro hm (X := Nat × List Int) (fun x => x.1 ≤ c.2.2.1.length ∧ x.2.length = 52 ∧ ∀ j, x.2.getD j 0 = if j < 2 + x.1 then (vals c).getD j 0 else 0) (fun x => c.2.2.1.length - x.1)
    (fun x => [(36, .int .i64 fun _ => (x.1 : Int)), (35, .int .i64 fun _ => (c.2.2.1.length : Int)), (34, .lst (.int .i64) fun _ => c.2.2.1), (8, .vec 1 1 (fun _ => 2) fun _ => 50), (7, .vec 1 1 (fun _ => 0) fun _ => 52), (6, .lst (.int .i64) fun _ => widthsL), (3, .ptr 0 0)])
    (fun x => [.cells 27 [.int .i64 fun _ => c.1, .int .i64 fun _ => c.2.1, .lst (.int .i64) fun _ => c.2.2.1, .lst HitT fun _ => c.2.2.2], .vect 47 (.int .u64) fun _ => x.2]) (0, c.1 :: c.2.1 :: List.replicate 50 0) [1, 2] ⟨rfl, rfl, ?_, ?_⟩ ⟨Nat.zero_le _, rfl, fun j => ?_⟩ (fun x hx => ?_)
  · (repeat' ((conv => whnf) <;> first | exact rfl | exact trivial | apply And.intro | exact Nat.zero_add _)); all_goals ((conv => whnf); try simp only [])
    rw [eu1, eu2]; rfl
  · (repeat' ((conv => whnf) <;> first | exact rfl | exact trivial | apply And.intro | exact Nat.zero_add _)); all_goals ((conv => whnf); try simp only [])
  · match j with
    | 0 => rfl
    | 1 => rfl
    | j + 2 =>
      rw [if_neg (by simp), List.getD_cons_succ, List.getD_cons_succ, List.getD_eq_getElem?_getD, List.getElem?_replicate]
      split <;> rfl
  obtain ⟨i, V⟩ := x
  obtain ⟨hi, hVl, hV⟩ := hx
  simp only [] at hi hVl hV
  have hsv := fun hi2 : i < c.2.2.1.length => hk.sums (c.2.2.1.getD i 0) (by rw [List.getD_eq_getElem?_getD, List.getElem?_eq_getElem hi2]; exact List.getElem_mem hi2)
  have en : IntKind.u64.wrap (c.2.2.2.length : Int) = (c.2.2.2.length : Int) := by rw [IntKind.wrap_u64]; omega
  (repeat' ((conv => whnf); first | apply And.intro | exact ⟨by kernel_rfl⟩ | apply DrawN.mk | apply CodeN.step hm rfl | exact trivial | exact rfl | (intro hh; try simp only [bs] at hh))); all_goals (conv => whnf)
  · refine Ob.mk ?_
    simp only []; omega
  · refine Ob.mk ?_
    simp only []; omega
  · have hi2 : i < c.2.2.1.length := by omega
    have es : IntKind.u64.wrap (c.2.2.1.getD i 0) = c.2.2.1.getD i 0 := by have := hsv hi2; rw [IntKind.wrap_u64]; omega
    refine ⟨(i + 1, V.set (2 + i) (c.2.2.1.getD i 0)), [0, 1], ⟨rfl, rfl, ?_, ?_⟩, ⟨hi2, by rw [List.length_set]; exact hVl, fun j => ?_⟩, Nat.sub_lt_sub_left hi2 (Nat.lt_succ_self _)⟩
    · (repeat' ((conv => whnf) <;> first | exact rfl | exact trivial | apply And.intro | exact Nat.zero_add _)); all_goals ((conv => whnf); try simp only [])
      exact congrArg _ es
    · (repeat' ((conv => whnf) <;> first | exact rfl | exact trivial | apply And.intro | exact Nat.zero_add _)); all_goals ((conv => whnf); try simp only [])
      exact wr (by omega)
    · show (V.set (2 + i) (c.2.2.1.getD i 0)).getD j 0 = if j < 2 + (i + 1) then (vals c).getD j 0 else 0
      rw [getD_set, hV]
      by_cases hj : 2 + i = j
      · rw [if_pos ⟨hj, by omega⟩, if_pos (by omega), ← hj, vals_sums hk (by omega)]
      · rw [if_neg (by omega)]
        by_cases hj2 : j < 2 + i
        · rw [if_pos hj2, if_pos (by omega)]
        · rw [if_neg hj2, if_neg (by omega)]
  · exact Ob.mk (by decide)
  · exact Ob.mk (by decide)
  have hie : i = c.2.2.1.length := by omega
  subst hie
  refine LoopN.intro hm (X := Nat × List Int) (fun x => x.1 ≤ c.2.2.2.length ∧ x.2.length = 52 ∧ ∀ j, x.2.getD j 0 = if j < 19 + 2 * x.1 then (vals c).getD j 0 else 0) (fun x => c.2.2.2.length - x.1)
    (fun x => [(58, .int .i64 fun _ => (x.1 : Int)), (57, .int .i64 fun _ => (c.2.2.2.length : Int)), (56, .lst HitT fun _ => c.2.2.2), (8, .vec 0 1 (fun _ => 18) fun _ => 34), (7, .vec 0 1 (fun _ => 0) fun _ => 52), (6, .lst (.int .i64) fun _ => widthsL)])
    (fun x => [.vect 47 (.int .u64) fun _ => x.2]) (0, V.set 18 (c.2.2.2.length : Int)) [1] ⟨rfl, rfl, ?_, ?_⟩ ⟨Nat.zero_le _, by rw [List.length_set]; exact hVl, fun j => ?_⟩ (fun x hx => ?_)
  · (repeat' ((conv => whnf) <;> first | exact rfl | exact trivial | apply And.intro | exact Nat.zero_add _)); all_goals ((conv => whnf); try simp only [])
    exact congrArg _ en
  · (repeat' ((conv => whnf) <;> first | exact rfl | exact trivial | apply And.intro | exact Nat.zero_add _)); all_goals ((conv => whnf); try simp only [])
  · show (V.set 18 (c.2.2.2.length : Int)).getD j 0 = if j < 19 + 2 * 0 then (vals c).getD j 0 else 0
    rw [getD_set, hV]
    by_cases hj : 18 = j
    · rw [if_pos ⟨hj, by omega⟩, if_pos (by omega), ← hj, vals_n hk]
    · rw [if_neg (by omega)]
      by_cases hj2 : j < 2 + c.2.2.1.length
      · rw [if_pos hj2, if_pos (by omega)]
      · rw [if_neg hj2]
        by_cases hj3 : j < 19
        · have := vals_sums hk (i := j - 2) (by omega)
          rw [show 2 + (j - 2) = j by omega, List.getD_eq_getElem?_getD (l := c.2.2.1), List.getElem?_eq_none (by omega)] at this
          rw [if_pos (by omega), this]; rfl
        · rw [if_neg (by omega)]
  clear hVl hV V
  obtain ⟨i, V⟩ := x
  obtain ⟨hi, hVl, hV⟩ := hx
  simp only [] at hi hVl hV
  have hsv := fun hi2 : i < c.2.2.2.length => hk.hits (c.2.2.2.getD i (0, 0)) (by rw [List.getD_eq_getElem?_getD, List.getElem?_eq_getElem hi2]; exact List.getElem_mem hi2)
  have w2 : IntKind.i64.wrap (2 * (i : Int)) = 2 * i := wr (by omega)
  have w3 : IntKind.i64.wrap (1 + 2 * (i : Int)) = 1 + 2 * i := wr (by omega)
  have w4 : IntKind.i64.wrap (2 + 2 * (i : Int)) = 2 + 2 * i := wr (by omega)
  have M := packM widthsL (vals c) (vals_fit hk) (by decide)
  rw [show (widthsL.sum.toNat + 63) / 64 = 19 by decide] at M
  (repeat' ((conv => whnf); first | apply And.intro | exact ⟨by kernel_rfl⟩ | apply DrawN.mk | apply CodeN.step hm rfl | exact trivial | exact rfl | (intro hh; try simp only [bs] at hh))); all_goals (conv => whnf)
  · refine Ob.mk ?_
    simp only []; omega
  · refine Ob.mk ?_
    simp only [w2, w3]; omega
  · refine Ob.mk ?_
    simp only [w2, w4]; omega
  · have hi2 : i < c.2.2.2.length := by omega
    have hb := hsv hi2
    have hv := vals_hits hk (i := i) (by omega)
    have es1 : IntKind.u64.wrap (c.2.2.2.getD (i : Int).toNat HitT.dflt).1 = (c.2.2.2.getD i (0, 0)).1 := by
      show IntKind.u64.wrap (c.2.2.2.getD i (0, 0)).1 = _
      rw [IntKind.wrap_u64]; omega
    have es2 : IntKind.u64.wrap (c.2.2.2.getD (i : Int).toNat HitT.dflt).2 = (c.2.2.2.getD i (0, 0)).2 := by
      show IntKind.u64.wrap (c.2.2.2.getD i (0, 0)).2 = _
      rw [IntKind.wrap_u64]; omega
    have i1 : 18 + (1 + 2 * (i : Int)).toNat = 19 + 2 * i := by omega
    have i2 : 18 + (2 + 2 * (i : Int)).toNat = 20 + 2 * i := by omega
    refine ⟨(i + 1, (V.set (19 + 2 * i) (c.2.2.2.getD i (0, 0)).1).set (20 + 2 * i) (c.2.2.2.getD i (0, 0)).2), [0], ⟨rfl, rfl, ?_, ?_⟩, ⟨hi2, by rw [List.length_set, List.length_set]; exact hVl, fun j => ?_⟩, Nat.sub_lt_sub_left hi2 (Nat.lt_succ_self _)⟩
    · (repeat' ((conv => whnf) <;> first | exact rfl | exact trivial | apply And.intro | exact Nat.zero_add _)); all_goals ((conv => whnf); try simp only [])
      simp only [w2, w3, w4, es1, es2, i1, i2]
    · (repeat' ((conv => whnf) <;> first | exact rfl | exact trivial | apply And.intro | exact Nat.zero_add _)); all_goals ((conv => whnf); try simp only [])
      exact wr (by omega)
    · show ((V.set (19 + 2 * i) (c.2.2.2.getD i (0, 0)).1).set (20 + 2 * i) (c.2.2.2.getD i (0, 0)).2).getD j 0 = if j < 19 + 2 * (i + 1) then (vals c).getD j 0 else 0
      rw [getD_set, getD_set, hV, List.length_set]
      by_cases hj : 20 + 2 * i = j
      · rw [if_pos ⟨hj, by omega⟩, if_pos (by omega), ← hj, hv.2]
      · rw [if_neg (by omega)]
        by_cases hj1 : 19 + 2 * i = j
        · rw [if_pos ⟨hj1, by omega⟩, if_pos (by omega), ← hj1, hv.1]
        · rw [if_neg (by omega)]
          by_cases hj2 : j < 19 + 2 * i
          · rw [if_pos hj2, if_pos (by omega)]
          · rw [if_neg hj2, if_neg (by omega)]
  · have hie : i = c.2.2.2.length := by omega
    have hVe : V = vals c := getD_ext (by rw [hVl, vals_len hk]) fun j hj => by
      rw [hV]
      split
      · rfl
      · rename_i hj2
        by_cases hj3 : j < 51
        · by_cases ho : j % 2 = 1
          · have := (vals_hits hk (i := (j - 19) / 2) (by omega)).1
            rw [show 19 + 2 * ((j - 19) / 2) = j by omega, List.getD_eq_getElem?_getD (l := c.2.2.2), List.getElem?_eq_none (by omega)] at this
            rw [this]; rfl
          · have := (vals_hits hk (i := (j - 20) / 2) (by omega)).2
            rw [show 20 + 2 * ((j - 20) / 2) = j by omega, List.getD_eq_getElem?_getD (l := c.2.2.2), List.getElem?_eq_none (by omega)] at this
            rw [this]; rfl
        · rw [show j = 51 by omega, vals_last hk]
    rw [hVe]
    refine CallN.frz 0 ?_ M.callable
    (conv => whnf)
    have ev : List.take 52 (List.drop 0 (vals c)) = vals c := by
      rw [List.drop_zero]; exact List.take_of_length_le (by rw [vals_len hk]; decide)
    simp only [ev]
    (refine CallN.q M [] (fun _ _ => ?_); (repeat' ((conv => whnf); first | apply And.intro | exact ⟨by kernel_rfl⟩ | apply DrawN.mk | apply CodeN.step hm rfl | exact trivial | exact rfl | (intro hh; try simp only [bs] at hh; try exact absurd hh (by decide)))); all_goals (conv => whnf); all_goals try exact ⟨by decide⟩)
    (refine RetN.q () [] ?_ ?_ ?_ <;> (repeat' ((conv => whnf) <;> first | exact rfl | exact trivial | apply And.intro | exact Nat.zero_add _)); all_goals ((conv => whnf); try simp only []))
def sumsO (d : List Int) (k : Nat) : List Int := (List.range k).map fun i => d.getD (2 + i) 0
def hitsO (d : List Int) (k : Nat) : List Hit := (List.range k).map fun i => (d.getD (19 + 2 * i) 0, d.getD (20 + 2 * i) 0)
theorem sumsO_succ (d : List Int) (k : Nat) : sumsO d (k + 1) = sumsO d k ++ [d.getD (2 + k) 0] := by simp [sumsO, List.range_succ]
theorem hitsO_succ (d : List Int) (k : Nat) : hitsO d (k + 1) = hitsO d k ++ [(d.getD (19 + 2 * k) 0, d.getD (20 + 2 * k) 0)] := by simp [hitsO, List.range_succ]
theorem sumsO_len (d : List Int) (k : Nat) : (sumsO d k).length = k := by simp [sumsO]
theorem hitsO_len (d : List Int) (k : Nat) : (hitsO d k).length = k := by simp [hitsO]
theorem take_step {a b : List Int} {i : Nat} (h1 : i < a.length) (h2 : i < b.length) (h : a.take i = b.take i) (hx : a.getD i 0 = b.getD i 0) : a.take (i + 1) = b.take (i + 1) := by
  rw [List.getD_eq_getElem?_getD, List.getD_eq_getElem?_getD, List.getElem?_eq_getElem h1, List.getElem?_eq_getElem h2] at hx
  rw [List.take_add_one, List.take_add_one, h, List.getElem?_eq_getElem h1, List.getElem?_eq_getElem h2]
  simp only [Option.getD_some] at hx
  rw [hx]
theorem cequalM (a b : List Int) (ha : a.length ≤ 1000) (hb : b.length ≤ 1000) : Meets Tryz.prog 39 [.lst (.int .u64) fun _ => a, .lst (.int .u64) fun _ => b] [] (Y := Unit) (fun _ => True) (fun _ => .bool fun _ => decide (a = b)) (fun _ => []) := by
  refine Meets.intro hm (fn := Tryz.f39) Tryz.func39 rfl (by decide) (Nat.le_of_ble_eq_true rfl) (fun _ => rfl) ?_; intro S hok; (conv => whnf)
  (repeat' ((conv => whnf); first | apply And.intro | exact ⟨by kernel_rfl⟩ | apply DrawN.mk | apply CodeN.step hm rfl | exact trivial | exact rfl | (intro hh; try simp only [bs] at hh))); all_goals (conv => whnf)
  · (refine RetN.q () [] ?_ ?_ ?_ <;> (repeat' ((conv => whnf) <;> first | exact rfl | exact trivial | apply And.intro | exact Nat.zero_add _)); all_goals ((conv => whnf); try simp only []))
    refine decide_eq_false ?_; intro e
    exact hh (by rw [e])
  · have hl : a.length = b.length := by omega
    refine LoopN.intro hm (X := Nat) (fun i => i ≤ a.length ∧ a.take i = b.take i) (fun i => a.length - i)
      (fun i => [(13, .int .i64 fun _ => (i : Int)), (12, .int .i64 fun _ => (a.length : Int)), (11, .lst (.int .u64) fun _ => a), (0, .lst (.int .u64) fun _ => a), (1, .lst (.int .u64) fun _ => b)]) (fun _ => []) 0 [] ⟨rfl, rfl, ?_, ?_⟩ ⟨Nat.zero_le _, rfl⟩ (fun i hi => ?_)
    · (repeat' ((conv => whnf) <;> first | exact rfl | exact trivial | apply And.intro | exact Nat.zero_add _))
    · (repeat' ((conv => whnf) <;> first | exact rfl | exact trivial | apply And.intro | exact Nat.zero_add _))
    obtain ⟨hi1, hi2⟩ := hi
    (repeat' ((conv => whnf); first | apply And.intro | exact ⟨by kernel_rfl⟩ | apply DrawN.mk | apply CodeN.step hm rfl | exact trivial | exact rfl | (intro hh; try simp only [bs] at hh))); all_goals (conv => whnf)
    · exact Ob.mk (by simp only []; omega)
    · exact Ob.mk (by simp only []; omega)
    · have hx : ¬ a.getD i 0 = b.getD i 0 := hh
      (refine RetN.q () [] ?_ ?_ ?_ <;> (repeat' ((conv => whnf) <;> first | exact rfl | exact trivial | apply And.intro | exact Nat.zero_add _)); all_goals ((conv => whnf); try simp only []))
      refine decide_eq_false ?_; intro e
      exact hx (by rw [e])
    · have hx : a.getD i 0 = b.getD i 0 := hh
      refine ⟨i + 1, [], ⟨rfl, rfl, ?_, ?_⟩, ⟨by omega, take_step (by omega) (by omega) hi2 hx⟩, by omega⟩
      · (repeat' ((conv => whnf) <;> first | exact rfl | exact trivial | apply And.intro | exact Nat.zero_add _))
      · (repeat' ((conv => whnf) <;> first | exact rfl | exact trivial | apply And.intro | exact Nat.zero_add _)); all_goals ((conv => whnf); try simp only [])
        exact wr (by omega)
    · have e : i = a.length := by omega
      (refine RetN.q () [] ?_ ?_ ?_ <;> (repeat' ((conv => whnf) <;> first | exact rfl | exact trivial | apply And.intro | exact Nat.zero_add _)); all_goals ((conv => whnf); try simp only []))
      refine decide_eq_true ?_
      rw [e, List.take_length, hl, List.take_length] at hi2
      exact hi2
theorem cunpackM (p : Pol) (w : List Int) (hw : Wd w) (hl : w.length ≤ 1000) : Meets Tryz.prog 18 [polAV p, .lst (.int .u64) fun _ => w] [] (Y := Unit) (fun _ => True) (fun _ => .tup [cellAV (unpackC p w).1, .bool fun _ => (unpackC p w).2]) (fun _ => []) := by
  by_cases h19 : w.length = 19
  rotate_left
  · have MN := unpackM_no widthsL w 19 widths_nonneg (by decide) (by decide) h19 hl
    have eU : unpackC p w = ((0, 0, [], []), false) := if_neg fun h => h19 h.1
    rw [eU]
    refine Meets.intro hm (fn := Tryz.f18) Tryz.func18 rfl (by decide) (Nat.le_of_ble_eq_true rfl) (fun _ => rfl) ?_; intro S hok; (conv => whnf)
    (repeat' ((conv => whnf); first | apply And.intro | exact ⟨by kernel_rfl⟩ | apply DrawN.mk | apply CodeN.step hm rfl | exact trivial | exact rfl | (intro hh; try simp only [bs] at hh))); all_goals (conv => whnf)
    (refine CallN.q widthsM [] (fun _ _ => ?_); (repeat' ((conv => whnf); first | apply And.intro | exact ⟨by kernel_rfl⟩ | apply DrawN.mk | apply CodeN.step hm rfl | exact trivial | exact rfl | (intro hh; try simp only [bs] at hh; try exact absurd hh (by decide)))); all_goals (conv => whnf); all_goals try exact ⟨by decide⟩)
    (refine CallN.q MN [] (fun _ _ => ?_); (repeat' ((conv => whnf); first | apply And.intro | exact ⟨by kernel_rfl⟩ | apply DrawN.mk | apply CodeN.step hm rfl | exact trivial | exact rfl | (intro hh; try simp only [bs] at hh; try exact absurd hh (by decide)))); all_goals (conv => whnf); all_goals try exact ⟨by decide⟩)
    (refine RetN.q () [] ?_ ?_ ?_ <;> (repeat' ((conv => whnf) <;> first | exact rfl | exact trivial | apply And.intro | exact Nat.zero_add _)); all_goals ((conv => whnf); try simp only []))
  · have MN := unpackM widthsL w 19 widths_nonneg (by decide) (by decide) (by decide) hw h19
    have hdl : (flds widthsL (numOf w)).length = 52 := by rw [flds_len]; decide
    have hfit := fit_flds (N := numOf w) widths_nonneg
    have hU : unpackC p w = if mayC p (cellOf p (flds widthsL (numOf w))) = true ∧ wordsOf 19 (packC (cellOf p (flds widthsL (numOf w)))) = w then (cellOf p (flds widthsL (numOf w)), true) else ((0, 0, [], []), false) := by
      unfold unpackC
      simp only [h19, true_and]
    generalize flds widthsL (numOf w) = d at *
    have h2 : List.drop (2 : Int).toNat (List.take (d.length : Int).toNat d) = d.drop 2 := by
      rw [Int.toNat_natCast, List.take_length]; rfl
    have hdb : ∀ i, 0 ≤ d.getD i 0 ∧ d.getD i 0 < 144115188075855872 := fun i => by
      by_cases hi : i < 52
      · have h1 := hfit.2.2 i (by rw [widths_len]; exact hi)
        have h2 : widthsL.getD i 0 ≤ 57 := by
          have : ∀ x ∈ widthsL, x ≤ 57 := by decide
          exact this _ (by rw [List.getD_eq_getElem?_getD, List.getElem?_eq_getElem (by rw [widths_len]; exact hi)]; exact List.getElem_mem _)
        have h3 : 2 ^ (widthsL.getD i 0).toNat ≤ 2 ^ 57 := Nat.pow_le_pow_right (by decide) (by omega)
        omega
      · rw [List.getD_eq_getElem?_getD, List.getElem?_eq_none (by omega)]; decide
    have hwrap : ∀ i, IntKind.i64.wrap (d.getD i 0) = d.getD i 0 := fun i => wr (by have := hdb i; omega)
    have g0 : IntKind.i64.wrap (d.getD (0 : Int).toNat (Ty.int .u64).dflt) = d.getD 0 0 := hwrap 0
    have g1 : IntKind.i64.wrap (d.getD (1 : Int).toNat (Ty.int .u64).dflt) = d.getD 1 0 := hwrap 1
    have h3 : List.drop (16 : Int).toNat (List.take ((d.drop 2).length : Int).toNat (d.drop 2)) = d.drop 18 := by
      rw [Int.toNat_natCast, List.take_length, List.drop_drop]; rfl
    have e18 : (d.drop 18).getD (0 : Int).toNat (Ty.int .u64).dflt = d.getD 18 0 := by
      show (d.drop 18).getD 0 0 = _
      rw [List.getD_eq_getElem?_getD, List.getElem?_drop, ← List.getD_eq_getElem?_getD]
    refine Meets.intro hm (fn := Tryz.f18) Tryz.func18 rfl (by decide) (Nat.le_of_ble_eq_true rfl) (fun _ => rfl) ?_; intro S hok; (conv => whnf)
    (repeat' ((conv => whnf); first | apply And.intro | exact ⟨by kernel_rfl⟩ | apply DrawN.mk | apply CodeN.step hm rfl | exact trivial | exact rfl | (intro hh; try simp only [bs] at hh))); all_goals (conv => whnf)
    (refine CallN.q widthsM [] (fun _ _ => ?_); (repeat' ((conv => whnf); first | apply And.intro | exact ⟨by kernel_rfl⟩ | apply DrawN.mk | apply CodeN.step hm rfl | exact trivial | exact rfl | (intro hh; try simp only [bs] at hh; try exact absurd hh (by decide)))); all_goals (conv => whnf); all_goals try exact ⟨by decide⟩)
    (refine CallN.q MN [] (fun _ _ => ?_); (repeat' ((conv => whnf); first | apply And.intro | exact ⟨by kernel_rfl⟩ | apply DrawN.mk | apply CodeN.step hm rfl | exact trivial | exact rfl | (intro hh; try simp only [bs] at hh; try exact absurd hh (by decide)))); all_goals (conv => whnf); all_goals try exact ⟨by decide⟩)
    all_goals (try simp only [h2, h3, e18, hwrap, g0, g1])
    all_goals first | (refine Ob.mk ?_; (try simp only [List.length_drop]); (try split) <;> (try split) <;> omega) | (refine Ob.mk ?_; simp only []; omega) | skip
    · have k : p.1 = 3 := by assumption
      generalize hn1 : (min (max p.2.2.2 0) 16).toNat = n1
      have e43 : (if 16 < (if 0 > p.2.2.2 then 0 else p.2.2.2) then 16 else (if 0 > p.2.2.2 then 0 else p.2.2.2)) = (n1 : Int) := by
        rw [← hn1]
        split <;> (try split) <;> omega
      have hd2 : List.drop (0 : Int).toNat (List.take (n1 : Int).toNat (d.drop 2)) = (d.drop 2).take n1 := by
        rw [Int.toNat_natCast]; rfl
      have hln : ((d.drop 2).take n1).length = n1 := by rw [List.length_take, List.length_drop]; omega
      simp only [e43, hd2, hln]
      refine LoopN.intro hm (X := Nat) (fun i => i ≤ n1) (fun i => n1 - i)
        (fun i => [(45, .int .i64 fun _ => (i : Int)), (44, .int .i64 fun _ => (n1 : Int)), (43, .lst (.int .u64) fun _ => (d.drop 2).take n1), (9, .lst (.int .u64) fun _ => d.drop 2), (8, .ptr 2 0), (4, .ptr 1 0), (2, .ptr 0 0), (1, .lst (.int .u64) fun _ => w)])
        (fun i => match i with
          | 0 => [.cells 23 [.int .i64 fun _ => p.1, .int .i64 fun _ => p.2.1, .int .i64 fun _ => p.2.2.1, .int .i64 fun _ => p.2.2.2], .cells 27 [.int .i64 fun _ => 0, .int .i64 fun _ => 0, .snil, .snil], .cells 27 [.int .i64 fun _ => d.getD 0 0, .int .i64 fun _ => d.getD 1 0, .snil, .snil]]
          | k + 1 => [.cells 23 [.int .i64 fun _ => p.1, .int .i64 fun _ => p.2.1, .int .i64 fun _ => p.2.2.1, .int .i64 fun _ => p.2.2.2], .cells 27 [.int .i64 fun _ => 0, .int .i64 fun _ => 0, .snil, .snil], .cells 27 [.int .i64 fun _ => d.getD 0 0, .int .i64 fun _ => d.getD 1 0, .vec 3 1 (fun _ => 0) fun _ => k + 1, .snil], .vect 3 (.int .i64) fun _ => sumsO d (k + 1)]) 0 [0, 1, 2] ⟨rfl, rfl, ?_, ?_⟩ (Nat.zero_le _) (fun i hi => ?_)
      · (repeat' ((conv => whnf) <;> first | exact rfl | exact trivial | apply And.intro | exact Nat.zero_add _))
      · (repeat' ((conv => whnf) <;> first | exact rfl | exact trivial | apply And.intro | exact Nat.zero_add _))
      have g5 : i < n1 → ((d.drop 2).take n1).getD (i : Int).toNat (Ty.int .u64).dflt = d.getD (2 + i) 0 := fun hi2 => by
        show ((d.drop 2).take n1).getD i 0 = _
        rw [List.getD_eq_getElem?_getD, List.getElem?_take, if_pos hi2, List.getElem?_drop, ← List.getD_eq_getElem?_getD]
      have hsucc := sumsO_succ d i
      cases i with
      | zero =>
        (repeat' ((conv => whnf); first | apply And.intro | exact ⟨by kernel_rfl⟩ | apply DrawN.mk | apply CodeN.step hm rfl | exact trivial | exact rfl | (intro hh; try simp only [bs] at hh))); all_goals (conv => whnf)
        all_goals (try simp only [h2, h3, e18, hwrap, g0, g1])
        all_goals first | (refine Ob.mk ?_; (try simp only [List.length_drop, List.length_take]); omega) | (refine Ob.mk ?_; simp only []; omega) | skip
        · refine Ob.mk ?_
          show (1 : Nat) * 8 ≤ _
          decide
        · have hi2 : 0 < n1 := by omega
          have g6 := g5 hi2
          refine ⟨1, [0, 1, 2, 4], ⟨rfl, rfl, ?_, ?_⟩, hi2, by omega⟩
          · simp only [g6, hwrap]
            (repeat' ((conv => whnf) <;> first | exact rfl | exact trivial | apply And.intro | exact Nat.zero_add _))
          · (repeat' ((conv => whnf) <;> first | exact rfl | exact trivial | apply And.intro | exact Nat.zero_add _))
        have e0 : n1 = 0 := by omega
        subst e0
        generalize hn2 : (min (d.getD 18 0) 16).toNat = n2
        have h18 := hdb 18
        have e63 : (if 16 < d.getD 18 0 then 16 else d.getD 18 0) = (n2 : Int) := by split <;> omega
        simp only [e63]
        have hcell : cellOf p d = (d.getD 0 0, d.getD 1 0, [], hitsO d n2) := by
          unfold cellOf hitsO
          rw [if_pos k, hn1, hn2]
          try rfl
        rw [hcell] at hU
        have huy : mayC p (d.getD 0 0, d.getD 1 0, [], hitsO d n2) = true → wordsOf 19 (packC (d.getD 0 0, d.getD 1 0, [], hitsO d n2)) = w → unpackC p w = ((d.getD 0 0, d.getD 1 0, [], hitsO d n2), true) := fun h1 h2 => hU.trans (if_pos ⟨h1, h2⟩)
        have hun : ¬ (mayC p (d.getD 0 0, d.getD 1 0, [], hitsO d n2) = true ∧ wordsOf 19 (packC (d.getD 0 0, d.getD 1 0, [], hitsO d n2)) = w) → unpackC p w = ((0, 0, [], []), false) := fun h => hU.trans (if_neg h)
        have hlev : -9223372036854775808 ≤ d.getD 1 0 ∧ d.getD 1 0 ≤ 9223372036854775807 := by have := hdb 1; omega
        refine LoopN.intro hm (X := Nat) (fun i => i ≤ n2) (fun i => n2 - i)
          (fun i => [(64, .int .i64 fun _ => (i : Int)), (63, .int .i64 fun _ => (n2 : Int)), (9, .lst (.int .u64) fun _ => d.drop 18), (8, .ptr 2 0), (4, .ptr 1 0), (2, .ptr 0 0), (1, .lst (.int .u64) fun _ => w)])
          (fun i => match i with
            | 0 => [.cells 23 [.int .i64 fun _ => p.1, .int .i64 fun _ => p.2.1, .int .i64 fun _ => p.2.2.1, .int .i64 fun _ => p.2.2.2], .cells 27 [.int .i64 fun _ => 0, .int .i64 fun _ => 0, .snil, .snil], .cells 27 [.int .i64 fun _ => d.getD 0 0, .int .i64 fun _ => d.getD 1 0, .snil, .snil]]
            | k + 1 => [.cells 23 [.int .i64 fun _ => p.1, .int .i64 fun _ => p.2.1, .int .i64 fun _ => p.2.2.1, .int .i64 fun _ => p.2.2.2], .cells 27 [.int .i64 fun _ => 0, .int .i64 fun _ => 0, .snil, .snil], .cells 27 [.int .i64 fun _ => d.getD 0 0, .int .i64 fun _ => d.getD 1 0, .snil, .vec 3 2 (fun _ => 0) fun _ => k + 1], .vect 52 HitT fun _ => hitsO d (k + 1)]) 0 [0, 1, 2] ⟨rfl, rfl, ?_, ?_⟩ (Nat.zero_le _) (fun i hi => ?_)
        · (repeat' ((conv => whnf) <;> first | exact rfl | exact trivial | apply And.intro | exact Nat.zero_add _)); all_goals ((conv => whnf); try simp only [])
          all_goals exact rfl
        · (repeat' ((conv => whnf) <;> first | exact rfl | exact trivial | apply And.intro | exact Nat.zero_add _)); all_goals ((conv => whnf); try simp only [])
          all_goals (first | rfl | (split <;> omega) | omega | exact rfl)
        have w2 : IntKind.i64.wrap (2 * (i : Int)) = 2 * i := wr (by omega)
        have w3 : IntKind.i64.wrap (1 + 2 * (i : Int)) = 1 + 2 * i := wr (by omega)
        have w4 : IntKind.i64.wrap (2 + 2 * (i : Int)) = 2 + 2 * i := wr (by omega)
        have g3 : (d.drop 18).getD (1 + 2 * (i : Int)).toNat (Ty.int .u64).dflt = d.getD (19 + 2 * i) 0 := by
          rw [show (1 + 2 * (i : Int)).toNat = 1 + 2 * i by omega]
          show (d.drop 18).getD (1 + 2 * i) 0 = _
          rw [List.getD_eq_getElem?_getD, List.getElem?_drop, ← List.getD_eq_getElem?_getD]
          congr 1; omega
        have g4 : (d.drop 18).getD (2 + 2 * (i : Int)).toNat (Ty.int .u64).dflt = d.getD (20 + 2 * i) 0 := by
          rw [show (2 + 2 * (i : Int)).toNat = 2 + 2 * i by omega]
          show (d.drop 18).getD (2 + 2 * i) 0 = _
          rw [List.getD_eq_getElem?_getD, List.getElem?_drop, ← List.getD_eq_getElem?_getD]
          congr 1; omega
        have hsucc := hitsO_succ d i
        have hdl2 : (d.drop 18).length = 34 := by rw [List.length_drop]; omega
        cases i with
        | zero =>
          (repeat' ((conv => whnf); first | apply And.intro | exact ⟨by kernel_rfl⟩ | apply DrawN.mk | apply CodeN.step hm rfl | exact trivial | exact rfl | (intro hh; try simp only [bs] at hh))); all_goals (conv => whnf)
          all_goals (try simp only [w2, w3, w4, g3, g4, hwrap])
          · exact Ob.mk (by rw [hdl2]; decide)
          · exact Ob.mk (by rw [hdl2]; decide)
          · refine Ob.mk ?_
            show (1 : Nat) * 16 ≤ _
            decide
          · refine ⟨1, [0, 1, 2, 4], ⟨rfl, rfl, ?_, ?_⟩, by omega, by omega⟩
            · (repeat' ((conv => whnf) <;> first | exact rfl | exact trivial | apply And.intro | exact Nat.zero_add _))
            · (repeat' ((conv => whnf) <;> first | exact rfl | exact trivial | apply And.intro | exact Nat.zero_add _))
          · have e0 : n2 = 0 := by omega
            subst e0
            by_cases hm2 : mayC p (d.getD 0 0, d.getD 1 0, [], hitsO d 0) = true
            · have MP := cpackM p _ hm2
              have MQ := cequalM (wordsOf 19 (packC (d.getD 0 0, d.getD 1 0, [], hitsO d 0))) w (by rw [words_len]; decide) hl
              (refine CallN.q MP [] (fun _ _ => ?_); (repeat' ((conv => whnf); first | apply And.intro | exact ⟨by kernel_rfl⟩ | apply DrawN.mk | apply CodeN.step hm rfl | exact trivial | exact rfl | (intro hh; try simp only [bs] at hh; try exact absurd hh (by decide)))); all_goals (conv => whnf); all_goals try exact ⟨by decide⟩)
              (refine CallN.q MQ [] (fun _ _ => ?_); (repeat' ((conv => whnf); first | apply And.intro | exact ⟨by kernel_rfl⟩ | apply DrawN.mk | apply CodeN.step hm rfl | exact trivial | exact rfl | (intro hh; try simp only [bs] at hh; try exact absurd hh (by decide)))); all_goals (conv => whnf); all_goals try exact ⟨by decide⟩)
              · rw [hun (fun h => hh h.2)]
                (refine RetN.q () [] ?_ ?_ ?_ <;> (repeat' ((conv => whnf) <;> first | exact rfl | exact trivial | apply And.intro | exact Nat.zero_add _)); all_goals ((conv => whnf); try simp only []))
              · rw [huy hm2 hh]
                (refine RetN.q () [] ?_ ?_ ?_ <;> (repeat' ((conv => whnf) <;> first | exact rfl | exact trivial | apply And.intro | exact Nat.zero_add _)); all_goals ((conv => whnf); try simp only []))
            · have MP := cpackM_no p _ hlev (Bool.eq_false_iff.2 hm2)
              (refine CallN.q MP [] (fun _ _ => ?_); (repeat' ((conv => whnf); first | apply And.intro | exact ⟨by kernel_rfl⟩ | apply DrawN.mk | apply CodeN.step hm rfl | exact trivial | exact rfl | (intro hh; try simp only [bs] at hh; try exact absurd hh (by decide)))); all_goals (conv => whnf); all_goals try exact ⟨by decide⟩)
              rw [hun (fun h => hm2 h.1)]
              (refine RetN.q () [] ?_ ?_ ?_ <;> (repeat' ((conv => whnf) <;> first | exact rfl | exact trivial | apply And.intro | exact Nat.zero_add _)); all_goals ((conv => whnf); try simp only []))
        | succ i =>
          (repeat' ((conv => whnf); first | apply And.intro | exact ⟨by kernel_rfl⟩ | apply DrawN.mk | apply CodeN.step hm rfl | exact trivial | exact rfl | (intro hh; try simp only [bs] at hh))); all_goals (conv => whnf)
          all_goals (try simp only [w2, w3, w4, g3, g4, hwrap])
          · refine Ob.mk ?_
            simp only [hdl2]; omega
          · refine Ob.mk ?_
            simp only [hdl2]; omega
          · refine Ob.mk ⟨trivial, ?_, ?_⟩
            · show i + 1 + 1 ≤ _
              omega
            · show (i + 1 + 1) * 16 ≤ _
              omega
          · refine ⟨i + 2, [0, 1, 2, 3], ⟨rfl, rfl, ?_, ?_⟩, by omega, by omega⟩
            · (repeat' ((conv => whnf) <;> first | exact rfl | exact trivial | apply And.intro | exact Nat.zero_add _)); all_goals ((conv => whnf); try simp only [])
              rw [List.take_of_length_le (by rw [hitsO_len]; exact Nat.le_refl _)]
              exact hsucc.symm
            · (repeat' ((conv => whnf) <;> first | exact rfl | exact trivial | apply And.intro | exact Nat.zero_add _)); all_goals ((conv => whnf); try simp only [])
              exact wr (by omega)
          · have e0 : n2 = i + 1 := by omega
            subst e0
            have et : List.take (i + 1) (List.drop 0 (hitsO d (i + 1))) = hitsO d (i + 1) := by
              rw [List.drop_zero]; exact List.take_of_length_le (by rw [hitsO_len]; exact Nat.le_refl _)
            by_cases hm2 : mayC p (d.getD 0 0, d.getD 1 0, [], hitsO d (i + 1)) = true
            · have MP := cpackM p _ hm2
              have MQ := cequalM (wordsOf 19 (packC (d.getD 0 0, d.getD 1 0, [], hitsO d (i + 1)))) w (by rw [words_len]; decide) hl
              refine CallN.frz 3 ?_ MP.callable
              (conv => whnf)
              refine CallN.intro MP [] rfl rfl ?_ ?_ (fun _ _ => ?_)
              · (repeat' ((conv => whnf) <;> first | exact rfl | exact trivial | apply And.intro | exact Nat.zero_add _)); all_goals ((conv => whnf); try simp only [])
                exact et
              · (repeat' ((conv => whnf) <;> first | exact rfl | exact trivial | apply And.intro | exact Nat.zero_add _))
              (repeat' ((conv => whnf); first | apply And.intro | exact ⟨by kernel_rfl⟩ | apply DrawN.mk | apply CodeN.step hm rfl | exact trivial | exact rfl | (intro hh; try simp only [bs] at hh; try exact absurd hh (by decide)))); all_goals (conv => whnf)
              (refine CallN.q MQ [] (fun _ _ => ?_); (repeat' ((conv => whnf); first | apply And.intro | exact ⟨by kernel_rfl⟩ | apply DrawN.mk | apply CodeN.step hm rfl | exact trivial | exact rfl | (intro hh; try simp only [bs] at hh; try exact absurd hh (by decide)))); all_goals (conv => whnf); all_goals try exact ⟨by decide⟩)
              · rw [hun (fun h => hh h.2)]
                (refine RetN.q () [] ?_ ?_ ?_ <;> (repeat' ((conv => whnf) <;> first | exact rfl | exact trivial | apply And.intro | exact Nat.zero_add _)); all_goals ((conv => whnf); try simp only []))
              · rw [huy hm2 hh]
                (refine RetN.q () [] ?_ ?_ ?_ <;> (repeat' ((conv => whnf) <;> first | exact rfl | exact trivial | apply And.intro | exact Nat.zero_add _)); all_goals ((conv => whnf); try simp only []))
                all_goals exact et
            · have MP := cpackM_no p _ hlev (Bool.eq_false_iff.2 hm2)
              refine CallN.frz 3 ?_ MP.callable
              (conv => whnf)
              refine CallN.intro MP [] rfl rfl ?_ ?_ (fun _ _ => ?_)
              · (repeat' ((conv => whnf) <;> first | exact rfl | exact trivial | apply And.intro | exact Nat.zero_add _)); all_goals ((conv => whnf); try simp only [])
                exact et
              · (repeat' ((conv => whnf) <;> first | exact rfl | exact trivial | apply And.intro | exact Nat.zero_add _))
              (repeat' ((conv => whnf); first | apply And.intro | exact ⟨by kernel_rfl⟩ | apply DrawN.mk | apply CodeN.step hm rfl | exact trivial | exact rfl | (intro hh; try simp only [bs] at hh; try exact absurd hh (by decide)))); all_goals (conv => whnf)
              rw [hun (fun h => hm2 h.1)]
              (refine RetN.q () [] ?_ ?_ ?_ <;> (repeat' ((conv => whnf) <;> first | exact rfl | exact trivial | apply And.intro | exact Nat.zero_add _)); all_goals ((conv => whnf); try simp only []))
      | succ i =>
        (repeat' ((conv => whnf); first | apply And.intro | exact ⟨by kernel_rfl⟩ | apply DrawN.mk | apply CodeN.step hm rfl | exact trivial | exact rfl | (intro hh; try simp only [bs] at hh))); all_goals (conv => whnf)
        all_goals (try simp only [h2, h3, e18, hwrap, g0, g1])
        all_goals first | (refine Ob.mk ?_; (try simp only [List.length_drop, List.length_take]); omega) | (refine Ob.mk ?_; simp only []; omega) | skip
        · refine Ob.mk ⟨trivial, ?_, ?_⟩
          · show i + 1 + 1 ≤ _
            omega
          · show (i + 1 + 1) * 8 ≤ _
            omega
        · have hi2 : i + 1 < n1 := by omega
          have g6 := g5 hi2
          refine ⟨i + 2, [0, 1, 2, 3], ⟨rfl, rfl, ?_, ?_⟩, hi2, by omega⟩
          · simp only [g6, hwrap]
            (repeat' ((conv => whnf) <;> first | exact rfl | exact trivial | apply And.intro | exact Nat.zero_add _)); all_goals ((conv => whnf); try simp only [])
            rw [List.take_of_length_le (by rw [sumsO_len]; exact Nat.le_refl _)]
            exact hsucc.symm
          · (repeat' ((conv => whnf) <;> first | exact rfl | exact trivial | apply And.intro | exact Nat.zero_add _)); all_goals ((conv => whnf); try simp only [])
            exact wr (by omega)
        have e0 : n1 = i + 1 := by omega
        subst e0
        have het : List.take (i + 1) (List.drop 0 (sumsO d (i + 1))) = sumsO d (i + 1) := by
          rw [List.drop_zero]; exact List.take_of_length_le (by rw [sumsO_len]; exact Nat.le_refl _)
        refine loop_frz 3 ?_
        (conv => whnf)
        generalize i + 1 = n3 at *
        generalize hn2 : (min (d.getD 18 0) 16).toNat = n2
        have h18 := hdb 18
        have e63 : (if 16 < d.getD 18 0 then 16 else d.getD 18 0) = (n2 : Int) := by split <;> omega
        simp only [e63]
        have hcell : cellOf p d = (d.getD 0 0, d.getD 1 0, sumsO d n3, hitsO d n2) := by
          unfold cellOf hitsO
          rw [if_pos k, hn1, hn2]
          try rfl
        rw [hcell] at hU
        have huy : mayC p (d.getD 0 0, d.getD 1 0, sumsO d n3, hitsO d n2) = true → wordsOf 19 (packC (d.getD 0 0, d.getD 1 0, sumsO d n3, hitsO d n2)) = w → unpackC p w = ((d.getD 0 0, d.getD 1 0, sumsO d n3, hitsO d n2), true) := fun h1 h2 => hU.trans (if_pos ⟨h1, h2⟩)
        have hun : ¬ (mayC p (d.getD 0 0, d.getD 1 0, sumsO d n3, hitsO d n2) = true ∧ wordsOf 19 (packC (d.getD 0 0, d.getD 1 0, sumsO d n3, hitsO d n2)) = w) → unpackC p w = ((0, 0, [], []), false) := fun h => hU.trans (if_neg h)
        have hlev : -9223372036854775808 ≤ d.getD 1 0 ∧ d.getD 1 0 ≤ 9223372036854775807 := by have := hdb 1; omega
        refine LoopN.intro hm (X := Nat) (fun i => i ≤ n2) (fun i => n2 - i)
          (fun i => [(64, .int .i64 fun _ => (i : Int)), (63, .int .i64 fun _ => (n2 : Int)), (9, .lst (.int .u64) fun _ => d.drop 18), (8, .ptr 2 0), (4, .ptr 1 0), (2, .ptr 0 0), (1, .lst (.int .u64) fun _ => w)])
          (fun i => match i with
            | 0 => [.cells 23 [.int .i64 fun _ => p.1, .int .i64 fun _ => p.2.1, .int .i64 fun _ => p.2.2.1, .int .i64 fun _ => p.2.2.2], .cells 27 [.int .i64 fun _ => 0, .int .i64 fun _ => 0, .snil, .snil], .cells 27 [.int .i64 fun _ => d.getD 0 0, .int .i64 fun _ => d.getD 1 0, .lst (.int .i64) fun _ => sumsO d n3, .snil]]
            | k + 1 => [.cells 23 [.int .i64 fun _ => p.1, .int .i64 fun _ => p.2.1, .int .i64 fun _ => p.2.2.1, .int .i64 fun _ => p.2.2.2], .cells 27 [.int .i64 fun _ => 0, .int .i64 fun _ => 0, .snil, .snil], .cells 27 [.int .i64 fun _ => d.getD 0 0, .int .i64 fun _ => d.getD 1 0, .lst (.int .i64) fun _ => sumsO d n3, .vec 3 2 (fun _ => 0) fun _ => k + 1], .vect 52 HitT fun _ => hitsO d (k + 1)]) 0 [0, 1, 2] ⟨rfl, rfl, ?_, ?_⟩ (Nat.zero_le _) (fun i hi => ?_)
        · (repeat' ((conv => whnf) <;> first | exact rfl | exact trivial | apply And.intro | exact Nat.zero_add _)); all_goals ((conv => whnf); try simp only [])
          all_goals exact het
        · (repeat' ((conv => whnf) <;> first | exact rfl | exact trivial | apply And.intro | exact Nat.zero_add _)); all_goals ((conv => whnf); try simp only [])
          all_goals (first | rfl | (split <;> omega) | omega | exact het)
        have w2 : IntKind.i64.wrap (2 * (i : Int)) = 2 * i := wr (by omega)
        have w3 : IntKind.i64.wrap (1 + 2 * (i : Int)) = 1 + 2 * i := wr (by omega)
        have w4 : IntKind.i64.wrap (2 + 2 * (i : Int)) = 2 + 2 * i := wr (by omega)
        have g3 : (d.drop 18).getD (1 + 2 * (i : Int)).toNat (Ty.int .u64).dflt = d.getD (19 + 2 * i) 0 := by
          rw [show (1 + 2 * (i : Int)).toNat = 1 + 2 * i by omega]
          show (d.drop 18).getD (1 + 2 * i) 0 = _
          rw [List.getD_eq_getElem?_getD, List.getElem?_drop, ← List.getD_eq_getElem?_getD]
          congr 1; omega
        have g4 : (d.drop 18).getD (2 + 2 * (i : Int)).toNat (Ty.int .u64).dflt = d.getD (20 + 2 * i) 0 := by
          rw [show (2 + 2 * (i : Int)).toNat = 2 + 2 * i by omega]
          show (d.drop 18).getD (2 + 2 * i) 0 = _
          rw [List.getD_eq_getElem?_getD, List.getElem?_drop, ← List.getD_eq_getElem?_getD]
          congr 1; omega
        have hsucc := hitsO_succ d i
        have hdl2 : (d.drop 18).length = 34 := by rw [List.length_drop]; omega
        cases i with
        | zero =>
          (repeat' ((conv => whnf); first | apply And.intro | exact ⟨by kernel_rfl⟩ | apply DrawN.mk | apply CodeN.step hm rfl | exact trivial | exact rfl | (intro hh; try simp only [bs] at hh))); all_goals (conv => whnf)
          all_goals (try simp only [w2, w3, w4, g3, g4, hwrap])
          · exact Ob.mk (by rw [hdl2]; decide)
          · exact Ob.mk (by rw [hdl2]; decide)
          · refine Ob.mk ?_
            show (1 : Nat) * 16 ≤ _
            decide
          · refine ⟨1, [0, 1, 2, 4], ⟨rfl, rfl, ?_, ?_⟩, by omega, by omega⟩
            · (repeat' ((conv => whnf) <;> first | exact rfl | exact trivial | apply And.intro | exact Nat.zero_add _))
            · (repeat' ((conv => whnf) <;> first | exact rfl | exact trivial | apply And.intro | exact Nat.zero_add _))
          · have e0 : n2 = 0 := by omega
            subst e0
            by_cases hm2 : mayC p (d.getD 0 0, d.getD 1 0, sumsO d n3, hitsO d 0) = true
            · have MP := cpackM p _ hm2
              have MQ := cequalM (wordsOf 19 (packC (d.getD 0 0, d.getD 1 0, sumsO d n3, hitsO d 0))) w (by rw [words_len]; decide) hl
              (refine CallN.q MP [] (fun _ _ => ?_); (repeat' ((conv => whnf); first | apply And.intro | exact ⟨by kernel_rfl⟩ | apply DrawN.mk | apply CodeN.step hm rfl | exact trivial | exact rfl | (intro hh; try simp only [bs] at hh; try exact absurd hh (by decide)))); all_goals (conv => whnf); all_goals try exact ⟨by decide⟩)
              (refine CallN.q MQ [] (fun _ _ => ?_); (repeat' ((conv => whnf); first | apply And.intro | exact ⟨by kernel_rfl⟩ | apply DrawN.mk | apply CodeN.step hm rfl | exact trivial | exact rfl | (intro hh; try simp only [bs] at hh; try exact absurd hh (by decide)))); all_goals (conv => whnf); all_goals try exact ⟨by decide⟩)
              · rw [hun (fun h => hh h.2)]
                (refine RetN.q () [] ?_ ?_ ?_ <;> (repeat' ((conv => whnf) <;> first | exact rfl | exact trivial | apply And.intro | exact Nat.zero_add _)); all_goals ((conv => whnf); try simp only []))
              · rw [huy hm2 hh]
                (refine RetN.q () [] ?_ ?_ ?_ <;> (repeat' ((conv => whnf) <;> first | exact rfl | exact trivial | apply And.intro | exact Nat.zero_add _)); all_goals ((conv => whnf); try simp only []))
            · have MP := cpackM_no p _ hlev (Bool.eq_false_iff.2 hm2)
              (refine CallN.q MP [] (fun _ _ => ?_); (repeat' ((conv => whnf); first | apply And.intro | exact ⟨by kernel_rfl⟩ | apply DrawN.mk | apply CodeN.step hm rfl | exact trivial | exact rfl | (intro hh; try simp only [bs] at hh; try exact absurd hh (by decide)))); all_goals (conv => whnf); all_goals try exact ⟨by decide⟩)
              rw [hun (fun h => hm2 h.1)]
              (refine RetN.q () [] ?_ ?_ ?_ <;> (repeat' ((conv => whnf) <;> first | exact rfl | exact trivial | apply And.intro | exact Nat.zero_add _)); all_goals ((conv => whnf); try simp only []))
        | succ i =>
          (repeat' ((conv => whnf); first | apply And.intro | exact ⟨by kernel_rfl⟩ | apply DrawN.mk | apply CodeN.step hm rfl | exact trivial | exact rfl | (intro hh; try simp only [bs] at hh))); all_goals (conv => whnf)
          all_goals (try simp only [w2, w3, w4, g3, g4, hwrap])
          · refine Ob.mk ?_
            simp only [hdl2]; omega
          · refine Ob.mk ?_
            simp only [hdl2]; omega
          · refine Ob.mk ⟨trivial, ?_, ?_⟩
            · show i + 1 + 1 ≤ _
              omega
            · show (i + 1 + 1) * 16 ≤ _
              omega
          · refine ⟨i + 2, [0, 1, 2, 3], ⟨rfl, rfl, ?_, ?_⟩, by omega, by omega⟩
            · (repeat' ((conv => whnf) <;> first | exact rfl | exact trivial | apply And.intro | exact Nat.zero_add _)); all_goals ((conv => whnf); try simp only [])
              rw [List.take_of_length_le (by rw [hitsO_len]; exact Nat.le_refl _)]
              exact hsucc.symm
            · (repeat' ((conv => whnf) <;> first | exact rfl | exact trivial | apply And.intro | exact Nat.zero_add _)); all_goals ((conv => whnf); try simp only [])
              exact wr (by omega)
          · have e0 : n2 = i + 1 := by omega
            subst e0
            have et : List.take (i + 1) (List.drop 0 (hitsO d (i + 1))) = hitsO d (i + 1) := by
              rw [List.drop_zero]; exact List.take_of_length_le (by rw [hitsO_len]; exact Nat.le_refl _)
            by_cases hm2 : mayC p (d.getD 0 0, d.getD 1 0, sumsO d n3, hitsO d (i + 1)) = true
            · have MP := cpackM p _ hm2
              have MQ := cequalM (wordsOf 19 (packC (d.getD 0 0, d.getD 1 0, sumsO d n3, hitsO d (i + 1)))) w (by rw [words_len]; decide) hl
              refine CallN.frz 3 ?_ MP.callable
              (conv => whnf)
              refine CallN.intro MP [] rfl rfl ?_ ?_ (fun _ _ => ?_)
              · (repeat' ((conv => whnf) <;> first | exact rfl | exact trivial | apply And.intro | exact Nat.zero_add _)); all_goals ((conv => whnf); try simp only [])
                exact et
              · (repeat' ((conv => whnf) <;> first | exact rfl | exact trivial | apply And.intro | exact Nat.zero_add _))
              (repeat' ((conv => whnf); first | apply And.intro | exact ⟨by kernel_rfl⟩ | apply DrawN.mk | apply CodeN.step hm rfl | exact trivial | exact rfl | (intro hh; try simp only [bs] at hh; try exact absurd hh (by decide)))); all_goals (conv => whnf)
              (refine CallN.q MQ [] (fun _ _ => ?_); (repeat' ((conv => whnf); first | apply And.intro | exact ⟨by kernel_rfl⟩ | apply DrawN.mk | apply CodeN.step hm rfl | exact trivial | exact rfl | (intro hh; try simp only [bs] at hh; try exact absurd hh (by decide)))); all_goals (conv => whnf); all_goals try exact ⟨by decide⟩)
              · rw [hun (fun h => hh h.2)]
                (refine RetN.q () [] ?_ ?_ ?_ <;> (repeat' ((conv => whnf) <;> first | exact rfl | exact trivial | apply And.intro | exact Nat.zero_add _)); all_goals ((conv => whnf); try simp only []))
              · rw [huy hm2 hh]
                (refine RetN.q () [] ?_ ?_ ?_ <;> (repeat' ((conv => whnf) <;> first | exact rfl | exact trivial | apply And.intro | exact Nat.zero_add _)); all_goals ((conv => whnf); try simp only []))
                all_goals exact et
            · have MP := cpackM_no p _ hlev (Bool.eq_false_iff.2 hm2)
              refine CallN.frz 3 ?_ MP.callable
              (conv => whnf)
              refine CallN.intro MP [] rfl rfl ?_ ?_ (fun _ _ => ?_)
              · (repeat' ((conv => whnf) <;> first | exact rfl | exact trivial | apply And.intro | exact Nat.zero_add _)); all_goals ((conv => whnf); try simp only [])
                exact et
              · (repeat' ((conv => whnf) <;> first | exact rfl | exact trivial | apply And.intro | exact Nat.zero_add _))
              (repeat' ((conv => whnf); first | apply And.intro | exact ⟨by kernel_rfl⟩ | apply DrawN.mk | apply CodeN.step hm rfl | exact trivial | exact rfl | (intro hh; try simp only [bs] at hh; try exact absurd hh (by decide)))); all_goals (conv => whnf)
              rw [hun (fun h => hm2 h.1)]
              (refine RetN.q () [] ?_ ?_ ?_ <;> (repeat' ((conv => whnf) <;> first | exact rfl | exact trivial | apply And.intro | exact Nat.zero_add _)); all_goals ((conv => whnf); try simp only []))
    · have k : ¬ p.1 = 3 := by assumption
      generalize hn2 : (min (d.getD 18 0) 16).toNat = n2
      have h18 := hdb 18
      have e63 : (if 16 < d.getD 18 0 then 16 else d.getD 18 0) = (n2 : Int) := by split <;> omega
      simp only [e63]
      have hcell : cellOf p d = (d.getD 0 0, d.getD 1 0, [], hitsO d n2) := by
        unfold cellOf hitsO
        rw [if_neg k, hn2]
        try rfl
      rw [hcell] at hU
      have huy : mayC p (d.getD 0 0, d.getD 1 0, [], hitsO d n2) = true → wordsOf 19 (packC (d.getD 0 0, d.getD 1 0, [], hitsO d n2)) = w → unpackC p w = ((d.getD 0 0, d.getD 1 0, [], hitsO d n2), true) := fun h1 h2 => hU.trans (if_pos ⟨h1, h2⟩)
      have hun : ¬ (mayC p (d.getD 0 0, d.getD 1 0, [], hitsO d n2) = true ∧ wordsOf 19 (packC (d.getD 0 0, d.getD 1 0, [], hitsO d n2)) = w) → unpackC p w = ((0, 0, [], []), false) := fun h => hU.trans (if_neg h)
      have hlev : -9223372036854775808 ≤ d.getD 1 0 ∧ d.getD 1 0 ≤ 9223372036854775807 := by have := hdb 1; omega
      refine LoopN.intro hm (X := Nat) (fun i => i ≤ n2) (fun i => n2 - i)
        (fun i => [(64, .int .i64 fun _ => (i : Int)), (63, .int .i64 fun _ => (n2 : Int)), (9, .lst (.int .u64) fun _ => d.drop 18), (8, .ptr 2 0), (4, .ptr 1 0), (2, .ptr 0 0), (1, .lst (.int .u64) fun _ => w)])
        (fun i => match i with
          | 0 => [.cells 23 [.int .i64 fun _ => p.1, .int .i64 fun _ => p.2.1, .int .i64 fun _ => p.2.2.1, .int .i64 fun _ => p.2.2.2], .cells 27 [.int .i64 fun _ => 0, .int .i64 fun _ => 0, .snil, .snil], .cells 27 [.int .i64 fun _ => d.getD 0 0, .int .i64 fun _ => d.getD 1 0, .snil, .snil]]
          | k + 1 => [.cells 23 [.int .i64 fun _ => p.1, .int .i64 fun _ => p.2.1, .int .i64 fun _ => p.2.2.1, .int .i64 fun _ => p.2.2.2], .cells 27 [.int .i64 fun _ => 0, .int .i64 fun _ => 0, .snil, .snil], .cells 27 [.int .i64 fun _ => d.getD 0 0, .int .i64 fun _ => d.getD 1 0, .snil, .vec 3 2 (fun _ => 0) fun _ => k + 1], .vect 52 HitT fun _ => hitsO d (k + 1)]) 0 [0, 1, 2] ⟨rfl, rfl, ?_, ?_⟩ (Nat.zero_le _) (fun i hi => ?_)
      · (repeat' ((conv => whnf) <;> first | exact rfl | exact trivial | apply And.intro | exact Nat.zero_add _)); all_goals ((conv => whnf); try simp only [])
        all_goals exact rfl
      · (repeat' ((conv => whnf) <;> first | exact rfl | exact trivial | apply And.intro | exact Nat.zero_add _)); all_goals ((conv => whnf); try simp only [])
        all_goals (first | rfl | (split <;> omega) | omega | exact rfl)
      have w2 : IntKind.i64.wrap (2 * (i : Int)) = 2 * i := wr (by omega)
      have w3 : IntKind.i64.wrap (1 + 2 * (i : Int)) = 1 + 2 * i := wr (by omega)
      have w4 : IntKind.i64.wrap (2 + 2 * (i : Int)) = 2 + 2 * i := wr (by omega)
      have g3 : (d.drop 18).getD (1 + 2 * (i : Int)).toNat (Ty.int .u64).dflt = d.getD (19 + 2 * i) 0 := by
        rw [show (1 + 2 * (i : Int)).toNat = 1 + 2 * i by omega]
        show (d.drop 18).getD (1 + 2 * i) 0 = _
        rw [List.getD_eq_getElem?_getD, List.getElem?_drop, ← List.getD_eq_getElem?_getD]
        congr 1; omega
      have g4 : (d.drop 18).getD (2 + 2 * (i : Int)).toNat (Ty.int .u64).dflt = d.getD (20 + 2 * i) 0 := by
        rw [show (2 + 2 * (i : Int)).toNat = 2 + 2 * i by omega]
        show (d.drop 18).getD (2 + 2 * i) 0 = _
        rw [List.getD_eq_getElem?_getD, List.getElem?_drop, ← List.getD_eq_getElem?_getD]
        congr 1; omega
      have hsucc := hitsO_succ d i
      have hdl2 : (d.drop 18).length = 34 := by rw [List.length_drop]; omega
      cases i with
      | zero =>
        (repeat' ((conv => whnf); first | apply And.intro | exact ⟨by kernel_rfl⟩ | apply DrawN.mk | apply CodeN.step hm rfl | exact trivial | exact rfl | (intro hh; try simp only [bs] at hh))); all_goals (conv => whnf)
        all_goals (try simp only [w2, w3, w4, g3, g4, hwrap])
        · exact Ob.mk (by rw [hdl2]; decide)
        · exact Ob.mk (by rw [hdl2]; decide)
        · refine Ob.mk ?_
          show (1 : Nat) * 16 ≤ _
          decide
        · refine ⟨1, [0, 1, 2, 4], ⟨rfl, rfl, ?_, ?_⟩, by omega, by omega⟩
          · (repeat' ((conv => whnf) <;> first | exact rfl | exact trivial | apply And.intro | exact Nat.zero_add _))
          · (repeat' ((conv => whnf) <;> first | exact rfl | exact trivial | apply And.intro | exact Nat.zero_add _))
        · have e0 : n2 = 0 := by omega
          subst e0
          by_cases hm2 : mayC p (d.getD 0 0, d.getD 1 0, [], hitsO d 0) = true
          · have MP := cpackM p _ hm2
            have MQ := cequalM (wordsOf 19 (packC (d.getD 0 0, d.getD 1 0, [], hitsO d 0))) w (by rw [words_len]; decide) hl
            (refine CallN.q MP [] (fun _ _ => ?_); (repeat' ((conv => whnf); first | apply And.intro | exact ⟨by kernel_rfl⟩ | apply DrawN.mk | apply CodeN.step hm rfl | exact trivial | exact rfl | (intro hh; try simp only [bs] at hh; try exact absurd hh (by decide)))); all_goals (conv => whnf); all_goals try exact ⟨by decide⟩)
            (refine CallN.q MQ [] (fun _ _ => ?_); (repeat' ((conv => whnf); first | apply And.intro | exact ⟨by kernel_rfl⟩ | apply DrawN.mk | apply CodeN.step hm rfl | exact trivial | exact rfl | (intro hh; try simp only [bs] at hh; try exact absurd hh (by decide)))); all_goals (conv => whnf); all_goals try exact ⟨by decide⟩)
            · rw [hun (fun h => hh h.2)]
              (refine RetN.q () [] ?_ ?_ ?_ <;> (repeat' ((conv => whnf) <;> first | exact rfl | exact trivial | apply And.intro | exact Nat.zero_add _)); all_goals ((conv => whnf); try simp only []))
            · rw [huy hm2 hh]
              (refine RetN.q () [] ?_ ?_ ?_ <;> (repeat' ((conv => whnf) <;> first | exact rfl | exact trivial | apply And.intro | exact Nat.zero_add _)); all_goals ((conv => whnf); try simp only []))
          · have MP := cpackM_no p _ hlev (Bool.eq_false_iff.2 hm2)
            (refine CallN.q MP [] (fun _ _ => ?_); (repeat' ((conv => whnf); first | apply And.intro | exact ⟨by kernel_rfl⟩ | apply DrawN.mk | apply CodeN.step hm rfl | exact trivial | exact rfl | (intro hh; try simp only [bs] at hh; try exact absurd hh (by decide)))); all_goals (conv => whnf); all_goals try exact ⟨by decide⟩)
            rw [hun (fun h => hm2 h.1)]
            (refine RetN.q () [] ?_ ?_ ?_ <;> (repeat' ((conv => whnf) <;> first | exact rfl | exact trivial | apply And.intro | exact Nat.zero_add _)); all_goals ((conv => whnf); try simp only []))
      | succ i =>
        (repeat' ((conv => whnf); first | apply And.intro | exact ⟨by kernel_rfl⟩ | apply DrawN.mk | apply CodeN.step hm rfl | exact trivial | exact rfl | (intro hh; try simp only [bs] at hh))); all_goals (conv => whnf)
        all_goals (try simp only [w2, w3, w4, g3, g4, hwrap])
        · refine Ob.mk ?_
          simp only [hdl2]; omega
        · refine Ob.mk ?_
          simp only [hdl2]; omega
        · refine Ob.mk ⟨trivial, ?_, ?_⟩
          · show i + 1 + 1 ≤ _
            omega
          · show (i + 1 + 1) * 16 ≤ _
            omega
        · refine ⟨i + 2, [0, 1, 2, 3], ⟨rfl, rfl, ?_, ?_⟩, by omega, by omega⟩
          · (repeat' ((conv => whnf) <;> first | exact rfl | exact trivial | apply And.intro | exact Nat.zero_add _)); all_goals ((conv => whnf); try simp only [])
            rw [List.take_of_length_le (by rw [hitsO_len]; exact Nat.le_refl _)]
            exact hsucc.symm
          · (repeat' ((conv => whnf) <;> first | exact rfl | exact trivial | apply And.intro | exact Nat.zero_add _)); all_goals ((conv => whnf); try simp only [])
            exact wr (by omega)
        · have e0 : n2 = i + 1 := by omega
          subst e0
          have et : List.take (i + 1) (List.drop 0 (hitsO d (i + 1))) = hitsO d (i + 1) := by
            rw [List.drop_zero]; exact List.take_of_length_le (by rw [hitsO_len]; exact Nat.le_refl _)
          by_cases hm2 : mayC p (d.getD 0 0, d.getD 1 0, [], hitsO d (i + 1)) = true
          · have MP := cpackM p _ hm2
            have MQ := cequalM (wordsOf 19 (packC (d.getD 0 0, d.getD 1 0, [], hitsO d (i + 1)))) w (by rw [words_len]; decide) hl
            refine CallN.frz 3 ?_ MP.callable
            (conv => whnf)
            refine CallN.intro MP [] rfl rfl ?_ ?_ (fun _ _ => ?_)
            · (repeat' ((conv => whnf) <;> first | exact rfl | exact trivial | apply And.intro | exact Nat.zero_add _)); all_goals ((conv => whnf); try simp only [])
              exact et
            · (repeat' ((conv => whnf) <;> first | exact rfl | exact trivial | apply And.intro | exact Nat.zero_add _))
            (repeat' ((conv => whnf); first | apply And.intro | exact ⟨by kernel_rfl⟩ | apply DrawN.mk | apply CodeN.step hm rfl | exact trivial | exact rfl | (intro hh; try simp only [bs] at hh; try exact absurd hh (by decide)))); all_goals (conv => whnf)
            (refine CallN.q MQ [] (fun _ _ => ?_); (repeat' ((conv => whnf); first | apply And.intro | exact ⟨by kernel_rfl⟩ | apply DrawN.mk | apply CodeN.step hm rfl | exact trivial | exact rfl | (intro hh; try simp only [bs] at hh; try exact absurd hh (by decide)))); all_goals (conv => whnf); all_goals try exact ⟨by decide⟩)
            · rw [hun (fun h => hh h.2)]
              (refine RetN.q () [] ?_ ?_ ?_ <;> (repeat' ((conv => whnf) <;> first | exact rfl | exact trivial | apply And.intro | exact Nat.zero_add _)); all_goals ((conv => whnf); try simp only []))
            · rw [huy hm2 hh]
              (refine RetN.q () [] ?_ ?_ ?_ <;> (repeat' ((conv => whnf) <;> first | exact rfl | exact trivial | apply And.intro | exact Nat.zero_add _)); all_goals ((conv => whnf); try simp only []))
              all_goals exact et
          · have MP := cpackM_no p _ hlev (Bool.eq_false_iff.2 hm2)
            refine CallN.frz 3 ?_ MP.callable
            (conv => whnf)
            refine CallN.intro MP [] rfl rfl ?_ ?_ (fun _ _ => ?_)
            · (repeat' ((conv => whnf) <;> first | exact rfl | exact trivial | apply And.intro | exact Nat.zero_add _)); all_goals ((conv => whnf); try simp only [])
              exact et
            · (repeat' ((conv => whnf) <;> first | exact rfl | exact trivial | apply And.intro | exact Nat.zero_add _))
            (repeat' ((conv => whnf); first | apply And.intro | exact ⟨by kernel_rfl⟩ | apply DrawN.mk | apply CodeN.step hm rfl | exact trivial | exact rfl | (intro hh; try simp only [bs] at hh; try exact absurd hh (by decide)))); all_goals (conv => whnf)
            rw [hun (fun h => hm2 h.1)]
            (refine RetN.q () [] ?_ ?_ ?_ <;> (repeat' ((conv => whnf) <;> first | exact rfl | exact trivial | apply And.intro | exact Nat.zero_add _)); all_goals ((conv => whnf); try simp only []))
end Go.Proofs.YtkcifdblaboodaaGreat.Ce
set_option linter.unusedVariables false
set_option linter.unusedSimpArgs false
namespace Go.Proofs.YtkcifdblaboodaaGreat.Ce
open Go Go.RowKit Fw Hi Po Bt
theorem take_stepG {α : Type} {a b : List α} {i : Nat} (z : α) (h1 : i < a.length) (h2 : i < b.length) (h : a.take i = b.take i) (hx : a.getD i z = b.getD i z) : a.take (i + 1) = b.take (i + 1) := by
  rw [List.getD_eq_getElem?_getD, List.getD_eq_getElem?_getD, List.getElem?_eq_getElem h1, List.getElem?_eq_getElem h2] at hx
  rw [List.take_add_one, List.take_add_one, h, List.getElem?_eq_getElem h1, List.getElem?_eq_getElem h2]
  simp only [Option.getD_some] at hx
  rw [hx]
theorem csameM (a b : Cell) (h1 : a.2.2.1.length ≤ 1000) (h2 : b.2.2.1.length ≤ 1000) (h3 : a.2.2.2.length ≤ 1000) (h4 : b.2.2.2.length ≤ 1000) : Meets Tryz.prog 9 [cellAV a, cellAV b] [] (Y := Unit) (fun _ => True) (fun _ => .bool fun _ => decide (a = b)) (fun _ => []) := by
  obtain ⟨a1, a2, sa, ah⟩ := a
  obtain ⟨b1, b2, sb, bh⟩ := b
  simp only [] at h1 h2 h3 h4
  refine Meets.intro hm (fn := Tryz.f9) Tryz.func9 rfl (by decide) (Nat.le_of_ble_eq_true rfl) (fun _ => rfl) ?_; intro S hok; (conv => whnf)
  (repeat' ((conv => whnf); first | apply And.intro | exact ⟨by kernel_rfl⟩ | apply DrawN.mk | apply CodeN.step hm rfl | exact trivial | exact rfl | (intro hh; try simp only [bs] at hh))); all_goals (conv => whnf)
  all_goals first
    | ((refine RetN.q () [] ?_ ?_ ?_ <;> (repeat' ((conv => whnf) <;> first | exact rfl | exact trivial | apply And.intro | exact Nat.zero_add _)); all_goals ((conv => whnf); try simp only []))
       refine decide_eq_false ?_; intro e
       simp only [Prod.mk.injEq] at e
       obtain ⟨e1, e2, e3, e4⟩ := e
       subst e1 e2 e3 e4
       exact hh rfl)
    | skip
  have k1 : a1 = b1 := by assumption
  have k2 : a2 = b2 := by assumption
  have k3 : (sa.length : Int) = sb.length := by assumption
  have k4 : (ah.length : Int) = bh.length := by assumption
  refine LoopN.intro hm (X := Nat) (fun i => i ≤ sa.length ∧ sa.take i = sb.take i) (fun i => sa.length - i)
    (fun i => [(5, .int .i64 fun _ => (i : Int)), (3, .ptr 1 0), (2, .ptr 0 0)]) (fun i => [.cells 27 [.int .i64 fun _ => a1, .int .i64 fun _ => a2, .lst (.int .i64) fun _ => sa, .lst HitT fun _ => ah], .cells 27 [.int .i64 fun _ => b1, .int .i64 fun _ => b2, .lst (.int .i64) fun _ => sb, .lst HitT fun _ => bh]]) 0 [0, 1] ⟨rfl, rfl, ?_, ?_⟩ ⟨Nat.zero_le _, rfl⟩ (fun i hi => ?_)
  · (repeat' ((conv => whnf) <;> first | exact rfl | exact trivial | apply And.intro | exact Nat.zero_add _))
  · (repeat' ((conv => whnf) <;> first | exact rfl | exact trivial | apply And.intro | exact Nat.zero_add _))
  obtain ⟨hi1, hi2⟩ := hi
  (repeat' ((conv => whnf); first | apply And.intro | exact ⟨by kernel_rfl⟩ | apply DrawN.mk | apply CodeN.step hm rfl | exact trivial | exact rfl | (intro hh; try simp only [bs] at hh))); all_goals (conv => whnf)
  · exact Ob.mk (by simp only []; omega)
  · exact Ob.mk (by simp only []; omega)
  · have hx : ¬ sa.getD i 0 = sb.getD i 0 := hh
    (refine RetN.q () [] ?_ ?_ ?_ <;> (repeat' ((conv => whnf) <;> first | exact rfl | exact trivial | apply And.intro | exact Nat.zero_add _)); all_goals ((conv => whnf); try simp only []))
    refine decide_eq_false ?_; intro e
    simp only [Prod.mk.injEq] at e
    exact hx (by rw [e.2.2.1])
  · have hx : sa.getD i 0 = sb.getD i 0 := hh
    refine ⟨i + 1, [0, 1], ⟨rfl, rfl, ?_, ?_⟩, ⟨by omega, take_step (by omega) (by omega) hi2 hx⟩, by omega⟩
    · (repeat' ((conv => whnf) <;> first | exact rfl | exact trivial | apply And.intro | exact Nat.zero_add _))
    · (repeat' ((conv => whnf) <;> first | exact rfl | exact trivial | apply And.intro | exact Nat.zero_add _)); all_goals ((conv => whnf); try simp only [])
      exact wr (by omega)
  have es : sa = sb := by
    have e : i = sa.length := by omega
    rw [e, List.take_length, List.take_of_length_le (by omega)] at hi2
    exact hi2
  clear hi1 hi2 hh
  refine LoopN.intro hm (X := Nat) (fun i => i ≤ ah.length ∧ ah.take i = bh.take i) (fun i => ah.length - i)
    (fun i => [(6, .int .i64 fun _ => (i : Int)), (3, .ptr 1 0), (2, .ptr 0 0)]) (fun i => [.cells 27 [.int .i64 fun _ => a1, .int .i64 fun _ => a2, .lst (.int .i64) fun _ => sa, .lst HitT fun _ => ah], .cells 27 [.int .i64 fun _ => b1, .int .i64 fun _ => b2, .lst (.int .i64) fun _ => sb, .lst HitT fun _ => bh]]) 0 [0, 1] ⟨rfl, rfl, ?_, ?_⟩ ⟨Nat.zero_le _, rfl⟩ (fun i hi => ?_)
  · (repeat' ((conv => whnf) <;> first | exact rfl | exact trivial | apply And.intro | exact Nat.zero_add _))
  · (repeat' ((conv => whnf) <;> first | exact rfl | exact trivial | apply And.intro | exact Nat.zero_add _))
  obtain ⟨hi1, hi2⟩ := hi
  (repeat' ((conv => whnf); first | apply And.intro | exact ⟨by kernel_rfl⟩ | apply DrawN.mk | apply CodeN.step hm rfl | exact trivial | exact rfl | (intro hh; try simp only [bs] at hh))); all_goals (conv => whnf)
  · exact Ob.mk (by simp only []; omega)
  · exact Ob.mk (by simp only []; omega)
  · have hx : ah.getD i HitT.dflt ≠ bh.getD i HitT.dflt := (eqD_no HitT rfl _ _).1 hh
    (refine RetN.q () [] ?_ ?_ ?_ <;> (repeat' ((conv => whnf) <;> first | exact rfl | exact trivial | apply And.intro | exact Nat.zero_add _)); all_goals ((conv => whnf); try simp only []))
    refine decide_eq_false ?_; intro e
    simp only [Prod.mk.injEq] at e
    exact hx (by rw [e.2.2.2])
  · have hx : ah.getD i HitT.dflt = bh.getD i HitT.dflt := (eqD_iff HitT rfl _ _).1 hh
    refine ⟨i + 1, [0, 1], ⟨rfl, rfl, ?_, ?_⟩, ⟨by omega, take_stepG (0, 0) (by omega) (by omega) hi2 hx⟩, by omega⟩
    · (repeat' ((conv => whnf) <;> first | exact rfl | exact trivial | apply And.intro | exact Nat.zero_add _))
    · (repeat' ((conv => whnf) <;> first | exact rfl | exact trivial | apply And.intro | exact Nat.zero_add _)); all_goals ((conv => whnf); try simp only [])
      exact wr (by omega)
  have eh : ah = bh := by
    have e : i = ah.length := by omega
    rw [e, List.take_length, List.take_of_length_le (by omega)] at hi2
    exact hi2
  subst k1 k2 es eh
  (refine RetN.q () [] ?_ ?_ ?_ <;> (repeat' ((conv => whnf) <;> first | exact rfl | exact trivial | apply And.intro | exact Nat.zero_add _)); all_goals ((conv => whnf); try simp only []))
  all_goals first | exact decide_eq_true rfl | exact decide_eq_true trivial
def p0 : Pol := (3, 9, 30, 3)
def q0 : Pol := (4, 9, 30, 0)
def c0 : Cell := (12, 0, [0, 4, 0], [])
def d0 : Cell := (12, 0, [], [(12, 4)])
theorem ask_c0 : (askC p0 (0, 0, [], []) 12 4).1 = c0 ∧ (askC p0 (0, 0, [], []) 12 4).2.1 = true := by decide
theorem ask_d0 : (askC q0 (0, 0, [], []) 12 4).1 = d0 ∧ (askC q0 (0, 0, [], []) 12 4).2.1 = true := by decide
theorem may_c0 : mayC p0 c0 = true := by decide
theorem may_d0 : mayC q0 d0 = true := by decide
theorem may_cd : mayC p0 d0 = false := by decide
theorem may_zero : mayC (0, 0, 0, 0) d0 = false := by decide
theorem ends_c0 : endsC p0 c0 = 40 := by decide
theorem neu_c0 : neutralC p0 c0 40 = true ∧ neutralC p0 c0 39 = false := by decide
theorem norm_c0 : norm p0 c0 = c0 := by decide
theorem norm_d0 : norm q0 d0 = d0 := by decide
theorem pack_first : (wordsOf 19 (packC c0)).getD 0 0 = 12 := by decide
theorem unpack_cd : (unpackC q0 (wordsOf 19 (packC c0))).2 = false := by
  have hk := may_packs may_c0
  have e : flds widthsL (numOf (wordsOf 19 (packC c0))) = vals c0 := by
    rw [num_words (pack_lt hk)]
    exact flds_pack (vals_fit hk)
  have e2 : cellOf q0 (vals c0) = (12, 0, [], []) := by decide
  have hk2 : Packs (12, 0, [], []) := may_packs (p := q0) (by decide)
  unfold unpackC
  rw [e, e2, if_neg]
  rintro ⟨_, _, h⟩
  exact absurd (words_inj (pack_lt hk2) (pack_lt hk) h) (by decide)
set_option maxHeartbeats 4000000 in
set_option maxRecDepth 4000 in
theorem liveM : Meets Tryz.prog 6 [] [] (Y := Unit) (fun _ => True) (fun _ => .tt) (fun _ => []) := by
  have A1 := caskM p0 (0, 0, [], []) 12 4 (by decide)
  have A2 := caskM q0 (0, 0, [], []) 12 4 (by decide)
  have k1 := ask_c0
  have k2 := ask_d0
  generalize askC p0 (0, 0, [], []) 12 4 = a1 at A1 k1
  generalize askC q0 (0, 0, [], []) 12 4 = a2 at A2 k2
  obtain ⟨a11, a12, v1⟩ := a1
  obtain ⟨a21, a22, v2⟩ := a2
  obtain ⟨rfl, rfl⟩ := k1
  obtain ⟨rfl, rfl⟩ := k2
  have P1 := cpackM p0 c0 may_c0
  have P2 := cpackM q0 d0 may_d0
  have P3 := cpackM_no p0 d0 (by decide) may_cd
  have U1 := cunpackM p0 (wordsOf 19 (packC c0)) (words_wd _ _) (by rw [words_len]; decide)
  rw [unpack_pack may_c0, norm_c0] at U1
  have U2 := cunpackM q0 (wordsOf 19 (packC d0)) (words_wd _ _) (by rw [words_len]; decide)
  rw [unpack_pack may_d0, norm_d0] at U2
  have U3 := cunpackM q0 (wordsOf 19 (packC c0)) (words_wd _ _) (by rw [words_len]; decide)
  rw [unpack_cd] at U3
  have S1 := csameM c0 c0 (by decide) (by decide) (by decide) (by decide)
  rw [decide_eq_true rfl] at S1
  have S2 := csameM d0 d0 (by decide) (by decide) (by decide) (by decide)
  rw [decide_eq_true rfl] at S2
  have E1 := cendsM p0 c0 (by decide)
  rw [ends_c0] at E1
  have N1 := cneutralM p0 c0 40 (by decide)
  rw [neu_c0.1] at N1
  have N2 := cneutralM p0 c0 39 (by decide)
  rw [neu_c0.2] at N2
  have M1 := cmayM q0 d0 (by decide)
  rw [may_d0] at M1
  have M2 := cmayM (0, 0, 0, 0) d0 (by decide)
  rw [may_zero] at M2
  have W0 := pack_first
  have W1 := words_len 19 (packC c0)
  have W2 := words_len 19 (packC d0)
  generalize wordsOf 19 (packC c0) = w1 at *
  generalize wordsOf 19 (packC d0) = w2 at *
  generalize (unpackC q0 w1).1 = u3 at *
  refine Meets.intro hm (fn := Tryz.f6) Tryz.func6 rfl (by decide) (Nat.le_of_ble_eq_true rfl) (fun _ => rfl) ?_; intro S hok; (conv => whnf)
  (repeat' ((conv => whnf); first | apply And.intro | exact ⟨by kernel_rfl⟩ | apply DrawN.mk | apply CodeN.step hm rfl | exact trivial | exact rfl | (intro hh; try simp only [bs] at hh))); all_goals (conv => whnf)
  (refine CallN.q A1 [] (fun _ _ => ?_); (repeat' ((conv => whnf); first | apply And.intro | exact ⟨by kernel_rfl⟩ | apply DrawN.mk | apply CodeN.step hm rfl | exact trivial | exact rfl | (intro hh; try simp only [bs] at hh; try exact absurd hh (by decide)))); all_goals (conv => whnf); all_goals try exact ⟨by decide⟩)
  (refine CallN.q A2 [] (fun _ _ => ?_); (repeat' ((conv => whnf); first | apply And.intro | exact ⟨by kernel_rfl⟩ | apply DrawN.mk | apply CodeN.step hm rfl | exact trivial | exact rfl | (intro hh; try simp only [bs] at hh; try exact absurd hh (by decide)))); all_goals (conv => whnf); all_goals try exact ⟨by decide⟩)
  (refine CallN.q P1 [] (fun _ _ => ?_); (repeat' ((conv => whnf); first | apply And.intro | exact ⟨by kernel_rfl⟩ | apply DrawN.mk | apply CodeN.step hm rfl | exact trivial | exact rfl | (intro hh; try simp only [bs] at hh; try exact absurd hh (by decide)))); all_goals (conv => whnf); all_goals try exact ⟨by decide⟩)
  (refine CallN.q U1 [] (fun _ _ => ?_); (repeat' ((conv => whnf); first | apply And.intro | exact ⟨by kernel_rfl⟩ | apply DrawN.mk | apply CodeN.step hm rfl | exact trivial | exact rfl | (intro hh; try simp only [bs] at hh; try exact absurd hh (by decide)))); all_goals (conv => whnf); all_goals try exact ⟨by decide⟩)
  (refine CallN.q P2 [] (fun _ _ => ?_); (repeat' ((conv => whnf); first | apply And.intro | exact ⟨by kernel_rfl⟩ | apply DrawN.mk | apply CodeN.step hm rfl | exact trivial | exact rfl | (intro hh; try simp only [bs] at hh; try exact absurd hh (by decide)))); all_goals (conv => whnf); all_goals try exact ⟨by decide⟩)
  (refine CallN.q U2 [] (fun _ _ => ?_); (repeat' ((conv => whnf); first | apply And.intro | exact ⟨by kernel_rfl⟩ | apply DrawN.mk | apply CodeN.step hm rfl | exact trivial | exact rfl | (intro hh; try simp only [bs] at hh; try exact absurd hh (by decide)))); all_goals (conv => whnf); all_goals try exact ⟨by decide⟩)
  (refine CallN.q U3 [] (fun _ _ => ?_); (repeat' ((conv => whnf); first | apply And.intro | exact ⟨by kernel_rfl⟩ | apply DrawN.mk | apply CodeN.step hm rfl | exact trivial | exact rfl | (intro hh; try simp only [bs] at hh; try exact absurd hh (by decide)))); all_goals (conv => whnf); all_goals try exact ⟨by decide⟩)
  (refine CallN.q P3 [] (fun _ _ => ?_); (repeat' ((conv => whnf); first | apply And.intro | exact ⟨by kernel_rfl⟩ | apply DrawN.mk | apply CodeN.step hm rfl | exact trivial | exact rfl | (intro hh; try simp only [bs] at hh; try exact absurd hh (by decide)))); all_goals (conv => whnf); all_goals try exact ⟨by decide⟩)
  · refine Ob.mk ?_
    simp only [W1]; decide
  · (refine CallN.q S1 [] (fun _ _ => ?_); (repeat' ((conv => whnf); first | apply And.intro | exact ⟨by kernel_rfl⟩ | apply DrawN.mk | apply CodeN.step hm rfl | exact trivial | exact rfl | (intro hh; try simp only [bs] at hh; try exact absurd hh (by decide)))); all_goals (conv => whnf); all_goals try exact ⟨by decide⟩)
    (refine CallN.q S2 [] (fun _ _ => ?_); (repeat' ((conv => whnf); first | apply And.intro | exact ⟨by kernel_rfl⟩ | apply DrawN.mk | apply CodeN.step hm rfl | exact trivial | exact rfl | (intro hh; try simp only [bs] at hh; try exact absurd hh (by decide)))); all_goals (conv => whnf); all_goals try exact ⟨by decide⟩)
    (refine CallN.q E1 [] (fun _ _ => ?_); (repeat' ((conv => whnf); first | apply And.intro | exact ⟨by kernel_rfl⟩ | apply DrawN.mk | apply CodeN.step hm rfl | exact trivial | exact rfl | (intro hh; try simp only [bs] at hh; try exact absurd hh (by decide)))); all_goals (conv => whnf); all_goals try exact ⟨by decide⟩)
    (refine CallN.q N1 [] (fun _ _ => ?_); (repeat' ((conv => whnf); first | apply And.intro | exact ⟨by kernel_rfl⟩ | apply DrawN.mk | apply CodeN.step hm rfl | exact trivial | exact rfl | (intro hh; try simp only [bs] at hh; try exact absurd hh (by decide)))); all_goals (conv => whnf); all_goals try exact ⟨by decide⟩)
    (refine CallN.q N2 [] (fun _ _ => ?_); (repeat' ((conv => whnf); first | apply And.intro | exact ⟨by kernel_rfl⟩ | apply DrawN.mk | apply CodeN.step hm rfl | exact trivial | exact rfl | (intro hh; try simp only [bs] at hh; try exact absurd hh (by decide)))); all_goals (conv => whnf); all_goals try exact ⟨by decide⟩)
    (refine CallN.q M1 [] (fun _ _ => ?_); (repeat' ((conv => whnf); first | apply And.intro | exact ⟨by kernel_rfl⟩ | apply DrawN.mk | apply CodeN.step hm rfl | exact trivial | exact rfl | (intro hh; try simp only [bs] at hh; try exact absurd hh (by decide)))); all_goals (conv => whnf); all_goals try exact ⟨by decide⟩)
    (refine CallN.q M2 [] (fun _ _ => ?_); (repeat' ((conv => whnf); first | apply And.intro | exact ⟨by kernel_rfl⟩ | apply DrawN.mk | apply CodeN.step hm rfl | exact trivial | exact rfl | (intro hh; try simp only [bs] at hh; try exact absurd hh (by decide)))); all_goals (conv => whnf); all_goals try exact ⟨by decide⟩)
    (refine RetN.q () [] ?_ ?_ ?_ <;> (repeat' ((conv => whnf) <;> first | exact rfl | exact trivial | apply And.intro | exact Nat.zero_add _)); all_goals ((conv => whnf); try simp only []))
  · exfalso; exact hh W0
  · exfalso; rw [W1] at hh; exact hh rfl
end Go.Proofs.YtkcifdblaboodaaGreat.Ce
set_option linter.unusedVariables false
set_option linter.unusedSimpArgs false
namespace Go.Proofs.YtkcifdblaboodaaGreat.Ce
open Go Go.RowKit Fw Hi Po Bt
def fewB (c : Cell) : Bool := decide ((c.2.2.1.length : Int) ≤ 40) && decide ((c.2.2.2.length : Int) ≤ 40)
theorem fewM (c : Cell) : Meets Tryz.prog 5 [cellAV c] [] (Y := Unit) (fun _ => True) (fun _ => .bool fun _ => fewB c) (fun _ => []) := by
  obtain ⟨a1, a2, sa, ah⟩ := c
  refine Meets.intro hm (fn := Tryz.f5) Tryz.func5 rfl (by decide) (Nat.le_of_ble_eq_true rfl) (fun _ => rfl) ?_; intro S hok; (conv => whnf)
  (repeat' ((conv => whnf); first | apply And.intro | exact ⟨by kernel_rfl⟩ | apply DrawN.mk | apply CodeN.step hm rfl | exact trivial | exact rfl | (intro hh; try simp only [bs] at hh))); all_goals (conv => whnf)
  · (refine RetN.q () [] ?_ ?_ ?_ <;> (repeat' ((conv => whnf) <;> first | exact rfl | exact trivial | apply And.intro | exact Nat.zero_add _)); all_goals ((conv => whnf); try simp only []))
    unfold fewB
    simp only []
    rw [decide_eq_true hh]; rfl
  · (refine RetN.q () [] ?_ ?_ ?_ <;> (repeat' ((conv => whnf) <;> first | exact rfl | exact trivial | apply And.intro | exact Nat.zero_add _)); all_goals ((conv => whnf); try simp only []))
    unfold fewB
    simp only []
    rw [decide_eq_false hh]; rfl
def packL (p : Pol) (c : Cell) : List Int := if mayC p c then wordsOf 19 (packC c) else []
theorem cpackG (p : Pol) (c : Cell) (hc : -9223372036854775808 ≤ c.2.1 ∧ c.2.1 ≤ 9223372036854775807) : Meets Tryz.prog 16 [polAV p, cellAV c] [] (Y := Unit) (fun _ => True) (fun _ => .tup [.lst (.int .u64) fun _ => packL p c, .bool fun _ => mayC p c]) (fun _ => []) := by
  unfold packL
  by_cases h : mayC p c = true
  · rw [h]
    exact (cpackM p c h).le [] rfl rfl (fun _ _ => ⟨(), trivial, by (repeat' ((conv => whnf) <;> first | exact rfl | exact trivial | apply And.intro | exact Nat.zero_add _)), by (repeat' ((conv => whnf) <;> first | exact rfl | exact trivial | apply And.intro | exact Nat.zero_add _))⟩)
  · rw [Bool.eq_false_iff.2 h]
    exact (cpackM_no p c hc (Bool.eq_false_iff.2 h)).le [] rfl rfl (fun _ _ => ⟨(), trivial, by (repeat' ((conv => whnf) <;> first | exact rfl | exact trivial | apply And.intro | exact Nat.zero_add _)), by (repeat' ((conv => whnf) <;> first | exact rfl | exact trivial | apply And.intro | exact Nat.zero_add _))⟩)
theorem usameM (a b : List Int) (ha : a.length ≤ 1000) (hb : b.length ≤ 1000) : Meets Tryz.prog 20 [.lst (.int .u64) fun _ => a, .lst (.int .u64) fun _ => b] [] (Y := Unit) (fun _ => True) (fun _ => .bool fun _ => decide (a = b)) (fun _ => []) := by
  refine Meets.intro hm (fn := Tryz.f20) Tryz.func20 rfl (by decide) (Nat.le_of_ble_eq_true rfl) (fun _ => rfl) ?_; intro S hok; (conv => whnf)
  (repeat' ((conv => whnf); first | apply And.intro | exact ⟨by kernel_rfl⟩ | apply DrawN.mk | apply CodeN.step hm rfl | exact trivial | exact rfl | (intro hh; try simp only [bs] at hh))); all_goals (conv => whnf)
  · (refine RetN.q () [] ?_ ?_ ?_ <;> (repeat' ((conv => whnf) <;> first | exact rfl | exact trivial | apply And.intro | exact Nat.zero_add _)); all_goals ((conv => whnf); try simp only []))
    refine decide_eq_false ?_; intro e
    exact hh (by rw [e])
  · have hl : a.length = b.length := by omega
    refine LoopN.intro hm (X := Nat) (fun i => i ≤ a.length ∧ a.take i = b.take i) (fun i => a.length - i)
      (fun i => [(5, .int .i64 fun _ => (i : Int)), (0, .lst (.int .u64) fun _ => a), (1, .lst (.int .u64) fun _ => b)]) (fun _ => []) 0 [] ⟨rfl, rfl, ?_, ?_⟩ ⟨Nat.zero_le _, rfl⟩ (fun i hi => ?_)
    · (repeat' ((conv => whnf) <;> first | exact rfl | exact trivial | apply And.intro | exact Nat.zero_add _))
    · (repeat' ((conv => whnf) <;> first | exact rfl | exact trivial | apply And.intro | exact Nat.zero_add _))
    obtain ⟨hi1, hi2⟩ := hi
    (repeat' ((conv => whnf); first | apply And.intro | exact ⟨by kernel_rfl⟩ | apply DrawN.mk | apply CodeN.step hm rfl | exact trivial | exact rfl | (intro hh; try simp only [bs] at hh))); all_goals (conv => whnf)
    · exact Ob.mk (by simp only []; omega)
    · exact Ob.mk (by simp only []; omega)
    · have hx : ¬ a.getD i 0 = b.getD i 0 := hh
      (refine RetN.q () [] ?_ ?_ ?_ <;> (repeat' ((conv => whnf) <;> first | exact rfl | exact trivial | apply And.intro | exact Nat.zero_add _)); all_goals ((conv => whnf); try simp only []))
      refine decide_eq_false ?_; intro e
      exact hx (by rw [e])
    · have hx : a.getD i 0 = b.getD i 0 := hh
      refine ⟨i + 1, [], ⟨rfl, rfl, ?_, ?_⟩, ⟨by omega, take_step (by omega) (by omega) hi2 hx⟩, by omega⟩
      · (repeat' ((conv => whnf) <;> first | exact rfl | exact trivial | apply And.intro | exact Nat.zero_add _))
      · (repeat' ((conv => whnf) <;> first | exact rfl | exact trivial | apply And.intro | exact Nat.zero_add _)); all_goals ((conv => whnf); try simp only [])
        exact wr (by omega)
    · have e : i = a.length := by omega
      (refine RetN.q () [] ?_ ?_ ?_ <;> (repeat' ((conv => whnf) <;> first | exact rfl | exact trivial | apply And.intro | exact Nat.zero_add _)); all_goals ((conv => whnf); try simp only []))
      refine decide_eq_true ?_
      rw [e, List.take_length, hl, List.take_length] at hi2
      exact hi2
theorem unpack_level (p : Pol) (w : List Int) : -9223372036854775808 ≤ (unpackC p w).1.2.1 ∧ (unpackC p w).1.2.1 ≤ 9223372036854775807 := by
  by_cases h : (unpackC p w).2 = true
  · exact may_level (unpack_back h).1
  · unfold unpackC at h ⊢
    split
    · rename_i hh
      rw [if_pos hh] at h
      exact absurd rfl h
    · decide
end Go.Proofs.YtkcifdblaboodaaGreat.Ce
