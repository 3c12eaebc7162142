/- The law CellLater holds at every input that its statement lets in; part 4 of its proof. -/
import Derived.Test.YtkcifdblaboodaaMCellLater2
set_option linter.unusedVariables false
set_option linter.unusedSimpArgs false
namespace Go.Proofs.Ytkcifdblaboodaa.Ce
open Go Go.RowKit Fw Hi Po
theorem rtotalM (c : Cell) (hv : ∀ x ∈ c.2.2.1, 0 ≤ x ∧ x ≤ 1048576) (hl : c.2.2.1.length ≤ 16) : Meets Try.prog 84 [cellAV c] [] (Y := Unit) (fun _ => True) (fun _ => .int .i64 fun _ => c.2.2.1.sum) (fun _ => []) := by
  have hq : sumQ c.2.2.1 1048576 = (c.2.2.1.sum, true) := by
    unfold sumQ
    rw [if_pos]
    rw [List.all_eq_true]; intro x hx
    have := hv x hx
    simp; omega
  have M := rsumM c.2.2.1 1048576 (by omega) (by omega)
  rw [hq] at M
  refine Meets.intro hm (fn := Try.f84) Try.func84 rfl (by decide) (Nat.le_of_ble_eq_true rfl) (fun _ => rfl) ?_; intro S hok; (conv => whnf)
  (repeat' ((conv => whnf); first | apply And.intro | exact ⟨by kernel_rfl⟩ | apply DrawN.mk | apply CodeN.step hm rfl | exact trivial | exact rfl | (intro hh; try simp only [bs] at hh))); all_goals (conv => whnf)
  (refine CallN.q M [] (fun _ _ => ?_); (repeat' ((conv => whnf); first | apply And.intro | exact ⟨by kernel_rfl⟩ | apply DrawN.mk | apply CodeN.step hm rfl | exact trivial | exact rfl | (intro hh; try simp only [bs] at hh; try exact absurd hh (by decide)))); all_goals (conv => whnf); all_goals try exact ⟨by decide⟩)
  (refine RetN.q () [] ?_ ?_ ?_ <;> (repeat' ((conv => whnf) <;> first | exact rfl | exact trivial | apply And.intro | exact Nat.zero_add _)); all_goals ((conv => whnf); try simp only []))
theorem cloneI (xs : List Int) (hl : xs.length ≤ 100000) : Meets Try.prog 102 [.lst (.int .i64) fun _ => xs] [] (Y := Unit) (fun _ => True)
    (fun _ => .lst (.int .i64) fun _ => xs) (fun _ => []) := by
  refine Meets.intro hm (fn := Try.f102) Try.func102 rfl (by decide) (Nat.le_of_ble_eq_true rfl) (fun _ => rfl) ?_; intro S hok; (conv => whnf)
  (repeat' ((conv => whnf); first | apply And.intro | exact ⟨by kernel_rfl⟩ | apply DrawN.mk | apply CodeN.step hm rfl | exact trivial | exact rfl | (intro hh; try simp only [bs] at hh))); all_goals (conv => whnf)
  · (refine RetN.q () [] ?_ ?_ ?_ <;> (repeat' ((conv => whnf) <;> first | exact rfl | exact trivial | apply And.intro | exact Nat.zero_add _)); all_goals ((conv => whnf); try simp only []))
    exact (‹_ = true → xs = []› hh)
  · refine ⟨⟨rfl, ?_, ?_⟩⟩
    · show 0 + xs.length ≤ _
      omega
    · show (0 + xs.length) * 8 ≤ _
      omega
  · (refine RetN.frz 0 ?_; (conv => whnf))
    (refine RetN.q () [] ?_ ?_ ?_ <;> (repeat' ((conv => whnf) <;> first | exact rfl | exact trivial | apply And.intro | exact Nat.zero_add _)); all_goals ((conv => whnf); try simp only []))
    simp
def wN (p : Pol) (d : Cell) (i : Nat) : Int := (zer d.2.2.1 ((gonePl p d.1 (d.1 + p.2.2.1)).take i)).sum
theorem gone_take {p : Pol} {a b b' : Int} {i : Nat} (h : (min (numR p b - numR p a) p.2.2.2).toNat = min i (min (numR p b' - numR p a) p.2.2.2).toNat) : gonePl p a b = (gonePl p a b').take i := by
  unfold gonePl
  rw [← List.map_take, List.take_range, h]
theorem wN_len {p : Pol} {d : Cell} (k : p.1 = 3) (g : Ring p d) : (gonePl p d.1 (d.1 + p.2.2.1)).length = p.2.2.2.toNat := by
  have hB := ring_B g.pol k
  rw [gone_len, numR_window g.pol k g.time.1]; omega
theorem wN_cnt {p : Pol} {d : Cell} (k : p.1 = 3) (g : Ring p d) (hl : d.2.2.1.length = p.2.2.2.toNat) {t : Int} (ht : d.1 ≤ t) {i : Nat} (hi : numR p t = numR p d.1 + i) : cnt p d t = wN p d i := by
  have hB := ring_B g.pol k
  unfold cnt wN
  rw [if_neg (by omega), if_neg (by omega), if_pos k, ← zer_atR g k ht hl (fun j _ => rfl)]
  rw [gone_take (b := t) (b' := d.1 + p.2.2.1) (i := i)]
  rw [numR_window g.pol k g.time.1, hi]; omega
theorem wN_zero (p : Pol) (d : Cell) : wN p d 0 = d.2.2.1.sum := rfl
theorem gone_apart {p : Pol} {a b : Int} {i : Nat} {y : Int} (hB : 1 ≤ p.2.2.2) (hy : (gonePl p a b)[i]? = some y) : 0 ≤ y ∧ y < p.2.2.2 ∧ y.toNat ∉ ((gonePl p a b).take i).map Int.toNat := by
  have hi := (List.getElem?_eq_some_iff.1 hy).1
  rw [gone_len] at hi
  rw [gone_at hi] at hy
  have hy := Option.some.inj hy
  have h1 := Int.emod_nonneg (numR p a + 1 + (i : Int)) (show p.2.2.2 ≠ 0 by omega)
  have h2 := Int.emod_lt_of_pos (numR p a + 1 + (i : Int)) (show 0 < p.2.2.2 by omega)
  refine ⟨by omega, by omega, fun hm => ?_⟩
  obtain ⟨z, hz, e⟩ := List.mem_map.1 hm
  obtain ⟨j, hj⟩ := List.mem_iff_getElem?.1 hz
  have hjl := (List.getElem?_eq_some_iff.1 hj).1
  rw [List.length_take, gone_len] at hjl
  rw [List.getElem?_take, if_pos (by omega), gone_at (by omega)] at hj
  have hj := Option.some.inj hj
  have h3 := Int.emod_nonneg (numR p a + 1 + (j : Int)) (show p.2.2.2 ≠ 0 by omega)
  have h5 : (numR p a + 1 + (i : Int)) % p.2.2.2 = (numR p a + 1 + (j : Int)) % p.2.2.2 := by omega
  have h6 := Int.emod_eq_emod_iff_emod_sub_eq_zero.1 h5
  have h7 := mod_eq_of (a := (i : Int) - j) (b := 0) (B := p.2.2.2) (by omega) (by rw [← h6]; congr 1; omega) (by simp) (by omega) (by omega)
  omega
theorem wN_step {p : Pol} {d : Cell} (k : p.1 = 3) (g : Ring p d) (hl : d.2.2.1.length = p.2.2.2.toNat) {i : Nat} {y : Int} (hy : (gonePl p d.1 (d.1 + p.2.2.1))[i]? = some y) : wN p d (i + 1) = wN p d i - d.2.2.1.getD y.toNat 0 := by
  have hB := ring_B g.pol k
  obtain ⟨h1, h2, h3⟩ := gone_apart hB.1 hy
  unfold wN
  have hi := (List.getElem?_eq_some_iff.1 hy).1
  rw [List.take_add_one, hy, Option.toList_some, zer_snoc, sum_set (by rw [zer_len]; omega), zer_at, if_neg h3]; omega
theorem wN_bound {p : Pol} {d : Cell} (g : Ring p d) (i : Nat) : 0 ≤ wN p d i ∧ wN p d i ≤ p.2.1 * (d.2.2.1.length : Int) := by
  have hL := g.pol.limit
  have h : ∀ x ∈ zer d.2.2.1 ((gonePl p d.1 (d.1 + p.2.2.1)).take i), 0 ≤ x ∧ x ≤ p.2.1 := fun x hx => by
    obtain ⟨j, hj⟩ := List.mem_iff_getElem?.1 hx
    have e : x = (zer d.2.2.1 ((gonePl p d.1 (d.1 + p.2.2.1)).take i)).getD j 0 := by rw [List.getD_eq_getElem?_getD, hj]; rfl
    rw [e, zer_at]
    split
    · omega
    · exact g.nonneg j
  have := sum_bound h (by omega)
  rw [zer_len] at this
  exact this
theorem rwait_0 {p : Pol} {d : Cell} {m : Int} (k : p.1 = 3) (hm0 : 0 ≤ m) (hm : mayC p d = true) (hl : d.2.2.1.length = p.2.2.2.toNat) (h : wN p d 0 ≤ m) : wt p d m = 0 := by
  have g := (may3 k).1 hm
  have hW := g.pol.window
  refine wt_eq hm (Int.le_refl _) (by omega) (.inl rfl) (.inr ?_)
  rw [wN_cnt k g hl (i := 0) (by omega) (by simp)]; exact h
theorem rwait_at {p : Pol} {d : Cell} {m : Int} (k : p.1 = 3) (hm : mayC p d = true) (hl : d.2.2.1.length = p.2.2.2.toNat) {i : Nat} (hi : i < p.2.2.2.toNat) (h1 : m < wN p d i) (h2 : wN p d (i + 1) ≤ m) : wt p d m = (numR p d.1 + 1 + i) * slotOf p - d.1 := by
  have g := (may3 k).1 hm
  have hp := g.pol
  have hW := hp.window
  have hB := ring_B hp k
  have hs := slot_bound hp
  have ht := g.time
  have hw := ring_window hp k
  obtain ⟨b1, b2, b3⟩ := tdiv_block ht.1 hs.1
  have hn : numR p d.1 = d.1.tdiv (slotOf p) := rfl
  rw [← hn] at b1 b2
  have e1 : (numR p d.1 + 1 + (i : Int)) * slotOf p = numR p d.1 * slotOf p + slotOf p + i * slotOf p := by rw [Int.add_mul, Int.add_mul, Int.one_mul]
  have h0i : 0 ≤ (i : Int) * slotOf p := Int.mul_nonneg (by omega) (by omega)
  have hiB : ((i : Int) + 1) * slotOf p ≤ p.2.2.2 * slotOf p := Int.mul_le_mul_of_nonneg_right (by omega) (by omega)
  rw [Int.add_mul, Int.one_mul] at hiB
  have q1 : numR p (d.1 + ((numR p d.1 + 1 + (i : Int)) * slotOf p - d.1 - 1)) = numR p d.1 + i := by
    have e3 : (numR p d.1 + (i : Int)) * slotOf p = numR p d.1 * slotOf p + i * slotOf p := Int.add_mul ..
    refine tdiv_is (by omega) hs.1 ?_ ?_ <;> omega
  have q2 : numR p (d.1 + ((numR p d.1 + 1 + (i : Int)) * slotOf p - d.1)) = numR p d.1 + (i + 1 : Nat) := by
    have e2 : (numR p d.1 + ((i + 1 : Nat) : Int)) * slotOf p = numR p d.1 * slotOf p + slotOf p + i * slotOf p := by
      rw [← e1]; congr 1; omega
    refine tdiv_is (by omega) hs.1 ?_ ?_
    · rw [e2]; omega
    · rw [e2]; omega
  refine wt_eq hm (by omega) ?_ (.inr ?_) (.inr ?_)
  · have : p.2.2.2 * slotOf p = p.2.2.1 := by rw [← hw]; exact Int.mul_comm _ _
    omega
  · rw [wN_cnt k g hl (by omega) q1]; exact h1
  · rw [wN_cnt k g hl (by omega) q2]; exact h2
theorem rwait_end {p : Pol} {d : Cell} (k : p.1 = 3) (hm : mayC p d = true) (hl : d.2.2.1.length = p.2.2.2.toNat) : wN p d p.2.2.2.toNat = 0 := by
  have g := (may3 k).1 hm
  have hB := ring_B g.pol k
  have hW := g.pol.window
  rw [← wN_cnt k g hl (t := d.1 + p.2.2.1) (by omega) (by rw [numR_window g.pol k g.time.1]; omega)]
  exact cnt_gone hm (Int.le_refl _)
set_option maxRecDepth 4000 in
theorem rwaitM (p : Pol) (d : Cell) (m : Int) (k : p.1 = 3) (hm0 : 0 ≤ m) (hmy : mayC p d = true) (hl : d.2.2.1.length = p.2.2.2.toNat) : Meets Try.prog 85 [polAV p, cellAV d, .int .i64 fun _ => m] [] (Y := Unit) (fun _ => True) (fun _ => .int .i64 fun _ => wt p d m) (fun _ => []) := by
  have g := (may3 k).1 hmy
  have hp := g.pol
  have hB := ring_B hp k
  have hct := g.time
  have hL := hp.limit
  have hW := hp.window
  have hs := slot_bound hp
  have hn1 := numR_pos hp hct.1
  have hn2 := numR_le hp hct.1
  have hn3 : 0 ≤ numR p d.1 * slotOf p ∧ numR p d.1 * slotOf p ≤ 1099511627776 * 1048576 := ⟨Int.mul_nonneg hn1 (by omega), Int.mul_le_mul (by omega) hs.2 (by omega) (by omega)⟩
  have hn4 : (numR p d.1 + 1) * slotOf p = numR p d.1 * slotOf p + slotOf p := by rw [Int.add_mul, Int.one_mul]
  have M := slotM p
  rw [if_pos hp] at M
  refine Meets.intro hm (fn := Try.f85) Try.func85 rfl (by decide) (Nat.le_of_ble_eq_true rfl) (fun _ => rfl) ?_; intro S hok; (conv => whnf)
  (repeat' ((conv => whnf); first | apply And.intro | exact ⟨by kernel_rfl⟩ | apply DrawN.mk | apply CodeN.step hm rfl | exact trivial | exact rfl | (intro hh; try simp only [bs] at hh))); all_goals (conv => whnf)
  (refine CallN.q (rtotalM d (fun x hx => ⟨(g.val x hx).1, Int.le_trans (g.val x hx).2 hL.2⟩) (by omega)) [] (fun _ _ => ?_); (repeat' ((conv => whnf); first | apply And.intro | exact ⟨by kernel_rfl⟩ | apply DrawN.mk | apply CodeN.step hm rfl | exact trivial | exact rfl | (intro hh; try simp only [bs] at hh; try exact absurd hh (by decide)))); all_goals (conv => whnf); all_goals try exact ⟨by decide⟩)
  all_goals try
    (refine CallN.q (rnumM p d.1 hp k (by omega)) [] (fun _ _ => ?_); (repeat' ((conv => whnf); first | apply And.intro | exact ⟨by kernel_rfl⟩ | apply DrawN.mk | apply CodeN.step hm rfl | exact trivial | exact rfl | (intro hh; try simp only [bs] at hh; try exact absurd hh (by decide)))); all_goals (conv => whnf); all_goals try exact ⟨by decide⟩)
  all_goals try
    (refine CallN.q M [] (fun _ _ => ?_); (repeat' ((conv => whnf); first | apply And.intro | exact ⟨by kernel_rfl⟩ | apply DrawN.mk | apply CodeN.step hm rfl | exact trivial | exact rfl | (intro hh; try simp only [bs] at hh; try exact absurd hh (by decide)))); all_goals (conv => whnf); all_goals try exact ⟨by decide⟩)
  all_goals try
    (refine CallN.q (rnumM p d.1 hp k (by omega)) [] (fun _ _ => ?_); (repeat' ((conv => whnf); first | apply And.intro | exact ⟨by kernel_rfl⟩ | apply DrawN.mk | apply CodeN.step hm rfl | exact trivial | exact rfl | (intro hh; try simp only [bs] at hh; try exact absurd hh (by decide)))); all_goals (conv => whnf); all_goals try exact ⟨by decide⟩)
  all_goals try
    (refine CallN.q M [] (fun _ _ => ?_); (repeat' ((conv => whnf); first | apply And.intro | exact ⟨by kernel_rfl⟩ | apply DrawN.mk | apply CodeN.step hm rfl | exact trivial | exact rfl | (intro hh; try simp only [bs] at hh; try exact absurd hh (by decide)))); all_goals (conv => whnf); all_goals try exact ⟨by decide⟩)
  all_goals
    (refine CallN.q (cloneI d.2.2.1 (by omega)) [] (fun _ _ => ?_); (repeat' ((conv => whnf); first | apply And.intro | exact ⟨by kernel_rfl⟩ | apply DrawN.mk | apply CodeN.step hm rfl | exact trivial | exact rfl | (intro hh; try simp only [bs] at hh; try exact absurd hh (by decide)))); all_goals (conv => whnf); all_goals try exact ⟨by decide⟩)
  all_goals
    have eW : IntKind.i64.wrap (d.1 + p.2.2.1) = d.1 + p.2.2.1 := wr (by omega)
    simp only [eW]
    (refine CallN.q (rgoneM p d.1 (d.1 + p.2.2.1)) [] (fun _ _ => ?_); (repeat' ((conv => whnf); first | apply And.intro | exact ⟨by kernel_rfl⟩ | apply DrawN.mk | apply CodeN.step hm rfl | exact trivial | exact rfl | (intro hh; try simp only [bs] at hh; try exact absurd hh (by decide)))); all_goals (conv => whnf); all_goals try exact ⟨by decide⟩)
    refine CodeN.range hm hok [0, 1, 2, 6, 7, 8, 9] ?_
    (conv => whnf)
    refine RangeQ.intro (rgoneIt p d.1 (d.1 + p.2.2.1) hp k (by omega) (by omega)) _ (X := Int × Int × Int) (fun i x => x = (0, wN p d i, (numR p d.1 + 1 + (i : Int)) * slotOf p) ∧ (i = 0 ∨ m < wN p d i)) (fun e x => e = .ret ∧ x.1 = wt p d m ∨ e = .exit 0 ∧ wt p d m = 0)
      (fun x => [.none, .none, .none, .cells 3 [.int .i64 fun _ => x.1], .cells 3 [.int .i64 fun _ => x.2.1], .cells 3 [.int .i64 fun _ => x.2.2], .none, .none, .none, .none]) (0, d.2.2.1.sum, IntKind.i64.wrap (IntKind.i64.wrap (numR p d.1 + 1) * slotOf p)) rfl ?_ (fun _ => rfl) ?_ ?_ (fun _ => rfl) ⟨rfl, rfl⟩ ?_ ?_ ?_ ?_
    · (repeat' ((conv => whnf) <;> first | exact rfl | exact trivial | apply And.intro | exact Nat.zero_add _)); all_goals ((conv => whnf); try simp only [])
    · intro p hp; simp at hp; subst hp; decide
    · (repeat' ((conv => whnf) <;> first | exact rfl | exact trivial | apply And.intro | exact Nat.zero_add _))
    · refine ⟨?_, .inl rfl⟩
      rw [wr (x := numR p d.1 + 1) (by omega), wr (x := (numR p d.1 + 1) * slotOf p) (by omega)]
      simp [wN_zero]
    · intro S1 S2 i x y hy hx
      obtain ⟨hx, hlo⟩ := hx
      obtain ⟨hy1, hy2, hy3⟩ := gone_apart hB.1 hy
      have hst := wN_step k g hl hy
      have hb1 := wN_bound g i
      have hb2 := wN_bound g (i + 1)
      have hi := (List.getElem?_eq_some_iff.1 hy).1
      rw [wN_len k g] at hi
      have hb3 : p.2.1 * (d.2.2.1.length : Int) ≤ 1048576 * 16 := Int.mul_le_mul hL.2 (by omega) (by omega) (by omega)
      have en : IntKind.i64.wrap (x.2.1 - d.2.2.1.getD y.toNat 0) = wN p d (i + 1) := by
        rw [hst, hx]
        exact wr (by simp only []; omega)
      have ewn : x.2.1 = wN p d i := by rw [hx]
      have enx : x.2.2 = (numR p d.1 + 1 + (i : Int)) * slotOf p := by rw [hx]
      have e1 : (numR p d.1 + 1 + (i : Int)) * slotOf p = numR p d.1 * slotOf p + slotOf p + i * slotOf p := by rw [Int.add_mul, Int.add_mul, Int.one_mul]
      have e2 : (numR p d.1 + 1 + ((i + 1 : Nat) : Int)) * slotOf p = (numR p d.1 + 1 + (i : Int)) * slotOf p + slotOf p := by
        rw [show numR p d.1 + 1 + ((i + 1 : Nat) : Int) = numR p d.1 + 1 + (i : Int) + 1 by omega, Int.add_mul _ 1, Int.one_mul]
      have h0i : 0 ≤ (i : Int) * slotOf p ∧ (i : Int) * slotOf p ≤ 16 * 1048576 := ⟨Int.mul_nonneg (by omega) (by omega), Int.mul_le_mul (by omega) hs.2 (by omega) (by omega)⟩
      (repeat' ((conv => whnf); first | apply And.intro | exact ⟨by kernel_rfl⟩ | apply DrawN.mk | apply CodeN.step hm rfl | exact trivial | exact rfl | (intro hh; try simp only [bs] at hh))); all_goals (conv => whnf)
      · have h0 : i = 0 := by omega
        subst h0
        refine ⟨x, [0, 1, 2, 3, 4, 5, 6, 7, 8, 9], rfl, rfl, ?_, .inr ⟨rfl, rwait_0 k hm0 hmy hl (by omega)⟩⟩
        (repeat' ((conv => whnf) <;> first | exact rfl | exact trivial | apply And.intro | exact Nat.zero_add _)); all_goals ((conv => whnf); try simp only [])
      · refine Ob.mk ?_
        simp only []; omega
      · have hh2 : wN p d (i + 1) ≤ m := by rw [← en]; exact hh
        refine ⟨((numR p d.1 + 1 + (i : Int)) * slotOf p - d.1, wN p d (i + 1), x.2.2), [0, 1, 2, 3, 4, 5, 6, 7, 8, 9], rfl, rfl, ?_, .inl ⟨rfl, (rwait_at k hmy hl hi (by omega) hh2).symm⟩⟩
        (repeat' ((conv => whnf) <;> first | exact rfl | exact trivial | apply And.intro | exact Nat.zero_add _)); all_goals ((conv => whnf); try simp only [])
        · rw [enx]
          exact wr (by omega)
        · exact en
      · have hh2 : ¬ wN p d (i + 1) ≤ m := by rw [← en]; exact hh
        (refine CallN.q M [] (fun _ _ => ?_); (repeat' ((conv => whnf); first | apply And.intro | exact ⟨by kernel_rfl⟩ | apply DrawN.mk | apply CodeN.step hm rfl | exact trivial | exact rfl | (intro hh; try simp only [bs] at hh; try exact absurd hh (by decide)))); all_goals (conv => whnf); all_goals try exact ⟨by decide⟩)
        refine ⟨(0, wN p d (i + 1), (numR p d.1 + 1 + ((i + 1 : Nat) : Int)) * slotOf p), [0, 1, 2, 3, 4, 5, 6, 7, 8, 9], rfl, rfl, ?_, rfl, .inr (by omega)⟩
        (repeat' ((conv => whnf) <;> first | exact rfl | exact trivial | apply And.intro | exact Nat.zero_add _)); all_goals ((conv => whnf); try simp only [])
        · rw [hx]
        · exact en
        · rw [enx, e2]
          exact wr (by omega)
    · intro x hx
      exfalso
      rw [wN_len k g, rwait_end k hmy hl] at hx
      omega
    · intro e x h hne
      refine ⟨rfl, ?_⟩
      rcases h with ⟨rfl, h⟩ | ⟨rfl, h⟩
      · (repeat' ((conv => whnf); first | apply And.intro | exact ⟨by kernel_rfl⟩ | apply DrawN.mk | apply CodeN.step hm rfl | exact trivial | exact rfl | (intro hh; try simp only [bs] at hh))); all_goals (conv => whnf)
        (refine RetN.q () [] ?_ ?_ ?_ <;> (repeat' ((conv => whnf) <;> first | exact rfl | exact trivial | apply And.intro | exact Nat.zero_add _)); all_goals ((conv => whnf); try simp only []))
        exact h
      · (repeat' ((conv => whnf); first | apply And.intro | exact ⟨by kernel_rfl⟩ | apply DrawN.mk | apply CodeN.step hm rfl | exact trivial | exact rfl | (intro hh; try simp only [bs] at hh))); all_goals (conv => whnf)
        (refine RetN.q () [] ?_ ?_ ?_ <;> (repeat' ((conv => whnf) <;> first | exact rfl | exact trivial | apply And.intro | exact Nat.zero_add _)); all_goals ((conv => whnf); try simp only []))
        exact h.symm
theorem ask3 {p : Pol} {c : Cell} {t w : Int} (k : p.1 = 3) (h1 : mayC p c = true) (h2 : timeB t = true) (h3 : weighs w = true) :
    askC p c t w = if (atR p c (max t c.1)).sum + w ≤ p.2.1 then (added p (moved p c (max t c.1)) w, true, p.2.1 - ((atR p c (max t c.1)).sum + w), 0, wt p (added p (moved p c (max t c.1)) w) 0)
    else (moved p c (max t c.1), false, p.2.1 - (atR p c (max t c.1)).sum, (if p.2.1 < w then 2199023255552 else wt p (moved p c (max t c.1)) (p.2.1 - w)), wt p (moved p c (max t c.1)) 0) := by
  have em : own p (moved p c (max t c.1)) = (atR p c (max t c.1)).sum := by unfold own moved; simp only [if_neg (show ¬ (p.1 = 1 ∨ p.1 = 2) by omega), if_pos k]
  have ewt : ∀ w, worth p w = w := fun w => by unfold worth; rw [if_neg (by omega)]
  rw [ask_ok h1 h2 h3, em, ewt, ewt, ewt, Int.tdiv_one, Int.tdiv_one]
theorem raskM (p : Pol) (c : Cell) (t w : Int) (k : p.1 = 3) : Meets Try.prog 49 [polAV p, cellAV c, .int .i64 fun _ => t, .int .i64 fun _ => w] [] (Y := Unit) (fun _ => True) (fun _ => .tup [cellAV (askC p c t w).1, verAV (askC p c t w).2]) (fun _ => []) := by
  by_cases hv : mayC p c = true ∧ timeB t = true ∧ weighs w = true
  · obtain ⟨h1, h2, h3⟩ := hv
    have M1 := rmayM p c k
    have M2 := rtimeM t
    have M3 := weighsM w
    rw [h1] at M1
    rw [h2] at M2
    rw [h3] at M3
    have ht : 0 ≤ t ∧ t ≤ 1099511627776 := by simpa [timeB] using h2
    have hw : 1 ≤ w ∧ w ≤ 1048576 := by simpa [weighs] using h3
    have g := (may3 k).1 h1
    have hp := g.pol
    have hct := g.time
    have hL := hp.limit
    have hW := hp.window
    have hmx : (if c.1 > t then c.1 else t) = max t c.1 := by split <;> omega
    have ha := ask3 k h1 h2 h3
    have hmm := moved_may h1 (t := max t c.1) (by omega) (by omega)
    have hmf := moved_full p c (max t c.1)
    refine Meets.intro hm (fn := Try.f49) Try.func49 rfl (by decide) (Nat.le_of_ble_eq_true rfl) (fun _ => rfl) ?_; intro S hok; (conv => whnf)
    (repeat' ((conv => whnf); first | apply And.intro | exact ⟨by kernel_rfl⟩ | apply DrawN.mk | apply CodeN.step hm rfl | exact trivial | exact rfl | (intro hh; try simp only [bs] at hh))); all_goals (conv => whnf)
    (refine CallN.q M1 [] (fun _ _ => ?_); (repeat' ((conv => whnf); first | apply And.intro | exact ⟨by kernel_rfl⟩ | apply DrawN.mk | apply CodeN.step hm rfl | exact trivial | exact rfl | (intro hh; try simp only [bs] at hh; try exact absurd hh (by decide)))); all_goals (conv => whnf); all_goals try exact ⟨by decide⟩)
    (refine CallN.q M2 [] (fun _ _ => ?_); (repeat' ((conv => whnf); first | apply And.intro | exact ⟨by kernel_rfl⟩ | apply DrawN.mk | apply CodeN.step hm rfl | exact trivial | exact rfl | (intro hh; try simp only [bs] at hh; try exact absurd hh (by decide)))); all_goals (conv => whnf); all_goals try exact ⟨by decide⟩)
    (refine CallN.q M3 [] (fun _ _ => ?_); (repeat' ((conv => whnf); first | apply And.intro | exact ⟨by kernel_rfl⟩ | apply DrawN.mk | apply CodeN.step hm rfl | exact trivial | exact rfl | (intro hh; try simp only [bs] at hh; try exact absurd hh (by decide)))); all_goals (conv => whnf); all_goals try exact ⟨by decide⟩)
    have M4 := ratM p c (max t c.1) k g (by omega)
    refine CallN.q M4 [] (fun _ _ => ?_) rfl rfl ?_ trivial
    rotate_left
    · (repeat' ((conv => whnf) <;> first | exact rfl | exact trivial | apply And.intro | exact Nat.zero_add _))
      exact hmx
    have hlen : (atR p c (max t c.1)).length = p.2.2.2.toNat := atR_len ..
    have hB := ring_B hp k
    have g2 := (may3 k).1 hmm
    have em : moved p c (max t c.1) = (max t c.1, 0, atR p c (max t c.1), []) := by unfold moved; rw [if_neg (by omega), if_pos k]
    rw [em] at g2 hmm ha
    have hT : 0 ≤ max t c.1 ∧ max t c.1 ≤ 1099511627776 := by omega
    clear hmf em hmx M1 M2 M3 M4
    generalize max t c.1 = T at *
    generalize atR p c T = l at *
    have hv : ∀ x ∈ l, 0 ≤ x ∧ x ≤ 1048576 := fun x hx => ⟨(g2.val x hx).1, Int.le_trans (g2.val x hx).2 hL.2⟩
    have M5 := rtotalM (T, 0, l, []) hv (by simp only []; omega)
    have hsm := sum_bound hv (by omega)
    (repeat' ((conv => whnf); first | apply And.intro | exact ⟨by kernel_rfl⟩ | apply DrawN.mk | apply CodeN.step hm rfl | exact trivial | exact rfl | (intro hh; try simp only [bs] at hh; try exact absurd hh (by decide)))); all_goals (conv => whnf)
    refine CallN.rest M5 [4] ?_ (fun _ _ => ⟨rfl, rfl⟩) ?_
    · (repeat' ((conv => whnf) <;> first | exact rfl | exact trivial | apply And.intro | exact Nat.zero_add _)); all_goals ((conv => whnf); try simp only [])
      rw [List.drop_zero, ← hlen, List.take_length]
    intro y hy
    have enw : IntKind.i64.wrap (l.sum + w) = l.sum + w := wr (by omega)
    (repeat' ((conv => whnf); first | apply And.intro | exact ⟨by kernel_rfl⟩ | apply DrawN.mk | apply CodeN.step hm rfl | exact trivial | exact rfl | (intro hh; try simp only [bs] at hh; try exact absurd hh (by decide)))); all_goals (conv => whnf)
    · have hle : l.sum + w ≤ p.2.1 := by rw [← enw]; exact hh
      rw [if_pos hle] at ha
      have hnp := numR_pos hp hT.1
      have htm : (numR p T).tmod p.2.2.2 = numR p T % p.2.2.2 := Int.tmod_eq_emod_of_nonneg hnp
      have hpl := place_lt hB.1 (numR p T)
      have hem1 := Int.emod_nonneg (numR p T) (show p.2.2.2 ≠ 0 by omega)
      have hgl := g2.nonneg (numR p T % p.2.2.2).toNat
      have hgw : IntKind.i64.wrap (l.getD (numR p T % p.2.2.2).toNat 0 + w) = l.getD (numR p T % p.2.2.2).toNat 0 + w := wr (by simp only [] at hgl; omega)
      have hadd : added p (T, 0, l, []) w = (T, 0, l.set (numR p T % p.2.2.2).toNat (l.getD (numR p T % p.2.2.2).toNat 0 + w), []) := by
        unfold added; simp only [if_neg (show ¬ p.1 = 1 by omega), if_neg (show ¬ p.1 = 2 by omega), if_pos k]
      have ham := added_may hmm (fun _ => hlen) hw.1 (by
        unfold own worth; simp only [if_neg (show ¬ p.1 = 1 by omega), if_neg (show ¬ (p.1 = 1 ∨ p.1 = 2) by omega), if_pos k]; exact hle)
      rw [hadd] at ha ham
      have hsm2 : (l.set (numR p T % p.2.2.2).toNat (l.getD (numR p T % p.2.2.2).toNat 0 + w)).sum = l.sum + w := by
        rw [sum_set (by omega)]; omega
      have g3 := (may3 k).1 ham
      have hlen3 : (l.set (numR p T % p.2.2.2).toNat (l.getD (numR p T % p.2.2.2).toNat 0 + w)).length = p.2.2.2.toNat := by rw [List.length_set]; exact hlen
      have M6 := rtotalM (T, 0, l.set (numR p T % p.2.2.2).toNat (l.getD (numR p T % p.2.2.2).toNat 0 + w), []) (fun x hx => ⟨(g3.val x hx).1, Int.le_trans (g3.val x hx).2 hL.2⟩) (by simp only []; omega)
      have M7 := rwaitM p _ 0 k (Int.le_refl _) ham hlen3
      have hset : l.set (0 + ((numR p T).tmod p.2.2.2).toNat) (IntKind.i64.wrap (l.getD (0 + ((numR p T).tmod p.2.2.2).toNat) 0 + w)) = l.set (numR p T % p.2.2.2).toNat (l.getD (numR p T % p.2.2.2).toNat 0 + w) := by
        rw [Nat.zero_add, htm, hgw]
      generalize l.set (numR p T % p.2.2.2).toNat (l.getD (numR p T % p.2.2.2).toNat 0 + w) = l' at *
      (refine CallN.q (rnumM p T hp k (by omega)) [] (fun _ _ => ?_); (repeat' ((conv => whnf); first | apply And.intro | exact ⟨by kernel_rfl⟩ | apply DrawN.mk | apply CodeN.step hm rfl | exact trivial | exact rfl | (intro hh; try simp only [bs] at hh; try exact absurd hh (by decide)))); all_goals (conv => whnf); all_goals try exact ⟨by decide⟩)
      · exact Ob.mk (by simp only []; omega)
      · exact Ob.mk (by simp only [htm]; omega)
      · exact Ob.mk (by simp only [htm]; omega)
      refine CallN.rest M6 [4] ?_ (fun _ _ => ⟨rfl, rfl⟩) ?_
      · (repeat' ((conv => whnf) <;> first | exact rfl | exact trivial | apply And.intro | exact Nat.zero_add _)); all_goals ((conv => whnf); try simp only [])
        rw [List.drop_zero]
        refine Eq.trans ?_ (List.take_of_length_le (Nat.le_of_eq hlen3))
        exact congrArg _ hset
      intro y hy
      (repeat' ((conv => whnf); first | apply And.intro | exact ⟨by kernel_rfl⟩ | apply DrawN.mk | apply CodeN.step hm rfl | exact trivial | exact rfl | (intro hh; try simp only [bs] at hh; try exact absurd hh (by decide)))); all_goals (conv => whnf)
      refine CallN.rest M7 [4] ?_ (fun _ _ => ⟨rfl, rfl⟩) ?_
      · (repeat' ((conv => whnf) <;> first | exact rfl | exact trivial | apply And.intro | exact Nat.zero_add _)); all_goals ((conv => whnf); try simp only [])
        rw [List.drop_zero]
        refine Eq.trans ?_ (List.take_of_length_le (Nat.le_of_eq hlen3))
        exact congrArg _ hset
      intro y hy
      (repeat' ((conv => whnf); first | apply And.intro | exact ⟨by kernel_rfl⟩ | apply DrawN.mk | apply CodeN.step hm rfl | exact trivial | exact rfl | (intro hh; try simp only [bs] at hh; try exact absurd hh (by decide)))); all_goals (conv => whnf)
      (refine RetN.frz 4 ?_; (conv => whnf))
      (refine RetN.q () [] ?_ ?_ ?_ <;> (repeat' ((conv => whnf) <;> first | exact rfl | exact trivial | apply And.intro | exact Nat.zero_add _)); all_goals ((conv => whnf); try simp only []))
      all_goals rw [ha]
      · rw [List.drop_zero]
        refine Eq.trans ?_ (List.take_of_length_le (Nat.le_of_eq hlen3))
        exact congrArg _ hset
      · rw [hsm2]
        exact wr (by omega)
    all_goals
      have hgt : ¬ l.sum + w ≤ p.2.1 := by rw [← enw]; assumption
      rw [if_neg hgt] at ha
    · rw [if_pos hh] at ha
      refine CallN.rest M5 [4] ?_ (fun _ _ => ⟨rfl, rfl⟩) ?_
      · (repeat' ((conv => whnf) <;> first | exact rfl | exact trivial | apply And.intro | exact Nat.zero_add _)); all_goals ((conv => whnf); try simp only [])
        rw [List.drop_zero, ← hlen, List.take_length]
      intro y hy
      (repeat' ((conv => whnf); first | apply And.intro | exact ⟨by kernel_rfl⟩ | apply DrawN.mk | apply CodeN.step hm rfl | exact trivial | exact rfl | (intro hh; try simp only [bs] at hh; try exact absurd hh (by decide)))); all_goals (conv => whnf)
      refine CallN.rest (rwaitM p (T, 0, l, []) 0 k (Int.le_refl _) hmm hlen) [4] ?_ (fun _ _ => ⟨rfl, rfl⟩) ?_
      · (repeat' ((conv => whnf) <;> first | exact rfl | exact trivial | apply And.intro | exact Nat.zero_add _)); all_goals ((conv => whnf); try simp only [])
        rw [List.drop_zero, ← hlen, List.take_length]
      intro y hy
      (repeat' ((conv => whnf); first | apply And.intro | exact ⟨by kernel_rfl⟩ | apply DrawN.mk | apply CodeN.step hm rfl | exact trivial | exact rfl | (intro hh; try simp only [bs] at hh; try exact absurd hh (by decide)))); all_goals (conv => whnf)
      (refine RetN.frz 4 ?_; (conv => whnf))
      (refine RetN.q () [] ?_ ?_ ?_ <;> (repeat' ((conv => whnf) <;> first | exact rfl | exact trivial | apply And.intro | exact Nat.zero_add _)); all_goals ((conv => whnf); try simp only []))
      all_goals rw [ha]
      · rw [List.drop_zero]
        exact List.take_of_length_le (Nat.le_of_eq hlen)
      · exact wr (by omega)
    · rw [if_neg hh] at ha
      have ew2 : IntKind.i64.wrap (p.2.1 - w) = p.2.1 - w := wr (by omega)
      refine CallN.rest (rwaitM p (T, 0, l, []) (p.2.1 - w) k (by omega) hmm hlen) [4] ?_ (fun _ _ => ⟨rfl, rfl⟩) ?_
      · (repeat' ((conv => whnf) <;> first | exact rfl | exact trivial | apply And.intro | exact Nat.zero_add _)); all_goals ((conv => whnf); try simp only [])
        · rw [List.drop_zero, ← hlen, List.take_length]
        · exact ew2
      intro y hy
      (repeat' ((conv => whnf); first | apply And.intro | exact ⟨by kernel_rfl⟩ | apply DrawN.mk | apply CodeN.step hm rfl | exact trivial | exact rfl | (intro hh; try simp only [bs] at hh; try exact absurd hh (by decide)))); all_goals (conv => whnf)
      refine CallN.rest M5 [4] ?_ (fun _ _ => ⟨rfl, rfl⟩) ?_
      · (repeat' ((conv => whnf) <;> first | exact rfl | exact trivial | apply And.intro | exact Nat.zero_add _)); all_goals ((conv => whnf); try simp only [])
        rw [List.drop_zero, ← hlen, List.take_length]
      intro y hy
      (repeat' ((conv => whnf); first | apply And.intro | exact ⟨by kernel_rfl⟩ | apply DrawN.mk | apply CodeN.step hm rfl | exact trivial | exact rfl | (intro hh; try simp only [bs] at hh; try exact absurd hh (by decide)))); all_goals (conv => whnf)
      refine CallN.rest (rwaitM p (T, 0, l, []) 0 k (Int.le_refl _) hmm hlen) [4] ?_ (fun _ _ => ⟨rfl, rfl⟩) ?_
      · (repeat' ((conv => whnf) <;> first | exact rfl | exact trivial | apply And.intro | exact Nat.zero_add _)); all_goals ((conv => whnf); try simp only [])
        rw [List.drop_zero, ← hlen, List.take_length]
      intro y hy
      (repeat' ((conv => whnf); first | apply And.intro | exact ⟨by kernel_rfl⟩ | apply DrawN.mk | apply CodeN.step hm rfl | exact trivial | exact rfl | (intro hh; try simp only [bs] at hh; try exact absurd hh (by decide)))); all_goals (conv => whnf)
      (refine RetN.frz 4 ?_; (conv => whnf))
      (refine RetN.q () [] ?_ ?_ ?_ <;> (repeat' ((conv => whnf) <;> first | exact rfl | exact trivial | apply And.intro | exact Nat.zero_add _)); all_goals ((conv => whnf); try simp only []))
      all_goals rw [ha]
      · rw [List.drop_zero]
        exact List.take_of_length_le (Nat.le_of_eq hlen)
      · exact wr (by omega)
  · rw [ask_bad hv]
    refine Meets.intro hm (fn := Try.f49) Try.func49 rfl (by decide) (Nat.le_of_ble_eq_true rfl) (fun _ => rfl) ?_; intro S hok; (conv => whnf)
    (repeat' ((conv => whnf); first | apply And.intro | exact ⟨by kernel_rfl⟩ | apply DrawN.mk | apply CodeN.step hm rfl | exact trivial | exact rfl | (intro hh; try simp only [bs] at hh))); all_goals (conv => whnf)
    (refine CallN.q (rmayM p c k) [] (fun _ _ => ?_); (repeat' ((conv => whnf); first | apply And.intro | exact ⟨by kernel_rfl⟩ | apply DrawN.mk | apply CodeN.step hm rfl | exact trivial | exact rfl | (intro hh; try simp only [bs] at hh; try exact absurd hh (by decide)))); all_goals (conv => whnf); all_goals try exact ⟨by decide⟩)
    all_goals try
      (refine CallN.q (rtimeM t) [] (fun _ _ => ?_); (repeat' ((conv => whnf); first | apply And.intro | exact ⟨by kernel_rfl⟩ | apply DrawN.mk | apply CodeN.step hm rfl | exact trivial | exact rfl | (intro hh; try simp only [bs] at hh; try exact absurd hh (by decide)))); all_goals (conv => whnf); all_goals try exact ⟨by decide⟩)
    all_goals try
      (refine CallN.q (weighsM w) [] (fun _ _ => ?_); (repeat' ((conv => whnf); first | apply And.intro | exact ⟨by kernel_rfl⟩ | apply DrawN.mk | apply CodeN.step hm rfl | exact trivial | exact rfl | (intro hh; try simp only [bs] at hh; try exact absurd hh (by decide)))); all_goals (conv => whnf); all_goals try exact ⟨by decide⟩)
    all_goals first
      | (exfalso; exact hv ⟨by assumption, by assumption, by assumption⟩)
      | (refine RetN.q () [] ?_ ?_ ?_ <;> (repeat' ((conv => whnf) <;> first | exact rfl | exact trivial | apply And.intro | exact Nat.zero_add _)); all_goals ((conv => whnf); try simp only []))
theorem rendsM (p : Pol) (c : Cell) (k : p.1 = 3) : Meets Try.prog 50 [polAV p, cellAV c] [] (Y := Unit) (fun _ => True) (fun _ => .int .i64 fun _ => endsC p c) (fun _ => []) := by
  refine Meets.intro hm (fn := Try.f50) Try.func50 rfl (by decide) (Nat.le_of_ble_eq_true rfl) (fun _ => rfl) ?_; intro S hok; (conv => whnf)
  (repeat' ((conv => whnf); first | apply And.intro | exact ⟨by kernel_rfl⟩ | apply DrawN.mk | apply CodeN.step hm rfl | exact trivial | exact rfl | (intro hh; try simp only [bs] at hh))); all_goals (conv => whnf)
  (refine CallN.q (rmayM p c k) [] (fun _ _ => ?_); (repeat' ((conv => whnf); first | apply And.intro | exact ⟨by kernel_rfl⟩ | apply DrawN.mk | apply CodeN.step hm rfl | exact trivial | exact rfl | (intro hh; try simp only [bs] at hh; try exact absurd hh (by decide)))); all_goals (conv => whnf); all_goals try exact ⟨by decide⟩)
  · (refine RetN.q () [] ?_ ?_ ?_ <;> (repeat' ((conv => whnf) <;> first | exact rfl | exact trivial | apply And.intro | exact Nat.zero_add _)); all_goals ((conv => whnf); try simp only []))
    unfold endsC
    rw [if_neg (by simp [*])]
  have h1 : mayC p c = true := by assumption
  have g := (may3 k).1 h1
  have hp := g.pol
  have hct := g.time
  have hW := hp.window
  have hB := ring_B hp k
  have hmm := moved_may h1 (Int.le_refl _) hct.2
  have hlen : (atR p c c.1).length = p.2.2.2.toNat := atR_len ..
  have em : moved p c c.1 = (c.1, 0, atR p c c.1, []) := by unfold moved; rw [if_neg (by omega), if_pos k]
  have he : endsC p c = c.1 + wt p (c.1, 0, atR p c c.1, []) 0 := by unfold endsC; rw [if_pos h1, em]
  rw [em] at hmm
  rw [he]
  have hwb := wt_bound (p := p) (d := (c.1, 0, atR p c c.1, [])) hp 0
  (refine CallN.q (ratM p c c.1 k g (by omega)) [] (fun _ _ => ?_); (repeat' ((conv => whnf); first | apply And.intro | exact ⟨by kernel_rfl⟩ | apply DrawN.mk | apply CodeN.step hm rfl | exact trivial | exact rfl | (intro hh; try simp only [bs] at hh; try exact absurd hh (by decide)))); all_goals (conv => whnf); all_goals try exact ⟨by decide⟩)
  generalize atR p c c.1 = l at *
  refine CallN.rest (rwaitM p (c.1, 0, l, []) 0 k (Int.le_refl _) hmm hlen) [2] ?_ (fun _ _ => ⟨rfl, rfl⟩) ?_
  · (repeat' ((conv => whnf) <;> first | exact rfl | exact trivial | apply And.intro | exact Nat.zero_add _)); all_goals ((conv => whnf); try simp only [])
    rw [List.drop_zero, ← hlen, List.take_length]
  intro y hy
  (repeat' ((conv => whnf); first | apply And.intro | exact ⟨by kernel_rfl⟩ | apply DrawN.mk | apply CodeN.step hm rfl | exact trivial | exact rfl | (intro hh; try simp only [bs] at hh; try exact absurd hh (by decide)))); all_goals (conv => whnf)
  (refine RetN.q () [] ?_ ?_ ?_ <;> (repeat' ((conv => whnf) <;> first | exact rfl | exact trivial | apply And.intro | exact Nat.zero_add _)); all_goals ((conv => whnf); try simp only []))
  exact wr (by omega)
end Go.Proofs.Ytkcifdblaboodaa.Ce
set_option linter.unusedVariables false
set_option linter.unusedSimpArgs false
namespace Go.Proofs.Ytkcifdblaboodaa.Ce
open Go Go.RowKit Fw Hi Po
/-! ### Hits that rise -/
theorem hit_mem {l : List Hit} {i : Nat} (h : i < l.length) : l.getD i (0, 0) ∈ l := by rw [List.getD_eq_getElem?_getD, List.getElem?_eq_getElem h]; exact List.getElem_mem h
theorem hit_drop {l : List Hit} {i : Nat} (h : i < l.length) : l.drop i = l.getD i (0, 0) :: l.drop (i + 1) := by
  rw [List.drop_eq_getElem_cons h, List.getD_eq_getElem?_getD, List.getElem?_eq_getElem h]; rfl
theorem sumH_take {l : List Hit} {i : Nat} (h : i < l.length) : sumH (l.take (i + 1)) = sumH (l.take i) + (l.getD i (0, 0)).2 := by
  rw [List.take_add_one, List.getElem?_eq_getElem h, sumH_append, List.getD_eq_getElem?_getD, List.getElem?_eq_getElem h]; simp [sumH]
theorem sumH_bound {m : Int} (hm : 0 ≤ m) : ∀ {l : List Hit}, (∀ h ∈ l, 0 ≤ h.2 ∧ h.2 ≤ m) → 0 ≤ sumH l ∧ sumH l ≤ m * l.length
  | [], _ => by simp [sumH]
  | x :: r, h => by
    have h1 := h x (List.mem_cons_self ..)
    have h2 := sumH_bound hm fun y hy => h y (List.mem_cons_of_mem _ hy)
    rw [sumH_cons, List.length_cons, Int.natCast_add, Int.mul_add]
    omega
theorem since_drop {p : Pol} {t : Int} : ∀ {i : Nat} {l : List Hit}, i ≤ l.length → (∀ j, j < i → (l.getD j (0, 0)).1 ≤ t - p.2.2.1) → (i < l.length → t - p.2.2.1 < (l.getD i (0, 0)).1) → sinceE p l t = l.drop i
  | 0, [], _, _, _ => rfl
  | 0, x :: r, _, _, h2 => by
    have h2 : t - p.2.2.1 < x.1 := h2 (by simp)
    unfold sinceE
    rw [List.dropWhile_cons, if_neg (by simp; omega)]; rfl
  | i + 1, [], h, _, _ => by simp at h
  | i + 1, x :: r, h, h1, h2 => by
    have h3 : x.1 ≤ t - p.2.2.1 := h1 0 (by omega)
    have ih := since_drop (p := p) (t := t) (i := i) (l := r) (by simpa using h) (fun j hj => h1 (j + 1) (by omega)) (fun hi => h2 (by simpa using hi))
    unfold sinceE at ih ⊢
    rw [List.dropWhile_cons, if_pos (by simpa using h3), ih]; rfl
theorem mayH_at {a L : Int} : ∀ {l : List Hit} {last : Int} {i : Nat}, mayHGo a L last l = true → i < l.length → mayHGo a L (l.getD i (0, 0)).1 (l.drop (i + 1)) = true
  | [], _, i, _, h => by simp at h
  | x :: r, last, i, hm, h => by
    simp only [mayHGo, Bool.and_eq_true] at hm
    cases i with
    | zero => exact hm.2
    | succ i => exact mayH_at (l := r) hm.2 (by simpa using h)
theorem mayH_lt {a L : Int} {l : List Hit} {last : Int} {i j : Nat} (hm : mayHGo a L last l = true) (hij : i < j) (hj : j < l.length) : (l.getD i (0, 0)).1 < (l.getD j (0, 0)).1 := by
  refine (mayH_mem _ _ (mayH_at hm (i := i) (by omega)) (l.getD j (0, 0)) ?_).1
  rw [List.mem_iff_getElem?]
  exact ⟨j - (i + 1), by rw [List.getElem?_drop, show i + 1 + (j - (i + 1)) = j by omega, List.getD_eq_getElem?_getD, List.getElem?_eq_getElem hj]; rfl⟩
def lastH (last0 : Int) (l : List Hit) : Nat → Int
  | 0 => last0
  | i + 1 => (l.getD i (0, 0)).1
theorem mayH_step {a L last0 : Int} {l : List Hit} {i : Nat} (h : i < l.length) : mayHGo a L (lastH last0 l i) (l.drop i) = (decide (lastH last0 l i < (l.getD i (0, 0)).1) && decide ((l.getD i (0, 0)).1 ≤ a) && decide (1 ≤ (l.getD i (0, 0)).2) && decide ((l.getD i (0, 0)).2 ≤ L) && mayHGo a L (lastH last0 l (i + 1)) (l.drop (i + 1))) := by
  rw [hit_drop h, mayHGo]; rfl
theorem may_no4 {p : Pol} {c : Cell} (k : p.1 = 4) (h : ¬ (timeB c.1 = true ∧ c.2.1 = 0 ∧ (c.2.2.1.length : Int) = 0 ∧ mayHGo c.1 p.2.1 (max (-1) (c.1 - p.2.2.1)) c.2.2.2 = true ∧ sumH c.2.2.2 ≤ p.2.1)) : mayC p c = false := by
  rw [← Bool.not_eq_true, may4 k]
  intro g
  exact h ⟨by simp [timeB]; exact g.time, g.level, by rw [g.sums]; rfl, g.go, g.sum⟩
theorem emayM (p : Pol) (c : Cell) (k : p.1 = 4) : Meets Try.prog 51 [polAV p, cellAV c] [] (Y := Unit) (fun _ => True) (fun _ => .bool fun _ => mayC p c) (fun _ => []) := by
  by_cases hp : PolOk p
  · have hL := hp.limit
    have hW := hp.window
    have htb : timeB c.1 = true ↔ 0 ≤ c.1 ∧ c.1 ≤ 1099511627776 := by simp [timeB]
    refine Meets.intro hm (fn := Try.f51) Try.func51 rfl (by decide) (Nat.le_of_ble_eq_true rfl) (fun _ => rfl) ?_; intro S hok; (conv => whnf)
    (repeat' ((conv => whnf); first | apply And.intro | exact ⟨by kernel_rfl⟩ | apply DrawN.mk | apply CodeN.step hm rfl | exact trivial | exact rfl | (intro hh; try simp only [bs] at hh))); all_goals (conv => whnf)
    (refine CallN.q (check_ok hp) [] (fun _ _ => ?_); (repeat' ((conv => whnf); first | apply And.intro | exact ⟨by kernel_rfl⟩ | apply DrawN.mk | apply CodeN.step hm rfl | exact trivial | exact rfl | (intro hh; try simp only [bs] at hh; try exact absurd hh (by decide)))); all_goals (conv => whnf); all_goals try exact ⟨by decide⟩)
    all_goals try
      (refine CallN.q (etimeM c.1) [] (fun _ _ => ?_); (repeat' ((conv => whnf); first | apply And.intro | exact ⟨by kernel_rfl⟩ | apply DrawN.mk | apply CodeN.step hm rfl | exact trivial | exact rfl | (intro hh; try simp only [bs] at hh; try exact absurd hh (by decide)))); all_goals (conv => whnf); all_goals try exact ⟨by decide⟩)
    all_goals first
      | ((refine RetN.q () [] ?_ ?_ ?_ <;> (repeat' ((conv => whnf) <;> first | exact rfl | exact trivial | apply And.intro | exact Nat.zero_add _)); all_goals ((conv => whnf); try simp only []))
         have hf := may_no4 (p := p) (c := c) k (by
           rintro ⟨h1, h2, h3, h4⟩
           first
             | omega
             | (rw [h1] at hh; cases hh))
         first | exact hf | exact hf.symm)
      | skip
    have ht : timeB c.1 = true := by assumption
    have ht2 := htb.1 ht
    have ew : IntKind.i64.wrap (c.1 - p.2.2.1) = c.1 - p.2.2.1 := wr (by omega)
    have h0 : (if c.1 - p.2.2.1 > -1 then c.1 - p.2.2.1 else -1) = max (-1) (c.1 - p.2.2.1) := by split <;> omega
    have hlv : c.2.1 = 0 := by assumption
    have hsl : (c.2.2.1.length : Int) = 0 := hh
    refine LoopN.intro hm (X := Nat) (fun i => i ≤ c.2.2.2.length ∧ mayHGo c.1 p.2.1 (max (-1) (c.1 - p.2.2.1)) c.2.2.2 = mayHGo c.1 p.2.1 (lastH (max (-1) (c.1 - p.2.2.1)) c.2.2.2 i) (c.2.2.2.drop i) ∧ -1 + (i : Int) ≤ lastH (max (-1) (c.1 - p.2.2.1)) c.2.2.2 i ∧ lastH (max (-1) (c.1 - p.2.2.1)) c.2.2.2 i ≤ c.1 ∧ 0 ≤ sumH (c.2.2.2.take i) ∧ sumH (c.2.2.2.take i) ≤ 1048576 * (i : Int)) (fun i => c.2.2.2.length - i)
      (fun i => [(43, .int .i64 fun _ => (i : Int)), (42, .int .i64 fun _ => (c.2.2.2.length : Int)), (41, .lst HitT fun _ => c.2.2.2), (6, .int .i64 fun _ => lastH (max (-1) (c.1 - p.2.2.1)) c.2.2.2 i), (5, .int .i64 fun _ => sumH (c.2.2.2.take i)), (3, .ptr 1 0), (2, .ptr 0 0)])
      (fun i => [.cells 23 [.int .i64 fun _ => p.1, .int .i64 fun _ => p.2.1, .int .i64 fun _ => p.2.2.1, .int .i64 fun _ => p.2.2.2], .cells 31 [.int .i64 fun _ => c.1, .int .i64 fun _ => c.2.1, .lst (.int .i64) fun _ => c.2.2.1, .lst HitT fun _ => c.2.2.2]]) 0 [0, 1] ⟨rfl, rfl, ?_, ?_⟩ ⟨Nat.zero_le _, rfl, by show -1 + ((0 : Nat) : Int) ≤ max (-1) (c.1 - p.2.2.1); omega, by show max (-1) (c.1 - p.2.2.1) ≤ c.1; omega, Int.le_refl _, by simp [sumH]⟩ (fun i hi => ?_)
    · (repeat' ((conv => whnf) <;> first | exact rfl | exact trivial | apply And.intro | exact Nat.zero_add _))
    · (repeat' ((conv => whnf) <;> first | exact rfl | exact trivial | apply And.intro | exact Nat.zero_add _)); all_goals ((conv => whnf); try simp only [])
      simp only [ew]
      exact h0
    obtain ⟨hi, hgo, hb1, hb2, hb3, hb4⟩ := hi
    have hstep := fun h => mayH_step (a := c.1) (L := p.2.1) (last0 := max (-1) (c.1 - p.2.2.1)) (l := c.2.2.2) (i := i) h
    have hst := fun h => sumH_take (l := c.2.2.2) (i := i) h
    have hl1 : lastH (max (-1) (c.1 - p.2.2.1)) c.2.2.2 (i + 1) = (c.2.2.2.getD i (0, 0)).1 := rfl
    have hl2 : i < c.2.2.2.length → (c.2.2.2.getD i (0, 0)).1 ≤ c.1 → mayHGo c.1 p.2.1 (lastH (max (-1) (c.1 - p.2.2.1)) c.2.2.2 i) (c.2.2.2.drop i) = mayHGo c.1 p.2.1 (lastH (max (-1) (c.1 - p.2.2.1)) c.2.2.2 (i + 1)) (c.2.2.2.drop (i + 1)) → 1 ≤ (c.2.2.2.getD i (0, 0)).2 → (c.2.2.2.getD i (0, 0)).2 ≤ 1048576 → lastH (max (-1) (c.1 - p.2.2.1)) c.2.2.2 i < (c.2.2.2.getD i (0, 0)).1 →
        (i + 1 ≤ c.2.2.2.length ∧ mayHGo c.1 p.2.1 (max (-1) (c.1 - p.2.2.1)) c.2.2.2 = mayHGo c.1 p.2.1 (lastH (max (-1) (c.1 - p.2.2.1)) c.2.2.2 (i + 1)) (c.2.2.2.drop (i + 1)) ∧ -1 + ((i + 1 : Nat) : Int) ≤ lastH (max (-1) (c.1 - p.2.2.1)) c.2.2.2 (i + 1) ∧ lastH (max (-1) (c.1 - p.2.2.1)) c.2.2.2 (i + 1) ≤ c.1 ∧ 0 ≤ sumH (c.2.2.2.take (i + 1)) ∧ sumH (c.2.2.2.take (i + 1)) ≤ 1048576 * ((i + 1 : Nat) : Int)) := fun q1 q2 q3 q4 q5 q6 => by
      rw [hst q1]
      exact ⟨q1, hgo.trans q3, by rw [hl1]; omega, by rw [hl1]; exact q2, by omega, by omega⟩
    generalize hx : c.2.2.2.getD i (0, 0) = x at *
    have hx' : c.2.2.2.getD (i : Int).toNat HitT.dflt = x := hx
    (repeat' ((conv => whnf); first | apply And.intro | exact ⟨by kernel_rfl⟩ | apply DrawN.mk | apply CodeN.step hm rfl | exact trivial | exact rfl | (intro hh; try simp only [bs] at hh))); all_goals (conv => whnf)
    all_goals (try simp only [hx'] at *)
    all_goals first
      | (refine Ob.mk ?_; first | omega | (simp only []; omega))
      | ((refine RetN.q () [] ?_ ?_ ?_ <;> (repeat' ((conv => whnf) <;> first | exact rfl | exact trivial | apply And.intro | exact Nat.zero_add _)); all_goals ((conv => whnf); try simp only []))
         have hf := may_no4 (p := p) (c := c) k (by
           rintro ⟨_, _, _, h4, _⟩
           rw [hgo, hstep (by omega)] at h4
           simp only [Bool.and_eq_true, decide_eq_true_eq] at h4
           omega)
         first | exact hf | exact hf.symm)
      | (have hi2 : i < c.2.2.2.length := by omega
         have q2 : ¬ c.1 < x.1 := by assumption
         have q4 : ¬ x.2 < 1 := by assumption
         have q5 : ¬ p.2.1 < x.2 := by assumption
         have q6 : ¬ x.1 ≤ lastH (max (-1) (c.1 - p.2.2.1)) c.2.2.2 i := by assumption
         have q3 := hstep hi2
         rw [decide_eq_true (by omega), decide_eq_true (by omega), decide_eq_true (by omega), decide_eq_true (by omega), Bool.and_self, Bool.and_self, Bool.and_self, Bool.true_and] at q3
         have hh2 := hst hi2
         refine ⟨i + 1, [0, 1], ⟨rfl, rfl, ?_, ?_⟩, hl2 hi2 (by omega) q3 (by omega) (by omega) (by omega), by omega⟩
         · (repeat' ((conv => whnf) <;> first | exact rfl | exact trivial | apply And.intro | exact Nat.zero_add _))
         · (repeat' ((conv => whnf) <;> first | exact rfl | exact trivial | apply And.intro | exact Nat.zero_add _)); all_goals ((conv => whnf); try simp only [])
           · exact wr (by omega)
           · exact hl1.symm
           · rw [hh2]
             exact wr (by omega))
      | (have e : i = c.2.2.2.length := by omega
         (refine RetN.q () [] ?_ ?_ ?_ <;> (repeat' ((conv => whnf) <;> first | exact rfl | exact trivial | apply And.intro | exact Nat.zero_add _)); all_goals ((conv => whnf); try simp only []))
         have hg1 : mayHGo c.1 p.2.1 (max (-1) (c.1 - p.2.2.1)) c.2.2.2 = true := by rw [hgo, e, List.drop_length]; rfl
         rw [Bool.eq_iff_iff, may4 k, decide_eq_true_eq]
         rw [e, List.take_length]
         constructor
         · intro h
           exact ⟨hp, ht2, hlv, List.length_eq_zero_iff.1 (by omega), hg1, h⟩
         · intro g
           exact g.sum)
  · have hf : mayC p c = false := by unfold mayC; rw [decide_eq_false hp]; rfl
    refine Meets.intro hm (fn := Try.f51) Try.func51 rfl (by decide) (Nat.le_of_ble_eq_true rfl) (fun _ => rfl) ?_; intro S hok; (conv => whnf)
    (repeat' ((conv => whnf); first | apply And.intro | exact ⟨by kernel_rfl⟩ | apply DrawN.mk | apply CodeN.step hm rfl | exact trivial | exact rfl | (intro hh; try simp only [bs] at hh))); all_goals (conv => whnf)
    (refine CallN.q (check_no hp) [] (fun _ _ => ?_); (repeat' ((conv => whnf); first | apply And.intro | exact ⟨by kernel_rfl⟩ | apply DrawN.mk | apply CodeN.step hm rfl | exact trivial | exact rfl | (intro hh; try simp only [bs] at hh; try exact absurd hh (by decide)))); all_goals (conv => whnf); all_goals try exact ⟨by decide⟩)
    (refine RetN.q () [] ?_ ?_ ?_ <;> (repeat' ((conv => whnf) <;> first | exact rfl | exact trivial | apply And.intro | exact Nat.zero_add _)); all_goals ((conv => whnf); try simp only []))
    exact hf
theorem ecountM (l : List Hit) (hl : l.length ≤ 1100000) (hw : ∀ h ∈ l, 0 ≤ h.2 ∧ h.2 ≤ 1048576) : Meets Try.prog 89 [.lst HitT fun _ => l] [] (Y := Unit) (fun _ => True) (fun _ => .int .i64 fun _ => sumH l) (fun _ => []) := by
  refine Meets.intro hm (fn := Try.f89) Try.func89 rfl (by decide) (Nat.le_of_ble_eq_true rfl) (fun _ => rfl) ?_; intro S hok; (conv => whnf)
  (repeat' ((conv => whnf); first | apply And.intro | exact ⟨by kernel_rfl⟩ | apply DrawN.mk | apply CodeN.step hm rfl | exact trivial | exact rfl | (intro hh; try simp only [bs] at hh))); all_goals (conv => whnf)
  refine LoopN.intro hm (X := Nat) (fun i => i ≤ l.length) (fun i => l.length - i)
    (fun i => [(8, .int .i64 fun _ => (i : Int)), (7, .int .i64 fun _ => (l.length : Int)), (6, .lst HitT fun _ => l), (3, .int .i64 fun _ => sumH (l.take i))]) (fun _ => []) 0 [] ⟨rfl, rfl, ?_, ?_⟩ (Nat.zero_le _) (fun i hi => ?_)
  · (repeat' ((conv => whnf) <;> first | exact rfl | exact trivial | apply And.intro | exact Nat.zero_add _))
  · (repeat' ((conv => whnf) <;> first | exact rfl | exact trivial | apply And.intro | exact Nat.zero_add _))
  have hb := sumH_bound (m := 1048576) (by omega) (l := l.take i) fun h hh => hw h (List.mem_of_mem_take hh)
  rw [List.length_take] at hb
  have hst := fun h => sumH_take (l := l) (i := i) h
  have hwi := fun h => hw _ (hit_mem (l := l) (i := i) h)
  (repeat' ((conv => whnf); first | apply And.intro | exact ⟨by kernel_rfl⟩ | apply DrawN.mk | apply CodeN.step hm rfl | exact trivial | exact rfl | (intro hh; try simp only [bs] at hh))); all_goals (conv => whnf)
  all_goals first
    | (refine Ob.mk ?_; first | omega | (simp only []; omega))
    | (have hi2 : i < l.length := by omega
       have h1 := hst hi2
       have h2 := hwi hi2
       refine ⟨i + 1, [], ⟨rfl, rfl, ?_, ?_⟩, hi2, Nat.sub_lt_sub_left hi2 (Nat.lt_succ_self _)⟩
       · (repeat' ((conv => whnf) <;> first | exact rfl | exact trivial | apply And.intro | exact Nat.zero_add _))
       · (repeat' ((conv => whnf) <;> first | exact rfl | exact trivial | apply And.intro | exact Nat.zero_add _)); all_goals ((conv => whnf); try simp only [])
         · exact wr (by omega)
         · show IntKind.i64.wrap (sumH (l.take i) + (l.getD i (0, 0)).2) = _
           rw [h1]
           exact wr (by omega))
    | (have e : i = l.length := by omega
       (refine RetN.q () [] ?_ ?_ ?_ <;> (repeat' ((conv => whnf) <;> first | exact rfl | exact trivial | apply And.intro | exact Nat.zero_add _)); all_goals ((conv => whnf); try simp only []))
       rw [e, List.take_length])
theorem esinceM (p : Pol) (l : List Hit) (t : Int) (hp : PolOk p) (ht : 0 ≤ t ∧ t ≤ 4398046511104) (hl : l.length ≤ 1100000) : Meets Try.prog 88 [polAV p, .lst HitT fun _ => l, .int .i64 fun _ => t] [] (Y := Unit) (fun _ => True) (fun _ => .lst HitT fun _ => sinceE p l t) (fun _ => []) := by
  have hW := hp.window
  have ew : IntKind.i64.wrap (t - p.2.2.1) = t - p.2.2.1 := wr (by omega)
  refine Meets.intro hm (fn := Try.f88) Try.func88 rfl (by decide) (Nat.le_of_ble_eq_true rfl) (fun _ => rfl) ?_; intro S hok; (conv => whnf)
  (repeat' ((conv => whnf); first | apply And.intro | exact ⟨by kernel_rfl⟩ | apply DrawN.mk | apply CodeN.step hm rfl | exact trivial | exact rfl | (intro hh; try simp only [bs] at hh))); all_goals (conv => whnf)
  refine LoopN.intro hm (X := Nat) (fun i => i ≤ l.length ∧ ∀ j, j < i → (l.getD j (0, 0)).1 ≤ t - p.2.2.1) (fun i => l.length - i)
    (fun i => [(7, .int .i64 fun _ => (i : Int)), (3, .ptr 0 0), (1, .lst HitT fun _ => l), (2, .int .i64 fun _ => t)]) (fun _ => [.cells 23 [.int .i64 fun _ => p.1, .int .i64 fun _ => p.2.1, .int .i64 fun _ => p.2.2.1, .int .i64 fun _ => p.2.2.2]]) 0 [0] ⟨rfl, rfl, ?_, ?_⟩ ⟨Nat.zero_le _, fun j hj => by omega⟩ (fun i hi => ?_)
  · (repeat' ((conv => whnf) <;> first | exact rfl | exact trivial | apply And.intro | exact Nat.zero_add _))
  · (repeat' ((conv => whnf) <;> first | exact rfl | exact trivial | apply And.intro | exact Nat.zero_add _))
  obtain ⟨hi, hj⟩ := hi
  (repeat' ((conv => whnf); first | apply And.intro | exact ⟨by kernel_rfl⟩ | apply DrawN.mk | apply CodeN.step hm rfl | exact trivial | exact rfl | (intro hh; try simp only [bs] at hh))); all_goals (conv => whnf)
  · refine Ob.mk ?_
    simp only []; omega
  · refine Ob.mk ?_
    simp only []; omega
  · (refine RetN.q () [] ?_ ?_ ?_ <;> (repeat' ((conv => whnf) <;> first | exact rfl | exact trivial | apply And.intro | exact Nat.zero_add _)); all_goals ((conv => whnf); try simp only []))
    rw [Int.toNat_natCast, Int.toNat_natCast, List.take_length]
    exact (since_drop hi hj fun h => by rw [← ew]; exact hh).symm
  · have hi2 : i < l.length := by omega
    have h1 : ¬ t - p.2.2.1 < (l.getD i (0, 0)).1 := by rw [← ew]; exact hh
    refine ⟨i + 1, [0], ⟨rfl, rfl, ?_, ?_⟩, ⟨by omega, fun j hj2 => ?_⟩, by omega⟩
    · (repeat' ((conv => whnf) <;> first | exact rfl | exact trivial | apply And.intro | exact Nat.zero_add _))
    · (repeat' ((conv => whnf) <;> first | exact rfl | exact trivial | apply And.intro | exact Nat.zero_add _)); all_goals ((conv => whnf); try simp only [])
      exact wr (by omega)
    · by_cases e : j = i
      · rw [e]; omega
      · exact hj j (by omega)
  · refine Ob.mk ?_
    simp only []; omega
  · (refine RetN.q () [] ?_ ?_ ?_ <;> (repeat' ((conv => whnf) <;> first | exact rfl | exact trivial | apply And.intro | exact Nat.zero_add _)); all_goals ((conv => whnf); try simp only []))
    rw [Int.toNat_natCast, Int.toNat_natCast, List.take_length]
    exact (since_drop hi hj fun h => by omega).symm
theorem mayH_len {a L : Int} : ∀ {l : List Hit} {last : Int}, mayHGo a L last l = true → last + l.length ≤ max last a
  | [], last, _ => by simp; omega
  | x :: r, last, h => by
    simp only [mayHGo, Bool.and_eq_true, decide_eq_true_eq] at h
    have ih := mayH_len h.2
    rw [List.length_cons, Int.natCast_add]
    omega
theorem elen {p : Pol} {c : Cell} (hm : mayC p c = true) (k : p.1 = 4) : c.2.2.2.length ≤ 1048576 := by
  have g := (may4 k).1 hm
  have hW := g.pol.window
  have hT := g.time
  have := mayH_len g.go
  omega
/-- It counts at a time what is left of the hits. -/
theorem ecnt {p : Pol} {T t : Int} {l : List Hit} (k : p.1 = 4) : cnt p (T, 0, [], l) t = sumH (sinceE p l t) := by
  unfold cnt; rw [if_neg (by omega), if_neg (by omega), if_neg (by omega)]
theorem ewait_at {p : Pol} {T m : Int} {l : List Hit} (k : p.1 = 4) (hm : mayC p (T, 0, [], l) = true) {i : Nat} (hi : i ≤ l.length) (h1 : i = 0 ∨ m < sumH (l.drop (i - 1))) (h2 : sumH (l.drop i) ≤ m) :
    wt p (T, 0, [], l) m = lastH (T - p.2.2.1) l i + p.2.2.1 - T := by
  have g := (may4 k).1 hm
  have hW := g.pol.window
  have hgo : mayHGo T p.2.1 (max (-1) (T - p.2.2.1)) l = true := g.go
  have hmem := mayH_mem _ _ hgo
  cases i with
  | zero =>
    refine wt_eq hm (show 0 ≤ T - p.2.2.1 + p.2.2.1 - T by omega) (show T - p.2.2.1 + p.2.2.1 - T ≤ _ by omega) (.inl (show T - p.2.2.1 + p.2.2.1 - T = 0 by omega)) (.inr ?_)
    rw [ecnt k]
    have : sinceE p l ((T, (0 : Int), ([] : List Int), l).1 + (lastH (T - p.2.2.1) l 0 + p.2.2.1 - T)) = l.drop 0 := by
      refine since_drop (Nat.zero_le _) (fun j hj => by omega) fun h => ?_
      have := hmem _ (hit_mem h)
      show T + (T - p.2.2.1 + p.2.2.1 - T) - p.2.2.1 < _
      omega
    rw [this]; exact h2
  | succ i =>
    have hx : max (-1) (T - p.2.2.1) < lastH (T - p.2.2.1) l (i + 1) ∧ lastH (T - p.2.2.1) l (i + 1) ≤ T := ⟨(hmem _ (hit_mem (l := l) (i := i) (by omega))).1, (hmem _ (hit_mem (l := l) (i := i) (by omega))).2.1⟩
    have h1 : m < sumH (l.drop i) := h1.resolve_left (by omega)
    have hlt : ∀ j, j < i + 1 → (l.getD j (0, 0)).1 ≤ lastH (T - p.2.2.1) l (i + 1) := fun j hj => by
      by_cases e : j = i
      · rw [e]; exact Int.le_refl _
      · exact Int.le_of_lt (mayH_lt hgo (by omega) (by omega))
    have hlt1 : ∀ j, j < i → (l.getD j (0, 0)).1 < lastH (T - p.2.2.1) l (i + 1) := fun j hj => mayH_lt hgo (by omega) (by omega)
    have hlt3 : lastH (T - p.2.2.1) l (i + 1) ≤ (l.getD i (0, 0)).1 := Int.le_refl _
    have hlt2 : i + 1 < l.length → lastH (T - p.2.2.1) l (i + 1) < (l.getD (i + 1) (0, 0)).1 := fun hj => mayH_lt hgo (by omega) hj
    generalize lastH (T - p.2.2.1) l (i + 1) = x at *
    refine wt_eq hm (by omega) (by omega) (.inr ?_) (.inr ?_)
    · rw [ecnt k]
      have : sinceE p l ((T, (0 : Int), ([] : List Int), l).1 + (x + p.2.2.1 - T - 1)) = l.drop i := by
        refine since_drop (by omega) (fun j hj => ?_) fun h => ?_
        · have := hlt1 j hj
          show _ ≤ T + (x + p.2.2.1 - T - 1) - p.2.2.1
          omega
        · show T + (x + p.2.2.1 - T - 1) - p.2.2.1 < _
          have := hlt3
          omega
      rw [this]; exact h1
    · rw [ecnt k]
      have : sinceE p l ((T, (0 : Int), ([] : List Int), l).1 + (x + p.2.2.1 - T)) = l.drop (i + 1) := by
        refine since_drop hi (fun j hj => ?_) fun h => ?_
        · show _ ≤ T + (x + p.2.2.1 - T) - p.2.2.1
          have := hlt j hj
          omega
        · have := hlt2 h
          show T + (x + p.2.2.1 - T) - p.2.2.1 < _
          omega
      rw [this]; exact h2
theorem ewaitM (p : Pol) (l : List Hit) (T m : Int) (k : p.1 = 4) (hmy : mayC p (T, 0, [], l) = true) (hm0 : 0 ≤ m) : Meets Try.prog 90 [polAV p, .lst HitT fun _ => l, .int .i64 fun _ => T, .int .i64 fun _ => m] [] (Y := Unit) (fun _ => True) (fun _ => .int .i64 fun _ => wt p (T, 0, [], l) m) (fun _ => []) := by
  have g := (may4 k).1 hmy
  have hp := g.pol
  have hT := g.time
  have hL := hp.limit
  have hW := hp.window
  have hgo : mayHGo T p.2.1 (max (-1) (T - p.2.2.1)) l = true := g.go
  have hmem := mayH_mem _ _ hgo
  have hlen := elen hmy k
  refine Meets.intro hm (fn := Try.f90) Try.func90 rfl (by decide) (Nat.le_of_ble_eq_true rfl) (fun _ => rfl) ?_; intro S hok; (conv => whnf)
  (repeat' ((conv => whnf); first | apply And.intro | exact ⟨by kernel_rfl⟩ | apply DrawN.mk | apply CodeN.step hm rfl | exact trivial | exact rfl | (intro hh; try simp only [bs] at hh))); all_goals (conv => whnf)
  (refine CallN.q (ecountM l (by simp only [] at hlen; omega) (fun h hh => by have := hmem h hh; omega)) [] (fun _ _ => ?_); (repeat' ((conv => whnf); first | apply And.intro | exact ⟨by kernel_rfl⟩ | apply DrawN.mk | apply CodeN.step hm rfl | exact trivial | exact rfl | (intro hh; try simp only [bs] at hh; try exact absurd hh (by decide)))); all_goals (conv => whnf); all_goals try exact ⟨by decide⟩)
  have hlen2 : l.length ≤ 1048576 := hlen
  refine LoopN.intro hm (X := Nat) (fun i => i ≤ l.length ∧ (i = 0 ∨ m < sumH (l.drop (i - 1)))) (fun i => l.length - i)
    (fun i => [(18, .int .i64 fun _ => (i : Int)), (17, .int .i64 fun _ => (l.length : Int)), (16, .lst HitT fun _ => l), (10, .int .i64 fun _ => lastH (T - p.2.2.1) l i + p.2.2.1), (9, .int .i64 fun _ => sumH (l.drop i)), (4, .ptr 0 0), (2, .int .i64 fun _ => T), (3, .int .i64 fun _ => m)])
    (fun _ => [.cells 23 [.int .i64 fun _ => p.1, .int .i64 fun _ => p.2.1, .int .i64 fun _ => p.2.2.1, .int .i64 fun _ => p.2.2.2]]) 0 [0] ⟨rfl, rfl, ?_, ?_⟩ ⟨Nat.zero_le _, .inl rfl⟩ (fun i hi => ?_)
  · (repeat' ((conv => whnf) <;> first | exact rfl | exact trivial | apply And.intro | exact Nat.zero_add _))
  · (repeat' ((conv => whnf) <;> first | exact rfl | exact trivial | apply And.intro | exact Nat.zero_add _)); all_goals ((conv => whnf); try simp only [])
    show T = T - p.2.2.1 + p.2.2.1
    omega
  obtain ⟨hi, hlo⟩ := hi
  have hwa := ewait_at k hmy hi hlo
  have hsb := sumH_bound (m := 1048576) (by omega) (l := l.drop i) fun h hh => by have := hmem h (List.mem_of_mem_drop hh); omega
  rw [List.length_drop] at hsb
  have hdr := fun h => congrArg sumH (hit_drop (l := l) (i := i) h)
  have hmi := fun h => hmem _ (hit_mem (l := l) (i := i) h)
  have hla : lastH (T - p.2.2.1) l (i + 1) = (l.getD i (0, 0)).1 := rfl
  (repeat' ((conv => whnf); first | apply And.intro | exact ⟨by kernel_rfl⟩ | apply DrawN.mk | apply CodeN.step hm rfl | exact trivial | exact rfl | (intro hh; try simp only [bs] at hh))); all_goals (conv => whnf)
  · refine Ob.mk ?_
    simp only []; omega
  · have hw := hwa hh
    have hwb := wt_bound (p := p) (d := (T, 0, [], l)) hp m
    (refine RetN.q () [] ?_ ?_ ?_ <;> (repeat' ((conv => whnf) <;> first | exact rfl | exact trivial | apply And.intro | exact Nat.zero_add _)); all_goals ((conv => whnf); try simp only []))
    rw [hw] at hwb ⊢
    exact wr (by omega)
  · have hi2 : i < l.length := by omega
    have h1 := hdr hi2
    have h2 := hmi hi2
    rw [sumH_cons] at h1
    refine ⟨i + 1, [0], ⟨rfl, rfl, ?_, ?_⟩, ⟨by omega, .inr ?_⟩, by omega⟩
    · (repeat' ((conv => whnf) <;> first | exact rfl | exact trivial | apply And.intro | exact Nat.zero_add _))
    · (repeat' ((conv => whnf) <;> first | exact rfl | exact trivial | apply And.intro | exact Nat.zero_add _)); all_goals ((conv => whnf); try simp only [])
      · exact wr (by omega)
      · show IntKind.i64.wrap ((l.getD i (0, 0)).1 + p.2.2.1) = _
        rw [wr (by omega)]; rfl
      · show IntKind.i64.wrap (sumH (l.drop i) - (l.getD i (0, 0)).2) = _
        rw [wr (by omega)]; omega
    · rw [Nat.add_sub_cancel]; omega
  · have e : i = l.length := by omega
    have hw := hwa (by rw [e, List.drop_length]; exact hm0)
    have hwb := wt_bound (p := p) (d := (T, 0, [], l)) hp m
    (refine RetN.q () [] ?_ ?_ ?_ <;> (repeat' ((conv => whnf) <;> first | exact rfl | exact trivial | apply And.intro | exact Nat.zero_add _)); all_goals ((conv => whnf); try simp only []))
    rw [hw] at hwb ⊢
    exact wr (by omega)
theorem cloneH (xs : List Hit) (hl : xs.length ≤ 2000000) : Meets Try.prog 87 [.lst HitT fun _ => xs] [] (Y := Unit) (fun _ => True)
    (fun _ => .vec 0 2 (fun _ => 0) (fun _ => xs.length)) (fun _ => [.vect 64 HitT fun _ => xs]) := by
  refine Meets.intro hm (fn := Try.f87) Try.func87 rfl (by decide) (Nat.le_of_ble_eq_true rfl) (fun _ => rfl) ?_; intro S hok; (conv => whnf)
  (repeat' ((conv => whnf); first | apply And.intro | exact ⟨by kernel_rfl⟩ | apply DrawN.mk | apply CodeN.step hm rfl | exact trivial | exact rfl | (intro hh; try simp only [bs] at hh))); all_goals (conv => whnf)
  · have hx : xs = [] := ‹_ = true → xs = []› hh
    refine RetN.nil 64 HitT 0 ?_
    (conv => whnf)
    (refine RetN.q () [0] ?_ ?_ ?_ <;> (repeat' ((conv => whnf) <;> first | exact rfl | exact trivial | apply And.intro | exact Nat.zero_add _)); all_goals ((conv => whnf); try simp only []))
    all_goals simp [hx]
  · refine ⟨⟨rfl, ?_, ?_⟩⟩
    · show 0 + xs.length ≤ _
      omega
    · show (0 + xs.length) * 16 ≤ _
      omega
  · (refine RetN.q () [0] ?_ ?_ ?_ <;> (repeat' ((conv => whnf) <;> first | exact rfl | exact trivial | apply And.intro | exact Nat.zero_add _)); all_goals ((conv => whnf); try simp only []))
    all_goals simp
theorem addH_new {l : List Hit} {T w : Int} (h : l.length = 0 ∨ (l.getD (l.length - 1) (0, 0)).1 ≠ T) : addH l T w = l ++ [(T, w)] := by
  unfold addH
  rw [List.getLast?_eq_getElem?]
  cases e : l[l.length - 1]? with
  | none =>
    rw [List.getElem?_eq_none_iff] at e
    have : l = [] := List.length_eq_zero_iff.1 (by omega)
    subst this; rfl
  | some x =>
    have hx := (List.getElem?_eq_some_iff.1 e).1
    have h := h.resolve_left (by omega)
    rw [List.getD_eq_getElem?_getD, e] at h
    exact if_neg h
theorem addH_last {l : List Hit} {T w : Int} (h0 : l.length ≠ 0) (h : (l.getD (l.length - 1) (0, 0)).1 = T) : addH l T w = l.set (l.length - 1) ((l.getD (l.length - 1) (0, 0)).1, (l.getD (l.length - 1) (0, 0)).2 + w) := by
  have hne : l ≠ [] := fun e => h0 (by rw [e]; rfl)
  obtain ⟨r, x, rfl⟩ : ∃ r x, l = r ++ [x] := ⟨_, _, (List.dropLast_concat_getLast hne).symm⟩
  have e1 : (r ++ [x]).length - 1 = r.length := by simp
  rw [e1] at h ⊢
  have e2 : (r ++ [x]).getD r.length (0, 0) = x := by simp [List.getD_eq_getElem?_getD]
  rw [e2] at h ⊢
  unfold addH
  rw [List.getLast?_concat]
  simp only []
  rw [if_pos h, List.dropLast_concat, ← h]
  simp [List.set_append]
theorem ask4 {p : Pol} {c : Cell} {t w : Int} (k : p.1 = 4) (h1 : mayC p c = true) (h2 : timeB t = true) (h3 : weighs w = true) :
    askC p c t w = if sumH (sinceE p c.2.2.2 (max t c.1)) + w ≤ p.2.1 then (added p (moved p c (max t c.1)) w, true, p.2.1 - (sumH (sinceE p c.2.2.2 (max t c.1)) + w), 0, wt p (added p (moved p c (max t c.1)) w) 0)
    else (moved p c (max t c.1), false, p.2.1 - sumH (sinceE p c.2.2.2 (max t c.1)), (if p.2.1 < w then 2199023255552 else wt p (moved p c (max t c.1)) (p.2.1 - w)), wt p (moved p c (max t c.1)) 0) := by
  have em : own p (moved p c (max t c.1)) = sumH (sinceE p c.2.2.2 (max t c.1)) := by unfold own moved; simp only [if_neg (show ¬ (p.1 = 1 ∨ p.1 = 2) by omega), if_neg (show ¬ p.1 = 3 by omega)]
  have ewt : ∀ w, worth p w = w := fun w => by unfold worth; rw [if_neg (by omega)]
  rw [ask_ok h1 h2 h3, em, ewt, ewt, ewt, Int.tdiv_one, Int.tdiv_one]
set_option maxRecDepth 4000 in
theorem easkM (p : Pol) (c : Cell) (t w : Int) (k : p.1 = 4) : Meets Try.prog 52 [polAV p, cellAV c, .int .i64 fun _ => t, .int .i64 fun _ => w] [] (Y := Unit) (fun _ => True) (fun _ => .tup [cellAV (askC p c t w).1, verAV (askC p c t w).2]) (fun _ => []) := by
  by_cases hv : mayC p c = true ∧ timeB t = true ∧ weighs w = true
  · obtain ⟨h1, h2, h3⟩ := hv
    have M1 := emayM p c k
    have M2 := etimeM t
    have M3 := weighsM w
    rw [h1] at M1
    rw [h2] at M2
    rw [h3] at M3
    have ht : 0 ≤ t ∧ t ≤ 1099511627776 := by simpa [timeB] using h2
    have hw : 1 ≤ w ∧ w ≤ 1048576 := by simpa [weighs] using h3
    have g := (may4 k).1 h1
    have hp := g.pol
    have hct := g.time
    have hL := hp.limit
    have hW := hp.window
    have hln := elen h1 k
    have hmx : (if c.1 > t then c.1 else t) = max t c.1 := by split <;> omega
    have ha := ask4 k h1 h2 h3
    have hmm := moved_may h1 (t := max t c.1) (by omega) (by omega)
    have em : moved p c (max t c.1) = (max t c.1, 0, [], sinceE p c.2.2.2 (max t c.1)) := by unfold moved; rw [if_neg (by omega), if_neg (by omega)]
    rw [em] at hmm ha
    have M4 := esinceM p c.2.2.2 (max t c.1) hp (by omega) (by omega)
    have hT : 0 ≤ max t c.1 ∧ max t c.1 ≤ 1099511627776 := by omega
    refine Meets.intro hm (fn := Try.f52) Try.func52 rfl (by decide) (Nat.le_of_ble_eq_true rfl) (fun _ => rfl) ?_; intro S hok; (conv => whnf)
    (repeat' ((conv => whnf); first | apply And.intro | exact ⟨by kernel_rfl⟩ | apply DrawN.mk | apply CodeN.step hm rfl | exact trivial | exact rfl | (intro hh; try simp only [bs] at hh))); all_goals (conv => whnf)
    (refine CallN.q M1 [] (fun _ _ => ?_); (repeat' ((conv => whnf); first | apply And.intro | exact ⟨by kernel_rfl⟩ | apply DrawN.mk | apply CodeN.step hm rfl | exact trivial | exact rfl | (intro hh; try simp only [bs] at hh; try exact absurd hh (by decide)))); all_goals (conv => whnf); all_goals try exact ⟨by decide⟩)
    (refine CallN.q M2 [] (fun _ _ => ?_); (repeat' ((conv => whnf); first | apply And.intro | exact ⟨by kernel_rfl⟩ | apply DrawN.mk | apply CodeN.step hm rfl | exact trivial | exact rfl | (intro hh; try simp only [bs] at hh; try exact absurd hh (by decide)))); all_goals (conv => whnf); all_goals try exact ⟨by decide⟩)
    (refine CallN.q M3 [] (fun _ _ => ?_); (repeat' ((conv => whnf); first | apply And.intro | exact ⟨by kernel_rfl⟩ | apply DrawN.mk | apply CodeN.step hm rfl | exact trivial | exact rfl | (intro hh; try simp only [bs] at hh; try exact absurd hh (by decide)))); all_goals (conv => whnf); all_goals try exact ⟨by decide⟩)
    refine CallN.q M4 [] (fun _ _ => ?_) rfl rfl ?_ trivial
    rotate_left
    · (repeat' ((conv => whnf) <;> first | exact rfl | exact trivial | apply And.intro | exact Nat.zero_add _))
      exact hmx
    have g2 := (may4 k).1 hmm
    have hl2 := elen hmm k
    have hl3 : (sinceE p c.2.2.2 (max t c.1)).length ≤ 1048576 := hl2
    have hmem : ∀ h ∈ sinceE p c.2.2.2 (max t c.1), 0 ≤ h.2 ∧ h.2 ≤ 1048576 := fun h hh => by have := mayH_mem _ _ g2.go h hh; omega
    clear em M1 M2 M3 M4
    generalize max t c.1 = T at *
    generalize sinceE p c.2.2.2 T = l at *
    have M5 := ecountM l (by omega) hmem
    (repeat' ((conv => whnf); first | apply And.intro | exact ⟨by kernel_rfl⟩ | apply DrawN.mk | apply CodeN.step hm rfl | exact trivial | exact rfl | (intro hh; try simp only [bs] at hh; try exact absurd hh (by decide)))); all_goals (conv => whnf)
    (refine CallN.q (cloneH l (by omega)) [] (fun _ _ => ?_); (repeat' ((conv => whnf); first | apply And.intro | exact ⟨by kernel_rfl⟩ | apply DrawN.mk | apply CodeN.step hm rfl | exact trivial | exact rfl | (intro hh; try simp only [bs] at hh; try exact absurd hh (by decide)))); all_goals (conv => whnf); all_goals try exact ⟨by decide⟩)
    have hsb := sumH_bound (m := 1048576) (by omega) hmem
    have enw : IntKind.i64.wrap (sumH l + w) = sumH l + w := wr (by omega)
    have el2 : IntKind.i64.wrap (((l.length + 1 : Nat) : Int) - 1) = l.length := by rw [wr (by omega)]; omega
    have e5 : (l ++ [(T, (0 : Int))]).getD l.length HitT.dflt = (T, 0) := by simp [List.getD_eq_getElem?_getD]
    have e6 : IntKind.i64.wrap w = w := wr (by omega)
    have hq : l.length ≠ 0 → 0 + (IntKind.i64.wrap ((l.length : Int) - 1)).toNat = l.length - 1 := fun h => by rw [wr (by omega)]; omega
    refine CallN.rest M5 [4] ?_ (fun _ _ => ⟨rfl, rfl⟩) ?_
    · (repeat' ((conv => whnf) <;> first | exact rfl | exact trivial | apply And.intro | exact Nat.zero_add _)); all_goals ((conv => whnf); try simp only [])
      rw [List.drop_zero, List.take_length]
    intro y hy
    (repeat' ((conv => whnf); first | apply And.intro | exact ⟨by kernel_rfl⟩ | apply DrawN.mk | apply CodeN.step hm rfl | exact trivial | exact rfl | (intro hh; try simp only [bs] at hh; try exact absurd hh (by decide)))); all_goals (conv => whnf)
    all_goals try
      have hle : sumH l + w ≤ p.2.1 := by rw [← enw]; assumption
      rw [if_pos hle] at ha
      have hadd : added p (T, 0, [], l) w = (T, 0, [], addH l T w) := by
        unfold added; simp only [if_neg (show ¬ p.1 = 1 by omega), if_neg (show ¬ p.1 = 2 by omega), if_neg (show ¬ p.1 = 3 by omega)]
      have hf : Full p (T, 0, [], l) := fun h => by omega
      have ham := added_may hmm hf hw.1 (by
        unfold own worth; simp only [if_neg (show ¬ p.1 = 1 by omega), if_neg (show ¬ (p.1 = 1 ∨ p.1 = 2) by omega), if_neg (show ¬ p.1 = 3 by omega)]; exact hle)
      have hown := added_own hmm hf w
      rw [hadd] at ha ham hown
      have g3 := (may4 k).1 ham
      have hl4 := elen ham k
      have hl5 : (addH l T w).length ≤ 1048576 := hl4
      have hmem3 : ∀ h ∈ addH l T w, 0 ≤ h.2 ∧ h.2 ≤ 1048576 := fun h hh => by have := mayH_mem _ _ g3.go h hh; omega
      have hsum : sumH (addH l T w) = sumH l + w := by
        unfold own worth at hown
        simpa only [if_neg (show ¬ p.1 = 1 by omega), if_neg (show ¬ (p.1 = 1 ∨ p.1 = 2) by omega), if_neg (show ¬ p.1 = 3 by omega)] using hown
      have M6 := ecountM (addH l T w) (by omega) hmem3
      have M7 := ewaitM p (addH l T w) T 0 k ham (Int.le_refl _)
      rw [hsum] at M6
    all_goals try
      refine Ob.mk ?_
      have el : IntKind.i64.wrap ((l.length : Int) - 1) = (l.length : Int) - 1 := wr (by omega)
      have el2 : IntKind.i64.wrap (((l.length + 1 : Nat) : Int) - 1) = l.length := by rw [wr (by omega)]; omega
      have hb : ((Try.t64).bytes : Nat) = 16 := rfl
      simp only [hmx, List.drop_zero, List.take_succ_cons, List.take_zero, List.length_cons, List.length_nil, Nat.zero_add, el, el2, hb, true_and]
      omega
    all_goals try
      have hnew : addH l T w = l ++ [(T, w)] := by
        refine addH_new ?_
        first
          | exact .inl (by omega)
          | (refine .inr fun e => ?_
             rw [hq (by omega), hmx] at hh
             exact hh e)
      rw [hnew] at M6 M7 ha
    all_goals try
      have hnew : addH l T w = l.set (l.length - 1) ((l.getD (l.length - 1) (0, 0)).1, (l.getD (l.length - 1) (0, 0)).2 + w) := by
        refine addH_last (by omega) ?_
        rw [hq (by omega), hmx] at hh
        exact hh
      have hgm := hmem _ (hit_mem (l := l) (i := l.length - 1) (by omega))
      have ew : IntKind.i64.wrap ((l.getD (l.length - 1) (0, 0)).2 + w) = (l.getD (l.length - 1) (0, 0)).2 + w := wr (by omega)
      have hq := hq (by omega)
      rw [hnew] at M6 M7 ha
    all_goals try
      refine CallN.rest M6 [4] ?_ (fun _ _ => ⟨rfl, rfl⟩) ?_
      · (repeat' ((conv => whnf) <;> first | exact rfl | exact trivial | apply And.intro | exact Nat.zero_add _)); all_goals ((conv => whnf); try simp only [])
        first
          | (simp only [hmx, List.drop_zero, List.take_succ_cons, List.take_zero, List.length_cons, List.length_nil, Nat.zero_add, Int.zero_add, el2, Int.toNat_natCast, List.take_length, e5, e6]
             rw [List.set_append_right _ _ (Nat.le_refl _), Nat.sub_self, List.set_cons_zero, List.take_of_length_le (by simp)])
          | (rw [hq, List.drop_zero]
             refine Eq.trans (List.take_of_length_le (by rw [List.length_set]; exact Nat.le_refl _)) ?_
             show l.set (l.length - 1) ((l.getD (l.length - 1) (0, 0)).1, IntKind.i64.wrap ((l.getD (l.length - 1) (0, 0)).2 + w)) = _
             rw [ew])
      intro y hy
      (repeat' ((conv => whnf); first | apply And.intro | exact ⟨by kernel_rfl⟩ | apply DrawN.mk | apply CodeN.step hm rfl | exact trivial | exact rfl | (intro hh; try simp only [bs] at hh; try exact absurd hh (by decide)))); all_goals (conv => whnf)
      refine CallN.rest M7 [4] ?_ (fun _ _ => ⟨rfl, rfl⟩) ?_
      · (repeat' ((conv => whnf) <;> first | exact rfl | exact trivial | apply And.intro | exact Nat.zero_add _)); all_goals ((conv => whnf); try simp only [])
        · first
            | (simp only [hmx, List.drop_zero, List.take_succ_cons, List.take_zero, List.length_cons, List.length_nil, Nat.zero_add, Int.zero_add, el2, Int.toNat_natCast, List.take_length, e5, e6]
               rw [List.set_append_right _ _ (Nat.le_refl _), Nat.sub_self, List.set_cons_zero, List.take_of_length_le (by simp)])
            | (rw [hq, List.drop_zero]
               refine Eq.trans (List.take_of_length_le (by rw [List.length_set]; exact Nat.le_refl _)) ?_
               show l.set (l.length - 1) ((l.getD (l.length - 1) (0, 0)).1, IntKind.i64.wrap ((l.getD (l.length - 1) (0, 0)).2 + w)) = _
               rw [ew])
        · exact hmx
      intro y hy
      (repeat' ((conv => whnf); first | apply And.intro | exact ⟨by kernel_rfl⟩ | apply DrawN.mk | apply CodeN.step hm rfl | exact trivial | exact rfl | (intro hh; try simp only [bs] at hh; try exact absurd hh (by decide)))); all_goals (conv => whnf)
      (refine RetN.frz 4 ?_; (conv => whnf))
      (refine RetN.q () [] ?_ ?_ ?_ <;> (repeat' ((conv => whnf) <;> first | exact rfl | exact trivial | apply And.intro | exact Nat.zero_add _)); all_goals ((conv => whnf); try simp only []))
      all_goals rw [ha]
      all_goals try first | exact hmx | exact wr (by omega)
      all_goals
        first
          | (simp only [hmx, List.drop_zero, List.take_succ_cons, List.take_zero, List.length_cons, List.length_nil, Nat.zero_add, Int.zero_add, el2, Int.toNat_natCast, List.take_length, e5, e6]
             rw [List.set_append_right _ _ (Nat.le_refl _), Nat.sub_self, List.set_cons_zero, List.take_of_length_le (by simp)])
          | (rw [hq, List.drop_zero]
             refine Eq.trans (List.take_of_length_le (by rw [List.length_set]; exact Nat.le_refl _)) ?_
             show l.set (l.length - 1) ((l.getD (l.length - 1) (0, 0)).1, IntKind.i64.wrap ((l.getD (l.length - 1) (0, 0)).2 + w)) = _
             rw [ew])
    all_goals
      have hgt : ¬ sumH l + w ≤ p.2.1 := by rw [← enw]; assumption
      rw [if_neg hgt] at ha
    · rw [if_pos hh] at ha
      refine CallN.rest M5 [4] ?_ (fun _ _ => ⟨rfl, rfl⟩) ?_
      · (repeat' ((conv => whnf) <;> first | exact rfl | exact trivial | apply And.intro | exact Nat.zero_add _)); all_goals ((conv => whnf); try simp only [])
        rw [List.drop_zero, List.take_length]
      intro y hy
      (repeat' ((conv => whnf); first | apply And.intro | exact ⟨by kernel_rfl⟩ | apply DrawN.mk | apply CodeN.step hm rfl | exact trivial | exact rfl | (intro hh; try simp only [bs] at hh; try exact absurd hh (by decide)))); all_goals (conv => whnf)
      refine CallN.rest (ewaitM p l T 0 k hmm (Int.le_refl _)) [4] ?_ (fun _ _ => ⟨rfl, rfl⟩) ?_
      · (repeat' ((conv => whnf) <;> first | exact rfl | exact trivial | apply And.intro | exact Nat.zero_add _)); all_goals ((conv => whnf); try simp only [])
        · rw [List.drop_zero, List.take_length]
        · exact hmx
      intro y hy
      (repeat' ((conv => whnf); first | apply And.intro | exact ⟨by kernel_rfl⟩ | apply DrawN.mk | apply CodeN.step hm rfl | exact trivial | exact rfl | (intro hh; try simp only [bs] at hh; try exact absurd hh (by decide)))); all_goals (conv => whnf)
      (refine RetN.frz 4 ?_; (conv => whnf))
      (refine RetN.q () [] ?_ ?_ ?_ <;> (repeat' ((conv => whnf) <;> first | exact rfl | exact trivial | apply And.intro | exact Nat.zero_add _)); all_goals ((conv => whnf); try simp only []))
      all_goals rw [ha]
      all_goals first
        | done
        | exact hmx
        | exact wr (by omega)
        | rw [List.drop_zero, List.take_length]
    · rw [if_neg hh] at ha
      refine CallN.rest (ewaitM p l T (p.2.1 - w) k hmm (by omega)) [4] ?_ (fun _ _ => ⟨rfl, rfl⟩) ?_
      · (repeat' ((conv => whnf) <;> first | exact rfl | exact trivial | apply And.intro | exact Nat.zero_add _)); all_goals ((conv => whnf); try simp only [])
        · rw [List.drop_zero, List.take_length]
        · exact hmx
        · exact wr (by omega)
      intro y hy
      (repeat' ((conv => whnf); first | apply And.intro | exact ⟨by kernel_rfl⟩ | apply DrawN.mk | apply CodeN.step hm rfl | exact trivial | exact rfl | (intro hh; try simp only [bs] at hh; try exact absurd hh (by decide)))); all_goals (conv => whnf)
      refine CallN.rest M5 [4] ?_ (fun _ _ => ⟨rfl, rfl⟩) ?_
      · (repeat' ((conv => whnf) <;> first | exact rfl | exact trivial | apply And.intro | exact Nat.zero_add _)); all_goals ((conv => whnf); try simp only [])
        rw [List.drop_zero, List.take_length]
      intro y hy
      (repeat' ((conv => whnf); first | apply And.intro | exact ⟨by kernel_rfl⟩ | apply DrawN.mk | apply CodeN.step hm rfl | exact trivial | exact rfl | (intro hh; try simp only [bs] at hh; try exact absurd hh (by decide)))); all_goals (conv => whnf)
      refine CallN.rest (ewaitM p l T 0 k hmm (Int.le_refl _)) [4] ?_ (fun _ _ => ⟨rfl, rfl⟩) ?_
      · (repeat' ((conv => whnf) <;> first | exact rfl | exact trivial | apply And.intro | exact Nat.zero_add _)); all_goals ((conv => whnf); try simp only [])
        · rw [List.drop_zero, List.take_length]
        · exact hmx
      intro y hy
      (repeat' ((conv => whnf); first | apply And.intro | exact ⟨by kernel_rfl⟩ | apply DrawN.mk | apply CodeN.step hm rfl | exact trivial | exact rfl | (intro hh; try simp only [bs] at hh; try exact absurd hh (by decide)))); all_goals (conv => whnf)
      (refine RetN.frz 4 ?_; (conv => whnf))
      (refine RetN.q () [] ?_ ?_ ?_ <;> (repeat' ((conv => whnf) <;> first | exact rfl | exact trivial | apply And.intro | exact Nat.zero_add _)); all_goals ((conv => whnf); try simp only []))
      all_goals rw [ha]
      all_goals first
        | done
        | exact hmx
        | exact wr (by omega)
        | rw [List.drop_zero, List.take_length]
  · rw [ask_bad hv]
    refine Meets.intro hm (fn := Try.f52) Try.func52 rfl (by decide) (Nat.le_of_ble_eq_true rfl) (fun _ => rfl) ?_; intro S hok; (conv => whnf)
    (repeat' ((conv => whnf); first | apply And.intro | exact ⟨by kernel_rfl⟩ | apply DrawN.mk | apply CodeN.step hm rfl | exact trivial | exact rfl | (intro hh; try simp only [bs] at hh))); all_goals (conv => whnf)
    (refine CallN.q (emayM p c k) [] (fun _ _ => ?_); (repeat' ((conv => whnf); first | apply And.intro | exact ⟨by kernel_rfl⟩ | apply DrawN.mk | apply CodeN.step hm rfl | exact trivial | exact rfl | (intro hh; try simp only [bs] at hh; try exact absurd hh (by decide)))); all_goals (conv => whnf); all_goals try exact ⟨by decide⟩)
    all_goals try
      (refine CallN.q (etimeM t) [] (fun _ _ => ?_); (repeat' ((conv => whnf); first | apply And.intro | exact ⟨by kernel_rfl⟩ | apply DrawN.mk | apply CodeN.step hm rfl | exact trivial | exact rfl | (intro hh; try simp only [bs] at hh; try exact absurd hh (by decide)))); all_goals (conv => whnf); all_goals try exact ⟨by decide⟩)
    all_goals try
      (refine CallN.q (weighsM w) [] (fun _ _ => ?_); (repeat' ((conv => whnf); first | apply And.intro | exact ⟨by kernel_rfl⟩ | apply DrawN.mk | apply CodeN.step hm rfl | exact trivial | exact rfl | (intro hh; try simp only [bs] at hh; try exact absurd hh (by decide)))); all_goals (conv => whnf); all_goals try exact ⟨by decide⟩)
    all_goals first
      | (exfalso; exact hv ⟨by assumption, by assumption, by assumption⟩)
      | (refine RetN.q () [] ?_ ?_ ?_ <;> (repeat' ((conv => whnf) <;> first | exact rfl | exact trivial | apply And.intro | exact Nat.zero_add _)); all_goals ((conv => whnf); try simp only []))
theorem eendsM (p : Pol) (c : Cell) (k : p.1 = 4) : Meets Try.prog 53 [polAV p, cellAV c] [] (Y := Unit) (fun _ => True) (fun _ => .int .i64 fun _ => endsC p c) (fun _ => []) := by
  refine Meets.intro hm (fn := Try.f53) Try.func53 rfl (by decide) (Nat.le_of_ble_eq_true rfl) (fun _ => rfl) ?_; intro S hok; (conv => whnf)
  (repeat' ((conv => whnf); first | apply And.intro | exact ⟨by kernel_rfl⟩ | apply DrawN.mk | apply CodeN.step hm rfl | exact trivial | exact rfl | (intro hh; try simp only [bs] at hh))); all_goals (conv => whnf)
  (refine CallN.q (emayM p c k) [] (fun _ _ => ?_); (repeat' ((conv => whnf); first | apply And.intro | exact ⟨by kernel_rfl⟩ | apply DrawN.mk | apply CodeN.step hm rfl | exact trivial | exact rfl | (intro hh; try simp only [bs] at hh; try exact absurd hh (by decide)))); all_goals (conv => whnf); all_goals try exact ⟨by decide⟩)
  · (refine RetN.q () [] ?_ ?_ ?_ <;> (repeat' ((conv => whnf) <;> first | exact rfl | exact trivial | apply And.intro | exact Nat.zero_add _)); all_goals ((conv => whnf); try simp only []))
    unfold endsC
    rw [if_neg (by simp [*])]
  have h1 : mayC p c = true := by assumption
  have g := (may4 k).1 h1
  have hp := g.pol
  have hct := g.time
  have hW := hp.window
  have hmm := moved_may h1 (Int.le_refl _) hct.2
  have em : moved p c c.1 = (c.1, 0, [], c.2.2.2) := by
    unfold moved; rw [if_neg (by omega), if_neg (by omega), since_own g]
  have he : endsC p c = c.1 + wt p (c.1, 0, [], c.2.2.2) 0 := by unfold endsC; rw [if_pos h1, em]
  rw [em] at hmm
  rw [he]
  have hwb := wt_bound (p := p) (d := (c.1, 0, [], c.2.2.2)) hp 0
  (refine CallN.q (ewaitM p c.2.2.2 c.1 0 k hmm (Int.le_refl _)) [] (fun _ _ => ?_); (repeat' ((conv => whnf); first | apply And.intro | exact ⟨by kernel_rfl⟩ | apply DrawN.mk | apply CodeN.step hm rfl | exact trivial | exact rfl | (intro hh; try simp only [bs] at hh; try exact absurd hh (by decide)))); all_goals (conv => whnf); all_goals try exact ⟨by decide⟩)
  (refine RetN.q () [] ?_ ?_ ?_ <;> (repeat' ((conv => whnf) <;> first | exact rfl | exact trivial | apply And.intro | exact Nat.zero_add _)); all_goals ((conv => whnf); try simp only []))
  exact wr (by omega)
end Go.Proofs.Ytkcifdblaboodaa.Ce
set_option linter.unusedVariables false
set_option linter.unusedSimpArgs false
namespace Go.Proofs.Ytkcifdblaboodaa.Ce
open Go Go.RowKit Fw Hi Po
theorem of1 (p : Pol) (k : p.1 = 1) : Meets Try.prog 27 [polAV p] [] (Y := Unit) (fun _ => True) (fun _ => .ifc 77 (.agg [.fn (.func 42) [] [], .fn (.func 43) [] [], .fn (.func 44) [] []])) (fun _ => []) := by
  refine Meets.intro hm (fn := Try.f27) Try.func27 rfl (by decide) (Nat.le_of_ble_eq_true rfl) (fun _ => rfl) ?_; intro S hok; (conv => whnf)
  (repeat' ((conv => whnf); first | apply And.intro | exact ⟨by kernel_rfl⟩ | apply DrawN.mk | apply CodeN.step hm rfl | exact trivial | exact rfl | (intro hh; try simp only [bs] at hh))); all_goals (conv => whnf)
  all_goals first | (exfalso; omega) | skip
  (refine RetN.q () [] ?_ ?_ ?_ <;> (repeat' ((conv => whnf) <;> first | exact rfl | exact trivial | apply And.intro | exact Nat.zero_add _)); all_goals ((conv => whnf); try simp only []))
theorem lmay1 (p : Pol) (c : Cell) (k : p.1 = 1) (hc : -9223372036854775808 ≤ c.2.1 ∧ c.2.1 ≤ 9223372036854775807) : Meets Try.prog 131 [.agg [.fn (.func 42) [] [], .fn (.func 43) [] [], .fn (.func 44) [] []], polAV p, cellAV c] [] (Y := Unit) (fun _ => True) (fun _ => .bool fun _ => mayC p c) (fun _ => []) := by
  refine Meets.intro hm (fn := Try.f131) Try.func131 rfl (by decide) (Nat.le_of_ble_eq_true rfl) (fun _ => rfl) ?_; intro S hok; (conv => whnf)
  (repeat' ((conv => whnf); first | apply And.intro | exact ⟨by kernel_rfl⟩ | apply DrawN.mk | apply CodeN.step hm rfl | exact trivial | exact rfl | (intro hh; try simp only [bs] at hh))); all_goals (conv => whnf)
  (refine CallN.q (gmayM p c k hc) [] (fun _ _ => ?_); (repeat' ((conv => whnf); first | apply And.intro | exact ⟨by kernel_rfl⟩ | apply DrawN.mk | apply CodeN.step hm rfl | exact trivial | exact rfl | (intro hh; try simp only [bs] at hh; try exact absurd hh (by decide)))); all_goals (conv => whnf); all_goals try exact ⟨by decide⟩)
  (refine RetN.q () [] ?_ ?_ ?_ <;> (repeat' ((conv => whnf) <;> first | exact rfl | exact trivial | apply And.intro | exact Nat.zero_add _)); all_goals ((conv => whnf); try simp only []))
theorem lask1 (p : Pol) (c : Cell) (t w : Int) (k : p.1 = 1) (hc : -9223372036854775808 ≤ c.2.1 ∧ c.2.1 ≤ 9223372036854775807) : Meets Try.prog 129 [.agg [.fn (.func 42) [] [], .fn (.func 43) [] [], .fn (.func 44) [] []], polAV p, cellAV c, .int .i64 fun _ => t, .int .i64 fun _ => w] [] (Y := Unit) (fun _ => True) (fun _ => .tup [cellAV (askC p c t w).1, verAV (askC p c t w).2]) (fun _ => []) := by
  refine Meets.intro hm (fn := Try.f129) Try.func129 rfl (by decide) (Nat.le_of_ble_eq_true rfl) (fun _ => rfl) ?_; intro S hok; (conv => whnf)
  (repeat' ((conv => whnf); first | apply And.intro | exact ⟨by kernel_rfl⟩ | apply DrawN.mk | apply CodeN.step hm rfl | exact trivial | exact rfl | (intro hh; try simp only [bs] at hh))); all_goals (conv => whnf)
  (refine CallN.q (gaskM p c t w k hc) [] (fun _ _ => ?_); (repeat' ((conv => whnf); first | apply And.intro | exact ⟨by kernel_rfl⟩ | apply DrawN.mk | apply CodeN.step hm rfl | exact trivial | exact rfl | (intro hh; try simp only [bs] at hh; try exact absurd hh (by decide)))); all_goals (conv => whnf); all_goals try exact ⟨by decide⟩)
  (refine RetN.q () [] ?_ ?_ ?_ <;> (repeat' ((conv => whnf) <;> first | exact rfl | exact trivial | apply And.intro | exact Nat.zero_add _)); all_goals ((conv => whnf); try simp only []))
theorem lends1 (p : Pol) (c : Cell) (k : p.1 = 1) (hc : -9223372036854775808 ≤ c.2.1 ∧ c.2.1 ≤ 9223372036854775807) : Meets Try.prog 130 [.agg [.fn (.func 42) [] [], .fn (.func 43) [] [], .fn (.func 44) [] []], polAV p, cellAV c] [] (Y := Unit) (fun _ => True) (fun _ => .int .i64 fun _ => endsC p c) (fun _ => []) := by
  refine Meets.intro hm (fn := Try.f130) Try.func130 rfl (by decide) (Nat.le_of_ble_eq_true rfl) (fun _ => rfl) ?_; intro S hok; (conv => whnf)
  (repeat' ((conv => whnf); first | apply And.intro | exact ⟨by kernel_rfl⟩ | apply DrawN.mk | apply CodeN.step hm rfl | exact trivial | exact rfl | (intro hh; try simp only [bs] at hh))); all_goals (conv => whnf)
  (refine CallN.q (gendsM p c k hc) [] (fun _ _ => ?_); (repeat' ((conv => whnf); first | apply And.intro | exact ⟨by kernel_rfl⟩ | apply DrawN.mk | apply CodeN.step hm rfl | exact trivial | exact rfl | (intro hh; try simp only [bs] at hh; try exact absurd hh (by decide)))); all_goals (conv => whnf); all_goals try exact ⟨by decide⟩)
  (refine RetN.q () [] ?_ ?_ ?_ <;> (repeat' ((conv => whnf) <;> first | exact rfl | exact trivial | apply And.intro | exact Nat.zero_add _)); all_goals ((conv => whnf); try simp only []))
theorem of2 (p : Pol) (k : p.1 = 2) : Meets Try.prog 27 [polAV p] [] (Y := Unit) (fun _ => True) (fun _ => .ifc 77 (.agg [.fn (.func 45) [] [], .fn (.func 46) [] [], .fn (.func 47) [] []])) (fun _ => []) := by
  refine Meets.intro hm (fn := Try.f27) Try.func27 rfl (by decide) (Nat.le_of_ble_eq_true rfl) (fun _ => rfl) ?_; intro S hok; (conv => whnf)
  (repeat' ((conv => whnf); first | apply And.intro | exact ⟨by kernel_rfl⟩ | apply DrawN.mk | apply CodeN.step hm rfl | exact trivial | exact rfl | (intro hh; try simp only [bs] at hh))); all_goals (conv => whnf)
  all_goals first | (exfalso; omega) | skip
  (refine RetN.q () [] ?_ ?_ ?_ <;> (repeat' ((conv => whnf) <;> first | exact rfl | exact trivial | apply And.intro | exact Nat.zero_add _)); all_goals ((conv => whnf); try simp only []))
theorem lmay2 (p : Pol) (c : Cell) (k : p.1 = 2) : Meets Try.prog 131 [.agg [.fn (.func 45) [] [], .fn (.func 46) [] [], .fn (.func 47) [] []], polAV p, cellAV c] [] (Y := Unit) (fun _ => True) (fun _ => .bool fun _ => mayC p c) (fun _ => []) := by
  refine Meets.intro hm (fn := Try.f131) Try.func131 rfl (by decide) (Nat.le_of_ble_eq_true rfl) (fun _ => rfl) ?_; intro S hok; (conv => whnf)
  (repeat' ((conv => whnf); first | apply And.intro | exact ⟨by kernel_rfl⟩ | apply DrawN.mk | apply CodeN.step hm rfl | exact trivial | exact rfl | (intro hh; try simp only [bs] at hh))); all_goals (conv => whnf)
  (refine CallN.q (fmayM p c k) [] (fun _ _ => ?_); (repeat' ((conv => whnf); first | apply And.intro | exact ⟨by kernel_rfl⟩ | apply DrawN.mk | apply CodeN.step hm rfl | exact trivial | exact rfl | (intro hh; try simp only [bs] at hh; try exact absurd hh (by decide)))); all_goals (conv => whnf); all_goals try exact ⟨by decide⟩)
  (refine RetN.q () [] ?_ ?_ ?_ <;> (repeat' ((conv => whnf) <;> first | exact rfl | exact trivial | apply And.intro | exact Nat.zero_add _)); all_goals ((conv => whnf); try simp only []))
theorem lask2 (p : Pol) (c : Cell) (t w : Int) (k : p.1 = 2) : Meets Try.prog 129 [.agg [.fn (.func 45) [] [], .fn (.func 46) [] [], .fn (.func 47) [] []], polAV p, cellAV c, .int .i64 fun _ => t, .int .i64 fun _ => w] [] (Y := Unit) (fun _ => True) (fun _ => .tup [cellAV (askC p c t w).1, verAV (askC p c t w).2]) (fun _ => []) := by
  refine Meets.intro hm (fn := Try.f129) Try.func129 rfl (by decide) (Nat.le_of_ble_eq_true rfl) (fun _ => rfl) ?_; intro S hok; (conv => whnf)
  (repeat' ((conv => whnf); first | apply And.intro | exact ⟨by kernel_rfl⟩ | apply DrawN.mk | apply CodeN.step hm rfl | exact trivial | exact rfl | (intro hh; try simp only [bs] at hh))); all_goals (conv => whnf)
  (refine CallN.q (faskM p c t w k) [] (fun _ _ => ?_); (repeat' ((conv => whnf); first | apply And.intro | exact ⟨by kernel_rfl⟩ | apply DrawN.mk | apply CodeN.step hm rfl | exact trivial | exact rfl | (intro hh; try simp only [bs] at hh; try exact absurd hh (by decide)))); all_goals (conv => whnf); all_goals try exact ⟨by decide⟩)
  (refine RetN.q () [] ?_ ?_ ?_ <;> (repeat' ((conv => whnf) <;> first | exact rfl | exact trivial | apply And.intro | exact Nat.zero_add _)); all_goals ((conv => whnf); try simp only []))
theorem lends2 (p : Pol) (c : Cell) (k : p.1 = 2) : Meets Try.prog 130 [.agg [.fn (.func 45) [] [], .fn (.func 46) [] [], .fn (.func 47) [] []], polAV p, cellAV c] [] (Y := Unit) (fun _ => True) (fun _ => .int .i64 fun _ => endsC p c) (fun _ => []) := by
  refine Meets.intro hm (fn := Try.f130) Try.func130 rfl (by decide) (Nat.le_of_ble_eq_true rfl) (fun _ => rfl) ?_; intro S hok; (conv => whnf)
  (repeat' ((conv => whnf); first | apply And.intro | exact ⟨by kernel_rfl⟩ | apply DrawN.mk | apply CodeN.step hm rfl | exact trivial | exact rfl | (intro hh; try simp only [bs] at hh))); all_goals (conv => whnf)
  (refine CallN.q (fendsM p c k) [] (fun _ _ => ?_); (repeat' ((conv => whnf); first | apply And.intro | exact ⟨by kernel_rfl⟩ | apply DrawN.mk | apply CodeN.step hm rfl | exact trivial | exact rfl | (intro hh; try simp only [bs] at hh; try exact absurd hh (by decide)))); all_goals (conv => whnf); all_goals try exact ⟨by decide⟩)
  (refine RetN.q () [] ?_ ?_ ?_ <;> (repeat' ((conv => whnf) <;> first | exact rfl | exact trivial | apply And.intro | exact Nat.zero_add _)); all_goals ((conv => whnf); try simp only []))
theorem of3 (p : Pol) (k : p.1 = 3) : Meets Try.prog 27 [polAV p] [] (Y := Unit) (fun _ => True) (fun _ => .ifc 77 (.agg [.fn (.func 48) [] [], .fn (.func 49) [] [], .fn (.func 50) [] []])) (fun _ => []) := by
  refine Meets.intro hm (fn := Try.f27) Try.func27 rfl (by decide) (Nat.le_of_ble_eq_true rfl) (fun _ => rfl) ?_; intro S hok; (conv => whnf)
  (repeat' ((conv => whnf); first | apply And.intro | exact ⟨by kernel_rfl⟩ | apply DrawN.mk | apply CodeN.step hm rfl | exact trivial | exact rfl | (intro hh; try simp only [bs] at hh))); all_goals (conv => whnf)
  all_goals first | (exfalso; omega) | skip
  (refine RetN.q () [] ?_ ?_ ?_ <;> (repeat' ((conv => whnf) <;> first | exact rfl | exact trivial | apply And.intro | exact Nat.zero_add _)); all_goals ((conv => whnf); try simp only []))
theorem lmay3 (p : Pol) (c : Cell) (k : p.1 = 3) : Meets Try.prog 131 [.agg [.fn (.func 48) [] [], .fn (.func 49) [] [], .fn (.func 50) [] []], polAV p, cellAV c] [] (Y := Unit) (fun _ => True) (fun _ => .bool fun _ => mayC p c) (fun _ => []) := by
  refine Meets.intro hm (fn := Try.f131) Try.func131 rfl (by decide) (Nat.le_of_ble_eq_true rfl) (fun _ => rfl) ?_; intro S hok; (conv => whnf)
  (repeat' ((conv => whnf); first | apply And.intro | exact ⟨by kernel_rfl⟩ | apply DrawN.mk | apply CodeN.step hm rfl | exact trivial | exact rfl | (intro hh; try simp only [bs] at hh))); all_goals (conv => whnf)
  (refine CallN.q (rmayM p c k) [] (fun _ _ => ?_); (repeat' ((conv => whnf); first | apply And.intro | exact ⟨by kernel_rfl⟩ | apply DrawN.mk | apply CodeN.step hm rfl | exact trivial | exact rfl | (intro hh; try simp only [bs] at hh; try exact absurd hh (by decide)))); all_goals (conv => whnf); all_goals try exact ⟨by decide⟩)
  (refine RetN.q () [] ?_ ?_ ?_ <;> (repeat' ((conv => whnf) <;> first | exact rfl | exact trivial | apply And.intro | exact Nat.zero_add _)); all_goals ((conv => whnf); try simp only []))
theorem lask3 (p : Pol) (c : Cell) (t w : Int) (k : p.1 = 3) : Meets Try.prog 129 [.agg [.fn (.func 48) [] [], .fn (.func 49) [] [], .fn (.func 50) [] []], polAV p, cellAV c, .int .i64 fun _ => t, .int .i64 fun _ => w] [] (Y := Unit) (fun _ => True) (fun _ => .tup [cellAV (askC p c t w).1, verAV (askC p c t w).2]) (fun _ => []) := by
  refine Meets.intro hm (fn := Try.f129) Try.func129 rfl (by decide) (Nat.le_of_ble_eq_true rfl) (fun _ => rfl) ?_; intro S hok; (conv => whnf)
  (repeat' ((conv => whnf); first | apply And.intro | exact ⟨by kernel_rfl⟩ | apply DrawN.mk | apply CodeN.step hm rfl | exact trivial | exact rfl | (intro hh; try simp only [bs] at hh))); all_goals (conv => whnf)
  (refine CallN.q (raskM p c t w k) [] (fun _ _ => ?_); (repeat' ((conv => whnf); first | apply And.intro | exact ⟨by kernel_rfl⟩ | apply DrawN.mk | apply CodeN.step hm rfl | exact trivial | exact rfl | (intro hh; try simp only [bs] at hh; try exact absurd hh (by decide)))); all_goals (conv => whnf); all_goals try exact ⟨by decide⟩)
  (refine RetN.q () [] ?_ ?_ ?_ <;> (repeat' ((conv => whnf) <;> first | exact rfl | exact trivial | apply And.intro | exact Nat.zero_add _)); all_goals ((conv => whnf); try simp only []))
theorem lends3 (p : Pol) (c : Cell) (k : p.1 = 3) : Meets Try.prog 130 [.agg [.fn (.func 48) [] [], .fn (.func 49) [] [], .fn (.func 50) [] []], polAV p, cellAV c] [] (Y := Unit) (fun _ => True) (fun _ => .int .i64 fun _ => endsC p c) (fun _ => []) := by
  refine Meets.intro hm (fn := Try.f130) Try.func130 rfl (by decide) (Nat.le_of_ble_eq_true rfl) (fun _ => rfl) ?_; intro S hok; (conv => whnf)
  (repeat' ((conv => whnf); first | apply And.intro | exact ⟨by kernel_rfl⟩ | apply DrawN.mk | apply CodeN.step hm rfl | exact trivial | exact rfl | (intro hh; try simp only [bs] at hh))); all_goals (conv => whnf)
  (refine CallN.q (rendsM p c k) [] (fun _ _ => ?_); (repeat' ((conv => whnf); first | apply And.intro | exact ⟨by kernel_rfl⟩ | apply DrawN.mk | apply CodeN.step hm rfl | exact trivial | exact rfl | (intro hh; try simp only [bs] at hh; try exact absurd hh (by decide)))); all_goals (conv => whnf); all_goals try exact ⟨by decide⟩)
  (refine RetN.q () [] ?_ ?_ ?_ <;> (repeat' ((conv => whnf) <;> first | exact rfl | exact trivial | apply And.intro | exact Nat.zero_add _)); all_goals ((conv => whnf); try simp only []))
theorem of4 (p : Pol) (k : p.1 = 4) : Meets Try.prog 27 [polAV p] [] (Y := Unit) (fun _ => True) (fun _ => .ifc 77 (.agg [.fn (.func 51) [] [], .fn (.func 52) [] [], .fn (.func 53) [] []])) (fun _ => []) := by
  refine Meets.intro hm (fn := Try.f27) Try.func27 rfl (by decide) (Nat.le_of_ble_eq_true rfl) (fun _ => rfl) ?_; intro S hok; (conv => whnf)
  (repeat' ((conv => whnf); first | apply And.intro | exact ⟨by kernel_rfl⟩ | apply DrawN.mk | apply CodeN.step hm rfl | exact trivial | exact rfl | (intro hh; try simp only [bs] at hh))); all_goals (conv => whnf)
  all_goals first | (exfalso; omega) | skip
  (refine RetN.q () [] ?_ ?_ ?_ <;> (repeat' ((conv => whnf) <;> first | exact rfl | exact trivial | apply And.intro | exact Nat.zero_add _)); all_goals ((conv => whnf); try simp only []))
theorem lmay4 (p : Pol) (c : Cell) (k : p.1 = 4) : Meets Try.prog 131 [.agg [.fn (.func 51) [] [], .fn (.func 52) [] [], .fn (.func 53) [] []], polAV p, cellAV c] [] (Y := Unit) (fun _ => True) (fun _ => .bool fun _ => mayC p c) (fun _ => []) := by
  refine Meets.intro hm (fn := Try.f131) Try.func131 rfl (by decide) (Nat.le_of_ble_eq_true rfl) (fun _ => rfl) ?_; intro S hok; (conv => whnf)
  (repeat' ((conv => whnf); first | apply And.intro | exact ⟨by kernel_rfl⟩ | apply DrawN.mk | apply CodeN.step hm rfl | exact trivial | exact rfl | (intro hh; try simp only [bs] at hh))); all_goals (conv => whnf)
  (refine CallN.q (emayM p c k) [] (fun _ _ => ?_); (repeat' ((conv => whnf); first | apply And.intro | exact ⟨by kernel_rfl⟩ | apply DrawN.mk | apply CodeN.step hm rfl | exact trivial | exact rfl | (intro hh; try simp only [bs] at hh; try exact absurd hh (by decide)))); all_goals (conv => whnf); all_goals try exact ⟨by decide⟩)
  (refine RetN.q () [] ?_ ?_ ?_ <;> (repeat' ((conv => whnf) <;> first | exact rfl | exact trivial | apply And.intro | exact Nat.zero_add _)); all_goals ((conv => whnf); try simp only []))
theorem lask4 (p : Pol) (c : Cell) (t w : Int) (k : p.1 = 4) : Meets Try.prog 129 [.agg [.fn (.func 51) [] [], .fn (.func 52) [] [], .fn (.func 53) [] []], polAV p, cellAV c, .int .i64 fun _ => t, .int .i64 fun _ => w] [] (Y := Unit) (fun _ => True) (fun _ => .tup [cellAV (askC p c t w).1, verAV (askC p c t w).2]) (fun _ => []) := by
  refine Meets.intro hm (fn := Try.f129) Try.func129 rfl (by decide) (Nat.le_of_ble_eq_true rfl) (fun _ => rfl) ?_; intro S hok; (conv => whnf)
  (repeat' ((conv => whnf); first | apply And.intro | exact ⟨by kernel_rfl⟩ | apply DrawN.mk | apply CodeN.step hm rfl | exact trivial | exact rfl | (intro hh; try simp only [bs] at hh))); all_goals (conv => whnf)
  (refine CallN.q (easkM p c t w k) [] (fun _ _ => ?_); (repeat' ((conv => whnf); first | apply And.intro | exact ⟨by kernel_rfl⟩ | apply DrawN.mk | apply CodeN.step hm rfl | exact trivial | exact rfl | (intro hh; try simp only [bs] at hh; try exact absurd hh (by decide)))); all_goals (conv => whnf); all_goals try exact ⟨by decide⟩)
  (refine RetN.q () [] ?_ ?_ ?_ <;> (repeat' ((conv => whnf) <;> first | exact rfl | exact trivial | apply And.intro | exact Nat.zero_add _)); all_goals ((conv => whnf); try simp only []))
theorem lends4 (p : Pol) (c : Cell) (k : p.1 = 4) : Meets Try.prog 130 [.agg [.fn (.func 51) [] [], .fn (.func 52) [] [], .fn (.func 53) [] []], polAV p, cellAV c] [] (Y := Unit) (fun _ => True) (fun _ => .int .i64 fun _ => endsC p c) (fun _ => []) := by
  refine Meets.intro hm (fn := Try.f130) Try.func130 rfl (by decide) (Nat.le_of_ble_eq_true rfl) (fun _ => rfl) ?_; intro S hok; (conv => whnf)
  (repeat' ((conv => whnf); first | apply And.intro | exact ⟨by kernel_rfl⟩ | apply DrawN.mk | apply CodeN.step hm rfl | exact trivial | exact rfl | (intro hh; try simp only [bs] at hh))); all_goals (conv => whnf)
  (refine CallN.q (eendsM p c k) [] (fun _ _ => ?_); (repeat' ((conv => whnf); first | apply And.intro | exact ⟨by kernel_rfl⟩ | apply DrawN.mk | apply CodeN.step hm rfl | exact trivial | exact rfl | (intro hh; try simp only [bs] at hh; try exact absurd hh (by decide)))); all_goals (conv => whnf); all_goals try exact ⟨by decide⟩)
  (refine RetN.q () [] ?_ ?_ ?_ <;> (repeat' ((conv => whnf) <;> first | exact rfl | exact trivial | apply And.intro | exact Nat.zero_add _)); all_goals ((conv => whnf); try simp only []))
theorem ofN (p : Pol) (h1 : p.1 ≠ 1) (h2 : p.1 ≠ 2) (h3 : p.1 ≠ 3) (h4 : p.1 ≠ 4) : Meets Try.prog 27 [polAV p] [] (Y := Unit) (fun _ => True) (fun _ => .ifc 81 (.agg [])) (fun _ => []) := by
  refine Meets.intro hm (fn := Try.f27) Try.func27 rfl (by decide) (Nat.le_of_ble_eq_true rfl) (fun _ => rfl) ?_; intro S hok; (conv => whnf)
  (repeat' ((conv => whnf); first | apply And.intro | exact ⟨by kernel_rfl⟩ | apply DrawN.mk | apply CodeN.step hm rfl | exact trivial | exact rfl | (intro hh; try simp only [bs] at hh))); all_goals (conv => whnf)
  all_goals first | (exfalso; omega) | skip
  (refine RetN.q () [] ?_ ?_ ?_ <;> (repeat' ((conv => whnf) <;> first | exact rfl | exact trivial | apply And.intro | exact Nat.zero_add _)); all_goals ((conv => whnf); try simp only []))
theorem mayN (p : Pol) (c : Cell) : Meets Try.prog 134 [.agg [], polAV p, cellAV c] [] (Y := Unit) (fun _ => True) (fun _ => .ff) (fun _ => []) := by
  refine Meets.intro hm (fn := Try.f134) Try.func134 rfl (by decide) (Nat.le_of_ble_eq_true rfl) (fun _ => rfl) ?_; intro S hok; (conv => whnf)
  (repeat' ((conv => whnf); first | apply And.intro | exact ⟨by kernel_rfl⟩ | apply DrawN.mk | apply CodeN.step hm rfl | exact trivial | exact rfl | (intro hh; try simp only [bs] at hh))); all_goals (conv => whnf)
  (refine RetN.q () [] ?_ ?_ ?_ <;> (repeat' ((conv => whnf) <;> first | exact rfl | exact trivial | apply And.intro | exact Nat.zero_add _)); all_goals ((conv => whnf); try simp only []))
theorem askN (p : Pol) (c : Cell) (t w : Int) : Meets Try.prog 132 [.agg [], polAV p, cellAV c, .int .i64 fun _ => t, .int .i64 fun _ => w] [] (Y := Unit) (fun _ => True) (fun _ => .tup [cellAV c, verAV zeroV]) (fun _ => []) := by
  refine Meets.intro hm (fn := Try.f132) Try.func132 rfl (by decide) (Nat.le_of_ble_eq_true rfl) (fun _ => rfl) ?_; intro S hok; (conv => whnf)
  (repeat' ((conv => whnf); first | apply And.intro | exact ⟨by kernel_rfl⟩ | apply DrawN.mk | apply CodeN.step hm rfl | exact trivial | exact rfl | (intro hh; try simp only [bs] at hh))); all_goals (conv => whnf)
  (refine RetN.q () [] ?_ ?_ ?_ <;> (repeat' ((conv => whnf) <;> first | exact rfl | exact trivial | apply And.intro | exact Nat.zero_add _)); all_goals ((conv => whnf); try simp only []))
theorem endsN (p : Pol) (c : Cell) : Meets Try.prog 133 [.agg [], polAV p, cellAV c] [] (Y := Unit) (fun _ => True) (fun _ => .int .i64 fun _ => 0) (fun _ => []) := by
  refine Meets.intro hm (fn := Try.f133) Try.func133 rfl (by decide) (Nat.le_of_ble_eq_true rfl) (fun _ => rfl) ?_; intro S hok; (conv => whnf)
  (repeat' ((conv => whnf); first | apply And.intro | exact ⟨by kernel_rfl⟩ | apply DrawN.mk | apply CodeN.step hm rfl | exact trivial | exact rfl | (intro hh; try simp only [bs] at hh))); all_goals (conv => whnf)
  (refine RetN.q () [] ?_ ?_ ?_ <;> (repeat' ((conv => whnf) <;> first | exact rfl | exact trivial | apply And.intro | exact Nat.zero_add _)); all_goals ((conv => whnf); try simp only []))
theorem cmayM (p : Pol) (c : Cell) (hc : -9223372036854775808 ≤ c.2.1 ∧ c.2.1 ≤ 9223372036854775807) : Meets Try.prog 19 [polAV p, cellAV c] [] (Y := Unit) (fun _ => True) (fun _ => .bool fun _ => mayC p c) (fun _ => []) := by
  by_cases k1 : p.1 = 1
  · refine Meets.intro hm (fn := Try.f19) Try.func19 rfl (by decide) (Nat.le_of_ble_eq_true rfl) (fun _ => rfl) ?_; intro S hok; (conv => whnf)
    (repeat' ((conv => whnf); first | apply And.intro | exact ⟨by kernel_rfl⟩ | apply DrawN.mk | apply CodeN.step hm rfl | exact trivial | exact rfl | (intro hh; try simp only [bs] at hh))); all_goals (conv => whnf)
    (refine CallN.q (of1 p k1) [] (fun _ _ => ?_); (repeat' ((conv => whnf); first | apply And.intro | exact ⟨by kernel_rfl⟩ | apply DrawN.mk | apply CodeN.step hm rfl | exact trivial | exact rfl | (intro hh; try simp only [bs] at hh; try exact absurd hh (by decide)))); all_goals (conv => whnf); all_goals try exact ⟨by decide⟩)
    refine InvN.intro 131 (by kernel_rfl) ?_
    (refine CallN.q (lmay1 p c k1 hc) [] (fun _ _ => ?_); (repeat' ((conv => whnf); first | apply And.intro | exact ⟨by kernel_rfl⟩ | apply DrawN.mk | apply CodeN.step hm rfl | exact trivial | exact rfl | (intro hh; try simp only [bs] at hh; try exact absurd hh (by decide)))); all_goals (conv => whnf); all_goals try exact ⟨by decide⟩)
    (refine RetN.q () [] ?_ ?_ ?_ <;> (repeat' ((conv => whnf) <;> first | exact rfl | exact trivial | apply And.intro | exact Nat.zero_add _)); all_goals ((conv => whnf); try simp only []))
  by_cases k2 : p.1 = 2
  · refine Meets.intro hm (fn := Try.f19) Try.func19 rfl (by decide) (Nat.le_of_ble_eq_true rfl) (fun _ => rfl) ?_; intro S hok; (conv => whnf)
    (repeat' ((conv => whnf); first | apply And.intro | exact ⟨by kernel_rfl⟩ | apply DrawN.mk | apply CodeN.step hm rfl | exact trivial | exact rfl | (intro hh; try simp only [bs] at hh))); all_goals (conv => whnf)
    (refine CallN.q (of2 p k2) [] (fun _ _ => ?_); (repeat' ((conv => whnf); first | apply And.intro | exact ⟨by kernel_rfl⟩ | apply DrawN.mk | apply CodeN.step hm rfl | exact trivial | exact rfl | (intro hh; try simp only [bs] at hh; try exact absurd hh (by decide)))); all_goals (conv => whnf); all_goals try exact ⟨by decide⟩)
    refine InvN.intro 131 (by kernel_rfl) ?_
    (refine CallN.q (lmay2 p c k2) [] (fun _ _ => ?_); (repeat' ((conv => whnf); first | apply And.intro | exact ⟨by kernel_rfl⟩ | apply DrawN.mk | apply CodeN.step hm rfl | exact trivial | exact rfl | (intro hh; try simp only [bs] at hh; try exact absurd hh (by decide)))); all_goals (conv => whnf); all_goals try exact ⟨by decide⟩)
    (refine RetN.q () [] ?_ ?_ ?_ <;> (repeat' ((conv => whnf) <;> first | exact rfl | exact trivial | apply And.intro | exact Nat.zero_add _)); all_goals ((conv => whnf); try simp only []))
  by_cases k3 : p.1 = 3
  · refine Meets.intro hm (fn := Try.f19) Try.func19 rfl (by decide) (Nat.le_of_ble_eq_true rfl) (fun _ => rfl) ?_; intro S hok; (conv => whnf)
    (repeat' ((conv => whnf); first | apply And.intro | exact ⟨by kernel_rfl⟩ | apply DrawN.mk | apply CodeN.step hm rfl | exact trivial | exact rfl | (intro hh; try simp only [bs] at hh))); all_goals (conv => whnf)
    (refine CallN.q (of3 p k3) [] (fun _ _ => ?_); (repeat' ((conv => whnf); first | apply And.intro | exact ⟨by kernel_rfl⟩ | apply DrawN.mk | apply CodeN.step hm rfl | exact trivial | exact rfl | (intro hh; try simp only [bs] at hh; try exact absurd hh (by decide)))); all_goals (conv => whnf); all_goals try exact ⟨by decide⟩)
    refine InvN.intro 131 (by kernel_rfl) ?_
    (refine CallN.q (lmay3 p c k3) [] (fun _ _ => ?_); (repeat' ((conv => whnf); first | apply And.intro | exact ⟨by kernel_rfl⟩ | apply DrawN.mk | apply CodeN.step hm rfl | exact trivial | exact rfl | (intro hh; try simp only [bs] at hh; try exact absurd hh (by decide)))); all_goals (conv => whnf); all_goals try exact ⟨by decide⟩)
    (refine RetN.q () [] ?_ ?_ ?_ <;> (repeat' ((conv => whnf) <;> first | exact rfl | exact trivial | apply And.intro | exact Nat.zero_add _)); all_goals ((conv => whnf); try simp only []))
  by_cases k4 : p.1 = 4
  · refine Meets.intro hm (fn := Try.f19) Try.func19 rfl (by decide) (Nat.le_of_ble_eq_true rfl) (fun _ => rfl) ?_; intro S hok; (conv => whnf)
    (repeat' ((conv => whnf); first | apply And.intro | exact ⟨by kernel_rfl⟩ | apply DrawN.mk | apply CodeN.step hm rfl | exact trivial | exact rfl | (intro hh; try simp only [bs] at hh))); all_goals (conv => whnf)
    (refine CallN.q (of4 p k4) [] (fun _ _ => ?_); (repeat' ((conv => whnf); first | apply And.intro | exact ⟨by kernel_rfl⟩ | apply DrawN.mk | apply CodeN.step hm rfl | exact trivial | exact rfl | (intro hh; try simp only [bs] at hh; try exact absurd hh (by decide)))); all_goals (conv => whnf); all_goals try exact ⟨by decide⟩)
    refine InvN.intro 131 (by kernel_rfl) ?_
    (refine CallN.q (lmay4 p c k4) [] (fun _ _ => ?_); (repeat' ((conv => whnf); first | apply And.intro | exact ⟨by kernel_rfl⟩ | apply DrawN.mk | apply CodeN.step hm rfl | exact trivial | exact rfl | (intro hh; try simp only [bs] at hh; try exact absurd hh (by decide)))); all_goals (conv => whnf); all_goals try exact ⟨by decide⟩)
    (refine RetN.q () [] ?_ ?_ ?_ <;> (repeat' ((conv => whnf) <;> first | exact rfl | exact trivial | apply And.intro | exact Nat.zero_add _)); all_goals ((conv => whnf); try simp only []))
  have hno : ¬ PolOk p := fun hp => by have := kind_of hp; omega
  have hmf : mayC p c = false := by unfold mayC; rw [decide_eq_false hno]; rfl
  
  refine Meets.intro hm (fn := Try.f19) Try.func19 rfl (by decide) (Nat.le_of_ble_eq_true rfl) (fun _ => rfl) ?_; intro S hok; (conv => whnf)
  (repeat' ((conv => whnf); first | apply And.intro | exact ⟨by kernel_rfl⟩ | apply DrawN.mk | apply CodeN.step hm rfl | exact trivial | exact rfl | (intro hh; try simp only [bs] at hh))); all_goals (conv => whnf)
  (refine CallN.q (ofN p k1 k2 k3 k4) [] (fun _ _ => ?_); (repeat' ((conv => whnf); first | apply And.intro | exact ⟨by kernel_rfl⟩ | apply DrawN.mk | apply CodeN.step hm rfl | exact trivial | exact rfl | (intro hh; try simp only [bs] at hh; try exact absurd hh (by decide)))); all_goals (conv => whnf); all_goals try exact ⟨by decide⟩)
  refine InvN.intro 134 (by kernel_rfl) ?_
  (refine CallN.q (mayN p c) [] (fun _ _ => ?_); (repeat' ((conv => whnf); first | apply And.intro | exact ⟨by kernel_rfl⟩ | apply DrawN.mk | apply CodeN.step hm rfl | exact trivial | exact rfl | (intro hh; try simp only [bs] at hh; try exact absurd hh (by decide)))); all_goals (conv => whnf); all_goals try exact ⟨by decide⟩)
  (refine RetN.q () [] ?_ ?_ ?_ <;> (repeat' ((conv => whnf) <;> first | exact rfl | exact trivial | apply And.intro | exact Nat.zero_add _)); all_goals ((conv => whnf); try simp only []))
  all_goals first | exact hmf | rw [ha]
theorem caskM (p : Pol) (c : Cell) (t w : Int) (hc : -9223372036854775808 ≤ c.2.1 ∧ c.2.1 ≤ 9223372036854775807) : Meets Try.prog 12 [polAV p, cellAV c, .int .i64 fun _ => t, .int .i64 fun _ => w] [] (Y := Unit) (fun _ => True) (fun _ => .tup [cellAV (askC p c t w).1, verAV (askC p c t w).2]) (fun _ => []) := by
  by_cases k1 : p.1 = 1
  · refine Meets.intro hm (fn := Try.f12) Try.func12 rfl (by decide) (Nat.le_of_ble_eq_true rfl) (fun _ => rfl) ?_; intro S hok; (conv => whnf)
    (repeat' ((conv => whnf); first | apply And.intro | exact ⟨by kernel_rfl⟩ | apply DrawN.mk | apply CodeN.step hm rfl | exact trivial | exact rfl | (intro hh; try simp only [bs] at hh))); all_goals (conv => whnf)
    (refine CallN.q (of1 p k1) [] (fun _ _ => ?_); (repeat' ((conv => whnf); first | apply And.intro | exact ⟨by kernel_rfl⟩ | apply DrawN.mk | apply CodeN.step hm rfl | exact trivial | exact rfl | (intro hh; try simp only [bs] at hh; try exact absurd hh (by decide)))); all_goals (conv => whnf); all_goals try exact ⟨by decide⟩)
    refine InvN.intro 129 (by kernel_rfl) ?_
    (refine CallN.q (lask1 p c t w k1 hc) [] (fun _ _ => ?_); (repeat' ((conv => whnf); first | apply And.intro | exact ⟨by kernel_rfl⟩ | apply DrawN.mk | apply CodeN.step hm rfl | exact trivial | exact rfl | (intro hh; try simp only [bs] at hh; try exact absurd hh (by decide)))); all_goals (conv => whnf); all_goals try exact ⟨by decide⟩)
    (refine RetN.q () [] ?_ ?_ ?_ <;> (repeat' ((conv => whnf) <;> first | exact rfl | exact trivial | apply And.intro | exact Nat.zero_add _)); all_goals ((conv => whnf); try simp only []))
  by_cases k2 : p.1 = 2
  · refine Meets.intro hm (fn := Try.f12) Try.func12 rfl (by decide) (Nat.le_of_ble_eq_true rfl) (fun _ => rfl) ?_; intro S hok; (conv => whnf)
    (repeat' ((conv => whnf); first | apply And.intro | exact ⟨by kernel_rfl⟩ | apply DrawN.mk | apply CodeN.step hm rfl | exact trivial | exact rfl | (intro hh; try simp only [bs] at hh))); all_goals (conv => whnf)
    (refine CallN.q (of2 p k2) [] (fun _ _ => ?_); (repeat' ((conv => whnf); first | apply And.intro | exact ⟨by kernel_rfl⟩ | apply DrawN.mk | apply CodeN.step hm rfl | exact trivial | exact rfl | (intro hh; try simp only [bs] at hh; try exact absurd hh (by decide)))); all_goals (conv => whnf); all_goals try exact ⟨by decide⟩)
    refine InvN.intro 129 (by kernel_rfl) ?_
    (refine CallN.q (lask2 p c t w k2) [] (fun _ _ => ?_); (repeat' ((conv => whnf); first | apply And.intro | exact ⟨by kernel_rfl⟩ | apply DrawN.mk | apply CodeN.step hm rfl | exact trivial | exact rfl | (intro hh; try simp only [bs] at hh; try exact absurd hh (by decide)))); all_goals (conv => whnf); all_goals try exact ⟨by decide⟩)
    (refine RetN.q () [] ?_ ?_ ?_ <;> (repeat' ((conv => whnf) <;> first | exact rfl | exact trivial | apply And.intro | exact Nat.zero_add _)); all_goals ((conv => whnf); try simp only []))
  by_cases k3 : p.1 = 3
  · refine Meets.intro hm (fn := Try.f12) Try.func12 rfl (by decide) (Nat.le_of_ble_eq_true rfl) (fun _ => rfl) ?_; intro S hok; (conv => whnf)
    (repeat' ((conv => whnf); first | apply And.intro | exact ⟨by kernel_rfl⟩ | apply DrawN.mk | apply CodeN.step hm rfl | exact trivial | exact rfl | (intro hh; try simp only [bs] at hh))); all_goals (conv => whnf)
    (refine CallN.q (of3 p k3) [] (fun _ _ => ?_); (repeat' ((conv => whnf); first | apply And.intro | exact ⟨by kernel_rfl⟩ | apply DrawN.mk | apply CodeN.step hm rfl | exact trivial | exact rfl | (intro hh; try simp only [bs] at hh; try exact absurd hh (by decide)))); all_goals (conv => whnf); all_goals try exact ⟨by decide⟩)
    refine InvN.intro 129 (by kernel_rfl) ?_
    (refine CallN.q (lask3 p c t w k3) [] (fun _ _ => ?_); (repeat' ((conv => whnf); first | apply And.intro | exact ⟨by kernel_rfl⟩ | apply DrawN.mk | apply CodeN.step hm rfl | exact trivial | exact rfl | (intro hh; try simp only [bs] at hh; try exact absurd hh (by decide)))); all_goals (conv => whnf); all_goals try exact ⟨by decide⟩)
    (refine RetN.q () [] ?_ ?_ ?_ <;> (repeat' ((conv => whnf) <;> first | exact rfl | exact trivial | apply And.intro | exact Nat.zero_add _)); all_goals ((conv => whnf); try simp only []))
  by_cases k4 : p.1 = 4
  · refine Meets.intro hm (fn := Try.f12) Try.func12 rfl (by decide) (Nat.le_of_ble_eq_true rfl) (fun _ => rfl) ?_; intro S hok; (conv => whnf)
    (repeat' ((conv => whnf); first | apply And.intro | exact ⟨by kernel_rfl⟩ | apply DrawN.mk | apply CodeN.step hm rfl | exact trivial | exact rfl | (intro hh; try simp only [bs] at hh))); all_goals (conv => whnf)
    (refine CallN.q (of4 p k4) [] (fun _ _ => ?_); (repeat' ((conv => whnf); first | apply And.intro | exact ⟨by kernel_rfl⟩ | apply DrawN.mk | apply CodeN.step hm rfl | exact trivial | exact rfl | (intro hh; try simp only [bs] at hh; try exact absurd hh (by decide)))); all_goals (conv => whnf); all_goals try exact ⟨by decide⟩)
    refine InvN.intro 129 (by kernel_rfl) ?_
    (refine CallN.q (lask4 p c t w k4) [] (fun _ _ => ?_); (repeat' ((conv => whnf); first | apply And.intro | exact ⟨by kernel_rfl⟩ | apply DrawN.mk | apply CodeN.step hm rfl | exact trivial | exact rfl | (intro hh; try simp only [bs] at hh; try exact absurd hh (by decide)))); all_goals (conv => whnf); all_goals try exact ⟨by decide⟩)
    (refine RetN.q () [] ?_ ?_ ?_ <;> (repeat' ((conv => whnf) <;> first | exact rfl | exact trivial | apply And.intro | exact Nat.zero_add _)); all_goals ((conv => whnf); try simp only []))
  have hno : ¬ PolOk p := fun hp => by have := kind_of hp; omega
  have hmf : mayC p c = false := by unfold mayC; rw [decide_eq_false hno]; rfl
  have ha : askC p c t w = (c, zeroV) := by unfold askC; rw [hmf]; rfl
  refine Meets.intro hm (fn := Try.f12) Try.func12 rfl (by decide) (Nat.le_of_ble_eq_true rfl) (fun _ => rfl) ?_; intro S hok; (conv => whnf)
  (repeat' ((conv => whnf); first | apply And.intro | exact ⟨by kernel_rfl⟩ | apply DrawN.mk | apply CodeN.step hm rfl | exact trivial | exact rfl | (intro hh; try simp only [bs] at hh))); all_goals (conv => whnf)
  (refine CallN.q (ofN p k1 k2 k3 k4) [] (fun _ _ => ?_); (repeat' ((conv => whnf); first | apply And.intro | exact ⟨by kernel_rfl⟩ | apply DrawN.mk | apply CodeN.step hm rfl | exact trivial | exact rfl | (intro hh; try simp only [bs] at hh; try exact absurd hh (by decide)))); all_goals (conv => whnf); all_goals try exact ⟨by decide⟩)
  refine InvN.intro 132 (by kernel_rfl) ?_
  (refine CallN.q (askN p c t w) [] (fun _ _ => ?_); (repeat' ((conv => whnf); first | apply And.intro | exact ⟨by kernel_rfl⟩ | apply DrawN.mk | apply CodeN.step hm rfl | exact trivial | exact rfl | (intro hh; try simp only [bs] at hh; try exact absurd hh (by decide)))); all_goals (conv => whnf); all_goals try exact ⟨by decide⟩)
  (refine RetN.q () [] ?_ ?_ ?_ <;> (repeat' ((conv => whnf) <;> first | exact rfl | exact trivial | apply And.intro | exact Nat.zero_add _)); all_goals ((conv => whnf); try simp only []))
  all_goals first | exact hmf | rw [ha]
theorem cendsM (p : Pol) (c : Cell) (hc : -9223372036854775808 ≤ c.2.1 ∧ c.2.1 ≤ 9223372036854775807) : Meets Try.prog 22 [polAV p, cellAV c] [] (Y := Unit) (fun _ => True) (fun _ => .int .i64 fun _ => endsC p c) (fun _ => []) := by
  by_cases k1 : p.1 = 1
  · refine Meets.intro hm (fn := Try.f22) Try.func22 rfl (by decide) (Nat.le_of_ble_eq_true rfl) (fun _ => rfl) ?_; intro S hok; (conv => whnf)
    (repeat' ((conv => whnf); first | apply And.intro | exact ⟨by kernel_rfl⟩ | apply DrawN.mk | apply CodeN.step hm rfl | exact trivial | exact rfl | (intro hh; try simp only [bs] at hh))); all_goals (conv => whnf)
    (refine CallN.q (of1 p k1) [] (fun _ _ => ?_); (repeat' ((conv => whnf); first | apply And.intro | exact ⟨by kernel_rfl⟩ | apply DrawN.mk | apply CodeN.step hm rfl | exact trivial | exact rfl | (intro hh; try simp only [bs] at hh; try exact absurd hh (by decide)))); all_goals (conv => whnf); all_goals try exact ⟨by decide⟩)
    refine InvN.intro 130 (by kernel_rfl) ?_
    (refine CallN.q (lends1 p c k1 hc) [] (fun _ _ => ?_); (repeat' ((conv => whnf); first | apply And.intro | exact ⟨by kernel_rfl⟩ | apply DrawN.mk | apply CodeN.step hm rfl | exact trivial | exact rfl | (intro hh; try simp only [bs] at hh; try exact absurd hh (by decide)))); all_goals (conv => whnf); all_goals try exact ⟨by decide⟩)
    (refine RetN.q () [] ?_ ?_ ?_ <;> (repeat' ((conv => whnf) <;> first | exact rfl | exact trivial | apply And.intro | exact Nat.zero_add _)); all_goals ((conv => whnf); try simp only []))
  by_cases k2 : p.1 = 2
  · refine Meets.intro hm (fn := Try.f22) Try.func22 rfl (by decide) (Nat.le_of_ble_eq_true rfl) (fun _ => rfl) ?_; intro S hok; (conv => whnf)
    (repeat' ((conv => whnf); first | apply And.intro | exact ⟨by kernel_rfl⟩ | apply DrawN.mk | apply CodeN.step hm rfl | exact trivial | exact rfl | (intro hh; try simp only [bs] at hh))); all_goals (conv => whnf)
    (refine CallN.q (of2 p k2) [] (fun _ _ => ?_); (repeat' ((conv => whnf); first | apply And.intro | exact ⟨by kernel_rfl⟩ | apply DrawN.mk | apply CodeN.step hm rfl | exact trivial | exact rfl | (intro hh; try simp only [bs] at hh; try exact absurd hh (by decide)))); all_goals (conv => whnf); all_goals try exact ⟨by decide⟩)
    refine InvN.intro 130 (by kernel_rfl) ?_
    (refine CallN.q (lends2 p c k2) [] (fun _ _ => ?_); (repeat' ((conv => whnf); first | apply And.intro | exact ⟨by kernel_rfl⟩ | apply DrawN.mk | apply CodeN.step hm rfl | exact trivial | exact rfl | (intro hh; try simp only [bs] at hh; try exact absurd hh (by decide)))); all_goals (conv => whnf); all_goals try exact ⟨by decide⟩)
    (refine RetN.q () [] ?_ ?_ ?_ <;> (repeat' ((conv => whnf) <;> first | exact rfl | exact trivial | apply And.intro | exact Nat.zero_add _)); all_goals ((conv => whnf); try simp only []))
  by_cases k3 : p.1 = 3
  · refine Meets.intro hm (fn := Try.f22) Try.func22 rfl (by decide) (Nat.le_of_ble_eq_true rfl) (fun _ => rfl) ?_; intro S hok; (conv => whnf)
    (repeat' ((conv => whnf); first | apply And.intro | exact ⟨by kernel_rfl⟩ | apply DrawN.mk | apply CodeN.step hm rfl | exact trivial | exact rfl | (intro hh; try simp only [bs] at hh))); all_goals (conv => whnf)
    (refine CallN.q (of3 p k3) [] (fun _ _ => ?_); (repeat' ((conv => whnf); first | apply And.intro | exact ⟨by kernel_rfl⟩ | apply DrawN.mk | apply CodeN.step hm rfl | exact trivial | exact rfl | (intro hh; try simp only [bs] at hh; try exact absurd hh (by decide)))); all_goals (conv => whnf); all_goals try exact ⟨by decide⟩)
    refine InvN.intro 130 (by kernel_rfl) ?_
    (refine CallN.q (lends3 p c k3) [] (fun _ _ => ?_); (repeat' ((conv => whnf); first | apply And.intro | exact ⟨by kernel_rfl⟩ | apply DrawN.mk | apply CodeN.step hm rfl | exact trivial | exact rfl | (intro hh; try simp only [bs] at hh; try exact absurd hh (by decide)))); all_goals (conv => whnf); all_goals try exact ⟨by decide⟩)
    (refine RetN.q () [] ?_ ?_ ?_ <;> (repeat' ((conv => whnf) <;> first | exact rfl | exact trivial | apply And.intro | exact Nat.zero_add _)); all_goals ((conv => whnf); try simp only []))
  by_cases k4 : p.1 = 4
  · refine Meets.intro hm (fn := Try.f22) Try.func22 rfl (by decide) (Nat.le_of_ble_eq_true rfl) (fun _ => rfl) ?_; intro S hok; (conv => whnf)
    (repeat' ((conv => whnf); first | apply And.intro | exact ⟨by kernel_rfl⟩ | apply DrawN.mk | apply CodeN.step hm rfl | exact trivial | exact rfl | (intro hh; try simp only [bs] at hh))); all_goals (conv => whnf)
    (refine CallN.q (of4 p k4) [] (fun _ _ => ?_); (repeat' ((conv => whnf); first | apply And.intro | exact ⟨by kernel_rfl⟩ | apply DrawN.mk | apply CodeN.step hm rfl | exact trivial | exact rfl | (intro hh; try simp only [bs] at hh; try exact absurd hh (by decide)))); all_goals (conv => whnf); all_goals try exact ⟨by decide⟩)
    refine InvN.intro 130 (by kernel_rfl) ?_
    (refine CallN.q (lends4 p c k4) [] (fun _ _ => ?_); (repeat' ((conv => whnf); first | apply And.intro | exact ⟨by kernel_rfl⟩ | apply DrawN.mk | apply CodeN.step hm rfl | exact trivial | exact rfl | (intro hh; try simp only [bs] at hh; try exact absurd hh (by decide)))); all_goals (conv => whnf); all_goals try exact ⟨by decide⟩)
    (refine RetN.q () [] ?_ ?_ ?_ <;> (repeat' ((conv => whnf) <;> first | exact rfl | exact trivial | apply And.intro | exact Nat.zero_add _)); all_goals ((conv => whnf); try simp only []))
  have hno : ¬ PolOk p := fun hp => by have := kind_of hp; omega
  have hmf : mayC p c = false := by unfold mayC; rw [decide_eq_false hno]; rfl
  have ha : endsC p c = 0 := by unfold endsC; rw [hmf]; rfl
  refine Meets.intro hm (fn := Try.f22) Try.func22 rfl (by decide) (Nat.le_of_ble_eq_true rfl) (fun _ => rfl) ?_; intro S hok; (conv => whnf)
  (repeat' ((conv => whnf); first | apply And.intro | exact ⟨by kernel_rfl⟩ | apply DrawN.mk | apply CodeN.step hm rfl | exact trivial | exact rfl | (intro hh; try simp only [bs] at hh))); all_goals (conv => whnf)
  (refine CallN.q (ofN p k1 k2 k3 k4) [] (fun _ _ => ?_); (repeat' ((conv => whnf); first | apply And.intro | exact ⟨by kernel_rfl⟩ | apply DrawN.mk | apply CodeN.step hm rfl | exact trivial | exact rfl | (intro hh; try simp only [bs] at hh; try exact absurd hh (by decide)))); all_goals (conv => whnf); all_goals try exact ⟨by decide⟩)
  refine InvN.intro 133 (by kernel_rfl) ?_
  (refine CallN.q (endsN p c) [] (fun _ _ => ?_); (repeat' ((conv => whnf); first | apply And.intro | exact ⟨by kernel_rfl⟩ | apply DrawN.mk | apply CodeN.step hm rfl | exact trivial | exact rfl | (intro hh; try simp only [bs] at hh; try exact absurd hh (by decide)))); all_goals (conv => whnf); all_goals try exact ⟨by decide⟩)
  (refine RetN.q () [] ?_ ?_ ?_ <;> (repeat' ((conv => whnf) <;> first | exact rfl | exact trivial | apply And.intro | exact Nat.zero_add _)); all_goals ((conv => whnf); try simp only []))
  all_goals first | exact hmf | rw [ha]
theorem cneutralM (p : Pol) (c : Cell) (t : Int) (hc : -9223372036854775808 ≤ c.2.1 ∧ c.2.1 ≤ 9223372036854775807) : Meets Try.prog 14 [polAV p, cellAV c, .int .i64 fun _ => t] [] (Y := Unit) (fun _ => True) (fun _ => .bool fun _ => neutralC p c t) (fun _ => []) := by
  refine Meets.intro hm (fn := Try.f14) Try.func14 rfl (by decide) (Nat.le_of_ble_eq_true rfl) (fun _ => rfl) ?_; intro S hok; (conv => whnf)
  (repeat' ((conv => whnf); first | apply And.intro | exact ⟨by kernel_rfl⟩ | apply DrawN.mk | apply CodeN.step hm rfl | exact trivial | exact rfl | (intro hh; try simp only [bs] at hh))); all_goals (conv => whnf)
  (refine CallN.q (cmayM p c hc) [] (fun _ _ => ?_); (repeat' ((conv => whnf); first | apply And.intro | exact ⟨by kernel_rfl⟩ | apply DrawN.mk | apply CodeN.step hm rfl | exact trivial | exact rfl | (intro hh; try simp only [bs] at hh; try exact absurd hh (by decide)))); all_goals (conv => whnf); all_goals try exact ⟨by decide⟩)
  all_goals try
    (refine CallN.q (cendsM p c hc) [] (fun _ _ => ?_); (repeat' ((conv => whnf); first | apply And.intro | exact ⟨by kernel_rfl⟩ | apply DrawN.mk | apply CodeN.step hm rfl | exact trivial | exact rfl | (intro hh; try simp only [bs] at hh; try exact absurd hh (by decide)))); all_goals (conv => whnf); all_goals try exact ⟨by decide⟩)
  all_goals
    (refine RetN.q () [] ?_ ?_ ?_ <;> (repeat' ((conv => whnf) <;> first | exact rfl | exact trivial | apply And.intro | exact Nat.zero_add _)); all_goals ((conv => whnf); try simp only []))
    unfold neutralC
    simp [*]
end Go.Proofs.Ytkcifdblaboodaa.Ce
set_option linter.unusedVariables false
set_option linter.unusedSimpArgs false
namespace Go.Proofs.Ytkcifdblaboodaa.Bt
open Go Go.RowKit Fw Hi Po
theorem pow_le {n : Nat} (h : n ≤ 64) : 2 ^ n ≤ 18446744073709551616 := Nat.pow_le_pow_right (by decide) h
theorem shl2 (a b : Nat) (h : b ≤ 64) : IntKind.u64.wrap ((a : Int) * 2 ^ (min b IntKind.u64.bits)) = ((a * 2 ^ b % 2 ^ 64 : Nat) : Int) := shl_int a b h
theorem shr2 (a b : Nat) (h : b ≤ 64) : ((a : Int)).fdiv (2 ^ (min b IntKind.u64.bits)) = ((a / 2 ^ b : Nat) : Int) := shr_int a b h
theorem maskM (n : Nat) (h : n ≤ 64) : Meets Try.prog 66 [.int .i64 fun _ => (n : Int)] [] (Y := Unit) (fun _ => True) (fun _ => .int .u64 fun _ => ((2 ^ n - 1 : Nat) : Int)) (fun _ => []) := by
  have hp := pow_le h
  have h1 : 1 ≤ 2 ^ n := Nat.one_le_two_pow
  refine Meets.intro hm (fn := Try.f66) Try.func66 rfl (by decide) (Nat.le_of_ble_eq_true rfl) (fun _ => rfl) ?_; intro S hok; (conv => whnf)
  (repeat' ((conv => whnf); first | apply And.intro | exact ⟨by kernel_rfl⟩ | apply DrawN.mk | apply CodeN.step hm rfl | exact trivial | exact rfl | (intro hh; try simp only [bs] at hh))); all_goals (conv => whnf)
  · (refine RetN.q () [] ?_ ?_ ?_ <;> (repeat' ((conv => whnf) <;> first | exact rfl | exact trivial | apply And.intro | exact Nat.zero_add _)); all_goals ((conv => whnf); try simp only []))
    have e : n = 64 := by omega
    subst e; rfl
  · exact Ob.mk (by simp only []; omega)
  · (refine RetN.q () [] ?_ ?_ ?_ <;> (repeat' ((conv => whnf) <;> first | exact rfl | exact trivial | apply And.intro | exact Nat.zero_add _)); all_goals ((conv => whnf); try simp only []))
    have h2 : 2 ^ n * 2 ≤ 18446744073709551616 := by rw [← Nat.pow_succ]; exact pow_le (by omega)
    have e := shl_int 1 n h
    rw [Nat.one_mul, Nat.mod_eq_of_lt (by omega)] at e
    have e : IntKind.u64.wrap (1 * 2 ^ min ((n : Int)).toNat IntKind.u64.bits) = ((2 ^ n : Nat) : Int) := e
    rw [e]
    have e2 := wrap_nat (x := 2 ^ n - 1) (by omega)
    rw [← e2]
    congr 1
    omega
theorem thereM (w : List Int) (a n : Nat) (h : a + n ≤ 64 * w.length) (hn : n ≤ 64) (hl : w.length ≤ 1000) : Meets Try.prog 95 [.lst (.int .u64) fun _ => w, .int .i64 fun _ => (a : Int), .int .i64 fun _ => (n : Int)] [] (Y := Unit) (fun _ => True) (fun _ => .tt) (fun _ => []) := by
  have e0 : IntKind.i64.wrap (64 * (w.length : Int)) = 64 * (w.length : Int) := wr (by omega)
  have e1 := e0
  have e2 : IntKind.i64.wrap (64 * (w.length : Int) - a) = 64 * (w.length : Int) - a := wr (by omega)
  refine Meets.intro hm (fn := Try.f95) Try.func95 rfl (by decide) (Nat.le_of_ble_eq_true rfl) (fun _ => rfl) ?_; intro S hok; (conv => whnf)
  (repeat' ((conv => whnf); first | apply And.intro | exact ⟨by kernel_rfl⟩ | apply DrawN.mk | apply CodeN.step hm rfl | exact trivial | exact rfl | (intro hh; try simp only [bs] at hh))); all_goals (conv => whnf)
  all_goals (try rw [e0] at hh)
  all_goals first
    | (exfalso; omega)
    | skip
  (refine RetN.q () [] ?_ ?_ ?_ <;> (repeat' ((conv => whnf) <;> first | exact rfl | exact trivial | apply And.intro | exact Nat.zero_add _)); all_goals ((conv => whnf); try simp only []))
  refine decide_eq_true ?_
  rw [e0, e2]
  omega
theorem getM (w : List Int) (a n : Nat) (hw : Wd w) (h : a + n ≤ 64 * w.length) (hn : n ≤ 64) (hl : w.length ≤ 1000) : Meets Try.prog 69 [.lst (.int .u64) fun _ => w, .int .i64 fun _ => (a : Int), .int .i64 fun _ => (n : Int)] [] (Y := Unit) (fun _ => True) (fun _ => .tup [.int .u64 fun _ => (fld (numOf w) a n : Int), .tt]) (fun _ => []) := by
  have ei0 : (a : Int).tdiv 64 = ((a / 64 : Nat) : Int) := by rw [Int.tdiv_eq_ediv_of_nonneg (by omega)]; omega
  have el : (a : Int).tmod 64 = ((a % 64 : Nat) : Int) := by rw [Int.tmod_eq_emod_of_nonneg (by omega)]; omega
  have ei : IntKind.i64.wrap ((a / 64 : Nat) : Int) = ((a / 64 : Nat) : Int) := wr (by omega)
  have ei1 : IntKind.i64.wrap (((a / 64 : Nat) : Int) + 1) = ((a / 64 + 1 : Nat) : Int) := by rw [wr (by omega)]; omega
  have es : IntKind.i64.wrap (((a % 64 : Nat) : Int) + n) = ((a % 64 + n : Nat) : Int) := by rw [wr (by omega)]; omega
  have ec : IntKind.i64.wrap (64 - ((a % 64 : Nat) : Int)) = ((64 - a % 64 : Nat) : Int) := by rw [wr (by omega)]; omega
  have hp := pow_le hn
  have h1 : 1 ≤ 2 ^ n := Nat.one_le_two_pow
  have ha : a = 64 * (a / 64) + a % 64 := by omega
  have hlo : a % 64 < 64 := Nat.mod_lt _ (by decide)
  have hb1 : ∀ i, numOf w / 2 ^ (64 * i) % 2 ^ 64 < 2 ^ 64 := fun i => Nat.mod_lt _ (by decide)
  have hb2 : ∀ i, (numOf w / 2 ^ (64 * i) % 2 ^ 64) / 2 ^ (a % 64) < 2 ^ 64 := fun i => Nat.lt_of_le_of_lt (Nat.div_le_self _ _) (hb1 i)
  refine Meets.intro hm (fn := Try.f69) Try.func69 rfl (by decide) (Nat.le_of_ble_eq_true rfl) (fun _ => rfl) ?_; intro S hok; (conv => whnf)
  (repeat' ((conv => whnf); first | apply And.intro | exact ⟨by kernel_rfl⟩ | apply DrawN.mk | apply CodeN.step hm rfl | exact trivial | exact rfl | (intro hh; try simp only [bs] at hh))); all_goals (conv => whnf)
  (refine CallN.q (thereM w a n h hn hl) [] (fun _ _ => ?_); (repeat' ((conv => whnf); first | apply And.intro | exact ⟨by kernel_rfl⟩ | apply DrawN.mk | apply CodeN.step hm rfl | exact trivial | exact rfl | (intro hh; try simp only [bs] at hh; try exact absurd hh (by decide)))); all_goals (conv => whnf); all_goals try exact ⟨by decide⟩)
  all_goals (try simp only [ei0, el, ei, ei1, es, ec, Int.toNat_natCast] at hh ⊢)
  · (refine RetN.q () [] ?_ ?_ ?_ <;> (repeat' ((conv => whnf) <;> first | exact rfl | exact trivial | apply And.intro | exact Nat.zero_add _)); all_goals ((conv => whnf); try simp only []))
    have : n = 0 := by omega
    subst this
    simp [fld, Nat.mod_one]
  · refine Ob.mk ?_
    omega
  · refine Ob.mk ?_
    omega
  · refine Ob.mk ?_
    omega
  · refine Ob.mk ?_
    omega
  · (refine CallN.q (maskM n hn) [] (fun _ _ => ?_); (repeat' ((conv => whnf); first | apply And.intro | exact ⟨by kernel_rfl⟩ | apply DrawN.mk | apply CodeN.step hm rfl | exact trivial | exact rfl | (intro hh; try simp only [bs] at hh; try exact absurd hh (by decide)))); all_goals (conv => whnf); all_goals try exact ⟨by decide⟩)
    (refine RetN.q () [] ?_ ?_ ?_ <;> (repeat' ((conv => whnf) <;> first | exact rfl | exact trivial | apply And.intro | exact Nat.zero_add _)); all_goals ((conv => whnf); try simp only []))
    have hi1 : a / 64 + 1 < w.length := by omega
    show IntKind.u64.wrap (BitVec.ofInt IntKind.u64.bits (IntKind.u64.wrap (BitVec.ofInt IntKind.u64.bits (Int.fdiv (w.getD (a / 64) 0) (2 ^ min (a % 64) IntKind.u64.bits)) ||| BitVec.ofInt IntKind.u64.bits (IntKind.u64.wrap (w.getD (a / 64 + 1) 0 * 2 ^ min (64 - a % 64) IntKind.u64.bits))).toNat) &&& BitVec.ofInt IntKind.u64.bits ((2 ^ n - 1 : Nat) : Int)).toNat = _
    have q := fld_words (numOf w) (a / 64) (a % 64) n hlo hn
    rw [← ha] at q
    rw [num_at hw _ (show a / 64 < w.length by omega), num_at hw _ hi1, shr2 _ _ (by omega), shl2 _ _ (by omega), or_int _ _ (hb2 _) (Nat.mod_lt _ (by decide)), and_int _ _ (Nat.or_lt_two_pow (hb2 _) (Nat.mod_lt _ (by decide))) (by omega), q]
  · (refine CallN.q (maskM n hn) [] (fun _ _ => ?_); (repeat' ((conv => whnf); first | apply And.intro | exact ⟨by kernel_rfl⟩ | apply DrawN.mk | apply CodeN.step hm rfl | exact trivial | exact rfl | (intro hh; try simp only [bs] at hh; try exact absurd hh (by decide)))); all_goals (conv => whnf); all_goals try exact ⟨by decide⟩)
    (refine RetN.q () [] ?_ ?_ ?_ <;> (repeat' ((conv => whnf) <;> first | exact rfl | exact trivial | apply And.intro | exact Nat.zero_add _)); all_goals ((conv => whnf); try simp only []))
    show IntKind.u64.wrap (BitVec.ofInt IntKind.u64.bits (Int.fdiv (w.getD (a / 64) 0) (2 ^ min (a % 64) IntKind.u64.bits)) &&& BitVec.ofInt IntKind.u64.bits ((2 ^ n - 1 : Nat) : Int)).toNat = _
    have q := fld_word (numOf w) (a / 64) (a % 64) n (by omega)
    rw [← ha] at q
    rw [num_at hw _ (show a / 64 < w.length by omega), shr2 _ _ (by omega), and_int _ _ (hb2 _) (by omega), q]
theorem cloneU (xs : List Int) (hl : xs.length ≤ 100000) : Meets Try.prog 96 [.lst (.int .u64) fun _ => xs] [] (Y := Unit) (fun _ => True)
    (fun _ => .vec 0 1 (fun _ => 0) (fun _ => xs.length)) (fun _ => [.vect 73 (.int .u64) fun _ => xs]) := by
  refine Meets.intro hm (fn := Try.f96) Try.func96 rfl (by decide) (Nat.le_of_ble_eq_true rfl) (fun _ => rfl) ?_; intro S hok; (conv => whnf)
  (repeat' ((conv => whnf); first | apply And.intro | exact ⟨by kernel_rfl⟩ | apply DrawN.mk | apply CodeN.step hm rfl | exact trivial | exact rfl | (intro hh; try simp only [bs] at hh))); all_goals (conv => whnf)
  · have hx : xs = [] := ‹_ = true → xs = []› hh
    refine RetN.nil 73 (.int .u64) 0 ?_
    (conv => whnf)
    (refine RetN.q () [0] ?_ ?_ ?_ <;> (repeat' ((conv => whnf) <;> first | exact rfl | exact trivial | apply And.intro | exact Nat.zero_add _)); all_goals ((conv => whnf); try simp only []))
    all_goals simp [hx]
  · refine ⟨⟨rfl, ?_, ?_⟩⟩
    · show 0 + xs.length ≤ _
      omega
    · show (0 + xs.length) * 8 ≤ _
      omega
  · (refine RetN.q () [0] ?_ ?_ ?_ <;> (repeat' ((conv => whnf) <;> first | exact rfl | exact trivial | apply And.intro | exact Nat.zero_add _)); all_goals ((conv => whnf); try simp only []))
    all_goals simp
theorem getD_set {l : List Int} {i j : Nat} {x : Int} : (l.set i x).getD j 0 = if i = j ∧ j < l.length then x else l.getD j 0 := by
  rw [List.getD_eq_getElem?_getD, List.getD_eq_getElem?_getD]
  by_cases h : i = j
  · subst h
    by_cases h2 : i < l.length
    · rw [if_pos ⟨rfl, h2⟩, List.getElem?_set_self h2]; rfl
    · rw [if_neg (fun h => h2 h.2), List.getElem?_eq_none (by rw [List.length_set]; omega), List.getElem?_eq_none (by omega)]
  · rw [if_neg (fun h2 => h h2.1), List.getElem?_set_ne h]
theorem set_one {k N a n v : Nat} {X : Int} (hN : N < 2 ^ a) (hv : v < 2 ^ n) (h : a + n ≤ 64 * k) (hn : n ≤ 64) (hlo : a % 64 + n ≤ 64) (hn0 : n ≠ 0)
    (hX : X = (((N + v * 2 ^ a) / 2 ^ (64 * (a / 64)) % 2 ^ 64 : Nat) : Int)) : (wordsOf k N).set (a / 64) X = wordsOf k (N + v * 2 ^ a) := by
  have ha : a = 64 * (a / 64) + a % 64 := by omega
  refine getD_ext (by rw [List.length_set, words_len, words_len]) fun j hj => ?_
  rw [List.length_set, words_len] at hj
  rw [getD_set, words_len, words_at (N := N + v * 2 ^ a) hj]
  by_cases e : a / 64 = j
  · rw [if_pos ⟨e, hj⟩, hX, e]
  · rw [if_neg (fun h => e h.1), words_at hj]
    have q := set_other (N := N) (i := a / 64) (low := a % 64) (n := v) (wd := n) (j := j) (by rw [← ha]; exact hN) hv (Nat.mod_lt _ (by decide)) (fun h => e h.symm) (.inr hlo) hn
    rw [← ha] at q
    rw [q]
theorem set_two {k N a n v : Nat} {X Y : Int} (hN : N < 2 ^ a) (hv : v < 2 ^ n) (h : a + n ≤ 64 * k) (hn : n ≤ 64)
    (hX : X = (((N + v * 2 ^ a) / 2 ^ (64 * (a / 64)) % 2 ^ 64 : Nat) : Int)) (hY : Y = (((N + v * 2 ^ a) / 2 ^ (64 * (a / 64 + 1)) % 2 ^ 64 : Nat) : Int)) : ((wordsOf k N).set (a / 64) X).set (a / 64 + 1) Y = wordsOf k (N + v * 2 ^ a) := by
  have ha : a = 64 * (a / 64) + a % 64 := by omega
  refine getD_ext (by rw [List.length_set, List.length_set, words_len, words_len]) fun j hj => ?_
  rw [List.length_set, List.length_set, words_len] at hj
  rw [getD_set, getD_set, List.length_set, words_len, words_at (N := N + v * 2 ^ a) hj]
  by_cases e1 : a / 64 + 1 = j
  · rw [if_pos ⟨e1, hj⟩, hY, e1]
  · rw [if_neg (fun h => e1 h.1)]
    by_cases e : a / 64 = j
    · rw [if_pos ⟨e, hj⟩, hX, e]
    · rw [if_neg (fun h => e h.1), words_at hj]
      have q := set_other (N := N) (i := a / 64) (low := a % 64) (n := v) (wd := n) (j := j) (by rw [← ha]; exact hN) hv (Nat.mod_lt _ (by decide)) (fun h => e h.symm) (.inl fun h => e1 h.symm) hn
      rw [← ha] at q
      rw [q]
theorem andn_lt (a b : Nat) : andn a b < 2 ^ 64 := BitVec.isLt _
theorem setM (k N a n v : Nat) (hN : N < 2 ^ a) (hv : v < 2 ^ n) (h : a + n ≤ 64 * k) (hn : n ≤ 64) (hl : k ≤ 1000) : Meets Try.prog 67 [.lst (.int .u64) fun _ => wordsOf k N, .int .i64 fun _ => (a : Int), .int .i64 fun _ => (n : Int), .int .u64 fun _ => (v : Int)] [] (Y := Unit) (fun _ => True) (fun _ => .tup [.lst (.int .u64) fun _ => wordsOf k (N + v * 2 ^ a), .tt]) (fun _ => []) := by
  have hwl := words_len k N
  have ei0 : (a : Int).tdiv 64 = ((a / 64 : Nat) : Int) := by rw [Int.tdiv_eq_ediv_of_nonneg (by omega)]; omega
  have el : (a : Int).tmod 64 = ((a % 64 : Nat) : Int) := by rw [Int.tmod_eq_emod_of_nonneg (by omega)]; omega
  have ei : IntKind.i64.wrap ((a / 64 : Nat) : Int) = ((a / 64 : Nat) : Int) := wr (by omega)
  have ei1 : IntKind.i64.wrap (((a / 64 : Nat) : Int) + 1) = ((a / 64 + 1 : Nat) : Int) := by rw [wr (by omega)]; omega
  have es : IntKind.i64.wrap (((a % 64 : Nat) : Int) + n) = ((a % 64 + n : Nat) : Int) := by rw [wr (by omega)]; omega
  have ec : IntKind.i64.wrap (64 - ((a % 64 : Nat) : Int)) = ((64 - a % 64 : Nat) : Int) := by rw [wr (by omega)]; omega
  have hp := pow_le hn
  have h1 : 1 ≤ 2 ^ n := Nat.one_le_two_pow
  have ha : a = 64 * (a / 64) + a % 64 := by omega
  have hlo : a % 64 < 64 := Nat.mod_lt _ (by decide)
  have ev : IntKind.u64.wrap (BitVec.ofInt IntKind.u64.bits (v : Int) &&& BitVec.ofInt IntKind.u64.bits ((2 ^ n - 1 : Nat) : Int)).toNat = (v : Int) := by
    rw [and_int _ _ (by omega) (by omega), Nat.and_two_pow_sub_one_eq_mod, Nat.mod_eq_of_lt hv]
  have hval1 : n ≠ 0 → IntKind.u64.wrap (BitVec.ofInt IntKind.u64.bits (IntKind.u64.wrap (BitVec.ofInt IntKind.u64.bits ((wordsOf k N).getD (a / 64) (Ty.int .u64).dflt) &&& ~~~BitVec.ofInt IntKind.u64.bits (IntKind.u64.wrap (((2 ^ n - 1 : Nat) : Int) * 2 ^ min (a % 64) IntKind.u64.bits))).toNat) ||| BitVec.ofInt IntKind.u64.bits (IntKind.u64.wrap (IntKind.u64.wrap (BitVec.ofInt IntKind.u64.bits (v : Int) &&& BitVec.ofInt IntKind.u64.bits ((2 ^ n - 1 : Nat) : Int)).toNat * 2 ^ min (a % 64) IntKind.u64.bits))).toNat = (((N + v * 2 ^ a) / 2 ^ (64 * (a / 64)) % 2 ^ 64 : Nat) : Int) := fun hn0 => by
    show IntKind.u64.wrap (BitVec.ofInt IntKind.u64.bits (IntKind.u64.wrap (BitVec.ofInt IntKind.u64.bits ((wordsOf k N).getD (a / 64) 0) &&& ~~~BitVec.ofInt IntKind.u64.bits (IntKind.u64.wrap (((2 ^ n - 1 : Nat) : Int) * 2 ^ min (a % 64) IntKind.u64.bits))).toNat) ||| BitVec.ofInt IntKind.u64.bits (IntKind.u64.wrap (IntKind.u64.wrap (BitVec.ofInt IntKind.u64.bits (v : Int) &&& BitVec.ofInt IntKind.u64.bits ((2 ^ n - 1 : Nat) : Int)).toNat * 2 ^ min (a % 64) IntKind.u64.bits))).toNat = _
    rw [words_at (show a / 64 < k by omega), ev, shl2 _ _ (by omega), shl2 _ _ (by omega), andn_int, or_int _ _ (andn_lt _ _) (Nat.mod_lt _ (by decide))]
    have q := set_low (N := N) (i := a / 64) (low := a % 64) (n := v) (wd := n) (by rw [← ha]; exact hN) hv hlo hn
    rw [← ha] at q
    rw [q]
  refine Meets.intro hm (fn := Try.f67) Try.func67 rfl (by decide) (Nat.le_of_ble_eq_true rfl) (fun _ => rfl) ?_; intro S hok; (conv => whnf)
  (repeat' ((conv => whnf); first | apply And.intro | exact ⟨by kernel_rfl⟩ | apply DrawN.mk | apply CodeN.step hm rfl | exact trivial | exact rfl | (intro hh; try simp only [bs] at hh))); all_goals (conv => whnf)
  (refine CallN.q (thereM (wordsOf k N) a n (by rw [words_len]; exact h) hn (by rw [words_len]; exact hl)) [] (fun _ _ => ?_); (repeat' ((conv => whnf); first | apply And.intro | exact ⟨by kernel_rfl⟩ | apply DrawN.mk | apply CodeN.step hm rfl | exact trivial | exact rfl | (intro hh; try simp only [bs] at hh; try exact absurd hh (by decide)))); all_goals (conv => whnf); all_goals try exact ⟨by decide⟩)
  (refine CallN.q (cloneU (wordsOf k N) (by omega)) [] (fun _ _ => ?_); (repeat' ((conv => whnf); first | apply And.intro | exact ⟨by kernel_rfl⟩ | apply DrawN.mk | apply CodeN.step hm rfl | exact trivial | exact rfl | (intro hh; try simp only [bs] at hh; try exact absurd hh (by decide)))); all_goals (conv => whnf); all_goals try exact ⟨by decide⟩)
  · have e : n = 0 := by omega
    subst e
    have e2 : v = 0 := by omega
    subst e2
    (refine RetN.frz 0 ?_; (conv => whnf))
    (refine RetN.q () [] ?_ ?_ ?_ <;> (repeat' ((conv => whnf) <;> first | exact rfl | exact trivial | apply And.intro | exact Nat.zero_add _)); all_goals ((conv => whnf); try simp only []))
    rw [List.drop_zero, List.take_length, Nat.zero_mul, Nat.add_zero]
  have hval1 := hval1 (by omega)
  (refine CallN.q (maskM n hn) [] (fun _ _ => ?_); (repeat' ((conv => whnf); first | apply And.intro | exact ⟨by kernel_rfl⟩ | apply DrawN.mk | apply CodeN.step hm rfl | exact trivial | exact rfl | (intro hh; try simp only [bs] at hh; try exact absurd hh (by decide)))); all_goals (conv => whnf); all_goals try exact ⟨by decide⟩)
  all_goals (try simp only [ei0, el, ei, ei1, es, ec, Int.toNat_natCast, hwl] at hh ⊢)
  all_goals first
    | (refine Ob.mk ?_; first | omega | (simp only []; omega))
    | skip
  (refine CallN.q (maskM n hn) [] (fun _ _ => ?_); (repeat' ((conv => whnf); first | apply And.intro | exact ⟨by kernel_rfl⟩ | apply DrawN.mk | apply CodeN.step hm rfl | exact trivial | exact rfl | (intro hh; try simp only [bs] at hh; try exact absurd hh (by decide)))); all_goals (conv => whnf); all_goals try exact ⟨by decide⟩)
  all_goals (try simp only [ei0, el, ei, ei1, es, ec, Int.toNat_natCast, hwl] at hh ⊢)
  all_goals first
    | (refine Ob.mk ?_; first | omega | (simp only []; omega))
    | skip
  · (refine CallN.q (maskM n hn) [] (fun _ _ => ?_); (repeat' ((conv => whnf); first | apply And.intro | exact ⟨by kernel_rfl⟩ | apply DrawN.mk | apply CodeN.step hm rfl | exact trivial | exact rfl | (intro hh; try simp only [bs] at hh; try exact absurd hh (by decide)))); all_goals (conv => whnf); all_goals try exact ⟨by decide⟩)
    all_goals (try simp only [ei0, el, ei, ei1, es, ec, Int.toNat_natCast, hwl] at hh ⊢)
    all_goals first
      | (refine Ob.mk ?_; first | omega | (simp only []; omega))
      | skip
    (refine RetN.frz 0 ?_; (conv => whnf))
    (refine RetN.q () [] ?_ ?_ ?_ <;> (repeat' ((conv => whnf) <;> first | exact rfl | exact trivial | apply And.intro | exact Nat.zero_add _)); all_goals ((conv => whnf); try simp only []))
    have hi1 : a / 64 + 1 < k := by omega
    rw [Nat.zero_add, Nat.zero_add, List.drop_zero]
    refine Eq.trans (List.take_of_length_le (by rw [List.length_set, List.length_set, words_len]; exact Nat.le_refl _)) ?_
    refine set_two hN hv h hn ?_ ?_
    · exact hval1
    · have eg : ∀ X : Int, ((wordsOf k N).set (a / 64) X).getD (a / 64 + 1) (Ty.int .u64).dflt = ((N / 2 ^ (64 * (a / 64 + 1)) % 2 ^ 64 : Nat) : Int) := fun X => by
        show ((wordsOf k N).set (a / 64) X).getD (a / 64 + 1) 0 = _
        rw [getD_set, if_neg (by omega), words_at hi1]
      rw [eg, ev, shr2 _ _ (by omega), shr2 _ _ (by omega), andn_int, or_int _ _ (andn_lt _ _) (Nat.lt_of_le_of_lt (Nat.div_le_self _ _) (by omega))]
      have q := set_high (N := N) (i := a / 64) (low := a % 64) (n := v) (wd := n) (by rw [← ha]; exact hN) hv hlo hn
      rw [← ha] at q
      rw [q]
  · (refine RetN.frz 0 ?_; (conv => whnf))
    (refine RetN.q () [] ?_ ?_ ?_ <;> (repeat' ((conv => whnf) <;> first | exact rfl | exact trivial | apply And.intro | exact Nat.zero_add _)); all_goals ((conv => whnf); try simp only []))
    rw [Nat.zero_add, List.drop_zero]
    refine Eq.trans (List.take_of_length_le (by rw [List.length_set, words_len]; exact Nat.le_refl _)) ?_
    exact set_one hN hv h hn (by omega) (by omega) hval1
theorem sizeM (l : List Int) (h : ∀ x ∈ l, 0 ≤ x ∧ x ≤ 64) (hl : l.length ≤ 100) : Meets Try.prog 65 [.lst (.int .i64) fun _ => l] [] (Y := Unit) (fun _ => True) (fun _ => .tup [.int .i64 fun _ => l.sum, .tt]) (fun _ => []) := by
  refine Meets.intro hm (fn := Try.f65) Try.func65 rfl (by decide) (Nat.le_of_ble_eq_true rfl) (fun _ => rfl) ?_; intro S hok; (conv => whnf)
  (repeat' ((conv => whnf); first | apply And.intro | exact ⟨by kernel_rfl⟩ | apply DrawN.mk | apply CodeN.step hm rfl | exact trivial | exact rfl | (intro hh; try simp only [bs] at hh))); all_goals (conv => whnf)
  refine LoopN.intro hm (X := Nat) (fun i => i ≤ l.length) (fun i => l.length - i)
    (fun i => [(9, .int .i64 fun _ => (i : Int)), (8, .int .i64 fun _ => (l.length : Int)), (7, .lst (.int .i64) fun _ => l), (4, .int .i64 fun _ => (l.take i).sum), (0, .lst (.int .i64) fun _ => l)]) (fun _ => []) 0 [] ⟨rfl, rfl, ?_, ?_⟩ (Nat.zero_le _) (fun i hi => ?_)
  · (repeat' ((conv => whnf) <;> first | exact rfl | exact trivial | apply And.intro | exact Nat.zero_add _))
  · (repeat' ((conv => whnf) <;> first | exact rfl | exact trivial | apply And.intro | exact Nat.zero_add _))
  have hb := Ce.sum_bound (m := 64) (l := l.take i) (fun x hx => h x (List.mem_of_mem_take hx)) (by omega)
  rw [List.length_take] at hb
  have hx := fun hi : i < l.length => h (l.getD i 0) (by rw [List.getD_eq_getElem?_getD, List.getElem?_eq_getElem hi]; exact List.getElem_mem hi)
  have hst := fun h => Ce.sum_take (l := l) (i := i) h
  (repeat' ((conv => whnf); first | apply And.intro | exact ⟨by kernel_rfl⟩ | apply DrawN.mk | apply CodeN.step hm rfl | exact trivial | exact rfl | (intro hh; try simp only [bs] at hh))); all_goals (conv => whnf)
  all_goals first
    | (refine Ob.mk ?_; first | omega | (simp only []; omega))
    | (exfalso
       have hq := hx (by omega)
       have : l.getD (i : Int).toNat (Ty.int .i64).dflt = l.getD i 0 := rfl
       omega)
    | (have hi2 : i < l.length := by omega
       have hq := hx hi2
       refine ⟨i + 1, [], ⟨rfl, rfl, ?_, ?_⟩, hi2, Nat.sub_lt_sub_left hi2 (Nat.lt_succ_self _)⟩
       · (repeat' ((conv => whnf) <;> first | exact rfl | exact trivial | apply And.intro | exact Nat.zero_add _))
       · (repeat' ((conv => whnf) <;> first | exact rfl | exact trivial | apply And.intro | exact Nat.zero_add _)); all_goals ((conv => whnf); try simp only [])
         · exact wr (by omega)
         · show IntKind.i64.wrap ((l.take i).sum + l.getD i 0) = _
           rw [hst hi2]
           exact wr (by omega))
    | (have e : i = l.length := by omega
       (refine RetN.q () [] ?_ ?_ ?_ <;> (repeat' ((conv => whnf) <;> first | exact rfl | exact trivial | apply And.intro | exact Nat.zero_add _)); all_goals ((conv => whnf); try simp only []))
       · rw [e, List.take_length]
       · exact decide_eq_true (by omega))
end Go.Proofs.Ytkcifdblaboodaa.Bt
set_option linter.unusedVariables false
set_option linter.unusedSimpArgs false
namespace Go.Proofs.Ytkcifdblaboodaa.Bt
open Go Go.RowKit Fw Hi Po
theorem mul64M (a : Int) (h : a = 1 ∨ a = 2) : Meets Try.prog 110 [.int .u64 fun _ => a, .int .u64 fun _ => 16] [] (Y := Unit) (fun _ => True) (fun _ => .tup [.int .u64 fun _ => 0, .int .u64 fun _ => a * 16]) (fun _ => []) := by
  refine Meets.intro hm (fn := Try.f110) Try.func110 rfl (by decide) (Nat.le_of_ble_eq_true rfl) (fun _ => rfl) ?_; intro S hok; (conv => whnf)
  (repeat' ((conv => whnf); first | apply And.intro | exact ⟨by kernel_rfl⟩ | apply DrawN.mk | apply CodeN.step hm rfl | exact trivial | exact rfl | (intro hh; try simp only [bs] at hh))); all_goals (conv => whnf)
  all_goals first | (exact Ob.mk (by decide)) | skip
  (refine RetN.q () [] ?_ ?_ ?_ <;> (repeat' ((conv => whnf) <;> first | exact rfl | exact trivial | apply And.intro | exact Nat.zero_add _)); all_goals ((conv => whnf); try simp only []))
  all_goals
    rcases h with rfl | rfl <;> decide
theorem mulM (a : Int) (h : a = 1 ∨ a = 2) : Meets Try.prog 94 [.int .u64 fun _ => a, .int .u64 fun _ => 16] [] (Y := Unit) (fun _ => True) (fun _ => .tup [.int .u64 fun _ => 0, .int .u64 fun _ => a * 16]) (fun _ => []) := by
  refine Meets.intro hm (fn := Try.f94) Try.func94 rfl (by decide) (Nat.le_of_ble_eq_true rfl) (fun _ => rfl) ?_; intro S hok; (conv => whnf)
  (repeat' ((conv => whnf); first | apply And.intro | exact ⟨by kernel_rfl⟩ | apply DrawN.mk | apply CodeN.step hm rfl | exact trivial | exact rfl | (intro hh; try simp only [bs] at hh))); all_goals (conv => whnf)
  (refine CallN.q (mul64M a h) [] (fun _ _ => ?_); (repeat' ((conv => whnf); first | apply And.intro | exact ⟨by kernel_rfl⟩ | apply DrawN.mk | apply CodeN.step hm rfl | exact trivial | exact rfl | (intro hh; try simp only [bs] at hh; try exact absurd hh (by decide)))); all_goals (conv => whnf); all_goals try exact ⟨by decide⟩)
  (refine RetN.q () [] ?_ ?_ ?_ <;> (repeat' ((conv => whnf) <;> first | exact rfl | exact trivial | apply And.intro | exact Nat.zero_add _)); all_goals ((conv => whnf); try simp only []))
/-- So many times a list. -/
def times (l : List Int) (n : Nat) : List Int := (List.replicate n l).flatten
def stR (l : List Int) (k : Nat) : List Int := times l (2 ^ k) ++ List.replicate (16 * l.length - 2 ^ k * l.length) 0
theorem rep1 : Meets Try.prog 64 [.lst (.int .i64) fun _ => [21], .int .i64 fun _ => 16] [] (Y := Unit) (fun _ => True) (fun _ => .lst (.int .i64) fun _ => times [21] 16) (fun _ => []) := by
  refine Meets.intro hm (fn := Try.f64) Try.func64 rfl (by decide) (Nat.le_of_ble_eq_true rfl) (fun _ => rfl) ?_; intro S hok; (conv => whnf)
  (repeat' ((conv => whnf); first | apply And.intro | exact ⟨by kernel_rfl⟩ | apply DrawN.mk | apply CodeN.step hm rfl | exact trivial | exact rfl | (intro hh; try simp only [bs] at hh))); all_goals (conv => whnf)
  all_goals first | (exfalso; exact absurd hh (by decide)) | skip
  refine CallN.q (mulM 1 (by decide)) [] (fun _ _ => ?_) rfl rfl ?_ trivial
  rotate_left
  · (repeat' ((conv => whnf) <;> first | exact rfl | exact trivial | apply And.intro | exact Nat.zero_add _))
  (repeat' ((conv => whnf); first | apply And.intro | exact ⟨by kernel_rfl⟩ | apply DrawN.mk | apply CodeN.step hm rfl | exact trivial | exact rfl | (intro hh; try simp only [bs] at hh; try exact absurd hh (by decide)))); all_goals (conv => whnf)
  · exact Ob.mk (by decide)
  refine LoopN.intro hm (X := Nat) (fun k => k ≤ 4) (fun k => 4 - k)
    (fun k => [(8, .int .i64 fun _ => ((2 ^ k * 1 : Nat) : Int)), (7, .vec 0 1 (fun _ => 0) (fun _ => 1 * 16))]) (fun k => [.vect 3 (.int .i64) fun _ => stR [21] k]) 0 [0] ⟨rfl, rfl, ?_, ?_⟩ (Nat.zero_le _) (fun k hk => ?_)
  · (repeat' ((conv => whnf) <;> first | exact rfl | exact trivial | apply And.intro | exact Nat.zero_add _))
  · (repeat' ((conv => whnf) <;> first | exact rfl | exact trivial | apply And.intro | exact Nat.zero_add _)); all_goals ((conv => whnf); try simp only [])
  have hk5 : k = 0 ∨ k = 1 ∨ k = 2 ∨ k = 3 ∨ k = 4 := by omega
  rcases hk5 with rfl | rfl | rfl | rfl | rfl
  all_goals
    (repeat' ((conv => whnf); first | apply And.intro | exact ⟨by kernel_rfl⟩ | apply DrawN.mk | apply CodeN.step hm rfl | exact trivial | exact rfl | (intro hh; try simp only [bs] at hh))); all_goals (conv => whnf)
  all_goals first
    | (exfalso; exact absurd hh (by decide))
    | exact Ob.mk (by decide)
    | (refine ⟨1, [0], ⟨rfl, rfl, ?_, ?_⟩, by decide, by decide⟩
       · (repeat' ((conv => whnf) <;> first | exact rfl | exact trivial | apply And.intro | exact Nat.zero_add _))
       · (repeat' ((conv => whnf) <;> first | exact rfl | exact trivial | apply And.intro | exact Nat.zero_add _)); all_goals ((conv => whnf); try simp only [])
         all_goals decide)
    | (refine ⟨2, [0], ⟨rfl, rfl, ?_, ?_⟩, by decide, by decide⟩
       · (repeat' ((conv => whnf) <;> first | exact rfl | exact trivial | apply And.intro | exact Nat.zero_add _))
       · (repeat' ((conv => whnf) <;> first | exact rfl | exact trivial | apply And.intro | exact Nat.zero_add _)); all_goals ((conv => whnf); try simp only [])
         all_goals decide)
    | (refine ⟨3, [0], ⟨rfl, rfl, ?_, ?_⟩, by decide, by decide⟩
       · (repeat' ((conv => whnf) <;> first | exact rfl | exact trivial | apply And.intro | exact Nat.zero_add _))
       · (repeat' ((conv => whnf) <;> first | exact rfl | exact trivial | apply And.intro | exact Nat.zero_add _)); all_goals ((conv => whnf); try simp only [])
         all_goals decide)
    | (refine ⟨4, [0], ⟨rfl, rfl, ?_, ?_⟩, by decide, by decide⟩
       · (repeat' ((conv => whnf) <;> first | exact rfl | exact trivial | apply And.intro | exact Nat.zero_add _))
       · (repeat' ((conv => whnf) <;> first | exact rfl | exact trivial | apply And.intro | exact Nat.zero_add _)); all_goals ((conv => whnf); try simp only [])
         all_goals decide)
    | ((refine RetN.frz 0 ?_; (conv => whnf))
       (refine RetN.q () [] ?_ ?_ ?_ <;> (repeat' ((conv => whnf) <;> first | exact rfl | exact trivial | apply And.intro | exact Nat.zero_add _)); all_goals ((conv => whnf); try simp only []))
       all_goals decide)
theorem rep2 : Meets Try.prog 64 [.lst (.int .i64) fun _ => [41, 5], .int .i64 fun _ => 16] [] (Y := Unit) (fun _ => True) (fun _ => .lst (.int .i64) fun _ => times [41, 5] 16) (fun _ => []) := by
  refine Meets.intro hm (fn := Try.f64) Try.func64 rfl (by decide) (Nat.le_of_ble_eq_true rfl) (fun _ => rfl) ?_; intro S hok; (conv => whnf)
  (repeat' ((conv => whnf); first | apply And.intro | exact ⟨by kernel_rfl⟩ | apply DrawN.mk | apply CodeN.step hm rfl | exact trivial | exact rfl | (intro hh; try simp only [bs] at hh))); all_goals (conv => whnf)
  all_goals first | (exfalso; exact absurd hh (by decide)) | skip
  refine CallN.q (mulM 2 (by decide)) [] (fun _ _ => ?_) rfl rfl ?_ trivial
  rotate_left
  · (repeat' ((conv => whnf) <;> first | exact rfl | exact trivial | apply And.intro | exact Nat.zero_add _))
  (repeat' ((conv => whnf); first | apply And.intro | exact ⟨by kernel_rfl⟩ | apply DrawN.mk | apply CodeN.step hm rfl | exact trivial | exact rfl | (intro hh; try simp only [bs] at hh; try exact absurd hh (by decide)))); all_goals (conv => whnf)
  · exact Ob.mk (by decide)
  refine LoopN.intro hm (X := Nat) (fun k => k ≤ 4) (fun k => 4 - k)
    (fun k => [(8, .int .i64 fun _ => ((2 ^ k * 2 : Nat) : Int)), (7, .vec 0 1 (fun _ => 0) (fun _ => 2 * 16))]) (fun k => [.vect 3 (.int .i64) fun _ => stR [41, 5] k]) 0 [0] ⟨rfl, rfl, ?_, ?_⟩ (Nat.zero_le _) (fun k hk => ?_)
  · (repeat' ((conv => whnf) <;> first | exact rfl | exact trivial | apply And.intro | exact Nat.zero_add _))
  · (repeat' ((conv => whnf) <;> first | exact rfl | exact trivial | apply And.intro | exact Nat.zero_add _)); all_goals ((conv => whnf); try simp only [])
  have hk5 : k = 0 ∨ k = 1 ∨ k = 2 ∨ k = 3 ∨ k = 4 := by omega
  rcases hk5 with rfl | rfl | rfl | rfl | rfl
  all_goals
    (repeat' ((conv => whnf); first | apply And.intro | exact ⟨by kernel_rfl⟩ | apply DrawN.mk | apply CodeN.step hm rfl | exact trivial | exact rfl | (intro hh; try simp only [bs] at hh))); all_goals (conv => whnf)
  all_goals first
    | (exfalso; exact absurd hh (by decide))
    | exact Ob.mk (by decide)
    | (refine ⟨1, [0], ⟨rfl, rfl, ?_, ?_⟩, by decide, by decide⟩
       · (repeat' ((conv => whnf) <;> first | exact rfl | exact trivial | apply And.intro | exact Nat.zero_add _))
       · (repeat' ((conv => whnf) <;> first | exact rfl | exact trivial | apply And.intro | exact Nat.zero_add _)); all_goals ((conv => whnf); try simp only [])
         all_goals decide)
    | (refine ⟨2, [0], ⟨rfl, rfl, ?_, ?_⟩, by decide, by decide⟩
       · (repeat' ((conv => whnf) <;> first | exact rfl | exact trivial | apply And.intro | exact Nat.zero_add _))
       · (repeat' ((conv => whnf) <;> first | exact rfl | exact trivial | apply And.intro | exact Nat.zero_add _)); all_goals ((conv => whnf); try simp only [])
         all_goals decide)
    | (refine ⟨3, [0], ⟨rfl, rfl, ?_, ?_⟩, by decide, by decide⟩
       · (repeat' ((conv => whnf) <;> first | exact rfl | exact trivial | apply And.intro | exact Nat.zero_add _))
       · (repeat' ((conv => whnf) <;> first | exact rfl | exact trivial | apply And.intro | exact Nat.zero_add _)); all_goals ((conv => whnf); try simp only [])
         all_goals decide)
    | (refine ⟨4, [0], ⟨rfl, rfl, ?_, ?_⟩, by decide, by decide⟩
       · (repeat' ((conv => whnf) <;> first | exact rfl | exact trivial | apply And.intro | exact Nat.zero_add _))
       · (repeat' ((conv => whnf) <;> first | exact rfl | exact trivial | apply And.intro | exact Nat.zero_add _)); all_goals ((conv => whnf); try simp only [])
         all_goals decide)
    | ((refine RetN.frz 0 ?_; (conv => whnf))
       (refine RetN.q () [] ?_ ?_ ?_ <;> (repeat' ((conv => whnf) <;> first | exact rfl | exact trivial | apply And.intro | exact Nat.zero_add _)); all_goals ((conv => whnf); try simp only []))
       all_goals decide)
theorem growM (n : Nat) (h : n ≤ 1000) (h0 : 1 ≤ n) : Meets Try.prog 93 [.snil, .int .i64 fun _ => (n : Int)] [] (Y := Unit) (fun _ => True) (fun _ => .vec 0 1 (fun _ => 0) (fun _ => 0)) (fun _ => [.vect 3 (.int .i64) fun _ => List.replicate n 0]) := by
  have e : IntKind.i64.wrap ((n : Int) - IntKind.i64.wrap (0 - 0)) = n := by
    rw [show IntKind.i64.wrap (0 - 0) = 0 from rfl, wr (by omega)]; omega
  have hb : ((Try.t3).bytes : Nat) = 8 := rfl
  refine Meets.intro hm (fn := Try.f93) Try.func93 rfl (by decide) (Nat.le_of_ble_eq_true rfl) (fun _ => rfl) ?_; intro S hok; (conv => whnf)
  (repeat' ((conv => whnf); first | apply And.intro | exact ⟨by kernel_rfl⟩ | apply DrawN.mk | apply CodeN.step hm rfl | exact trivial | exact rfl | (intro hh; try simp only [bs] at hh))); all_goals (conv => whnf)
  all_goals (try simp only [e] at hh ⊢)
  all_goals first
    | (exfalso; omega)
    | (refine Ob.mk ?_; first | decide | omega | (rw [hb]; omega) | (simp only [Int.toNat_natCast]; omega))
    | skip
  (refine RetN.q () [0] ?_ ?_ ?_ <;> (repeat' ((conv => whnf) <;> first | exact rfl | exact trivial | apply And.intro | exact Nat.zero_add _)); all_goals ((conv => whnf); try simp only []))
theorem concatM (l : List (List Int)) (h1 : l.length ≤ 10) (h2 : ∀ x ∈ l, x.length ≤ 100) (h0 : 1 ≤ l.flatten.length) : Meets Try.prog 63 [.lst (.list (.int .i64)) fun _ => l] [] (Y := List Int) (fun c => c.take l.flatten.length = l.flatten) (fun _ => .vec 0 1 (fun _ => 0) fun _ => l.flatten.length) (fun c => [.vect 3 (.int .i64) fun _ => c]) := by
  have hfl : ∀ i, ((l.take i).flatten.length : Int) ≤ 100 * i := by
    intro i
    induction i with
    | zero => simp
    | succ i ih =>
      by_cases hi : i < l.length
      · rw [List.take_add_one, List.getElem?_eq_getElem hi, List.flatten_append, List.length_append]
        have := h2 _ (List.getElem_mem hi)
        simp only [Option.toList_some, List.flatten_cons, List.flatten_nil, List.append_nil]
        omega
      · rw [List.take_of_length_le (by omega)]
        rw [List.take_of_length_le (by omega)] at ih
        omega
  have hst : ∀ i, i < l.length → (l.take (i + 1)).flatten = (l.take i).flatten ++ l.getD i [] := fun i hi => by
    rw [List.take_add_one, List.getElem?_eq_getElem hi, List.flatten_append, List.getD_eq_getElem?_getD, List.getElem?_eq_getElem hi]; simp
  refine Meets.intro hm (fn := Try.f63) Try.func63 rfl (by decide) (Nat.le_of_ble_eq_true rfl) (fun _ => rfl) ?_; intro S hok; (conv => whnf)
  (repeat' ((conv => whnf); first | apply And.intro | exact ⟨by kernel_rfl⟩ | apply DrawN.mk | apply CodeN.step hm rfl | exact trivial | exact rfl | (intro hh; try simp only [bs] at hh))); all_goals (conv => whnf)
  refine LoopN.intro hm (X := Nat) (fun i => i ≤ l.length) (fun i => l.length - i)
    (fun i => [(11, .int .i64 fun _ => (i : Int)), (10, .int .i64 fun _ => (l.length : Int)), (9, .lst (.list (.int .i64)) fun _ => l), (3, .int .i64 fun _ => ((l.take i).flatten.length : Int)), (0, .lst (.list (.int .i64)) fun _ => l)]) (fun _ => []) 0 [] ⟨rfl, rfl, ?_, ?_⟩ (Nat.zero_le _) (fun i hi => ?_)
  · (repeat' ((conv => whnf) <;> first | exact rfl | exact trivial | apply And.intro | exact Nat.zero_add _))
  · (repeat' ((conv => whnf) <;> first | exact rfl | exact trivial | apply And.intro | exact Nat.zero_add _))
  have hfi := hfl i
  have hgl := fun hi : i < l.length => h2 _ (show l.getD i [] ∈ l by rw [List.getD_eq_getElem?_getD, List.getElem?_eq_getElem hi]; exact List.getElem_mem hi)
  have hsi := fun hi => congrArg List.length (hst i hi)
  have eg : l.getD (i : Int).toNat (Ty.list (.int .i64)).dflt = l.getD i [] := rfl
  (repeat' ((conv => whnf); first | apply And.intro | exact ⟨by kernel_rfl⟩ | apply DrawN.mk | apply CodeN.step hm rfl | exact trivial | exact rfl | (intro hh; try simp only [bs] at hh))); all_goals (conv => whnf)
  all_goals (try simp only [eg] at hh ⊢)
  · refine Ob.mk ?_
    omega
  · exfalso
    have hi2 : i < l.length := by omega
    have := hgl hi2
    rw [wr (by omega)] at hh
    omega
  · have hi2 : i < l.length := by omega
    have h3 := hsi hi2
    rw [List.length_append] at h3
    have h4 := hgl hi2
    refine ⟨i + 1, [], ⟨rfl, rfl, ?_, ?_⟩, hi2, Nat.sub_lt_sub_left hi2 (Nat.lt_succ_self _)⟩
    · (repeat' ((conv => whnf) <;> first | exact rfl | exact trivial | apply And.intro | exact Nat.zero_add _))
    · (repeat' ((conv => whnf) <;> first | exact rfl | exact trivial | apply And.intro | exact Nat.zero_add _)); all_goals ((conv => whnf); try simp only [])
      · exact wr (by omega)
      · rw [h3, wr (by omega)]; omega
  · have e : i = l.length := by omega
    rw [e, List.take_length] at hfi
    rw [e]
    simp only [List.take_length]
    (refine CallN.q (growM l.flatten.length (by omega) h0) [] (fun _ _ => ?_); (repeat' ((conv => whnf); first | apply And.intro | exact ⟨by kernel_rfl⟩ | apply DrawN.mk | apply CodeN.step hm rfl | exact trivial | exact rfl | (intro hh; try simp only [bs] at hh; try exact absurd hh (by decide)))); all_goals (conv => whnf); all_goals try exact ⟨by decide⟩)
    refine LoopN.intro hm (X := Nat × List Int) (fun x => x.1 ≤ l.length ∧ x.2.take (l.take x.1).flatten.length = (l.take x.1).flatten) (fun x => l.length - x.1)
      (fun x => [(27, .int .i64 fun _ => (x.1 : Int)), (26, .int .i64 fun _ => (l.length : Int)), (25, .lst (.list (.int .i64)) fun _ => l), (6, .vec 0 1 (fun _ => 0) (fun _ => (l.take x.1).flatten.length))]) (fun x => [.vect 3 (.int .i64) fun _ => x.2]) (0, List.replicate l.flatten.length 0) [0] ⟨rfl, rfl, ?_, ?_⟩ ⟨Nat.zero_le _, rfl⟩ (fun x hx => ?_)
    · (repeat' ((conv => whnf) <;> first | exact rfl | exact trivial | apply And.intro | exact Nat.zero_add _))
    · (repeat' ((conv => whnf) <;> first | exact rfl | exact trivial | apply And.intro | exact Nat.zero_add _)); all_goals ((conv => whnf); try simp only [])
    obtain ⟨j, c⟩ := x
    obtain ⟨hj, hc⟩ := hx
    have hfj := hfl j
    have hgj := fun hi : j < l.length => h2 _ (show l.getD j [] ∈ l by rw [List.getD_eq_getElem?_getD, List.getElem?_eq_getElem hi]; exact List.getElem_mem hi)
    have hsj := fun hi => congrArg List.length (hst j hi)
    have egj : l.getD (j : Int).toNat (Ty.list (.int .i64)).dflt = l.getD j [] := rfl
    simp only [] at hj hc
    (repeat' ((conv => whnf); first | apply And.intro | exact ⟨by kernel_rfl⟩ | apply DrawN.mk | apply CodeN.step hm rfl | exact trivial | exact rfl | (intro hh; try simp only [bs] at hh))); all_goals (conv => whnf)
    all_goals (try simp only [egj] at hh ⊢)
    · refine Ob.mk ?_
      omega
    · have hi2 : j < l.length := by omega
      have h4 := hgj hi2
      have hb : ((Try.t3).bytes : Nat) = 8 := rfl
      refine ⟨⟨trivial, ?_, ?_⟩⟩
      · omega
      · rw [hb]; omega
    · have hi2 : j < l.length := by omega
      have h3 := hsj hi2
      rw [List.length_append] at h3
      have h5 := hst j hi2
      refine ⟨(j + 1, (l.take j).flatten ++ l.getD j []), [0], ⟨rfl, rfl, ?_, ?_⟩, ⟨hi2, ?_⟩, Nat.sub_lt_sub_left hi2 (Nat.lt_succ_self _)⟩
      · (repeat' ((conv => whnf) <;> first | exact rfl | exact trivial | apply And.intro | exact Nat.zero_add _)); all_goals ((conv => whnf); try simp only [])
        rw [hc]
      · (repeat' ((conv => whnf) <;> first | exact rfl | exact trivial | apply And.intro | exact Nat.zero_add _)); all_goals ((conv => whnf); try simp only [])
        · exact wr (by omega)
        · exact h3.symm
      · rw [h5, List.take_length]
    · have e2 : j = l.length := by omega
      rw [e2, List.take_length] at hc
      (refine RetN.q c [0] ?_ ?_ ?_ <;> (repeat' ((conv => whnf) <;> first | exact rfl | exact trivial | apply And.intro | exact Nat.zero_add _)); all_goals ((conv => whnf); try simp only []))
      all_goals first | exact hc | rw [e2, List.take_length]
def widthsL : List Int := [41, 41] ++ times [21] 16 ++ [5] ++ times [41, 5] 16 ++ [57]
theorem widthsM : Meets Try.prog 34 [] [] (Y := Unit) (fun _ => True) (fun _ => .lst (.int .i64) fun _ => widthsL) (fun _ => []) := by
  have M := concatM [[41, 41], times [21] 16, [5], times [41, 5] 16] (by decide) (by decide) (by decide)
  refine Meets.intro hm (fn := Try.f34) Try.func34 rfl (by decide) (Nat.le_of_ble_eq_true rfl) (fun _ => rfl) ?_; intro S hok; (conv => whnf)
  (repeat' ((conv => whnf); first | apply And.intro | exact ⟨by kernel_rfl⟩ | apply DrawN.mk | apply CodeN.step hm rfl | exact trivial | exact rfl | (intro hh; try simp only [bs] at hh))); all_goals (conv => whnf)
  refine CallN.frz 1 ?_ rep1.callable
  (conv => whnf)
  (refine CallN.q rep1 [] (fun _ _ => ?_); (repeat' ((conv => whnf); first | apply And.intro | exact ⟨by kernel_rfl⟩ | apply DrawN.mk | apply CodeN.step hm rfl | exact trivial | exact rfl | (intro hh; try simp only [bs] at hh; try exact absurd hh (by decide)))); all_goals (conv => whnf); all_goals try exact ⟨by decide⟩)
  refine CallN.frz 3 ?_ rep2.callable
  (conv => whnf)
  (refine CallN.q rep2 [] (fun _ _ => ?_); (repeat' ((conv => whnf); first | apply And.intro | exact ⟨by kernel_rfl⟩ | apply DrawN.mk | apply CodeN.step hm rfl | exact trivial | exact rfl | (intro hh; try simp only [bs] at hh; try exact absurd hh (by decide)))); all_goals (conv => whnf); all_goals try exact ⟨by decide⟩)
  refine CallN.frz 4 ?_ M.callable
  (conv => whnf)
  refine CallN.q M [] (fun c hc => ?_)
  have hF : [[41, 41], times [21] 16, [5], times [41, 5] 16].flatten = [41, 41] ++ times [21] 16 ++ [5] ++ times [41, 5] 16 := by decide
  have hl0 : [[41, 41], times [21] 16, [5], times [41, 5] 16].flatten.length = 51 := by decide
  have hlen : ([41, 41] ++ times [21] 16 ++ [5] ++ times [41, 5] 16).length = 51 := by decide
  have hall : ∀ i, i < 51 → 0 ≤ ([41, 41] ++ times [21] 16 ++ [5] ++ times [41, 5] 16).getD i 0 ∧ ([41, 41] ++ times [21] 16 ++ [5] ++ times [41, 5] 16).getD i 0 ≤ 64 := by decide
  have hsum : ([41, 41] ++ times [21] 16 ++ [5] ++ times [41, 5] 16).sum = 1159 := by decide
  have hbd : ∀ i, i ≤ 51 → 0 ≤ (([41, 41] ++ times [21] 16 ++ [5] ++ times [41, 5] 16).take i).sum ∧ (([41, 41] ++ times [21] 16 ++ [5] ++ times [41, 5] 16).take i).sum ≤ 1159 := by decide
  have hW : widthsL = ([41, 41] ++ times [21] 16 ++ [5] ++ times [41, 5] 16) ++ [57] := rfl
  rw [hl0] at hc ⊢
  rw [hF] at hc
  generalize [41, 41] ++ times [21] 16 ++ [5] ++ times [41, 5] 16 = F at *
  have hcF : ∀ i, i < 51 → c.getD i 0 = F.getD i 0 := fun i hi => by
    rw [← hc, List.getD_eq_getElem?_getD, List.getD_eq_getElem?_getD, List.getElem?_take, if_pos hi]
  (repeat' ((conv => whnf); first | apply And.intro | exact ⟨by kernel_rfl⟩ | apply DrawN.mk | apply CodeN.step hm rfl | exact trivial | exact rfl | (intro hh; try simp only [bs] at hh; try exact absurd hh (by decide)))); all_goals (conv => whnf)
  refine LoopN.intro hm (X := Nat) (fun i => i ≤ 51) (fun i => 51 - i)
    (fun i => [(15, .int .i64 fun _ => (i : Int)), (14, .int .i64 fun _ => 51), (13, .vec 0 1 (fun _ => 0) fun _ => 51), (2, .int .i64 fun _ => 1216 - (F.take i).sum), (1, .vec 0 1 (fun _ => 0) fun _ => 51)]) (fun _ => [.vect 3 (.int .i64) fun _ => c]) 0 [5] ⟨rfl, rfl, ?_, ?_⟩ (Nat.zero_le _) (fun i hi => ?_)
  · (repeat' ((conv => whnf) <;> first | exact rfl | exact trivial | apply And.intro | exact Nat.zero_add _))
  · (repeat' ((conv => whnf) <;> first | exact rfl | exact trivial | apply And.intro | exact Nat.zero_add _)); all_goals ((conv => whnf); try simp only [])
  have hbi := hbd i (by omega)
  have hst := fun h => Ce.sum_take (l := F) (i := i) h
  have hai := hall i
  (repeat' ((conv => whnf); first | apply And.intro | exact ⟨by kernel_rfl⟩ | apply DrawN.mk | apply CodeN.step hm rfl | exact trivial | exact rfl | (intro hh; try simp only [bs] at hh))); all_goals (conv => whnf)
  · refine Ob.mk ?_
    simp only []; omega
  · have hi2 : i < 51 := by omega
    have h1 := hst (by omega)
    have h2 := hai (by omega)
    refine ⟨i + 1, [0], ⟨rfl, rfl, ?_, ?_⟩, hi2, Nat.sub_lt_sub_left hi2 (Nat.lt_succ_self _)⟩
    · (repeat' ((conv => whnf) <;> first | exact rfl | exact trivial | apply And.intro | exact Nat.zero_add _))
    · (repeat' ((conv => whnf) <;> first | exact rfl | exact trivial | apply And.intro | exact Nat.zero_add _)); all_goals ((conv => whnf); try simp only [])
      · exact wr (by omega)
      · show IntKind.i64.wrap (1216 - (F.take i).sum - c.getD (0 + i) 0) = _
        rw [Nat.zero_add, hcF i hi2, h1, wr (by omega)]; omega
  · have e : i = F.length := by omega
    rw [e, List.take_length, hsum]
    refine LoopN.intro hm (X := Bool) (fun _ => True) (fun b => match b with | false => 1 | true => 0)
      (fun b => match b with | false => [(2, .int .i64 fun _ => 57), (1, .vec 0 1 (fun _ => 0) fun _ => 51)] | true => [(2, .int .i64 fun _ => -7), (1, .vec 0 1 (fun _ => 0) fun _ => 52)]) (fun b => match b with | false => [.vect 3 (.int .i64) fun _ => c] | true => [.vect 3 (.int .i64) fun _ => F ++ [57]]) false [0] ⟨rfl, rfl, ?_, ?_⟩ trivial (fun b _ => ?_)
    · (repeat' ((conv => whnf) <;> first | exact rfl | exact trivial | apply And.intro | exact Nat.zero_add _))
    · (repeat' ((conv => whnf) <;> first | exact rfl | exact trivial | apply And.intro | exact Nat.zero_add _)); all_goals ((conv => whnf); try simp only [])
    cases b
    · (repeat' ((conv => whnf); first | apply And.intro | exact ⟨by kernel_rfl⟩ | apply DrawN.mk | apply CodeN.step hm rfl | exact trivial | exact rfl | (intro hh; try simp only [bs] at hh))); all_goals (conv => whnf)
      · exact Ob.mk (by decide)
      · refine ⟨true, [0], ⟨rfl, rfl, ?_, ?_⟩, trivial, Nat.zero_lt_one⟩
        · (repeat' ((conv => whnf) <;> first | exact rfl | exact trivial | apply And.intro | exact Nat.zero_add _)); all_goals ((conv => whnf); try simp only [])
          rw [hc]; rfl
        · (repeat' ((conv => whnf) <;> first | exact rfl | exact trivial | apply And.intro | exact Nat.zero_add _)); all_goals ((conv => whnf); try simp only [])
          all_goals rfl
      · exact absurd (show (0 : Int) < 57 by decide) hh
    · (repeat' ((conv => whnf); first | apply And.intro | exact ⟨by kernel_rfl⟩ | apply DrawN.mk | apply CodeN.step hm rfl | exact trivial | exact rfl | (intro hh; try simp only [bs] at hh))); all_goals (conv => whnf)
      · exact absurd hh (by decide)
      · exact absurd hh (by decide)
      · (refine RetN.frz 0 ?_; (conv => whnf))
        (refine RetN.q () [] ?_ ?_ ?_ <;> (repeat' ((conv => whnf) <;> first | exact rfl | exact trivial | apply And.intro | exact Nat.zero_add _)); all_goals ((conv => whnf); try simp only []))
        rw [hW, List.drop_zero]
        exact List.take_of_length_le (by simp [hlen])
end Go.Proofs.Ytkcifdblaboodaa.Bt
set_option linter.unusedVariables false
set_option linter.unusedSimpArgs false
namespace Go.Proofs.Ytkcifdblaboodaa.Bt
open Go Go.RowKit Fw Hi Po
/-- A loop ahead of which a chunk is frozen. -/
theorem loop_frz {P : Program} {N : Nat} {M : List Bool} {S : Sc} {body : Code} {env : Env} {E : List Chunk} {K : Ex → Env → List Chunk → Prop} (i : Nat) (h : Fw.frz i env E [] fun env' E' _ => LoopN P N S M body env' E' K) : LoopN P N S M body env E K where
  h := by
    intro r g a w hr hM hI hN
    obtain ⟨B, hB, hI', hd⟩ := hI
    obtain ⟨g', env', E', cs', h1, h2, h3⟩ := frz_ok hI' (show RL g [] [] from trivial) h
    exact h3.h r g' a w hr hM ⟨B, hB, h1, hd⟩ hN
/-- Values laid side by side, so wide each. -/
def packN : List Int → List Int → Nat
  | w :: ws, v :: vs => v.toNat + 2 ^ w.toNat * packN ws vs
  | _, _ => 0
theorem packN_take : ∀ {ws vs : List Int} {i : Nat}, ws.length = vs.length → i < ws.length → (∀ w ∈ ws, 0 ≤ w) → packN (ws.take (i + 1)) (vs.take (i + 1)) = packN (ws.take i) (vs.take i) + (vs.getD i 0).toNat * 2 ^ (ws.take i).sum.toNat
  | [], _, i, _, h, _ => by simp at h
  | w :: ws, [], i, h, _, _ => by simp at h
  | w :: ws, v :: vs, 0, _, _, _ => by simp [packN]
  | w :: ws, v :: vs, i + 1, hl, hi, hw => by
    have ih := packN_take (ws := ws) (vs := vs) (i := i) (by simpa using hl) (by simpa using hi) fun x hx => hw x (List.mem_cons_of_mem _ hx)
    have h0 := hw w (List.mem_cons_self ..)
    have hs : 0 ≤ (ws.take i).sum := Ce.sum_nonneg fun x hx => hw x (List.mem_cons_of_mem _ (List.mem_of_mem_take hx))
    have e : (w + (ws.take i).sum).toNat = w.toNat + (ws.take i).sum.toNat := by omega
    simp only [List.take_succ_cons, packN, List.sum_cons, List.getD_cons_succ] at ih ⊢
    rw [ih, e, Nat.pow_add, Nat.mul_add, Nat.add_assoc]
    congr 2
    rw [Nat.mul_left_comm]
/-- Values that fit. -/
def Fit (ws vs : List Int) : Prop := ws.length = vs.length ∧ (∀ w ∈ ws, 0 ≤ w ∧ w ≤ 64) ∧ ∀ i, i < ws.length → 0 ≤ vs.getD i 0 ∧ (vs.getD i 0).toNat < 2 ^ (ws.getD i 0).toNat
theorem packN_lt {ws vs : List Int} (h : Fit ws vs) : ∀ i, i ≤ ws.length → packN (ws.take i) (vs.take i) < 2 ^ (ws.take i).sum.toNat := by
  intro i hi
  induction i with
  | zero => simp [packN]
  | succ i ih =>
    have ih := ih (by omega)
    have h3 := (h.2.2 i (by omega)).2
    have hwi := h.2.1 (ws.getD i 0) (by rw [List.getD_eq_getElem?_getD, List.getElem?_eq_getElem (by omega)]; exact List.getElem_mem _)
    have hs : 0 ≤ (ws.take i).sum := Ce.sum_nonneg fun x hx => (h.2.1 x (List.mem_of_mem_take hx)).1
    rw [packN_take h.1 (by omega) fun w hw => (h.2.1 w hw).1, Ce.sum_take (by omega)]
    have e : ((ws.take i).sum + ws.getD i 0).toNat = (ws.getD i 0).toNat + (ws.take i).sum.toNat := by omega
    rw [e, Nat.pow_add]
    have h4 : ((vs.getD i 0).toNat + 1) * 2 ^ (ws.take i).sum.toNat ≤ 2 ^ (ws.getD i 0).toNat * 2 ^ (ws.take i).sum.toNat := Nat.mul_le_mul_right _ h3
    rw [Nat.add_mul, Nat.one_mul] at h4
    omega
/-- The fields of a number, side by side. -/
def flds : List Int → Nat → List Int
  | [], _ => []
  | w :: ws, N => ((N % 2 ^ w.toNat : Nat) : Int) :: flds ws (N / 2 ^ w.toNat)
theorem flds_len : ∀ (ws : List Int) (N : Nat), (flds ws N).length = ws.length
  | [], _ => rfl
  | w :: ws, N => by rw [flds, List.length_cons, List.length_cons, flds_len ws]
theorem flds_take : ∀ {ws : List Int} {i : Nat} {N : Nat}, i < ws.length → (∀ w ∈ ws, 0 ≤ w) → flds (ws.take (i + 1)) N = flds (ws.take i) N ++ [((fld N (ws.take i).sum.toNat (ws.getD i 0).toNat : Nat) : Int)]
  | [], i, _, h, _ => by simp at h
  | w :: ws, 0, N, _, _ => by simp [flds, fld]
  | w :: ws, i + 1, N, hi, hw => by
    have ih := flds_take (ws := ws) (i := i) (N := N / 2 ^ w.toNat) (by simpa using hi) fun x hx => hw x (List.mem_cons_of_mem _ hx)
    have h0 := hw w (List.mem_cons_self ..)
    have hs : 0 ≤ (ws.take i).sum := Ce.sum_nonneg fun x hx => hw x (List.mem_cons_of_mem _ (List.mem_of_mem_take hx))
    have e : (w + (ws.take i).sum).toNat = w.toNat + (ws.take i).sum.toNat := by omega
    rw [List.take_succ_cons, flds, ih, List.take_succ_cons, flds, List.sum_cons, e, List.getD_cons_succ, List.cons_append]
    congr 3
    unfold fld
    rw [Nat.div_div_eq_div_mul, ← Nat.pow_add]
theorem Fit.cons {w v : Int} {ws vs : List Int} (h : Fit (w :: ws) (v :: vs)) : 0 ≤ w ∧ w ≤ 64 ∧ 0 ≤ v ∧ v.toNat < 2 ^ w.toNat ∧ Fit ws vs := by
  have h1 := h.2.1 w (List.mem_cons_self ..)
  have h2 := h.2.2 0 (by simp)
  refine ⟨h1.1, h1.2, h2.1, h2.2, by simpa using h.1, fun x hx => h.2.1 x (List.mem_cons_of_mem _ hx), fun i hi => ?_⟩
  have := h.2.2 (i + 1) (by simpa using hi)
  rwa [List.getD_cons_succ, List.getD_cons_succ] at this
theorem flds_pack : ∀ {ws vs : List Int}, Fit ws vs → flds ws (packN ws vs) = vs
  | [], [], _ => rfl
  | [], v :: vs, h => by have := h.1; simp at this
  | w :: ws, [], h => by have := h.1; simp at this
  | w :: ws, v :: vs, h => by
    obtain ⟨h1, h2, h3, h4, h5⟩ := h.cons
    have hp : 0 < 2 ^ w.toNat := Nat.two_pow_pos _
    rw [packN, flds, Nat.add_mul_mod_self_left, Nat.mod_eq_of_lt h4, Nat.add_mul_div_left _ _ hp, Nat.div_eq_of_lt h4, Nat.zero_add, flds_pack h5]
    congr 1
    omega
theorem pack_flds : ∀ {ws : List Int} {N : Nat}, (∀ w ∈ ws, 0 ≤ w) → N < 2 ^ ws.sum.toNat → packN ws (flds ws N) = N
  | [], N, _, h => by simp at h; rw [h]; rfl
  | w :: ws, N, hw, h => by
    have h0 := hw w (List.mem_cons_self ..)
    have hs : 0 ≤ ws.sum := Ce.sum_nonneg fun x hx => hw x (List.mem_cons_of_mem _ hx)
    have e : (w :: ws).sum.toNat = w.toNat + ws.sum.toNat := by rw [List.sum_cons]; omega
    rw [e, Nat.pow_add] at h
    have h2 : N / 2 ^ w.toNat < 2 ^ ws.sum.toNat := by
      rw [Nat.div_lt_iff_lt_mul (Nat.two_pow_pos _), Nat.mul_comm]; exact h
    rw [flds, packN, pack_flds (fun x hx => hw x (List.mem_cons_of_mem _ hx)) h2, Int.toNat_natCast, Nat.add_comm]
    exact Nat.div_add_mod _ _
theorem flds_at : ∀ {ws : List Int} {i N : Nat}, i < ws.length → (∀ w ∈ ws, 0 ≤ w) → (flds ws N).getD i 0 = ((fld N (ws.take i).sum.toNat (ws.getD i 0).toNat : Nat) : Int)
  | [], i, _, h, _ => by simp at h
  | w :: ws, 0, N, _, _ => by simp [flds, fld]
  | w :: ws, i + 1, N, hi, hw => by
    have ih := flds_at (ws := ws) (i := i) (N := N / 2 ^ w.toNat) (by simpa using hi) fun x hx => hw x (List.mem_cons_of_mem _ hx)
    have h0 := hw w (List.mem_cons_self ..)
    have hs : 0 ≤ (ws.take i).sum := Ce.sum_nonneg fun x hx => hw x (List.mem_cons_of_mem _ (List.mem_of_mem_take hx))
    have e : (w + (ws.take i).sum).toNat = w.toNat + (ws.take i).sum.toNat := by omega
    rw [flds, List.getD_cons_succ, ih, List.take_succ_cons, List.sum_cons, e, List.getD_cons_succ]
    unfold fld
    rw [Nat.div_div_eq_div_mul, ← Nat.pow_add]
theorem fit_flds {ws : List Int} {N : Nat} (h : ∀ w ∈ ws, 0 ≤ w ∧ w ≤ 64) : Fit ws (flds ws N) := by
  refine ⟨(flds_len ws N).symm, h, fun i hi => ?_⟩
  rw [flds_at hi fun w hw => (h w hw).1]
  exact ⟨Int.natCast_nonneg _, by rw [Int.toNat_natCast]; exact Nat.mod_lt _ (Nat.two_pow_pos _)⟩
theorem getD_app {a b : List Int} (i : Nat) : (a ++ b).getD i 0 = if i < a.length then a.getD i 0 else b.getD (i - a.length) 0 := by
  simp only [List.getD_eq_getElem?_getD, List.getElem?_append]
  split <;> rfl
theorem Fit.append {a b c d : List Int} (h1 : Fit a b) (h2 : Fit c d) : Fit (a ++ c) (b ++ d) := by
  refine ⟨by rw [List.length_append, List.length_append, h1.1, h2.1], fun x hx => ?_, fun i hi => ?_⟩
  · rcases List.mem_append.1 hx with h | h
    · exact h1.2.1 x h
    · exact h2.2.1 x h
  · rw [List.length_append] at hi
    have := h1.1
    rw [getD_app, getD_app, ← h1.1]
    by_cases h : i < a.length
    · rw [if_pos h, if_pos h]; exact h1.2.2 i h
    · rw [if_neg h, if_neg h]; exact h2.2.2 _ (by omega)
theorem Fit.nil : Fit [] [] := ⟨rfl, fun x hx => by simp at hx, fun i hi => by simp at hi⟩
theorem Fit.mk {w v : Int} {ws vs : List Int} (h1 : 0 ≤ w ∧ w ≤ 64) (h2 : 0 ≤ v ∧ v.toNat < 2 ^ w.toNat) (h : Fit ws vs) : Fit (w :: ws) (v :: vs) := by
  refine ⟨by simpa using h.1, fun x hx => ?_, fun i hi => ?_⟩
  · rcases List.mem_cons.1 hx with e | e
    · rw [e]; exact h1
    · exact h.2.1 x e
  · cases i with
    | zero => exact h2
    | succ i => rw [List.getD_cons_succ, List.getD_cons_succ]; exact h.2.2 i (by simpa using hi)
theorem nextM (w : List Int) (hl : w.length ≤ 1000) : Meets Try.prog 68 [.lst (.int .u64) fun _ => w, .int .i64 fun _ => ((64 * w.length : Nat) : Int)] [] (Y := Unit) (fun _ => True) (fun _ => .tup [.int .i64 fun _ => 0, .ff]) (fun _ => []) := by
  have e1 : (if (0 : Int) > ((64 * w.length : Nat) : Int) then 0 else ((64 * w.length : Nat) : Int)) = ((64 * w.length : Nat) : Int) := if_neg (by omega)
  have e2 : IntKind.i64.wrap (((64 * w.length : Nat) : Int).tdiv 64) = (w.length : Int) := by
    rw [Int.tdiv_eq_ediv_of_nonneg (by omega), wr (by omega)]; omega
  refine Meets.intro hm (fn := Try.f68) Try.func68 rfl (by decide) (Nat.le_of_ble_eq_true rfl) (fun _ => rfl) ?_; intro S hok; (conv => whnf)
  (repeat' ((conv => whnf); first | apply And.intro | exact ⟨by kernel_rfl⟩ | apply DrawN.mk | apply CodeN.step hm rfl | exact trivial | exact rfl | (intro hh; try simp only [bs] at hh))); all_goals (conv => whnf)
  · exact Ob.mk (by decide)
  refine LoopN.intro hm (X := Unit) (fun _ => True) (fun _ => 0)
    (fun _ => [(6, .int .i64 fun _ => (w.length : Int)), (0, .lst (.int .u64) fun _ => w)]) (fun _ => []) () [] ⟨rfl, rfl, ?_, ?_⟩ trivial (fun _ _ => ?_)
  · (repeat' ((conv => whnf) <;> first | exact rfl | exact trivial | apply And.intro | exact Nat.zero_add _))
  · (repeat' ((conv => whnf) <;> first | exact rfl | exact trivial | apply And.intro | exact Nat.zero_add _)); all_goals ((conv => whnf); try simp only [])
    rw [e1]; exact e2
  (repeat' ((conv => whnf); first | apply And.intro | exact ⟨by kernel_rfl⟩ | apply DrawN.mk | apply CodeN.step hm rfl | exact trivial | exact rfl | (intro hh; try simp only [bs] at hh))); all_goals (conv => whnf)
  all_goals first
    | (exfalso; omega)
    | skip
  (refine RetN.q () [] ?_ ?_ ?_ <;> (repeat' ((conv => whnf) <;> first | exact rfl | exact trivial | apply And.intro | exact Nat.zero_add _)); all_goals ((conv => whnf); try simp only []))
theorem packM (ws vs : List Int) (h : Fit ws vs) (hl : ws.length ≤ 100) : Meets Try.prog 35 [.lst (.int .i64) fun _ => ws, .lst (.int .u64) fun _ => vs] [] (Y := Unit) (fun _ => True) (fun _ => .tup [.lst (.int .u64) fun _ => wordsOf ((ws.sum.toNat + 63) / 64) (packN ws vs), .tt]) (fun _ => []) := by
  have hsb := Ce.sum_bound (m := 64) h.2.1 (by omega)
  have e1 : IntKind.i64.wrap (ws.sum + 64) = ws.sum + 64 := wr (by omega)
  have e2 : IntKind.i64.wrap (ws.sum + 64 - 1) = ws.sum + 63 := by rw [wr (by omega)]; omega
  have e3 : IntKind.i64.wrap ((ws.sum + 63).tdiv 64) = (((ws.sum.toNat + 63) / 64 : Nat) : Int) := by
    rw [Int.tdiv_eq_ediv_of_nonneg (by omega), wr (by omega)]; omega
  generalize hK : (ws.sum.toNat + 63) / 64 = K at *
  have hb : ((Try.t73).bytes : Nat) = 8 := rfl
  refine Meets.intro hm (fn := Try.f35) Try.func35 rfl (by decide) (Nat.le_of_ble_eq_true rfl) (fun _ => rfl) ?_; intro S hok; (conv => whnf)
  (repeat' ((conv => whnf); first | apply And.intro | exact ⟨by kernel_rfl⟩ | apply DrawN.mk | apply CodeN.step hm rfl | exact trivial | exact rfl | (intro hh; try simp only [bs] at hh))); all_goals (conv => whnf)
  · exfalso; have := h.1; omega
  (refine CallN.q (sizeM ws h.2.1 hl) [] (fun _ _ => ?_); (repeat' ((conv => whnf); first | apply And.intro | exact ⟨by kernel_rfl⟩ | apply DrawN.mk | apply CodeN.step hm rfl | exact trivial | exact rfl | (intro hh; try simp only [bs] at hh; try exact absurd hh (by decide)))); all_goals (conv => whnf); all_goals try exact ⟨by decide⟩)
  all_goals (try simp only [e1, e2, e3, Int.toNat_natCast] at hh ⊢)
  · refine Ob.mk ?_
    rw [hb]; omega
  refine loop_frz 0 ?_
  (conv => whnf)
  refine LoopN.intro hm (X := Nat) (fun i => i ≤ ws.length) (fun i => ws.length - i)
    (fun i => [(31, .int .i64 fun _ => (i : Int)), (30, .int .i64 fun _ => (ws.length : Int)), (29, .lst (.int .i64) fun _ => ws), (9, .int .i64 fun _ => (ws.take i).sum), (8, .lst (.int .u64) fun _ => wordsOf K (packN (ws.take i) (vs.take i))), (1, .lst (.int .u64) fun _ => vs)]) (fun _ => []) 0 [] ⟨rfl, rfl, ?_, ?_⟩ (Nat.zero_le _) (fun i hi => ?_)
  · (repeat' ((conv => whnf) <;> first | exact rfl | exact trivial | apply And.intro | exact Nat.zero_add _))
  · (repeat' ((conv => whnf) <;> first | exact rfl | exact trivial | apply And.intro | exact Nat.zero_add _)); all_goals ((conv => whnf); try simp only [])
    rw [List.drop_zero, List.take_of_length_le (by simp)]
    refine getD_ext (by rw [words_len]; simp) fun j hj => ?_
    rw [List.length_replicate] at hj
    rw [words_at hj]
    simp [packN, List.getD_eq_getElem?_getD, hj]
  have hwi := fun hi : i < ws.length => h.2.1 (ws.getD i 0) (by rw [List.getD_eq_getElem?_getD, List.getElem?_eq_getElem hi]; exact List.getElem_mem hi)
  have hvi := h.2.2 i
  have hpl := packN_lt h i hi
  have hst := fun hi => Ce.sum_take (l := ws) (i := i) hi
  have hpt := fun hi => packN_take (i := i) h.1 hi fun w hw => (h.2.1 w hw).1
  have hsi : 0 ≤ (ws.take i).sum := Ce.sum_nonneg fun x hx => (h.2.1 x (List.mem_of_mem_take hx)).1
  have hsd : (ws.take i).sum + (ws.drop i).sum = ws.sum := by rw [← List.sum_append, List.take_append_drop]
  have hsd2 : 0 ≤ (ws.drop (i + 1)).sum := Ce.sum_nonneg fun x hx => (h.2.1 x (List.mem_of_mem_drop hx)).1
  have hlen := h.1
  (repeat' ((conv => whnf); first | apply And.intro | exact ⟨by kernel_rfl⟩ | apply DrawN.mk | apply CodeN.step hm rfl | exact trivial | exact rfl | (intro hh; try simp only [bs] at hh))); all_goals (conv => whnf)
  · refine Ob.mk ?_
    simp only []; omega
  · refine Ob.mk ?_
    simp only []; omega
  · have hi2 : i < ws.length := by omega
    have h1 := hwi hi2
    have h2 := hvi hi2
    have h3 := hst hi2
    have h4 := hpt hi2
    have hd : (ws.drop i).sum = ws.getD i 0 + (ws.drop (i + 1)).sum := by
      rw [List.drop_eq_getElem_cons hi2, List.sum_cons, List.getD_eq_getElem?_getD, List.getElem?_eq_getElem hi2]; rfl
    have eg1 : ws.getD (i : Int).toNat (Ty.int .i64).dflt = ((ws.getD i 0).toNat : Int) := by
      show ws.getD i 0 = _
      omega
    have eg2 : vs.getD (i : Int).toNat (Ty.int .u64).dflt = ((vs.getD i 0).toNat : Int) := by
      show vs.getD i 0 = _
      omega
    simp only [eg1, eg2]
    have ez : IntKind.u64.wrap (BitVec.ofInt IntKind.u64.bits (((vs.getD i 0).toNat : Nat) : Int) &&& ~~~BitVec.ofInt IntKind.u64.bits ((2 ^ (ws.getD i 0).toNat - 1 : Nat) : Int)).toNat = 0 := by
      rw [andn_int]
      have : andn (vs.getD i 0).toNat (2 ^ (ws.getD i 0).toNat - 1) = 0 := by
        apply Nat.eq_of_testBit_eq
        intro b
        rw [andn_bit, Nat.testBit_two_pow_sub_one, Nat.zero_testBit]
        by_cases hb2 : b < (ws.getD i 0).toNat
        · rw [decide_eq_true hb2, Bool.not_true, Bool.and_false]
        · rw [low_bit h2.2 (by omega)]; simp
      rw [this]; rfl
    have M := setM K (packN (ws.take i) (vs.take i)) (ws.take i).sum.toNat (ws.getD i 0).toNat (vs.getD i 0).toNat hpl h2.2 (by omega) (by omega) (by omega)
    rw [← h4] at M
    have et : (((ws.take i).sum.toNat : Nat) : Int) = (ws.take i).sum := by omega
    rw [et] at M
    (refine CallN.q (maskM (ws.getD i 0).toNat (by omega)) [] (fun _ _ => ?_); (repeat' ((conv => whnf); first | apply And.intro | exact ⟨by kernel_rfl⟩ | apply DrawN.mk | apply CodeN.step hm rfl | exact trivial | exact rfl | (intro hh; try simp only [bs] at hh; try exact absurd hh (by decide)))); all_goals (conv => whnf); all_goals try exact ⟨by decide⟩)
    all_goals (try simp only [eg1, eg2] at hh ⊢)
    all_goals first
      | (refine Ob.mk ?_; first | omega | (simp only []; omega))
      | (exfalso; exact hh ez)
      | rfl
      | skip
    (refine CallN.q M [] (fun _ _ => ?_); (repeat' ((conv => whnf); first | apply And.intro | exact ⟨by kernel_rfl⟩ | apply DrawN.mk | apply CodeN.step hm rfl | exact trivial | exact rfl | (intro hh; try simp only [bs] at hh; try exact absurd hh (by decide)))); all_goals (conv => whnf); all_goals try exact ⟨by decide⟩)
    refine ⟨i + 1, [], ⟨rfl, rfl, ?_, ?_⟩, hi2, Nat.sub_lt_sub_left hi2 (Nat.lt_succ_self _)⟩
    · (repeat' ((conv => whnf) <;> first | exact rfl | exact trivial | apply And.intro | exact Nat.zero_add _))
    · (repeat' ((conv => whnf) <;> first | exact rfl | exact trivial | apply And.intro | exact Nat.zero_add _)); all_goals ((conv => whnf); try simp only [])
      · exact wr (by omega)
      · rw [h3, wr (by omega)]; omega
  · have e : i = ws.length := by omega
    (refine RetN.q () [] ?_ ?_ ?_ <;> (repeat' ((conv => whnf) <;> first | exact rfl | exact trivial | apply And.intro | exact Nat.zero_add _)); all_goals ((conv => whnf); try simp only []))
    rw [e, List.take_length, hlen, List.take_length]
theorem unpackM_no (ws w : List Int) (K : Nat) (h : ∀ x ∈ ws, 0 ≤ x ∧ x ≤ 64) (hl : ws.length ≤ 100) (hs : ws.sum = 64 * K) (hwl : w.length ≠ K) (hl2 : w.length ≤ 1000) : Meets Try.prog 36 [.lst (.int .i64) fun _ => ws, .lst (.int .u64) fun _ => w] [] (Y := Unit) (fun _ => True) (fun _ => .tup [.snil, .ff]) (fun _ => []) := by
  have hsb := Ce.sum_bound (m := 64) h (by omega)
  have e1 : IntKind.i64.wrap (ws.sum + 64) = ws.sum + 64 := wr (by omega)
  have e2 : IntKind.i64.wrap (ws.sum + 64 - 1) = ws.sum + 63 := by rw [wr (by omega)]; omega
  have e3 : IntKind.i64.wrap ((ws.sum + 63).tdiv 64) = (K : Int) := by
    rw [Int.tdiv_eq_ediv_of_nonneg (by omega), wr (by omega)]; omega
  refine Meets.intro hm (fn := Try.f36) Try.func36 rfl (by decide) (Nat.le_of_ble_eq_true rfl) (fun _ => rfl) ?_; intro S hok; (conv => whnf)
  (repeat' ((conv => whnf); first | apply And.intro | exact ⟨by kernel_rfl⟩ | apply DrawN.mk | apply CodeN.step hm rfl | exact trivial | exact rfl | (intro hh; try simp only [bs] at hh))); all_goals (conv => whnf)
  (refine CallN.q (sizeM ws h hl) [] (fun _ _ => ?_); (repeat' ((conv => whnf); first | apply And.intro | exact ⟨by kernel_rfl⟩ | apply DrawN.mk | apply CodeN.step hm rfl | exact trivial | exact rfl | (intro hh; try simp only [bs] at hh; try exact absurd hh (by decide)))); all_goals (conv => whnf); all_goals try exact ⟨by decide⟩)
  all_goals (try simp only [e1, e2, e3, Int.toNat_natCast] at hh ⊢)
  · (refine RetN.q () [] ?_ ?_ ?_ <;> (repeat' ((conv => whnf) <;> first | exact rfl | exact trivial | apply And.intro | exact Nat.zero_add _)); all_goals ((conv => whnf); try simp only []))
  · exfalso; omega
set_option maxHeartbeats 4000000 in
theorem unpackM (ws w : List Int) (K : Nat) (h : ∀ x ∈ ws, 0 ≤ x ∧ x ≤ 64) (hl : ws.length ≤ 100) (h0 : ws ≠ []) (hs : ws.sum = 64 * K) (hw : Wd w) (hwl : w.length = K) : Meets Try.prog 36 [.lst (.int .i64) fun _ => ws, .lst (.int .u64) fun _ => w] [] (Y := Unit) (fun _ => True) (fun _ => .tup [.lst (.int .u64) fun _ => flds ws (numOf w), .tt]) (fun _ => []) := by
  have hsb := Ce.sum_bound (m := 64) h (by omega)
  have e1 : IntKind.i64.wrap (ws.sum + 64) = ws.sum + 64 := wr (by omega)
  have e2 : IntKind.i64.wrap (ws.sum + 64 - 1) = ws.sum + 63 := by rw [wr (by omega)]; omega
  have e3 : IntKind.i64.wrap ((ws.sum + 63).tdiv 64) = (K : Int) := by
    rw [Int.tdiv_eq_ediv_of_nonneg (by omega), wr (by omega)]; omega
  have MN := nextM w (by omega)
  rw [show ((64 * w.length : Nat) : Int) = ws.sum by omega] at MN
  refine Meets.intro hm (fn := Try.f36) Try.func36 rfl (by decide) (Nat.le_of_ble_eq_true rfl) (fun _ => rfl) ?_; intro S hok; (conv => whnf)
  (repeat' ((conv => whnf); first | apply And.intro | exact ⟨by kernel_rfl⟩ | apply DrawN.mk | apply CodeN.step hm rfl | exact trivial | exact rfl | (intro hh; try simp only [bs] at hh))); all_goals (conv => whnf)
  (refine CallN.q (sizeM ws h hl) [] (fun _ _ => ?_); (repeat' ((conv => whnf); first | apply And.intro | exact ⟨by kernel_rfl⟩ | apply DrawN.mk | apply CodeN.step hm rfl | exact trivial | exact rfl | (intro hh; try simp only [bs] at hh; try exact absurd hh (by decide)))); all_goals (conv => whnf); all_goals try exact ⟨by decide⟩)
  all_goals (try simp only [e1, e2, e3, Int.toNat_natCast] at hh ⊢)
  · exfalso; omega
  (refine CallN.q MN [] (fun _ _ => ?_); (repeat' ((conv => whnf); first | apply And.intro | exact ⟨by kernel_rfl⟩ | apply DrawN.mk | apply CodeN.step hm rfl | exact trivial | exact rfl | (intro hh; try simp only [bs] at hh; try exact absurd hh (by decide)))); all_goals (conv => whnf); all_goals try exact ⟨by decide⟩)
  refine LoopN.intro hm (X := Nat) (fun i => i ≤ ws.length) (fun i => ws.length - i)
    (fun i => [(41, .int .i64 fun _ => (i : Int)), (40, .int .i64 fun _ => (ws.length : Int)), (39, .lst (.int .i64) fun _ => ws), (11, .int .i64 fun _ => (ws.take i).sum), (10, match i with | 0 => .snil | k + 1 => .vec 0 1 (fun _ => 0) fun _ => k + 1), (1, .lst (.int .u64) fun _ => w)]) (fun i => match i with | 0 => [] | k + 1 => [.vect 73 (.int .u64) fun _ => flds (ws.take (k + 1)) (numOf w)]) 0 [] ⟨rfl, rfl, ?_, ?_⟩ (Nat.zero_le _) (fun i hi => ?_)
  · (repeat' ((conv => whnf) <;> first | exact rfl | exact trivial | apply And.intro | exact Nat.zero_add _))
  · (repeat' ((conv => whnf) <;> first | exact rfl | exact trivial | apply And.intro | exact Nat.zero_add _)); all_goals ((conv => whnf); try simp only [])
  have hwi := fun hi : i < ws.length => h (ws.getD i 0) (by rw [List.getD_eq_getElem?_getD, List.getElem?_eq_getElem hi]; exact List.getElem_mem hi)
  have hst := fun hi => Ce.sum_take (l := ws) (i := i) hi
  have hsi : 0 ≤ (ws.take i).sum := Ce.sum_nonneg fun x hx => (h x (List.mem_of_mem_take hx)).1
  have hsd : (ws.take i).sum + (ws.drop i).sum = ws.sum := by rw [← List.sum_append, List.take_append_drop]
  have hsd2 : 0 ≤ (ws.drop (i + 1)).sum := Ce.sum_nonneg fun x hx => (h x (List.mem_of_mem_drop hx)).1
  have hft := fun hi => flds_take (i := i) (N := numOf w) hi fun x hx => (h x hx).1
  have hd : i < ws.length → (ws.drop i).sum = ws.getD i 0 + (ws.drop (i + 1)).sum := fun hi2 => by
    rw [List.drop_eq_getElem_cons hi2, List.sum_cons, List.getD_eq_getElem?_getD, List.getElem?_eq_getElem hi2]; rfl
  have MG := fun hi2 : i < ws.length => getM w (ws.take i).sum.toNat (ws.getD i 0).toNat hw (by have := hd hi2; have := hwi hi2; omega) (by have := hwi hi2; omega) (by omega)
  have et : (((ws.take i).sum.toNat : Nat) : Int) = (ws.take i).sum := by omega
  rw [et] at MG
  have hl0 : 0 < ws.length := List.length_pos_iff.2 h0
  have eg : i < ws.length → ws.getD (i : Int).toNat (Ty.int .i64).dflt = ((ws.getD i 0).toNat : Int) := fun hi2 => by
    show ws.getD i 0 = _
    have := hwi hi2
    omega
  cases i with
  | zero =>
    (repeat' ((conv => whnf); first | apply And.intro | exact ⟨by kernel_rfl⟩ | apply DrawN.mk | apply CodeN.step hm rfl | exact trivial | exact rfl | (intro hh; try simp only [bs] at hh))); all_goals (conv => whnf)
    · refine Ob.mk ?_
      simp only []; omega
    · simp only [eg hl0]
      have h1 := hwi hl0
      have h3 := hst hl0
      (refine CallN.q (MG hl0) [] (fun _ _ => ?_); (repeat' ((conv => whnf); first | apply And.intro | exact ⟨by kernel_rfl⟩ | apply DrawN.mk | apply CodeN.step hm rfl | exact trivial | exact rfl | (intro hh; try simp only [bs] at hh; try exact absurd hh (by decide)))); all_goals (conv => whnf); all_goals try exact ⟨by decide⟩)
      · refine Ob.mk ?_
        show (1 : Nat) * 8 ≤ 140737488355328
        decide
      refine ⟨1, [1], ⟨rfl, rfl, ?_, ?_⟩, hl0, Nat.sub_lt_sub_left hl0 (Nat.lt_succ_self _)⟩
      · (repeat' ((conv => whnf) <;> first | exact rfl | exact trivial | apply And.intro | exact Nat.zero_add _)); all_goals ((conv => whnf); try simp only [])
        exact (hft hl0).symm
      · (repeat' ((conv => whnf) <;> first | exact rfl | exact trivial | apply And.intro | exact Nat.zero_add _)); all_goals ((conv => whnf); try simp only [])
        have : (List.take 1 ws).sum = _ := h3
        rw [this, wr (by omega)]; omega
    · exfalso; omega
  | succ i =>
    (repeat' ((conv => whnf); first | apply And.intro | exact ⟨by kernel_rfl⟩ | apply DrawN.mk | apply CodeN.step hm rfl | exact trivial | exact rfl | (intro hh; try simp only [bs] at hh))); all_goals (conv => whnf)
    · refine Ob.mk ?_
      simp only []; omega
    · have hi2 : i + 1 < ws.length := by omega
      have h1 := hwi hi2
      have h3 := hst hi2
      have h4 := hd hi2
      simp only [eg hi2]
      (refine CallN.q (MG hi2) [] (fun _ _ => ?_); (repeat' ((conv => whnf); first | apply And.intro | exact ⟨by kernel_rfl⟩ | apply DrawN.mk | apply CodeN.step hm rfl | exact trivial | exact rfl | (intro hh; try simp only [bs] at hh; try exact absurd hh (by decide)))); all_goals (conv => whnf); all_goals try exact ⟨by decide⟩)
      · refine Ob.mk ?_
        refine ⟨rfl, ?_, ?_⟩
        · show i + 1 + 1 ≤ _
          omega
        · show (i + 1 + 1) * 8 ≤ _
          omega
      refine ⟨i + 2, [0], ⟨rfl, rfl, ?_, ?_⟩, hi2, Nat.sub_lt_sub_left hi2 (Nat.lt_succ_self _)⟩
      · (repeat' ((conv => whnf) <;> first | exact rfl | exact trivial | apply And.intro | exact Nat.zero_add _)); all_goals ((conv => whnf); try simp only [])
        rw [List.take_of_length_le (by rw [flds_len, List.length_take]; omega)]
        exact (hft hi2).symm
      · (repeat' ((conv => whnf) <;> first | exact rfl | exact trivial | apply And.intro | exact Nat.zero_add _)); all_goals ((conv => whnf); try simp only [])
        · rw [wr (by omega)]; omega
        · have : (List.take (i + 2) ws).sum = _ := h3
          rw [this, wr (by omega)]; omega
    · have e : i + 1 = ws.length := by omega
      rw [e, List.take_length]
      (refine RetN.frz 0 ?_; (conv => whnf))
      (refine RetN.q () [] ?_ ?_ ?_ <;> (repeat' ((conv => whnf) <;> first | exact rfl | exact trivial | apply And.intro | exact Nat.zero_add _)); all_goals ((conv => whnf); try simp only []))
      rw [List.drop_zero]
      exact List.take_of_length_le (by rw [flds_len]; exact Nat.le_refl _)
end Go.Proofs.Ytkcifdblaboodaa.Bt
set_option linter.unusedVariables false
set_option linter.unusedSimpArgs false
namespace Go.Proofs.Ytkcifdblaboodaa.Hi
open Go Go.RowKit Fw Po
/-- The tick ahead of the i-th hit. -/
def lastOf (l : List Hit) : Nat → Int
  | 0 => 0 | i + 1 => (l.getD i (0, 0)).1
theorem wr2 {n : Nat} (i : Nat) (h : i < n) (hn : n ≤ 1000000000) : IntKind.i64.wrap ((i : Int) + 1) = ((i + 1 : Nat) : Int) := by rw [wr (by omega)]; omega
theorem hit_eta (x : Hit) : (x.1, x.2) = x := rfl
theorem drop_at {l : List Hit} {i : Nat} (h : i < l.length) : l.drop i = l.getD i (0, 0) :: l.drop (i + 1) := by
  rw [List.drop_eq_getElem_cons h]; simp [List.getD_eq_getElem?_getD, h]
theorem may_at {l : List Hit} {i : Nat} (h : i < l.length) : mayGo (lastOf l i) (l.drop i) = (decide (lastOf l i ≤ (l.getD i (0, 0)).1) && decide ((l.getD i (0, 0)).1 ≤ 1099511627776) && weighs (l.getD i (0, 0)).2 && mayGo (lastOf l (i + 1)) (l.drop (i + 1))) := by
  rw [drop_at h, mayGo]; rfl
theorem eqHit (x y : Hit) : eqD HitT (x.1, x.2) (y.1, y.2) = decide (x = y) := by
  obtain ⟨a, b⟩ := x
  obtain ⟨c, d⟩ := y
  have h : eqD HitT (a, b) (c, d) = (@BEq.beq Int _ a c && @BEq.beq Int _ b d) := rfl
  rw [h, Bool.eq_iff_iff]
  simp
theorem mayM (l : List Hit) (hl : l.length ≤ 100000) : Meets Try.prog 26 [.lst HitT fun _ => l] [] (Y := Unit) (fun _ => True) (fun _ => .bool fun _ => may l) (fun _ => []) := by
  refine Meets.intro hm (fn := Try.f26) Try.func26 rfl (by decide) (Nat.le_of_ble_eq_true rfl) (fun _ => rfl) ?_; intro S hok; (conv => whnf)
  (repeat' ((conv => whnf); first | apply And.intro | exact ⟨by kernel_rfl⟩ | apply DrawN.mk | apply CodeN.step hm rfl | exact trivial | exact rfl | (intro hh; try simp only [bs] at hh))); all_goals (conv => whnf)
  refine LoopN.intro hm (X := Nat) (fun i => i ≤ l.length ∧ may l = mayGo (lastOf l i) (l.drop i)) (fun i => l.length - i)
      (fun i => [(8, .int .i64 fun _ => (i : Int)), (7, .int .i64 fun _ => (l.length : Int)), (6, .lst HitT fun _ => l), (3, .int .i64 fun _ => lastOf l i)]) (fun i => []) 0 [] ⟨rfl, rfl, ?_, ?_⟩ ⟨Nat.zero_le _, rfl⟩ (fun i hi => ?_)
  · (repeat' ((conv => whnf) <;> first | exact rfl | exact trivial | apply And.intro | exact Nat.zero_add _))
  · (repeat' ((conv => whnf) <;> first | exact rfl | exact trivial | apply And.intro | exact Nat.zero_add _))
  · obtain ⟨hi, hmy⟩ := hi
    have hma := fun h => hmy.trans (may_at (l := l) (i := i) h)
    generalize hx : l.getD i (0, 0) = x at hma
    have hx' : l.getD (i : Int).toNat HitT.dflt = x := hx
    (repeat' ((conv => whnf); first | apply And.intro | exact ⟨by kernel_rfl⟩ | apply DrawN.mk | apply CodeN.step hm rfl | exact trivial | exact rfl | (intro hh; try simp only [bs] at hh))); all_goals (conv => whnf)
    all_goals (try simp only [hx'] at *)
    · (refine Ob.mk ?_; (try simp only [Ty.dflt, Nat.zero_add, Nat.add_zero, Int.toNat_natCast, Int.toNat_zero, Int.toNat_one, List.length_take, List.length_drop, List.length_append, List.length_replicate, List.length_cons, List.length_nil, List.length_set, List.length_map, true_and, and_true]); omega)
    · (refine CallN.q (weighsM x.2) [] (fun _ _ => ?_); (repeat' ((conv => whnf); first | apply And.intro | exact ⟨by kernel_rfl⟩ | apply DrawN.mk | apply CodeN.step hm rfl | exact trivial | exact rfl | (intro hh; try simp only [bs] at hh; try exact absurd hh (by decide)))); all_goals (conv => whnf); all_goals try exact ⟨by decide⟩)
      rotate_left
      · have hi1 : i < l.length := by omega
        refine ⟨i + 1, [], ⟨rfl, rfl, ?_, ?_⟩, ⟨hi1, ?_⟩, by omega⟩
        · (repeat' ((conv => whnf) <;> first | exact rfl | exact trivial | apply And.intro | exact Nat.zero_add _))
        · (repeat' ((conv => whnf) <;> first | exact rfl | exact trivial | apply And.intro | exact Nat.zero_add _)); all_goals ((conv => whnf); try simp only [])
          all_goals first | exact wr2 i hi1 (by omega) | skip
          show x.1 = (l.getD i (0, 0)).1
          rw [hx]
        · rw [hma hi1, hh]
          simp; omega
      · (refine RetN.q () [] ?_ ?_ ?_ <;> (repeat' ((conv => whnf) <;> first | exact rfl | exact trivial | apply And.intro | exact Nat.zero_add _)); all_goals ((conv => whnf); try simp only []))
        rw [hma (by omega), hh]; simp
    · (refine RetN.q () [] ?_ ?_ ?_ <;> (repeat' ((conv => whnf) <;> first | exact rfl | exact trivial | apply And.intro | exact Nat.zero_add _)); all_goals ((conv => whnf); try simp only []))
      rw [hma (by omega)]; simp; omega
    · (refine RetN.q () [] ?_ ?_ ?_ <;> (repeat' ((conv => whnf) <;> first | exact rfl | exact trivial | apply And.intro | exact Nat.zero_add _)); all_goals ((conv => whnf); try simp only []))
      rw [hma (by omega)]; simp; omega
    · have e : i = l.length := by omega
      (refine RetN.q () [] ?_ ?_ ?_ <;> (repeat' ((conv => whnf) <;> first | exact rfl | exact trivial | apply And.intro | exact Nat.zero_add _)); all_goals ((conv => whnf); try simp only []))
      rw [hmy, e, List.drop_length]; rfl
end Go.Proofs.Ytkcifdblaboodaa.Hi
set_option linter.unusedVariables false
set_option linter.unusedSimpArgs false
namespace Go.Proofs.Ytkcifdblaboodaa.Hi
open Go Go.RowKit Fw Po
theorem those_take (q : Int → Bool) : ∀ (l : List Hit) (i : Nat), i < l.length → those q (l.take (i + 1)) = those q (l.take i) + (if q (l.getD i (0, 0)).1 then (l.getD i (0, 0)).2 else 0)
  | [], i, h => by simp at h
  | x :: r, 0, h => by simp [those]
  | x :: r, i + 1, h => by
    have ih := those_take q r i (by simpa using h)
    have e : (x :: r).getD (i + 1) (0, 0) = r.getD i (0, 0) := by simp
    rw [e]
    simp only [List.take_succ_cons, those, ih]
    omega
theorem HOk.take {l : List Hit} {t : Int} (q : HOk l t) (i : Nat) : HOk (l.take i) t := q.sub (fun h hh => List.mem_of_mem_take hh) (by have := q.len; rw [List.length_take]; omega)
/-- What the ways to count have at hand. -/
def chC (p : Pol) (t s : Int) : List Chunk := [.cells 23 [.int .i64 fun _ => p.1, .int .i64 fun _ => p.2.1, .int .i64 fun _ => p.2.2.1, .int .i64 fun _ => p.2.2.2], .cells 3 [.int .i64 fun _ => t], .cells 3 [.int .i64 fun _ => s]]
theorem tdiv_bound {a s : Int} (h0 : 0 ≤ a) (h1 : a ≤ 4611686018427387904) (hs : 1 ≤ s) : 0 ≤ a.tdiv s ∧ a.tdiv s ≤ 4611686018427387904 := by
  refine ⟨Int.tdiv_nonneg h0 (by omega), ?_⟩
  rw [Int.tdiv_eq_ediv_of_nonneg h0]
  exact Int.le_trans (Int.ediv_le_self _ h0) h1
theorem closA (p : Pol) (t s x : Int) (ht : 0 ≤ t ∧ t ≤ 1125899906842624) (hs : 1 ≤ s ∧ s ≤ 1048576) (hx : 0 ≤ x ∧ x ≤ 1125899906842624) (hW : 1 ≤ p.2.2.1 ∧ p.2.2.1 ≤ 1048576) (hB : 0 ≤ p.2.2.2 ∧ p.2.2.2 ≤ 16) : Meets Try.prog 59 [.int .i64 fun _ => x, .ptr 2 0, .ptr 1 0] (chC p t s) (Y := Unit) (fun _ => True) (fun _ => .bool fun _ => decide (x.tdiv s = t.tdiv s)) (fun _ => chC p t s) := by
  have b1 := tdiv_bound (a := t) (s := s) ht.1 (by omega) hs.1
  have b2 := tdiv_bound (a := x) (s := s) hx.1 (by omega) hs.1
  refine Meets.intro hm (fn := Try.f59) Try.func59 rfl (by decide) (Nat.le_of_ble_eq_true rfl) (fun _ => rfl) ?_; intro S hok; (conv => whnf)
  (repeat' ((conv => whnf); first | apply And.intro | exact ⟨by kernel_rfl⟩ | apply DrawN.mk | apply CodeN.step hm rfl | exact trivial | exact rfl | (intro hh; try simp only [bs] at hh))); all_goals (conv => whnf)
  all_goals first | (refine Ob.mk ?_; simp only []; omega) | skip
  (refine RetN.q () [0, 1, 2] ?_ ?_ ?_ <;> (repeat' ((conv => whnf) <;> first | exact rfl | exact trivial | apply And.intro | exact Nat.zero_add _)); all_goals ((conv => whnf); try simp only []))
  all_goals simp (disch := omega) only [wr]
  all_goals first | (rw [Bool.eq_iff_iff]; simp; done) | skip
theorem thoseA (p : Pol) (t s : Int) (l : List Hit) (hl : HOk l 1125899906842624) (ht : 0 ≤ t ∧ t ≤ 1125899906842624) (hs : 1 ≤ s ∧ s ≤ 1048576) (hW : 1 ≤ p.2.2.1 ∧ p.2.2.1 ≤ 1048576) (hB : 0 ≤ p.2.2.2 ∧ p.2.2.2 ≤ 16) : Meets Try.prog 58 [.lst HitT fun _ => l, .fn (.func 59) [] [.ptr 2 0, .ptr 1 0]] (chC p t s) (Y := Unit) (fun _ => True) (fun _ => .int .i64 fun _ => those (fun x => decide (x.tdiv s = t.tdiv s)) l) (fun _ => chC p t s) := by
  refine Meets.intro hm (fn := Try.f58) Try.func58 rfl (by decide) (Nat.le_of_ble_eq_true rfl) (fun _ => rfl) ?_; intro S hok; (conv => whnf)
  (repeat' ((conv => whnf); first | apply And.intro | exact ⟨by kernel_rfl⟩ | apply DrawN.mk | apply CodeN.step hm rfl | exact trivial | exact rfl | (intro hh; try simp only [bs] at hh))); all_goals (conv => whnf)
  have hlen := hl.len
  refine LoopN.intro hm (X := Nat) (fun i => i ≤ l.length) (fun i => l.length - i)
    (fun i => [(10, .int .i64 fun _ => (i : Int)), (9, .int .i64 fun _ => (l.length : Int)), (8, .lst HitT fun _ => l), (5, .int .i64 fun _ => those (fun x => decide (x.tdiv s = t.tdiv s)) (l.take i)), (1, .fn (.func 59) [] [.ptr 2 0, .ptr 1 0])]) (fun i => chC p t s) 0 [0, 1, 2] ⟨rfl, rfl, ?_, ?_⟩ (Nat.zero_le _) (fun i hi => ?_)
  · (repeat' ((conv => whnf) <;> first | exact rfl | exact trivial | apply And.intro | exact Nat.zero_add _))
  · (repeat' ((conv => whnf) <;> first | exact rfl | exact trivial | apply And.intro | exact Nat.zero_add _))
  · have hb := those_bound (q := fun x => decide (x.tdiv s = t.tdiv s)) _ (hl.take i)
    have hb2 : ((l.take i).length : Int) ≤ 64 := by rw [List.length_take]; omega
    have hst := those_take (fun x => decide (x.tdiv s = t.tdiv s)) l i
    have hmem : i < l.length → l.getD i (0, 0) ∈ l := fun h => by rw [List.getD_eq_getElem?_getD, List.getElem?_eq_getElem h]; exact List.getElem_mem h
    generalize hx : l.getD i (0, 0) = x at hst hmem
    have hx' : l.getD (i : Int).toNat HitT.dflt = x := hx
    generalize hn : those (fun x => decide (x.tdiv s = t.tdiv s)) (l.take i) = n at hb hst
    (repeat' ((conv => whnf); first | apply And.intro | exact ⟨by kernel_rfl⟩ | apply DrawN.mk | apply CodeN.step hm rfl | exact trivial | exact rfl | (intro hh; try simp only [bs] at hh))); all_goals (conv => whnf)
    all_goals (try simp only [hx'] at *)
    · (refine Ob.mk ?_; (try simp only [Ty.dflt, Nat.zero_add, Nat.add_zero, Int.toNat_natCast, Int.toNat_zero, Int.toNat_one, List.length_take, List.length_drop, List.length_append, List.length_replicate, List.length_cons, List.length_nil, List.length_set, List.length_map, true_and, and_true]); omega)
    · have hi1 : i < l.length := by omega
      have ht2 := hl.tick x (hmem hi1)
      have hw2 := hl.weight x (hmem hi1)
      (refine CallN.q (closA p t s x.1 ht hs ht2 hW hB) [0, 1, 2] (fun _ _ => ?_); (repeat' ((conv => whnf); first | apply And.intro | exact ⟨by kernel_rfl⟩ | apply DrawN.mk | apply CodeN.step hm rfl | exact trivial | exact rfl | (intro hh; try simp only [bs] at hh; try exact absurd hh (by decide)))); all_goals (conv => whnf); all_goals try exact ⟨by decide⟩)
      all_goals (refine ⟨i + 1, [0, 1, 2], ⟨rfl, rfl, ?_, ?_⟩, hi1, by omega⟩)
      all_goals (repeat' ((conv => whnf) <;> first | exact rfl | exact trivial | apply And.intro | exact Nat.zero_add _)); all_goals ((conv => whnf); try simp only [])
      all_goals first | exact wr2 i hi1 (by omega) | (rw [hst hi1, if_neg (by simpa using hh), Int.add_zero]; done) | (rw [hst hi1, if_pos (by simpa using hh)]; exact wr (by omega))
    · have e : i = l.length := by omega
      (refine RetN.q () [0, 1, 2] ?_ ?_ ?_ <;> (repeat' ((conv => whnf) <;> first | exact rfl | exact trivial | apply And.intro | exact Nat.zero_add _)); all_goals ((conv => whnf); try simp only []))
      rw [← hn, e, List.take_length]
theorem closB (p : Pol) (t s x : Int) (ht : 0 ≤ t ∧ t ≤ 1125899906842624) (hs : 1 ≤ s ∧ s ≤ 1048576) (hx : 0 ≤ x ∧ x ≤ 1125899906842624) (hW : 1 ≤ p.2.2.1 ∧ p.2.2.1 ≤ 1048576) (hB : 0 ≤ p.2.2.2 ∧ p.2.2.2 ≤ 16) : Meets Try.prog 60 [.int .i64 fun _ => x, .ptr 2 0, .ptr 1 0, .ptr 0 0] (chC p t s) (Y := Unit) (fun _ => True) (fun _ => .bool fun _ => decide (t.tdiv s - p.2.2.2 < x.tdiv s)) (fun _ => chC p t s) := by
  have b1 := tdiv_bound (a := t) (s := s) ht.1 (by omega) hs.1
  have b2 := tdiv_bound (a := x) (s := s) hx.1 (by omega) hs.1
  refine Meets.intro hm (fn := Try.f60) Try.func60 rfl (by decide) (Nat.le_of_ble_eq_true rfl) (fun _ => rfl) ?_; intro S hok; (conv => whnf)
  (repeat' ((conv => whnf); first | apply And.intro | exact ⟨by kernel_rfl⟩ | apply DrawN.mk | apply CodeN.step hm rfl | exact trivial | exact rfl | (intro hh; try simp only [bs] at hh))); all_goals (conv => whnf)
  all_goals first | (refine Ob.mk ?_; simp only []; omega) | skip
  (refine RetN.q () [0, 1, 2] ?_ ?_ ?_ <;> (repeat' ((conv => whnf) <;> first | exact rfl | exact trivial | apply And.intro | exact Nat.zero_add _)); all_goals ((conv => whnf); try simp only []))
  all_goals simp (disch := omega) only [wr]
  all_goals first | (rw [Bool.eq_iff_iff]; simp; done) | skip
theorem thoseB (p : Pol) (t s : Int) (l : List Hit) (hl : HOk l 1125899906842624) (ht : 0 ≤ t ∧ t ≤ 1125899906842624) (hs : 1 ≤ s ∧ s ≤ 1048576) (hW : 1 ≤ p.2.2.1 ∧ p.2.2.1 ≤ 1048576) (hB : 0 ≤ p.2.2.2 ∧ p.2.2.2 ≤ 16) : Meets Try.prog 58 [.lst HitT fun _ => l, .fn (.func 60) [] [.ptr 2 0, .ptr 1 0, .ptr 0 0]] (chC p t s) (Y := Unit) (fun _ => True) (fun _ => .int .i64 fun _ => those (fun x => decide (t.tdiv s - p.2.2.2 < x.tdiv s)) l) (fun _ => chC p t s) := by
  refine Meets.intro hm (fn := Try.f58) Try.func58 rfl (by decide) (Nat.le_of_ble_eq_true rfl) (fun _ => rfl) ?_; intro S hok; (conv => whnf)
  (repeat' ((conv => whnf); first | apply And.intro | exact ⟨by kernel_rfl⟩ | apply DrawN.mk | apply CodeN.step hm rfl | exact trivial | exact rfl | (intro hh; try simp only [bs] at hh))); all_goals (conv => whnf)
  have hlen := hl.len
  refine LoopN.intro hm (X := Nat) (fun i => i ≤ l.length) (fun i => l.length - i)
    (fun i => [(10, .int .i64 fun _ => (i : Int)), (9, .int .i64 fun _ => (l.length : Int)), (8, .lst HitT fun _ => l), (5, .int .i64 fun _ => those (fun x => decide (t.tdiv s - p.2.2.2 < x.tdiv s)) (l.take i)), (1, .fn (.func 60) [] [.ptr 2 0, .ptr 1 0, .ptr 0 0])]) (fun i => chC p t s) 0 [0, 1, 2] ⟨rfl, rfl, ?_, ?_⟩ (Nat.zero_le _) (fun i hi => ?_)
  · (repeat' ((conv => whnf) <;> first | exact rfl | exact trivial | apply And.intro | exact Nat.zero_add _))
  · (repeat' ((conv => whnf) <;> first | exact rfl | exact trivial | apply And.intro | exact Nat.zero_add _))
  · have hb := those_bound (q := fun x => decide (t.tdiv s - p.2.2.2 < x.tdiv s)) _ (hl.take i)
    have hb2 : ((l.take i).length : Int) ≤ 64 := by rw [List.length_take]; omega
    have hst := those_take (fun x => decide (t.tdiv s - p.2.2.2 < x.tdiv s)) l i
    have hmem : i < l.length → l.getD i (0, 0) ∈ l := fun h => by rw [List.getD_eq_getElem?_getD, List.getElem?_eq_getElem h]; exact List.getElem_mem h
    generalize hx : l.getD i (0, 0) = x at hst hmem
    have hx' : l.getD (i : Int).toNat HitT.dflt = x := hx
    generalize hn : those (fun x => decide (t.tdiv s - p.2.2.2 < x.tdiv s)) (l.take i) = n at hb hst
    (repeat' ((conv => whnf); first | apply And.intro | exact ⟨by kernel_rfl⟩ | apply DrawN.mk | apply CodeN.step hm rfl | exact trivial | exact rfl | (intro hh; try simp only [bs] at hh))); all_goals (conv => whnf)
    all_goals (try simp only [hx'] at *)
    · (refine Ob.mk ?_; (try simp only [Ty.dflt, Nat.zero_add, Nat.add_zero, Int.toNat_natCast, Int.toNat_zero, Int.toNat_one, List.length_take, List.length_drop, List.length_append, List.length_replicate, List.length_cons, List.length_nil, List.length_set, List.length_map, true_and, and_true]); omega)
    · have hi1 : i < l.length := by omega
      have ht2 := hl.tick x (hmem hi1)
      have hw2 := hl.weight x (hmem hi1)
      (refine CallN.q (closB p t s x.1 ht hs ht2 hW hB) [0, 1, 2] (fun _ _ => ?_); (repeat' ((conv => whnf); first | apply And.intro | exact ⟨by kernel_rfl⟩ | apply DrawN.mk | apply CodeN.step hm rfl | exact trivial | exact rfl | (intro hh; try simp only [bs] at hh; try exact absurd hh (by decide)))); all_goals (conv => whnf); all_goals try exact ⟨by decide⟩)
      all_goals (refine ⟨i + 1, [0, 1, 2], ⟨rfl, rfl, ?_, ?_⟩, hi1, by omega⟩)
      all_goals (repeat' ((conv => whnf) <;> first | exact rfl | exact trivial | apply And.intro | exact Nat.zero_add _)); all_goals ((conv => whnf); try simp only [])
      all_goals first | exact wr2 i hi1 (by omega) | (rw [hst hi1, if_neg (by simpa using hh), Int.add_zero]; done) | (rw [hst hi1, if_pos (by simpa using hh)]; exact wr (by omega))
    · have e : i = l.length := by omega
      (refine RetN.q () [0, 1, 2] ?_ ?_ ?_ <;> (repeat' ((conv => whnf) <;> first | exact rfl | exact trivial | apply And.intro | exact Nat.zero_add _)); all_goals ((conv => whnf); try simp only []))
      rw [← hn, e, List.take_length]
theorem closC (p : Pol) (t s x : Int) (ht : 0 ≤ t ∧ t ≤ 1125899906842624) (hs : 1 ≤ s ∧ s ≤ 1048576) (hx : 0 ≤ x ∧ x ≤ 1125899906842624) (hW : 1 ≤ p.2.2.1 ∧ p.2.2.1 ≤ 1048576) (hB : 0 ≤ p.2.2.2 ∧ p.2.2.2 ≤ 16) : Meets Try.prog 61 [.int .i64 fun _ => x, .ptr 1 0, .ptr 0 0] (chC p t s) (Y := Unit) (fun _ => True) (fun _ => .bool fun _ => decide (t - p.2.2.1 < x)) (fun _ => chC p t s) := by
  have b1 := tdiv_bound (a := t) (s := s) ht.1 (by omega) hs.1
  have b2 := tdiv_bound (a := x) (s := s) hx.1 (by omega) hs.1
  refine Meets.intro hm (fn := Try.f61) Try.func61 rfl (by decide) (Nat.le_of_ble_eq_true rfl) (fun _ => rfl) ?_; intro S hok; (conv => whnf)
  (repeat' ((conv => whnf); first | apply And.intro | exact ⟨by kernel_rfl⟩ | apply DrawN.mk | apply CodeN.step hm rfl | exact trivial | exact rfl | (intro hh; try simp only [bs] at hh))); all_goals (conv => whnf)
  all_goals first | (refine Ob.mk ?_; simp only []; omega) | skip
  (refine RetN.q () [0, 1, 2] ?_ ?_ ?_ <;> (repeat' ((conv => whnf) <;> first | exact rfl | exact trivial | apply And.intro | exact Nat.zero_add _)); all_goals ((conv => whnf); try simp only []))
  all_goals simp (disch := omega) only [wr]
  all_goals first | (rw [Bool.eq_iff_iff]; simp; done) | skip
theorem thoseC (p : Pol) (t s : Int) (l : List Hit) (hl : HOk l 1125899906842624) (ht : 0 ≤ t ∧ t ≤ 1125899906842624) (hs : 1 ≤ s ∧ s ≤ 1048576) (hW : 1 ≤ p.2.2.1 ∧ p.2.2.1 ≤ 1048576) (hB : 0 ≤ p.2.2.2 ∧ p.2.2.2 ≤ 16) : Meets Try.prog 58 [.lst HitT fun _ => l, .fn (.func 61) [] [.ptr 1 0, .ptr 0 0]] (chC p t s) (Y := Unit) (fun _ => True) (fun _ => .int .i64 fun _ => those (fun x => decide (t - p.2.2.1 < x)) l) (fun _ => chC p t s) := by
  refine Meets.intro hm (fn := Try.f58) Try.func58 rfl (by decide) (Nat.le_of_ble_eq_true rfl) (fun _ => rfl) ?_; intro S hok; (conv => whnf)
  (repeat' ((conv => whnf); first | apply And.intro | exact ⟨by kernel_rfl⟩ | apply DrawN.mk | apply CodeN.step hm rfl | exact trivial | exact rfl | (intro hh; try simp only [bs] at hh))); all_goals (conv => whnf)
  have hlen := hl.len
  refine LoopN.intro hm (X := Nat) (fun i => i ≤ l.length) (fun i => l.length - i)
    (fun i => [(10, .int .i64 fun _ => (i : Int)), (9, .int .i64 fun _ => (l.length : Int)), (8, .lst HitT fun _ => l), (5, .int .i64 fun _ => those (fun x => decide (t - p.2.2.1 < x)) (l.take i)), (1, .fn (.func 61) [] [.ptr 1 0, .ptr 0 0])]) (fun i => chC p t s) 0 [0, 1, 2] ⟨rfl, rfl, ?_, ?_⟩ (Nat.zero_le _) (fun i hi => ?_)
  · (repeat' ((conv => whnf) <;> first | exact rfl | exact trivial | apply And.intro | exact Nat.zero_add _))
  · (repeat' ((conv => whnf) <;> first | exact rfl | exact trivial | apply And.intro | exact Nat.zero_add _))
  · have hb := those_bound (q := fun x => decide (t - p.2.2.1 < x)) _ (hl.take i)
    have hb2 : ((l.take i).length : Int) ≤ 64 := by rw [List.length_take]; omega
    have hst := those_take (fun x => decide (t - p.2.2.1 < x)) l i
    have hmem : i < l.length → l.getD i (0, 0) ∈ l := fun h => by rw [List.getD_eq_getElem?_getD, List.getElem?_eq_getElem h]; exact List.getElem_mem h
    generalize hx : l.getD i (0, 0) = x at hst hmem
    have hx' : l.getD (i : Int).toNat HitT.dflt = x := hx
    generalize hn : those (fun x => decide (t - p.2.2.1 < x)) (l.take i) = n at hb hst
    (repeat' ((conv => whnf); first | apply And.intro | exact ⟨by kernel_rfl⟩ | apply DrawN.mk | apply CodeN.step hm rfl | exact trivial | exact rfl | (intro hh; try simp only [bs] at hh))); all_goals (conv => whnf)
    all_goals (try simp only [hx'] at *)
    · (refine Ob.mk ?_; (try simp only [Ty.dflt, Nat.zero_add, Nat.add_zero, Int.toNat_natCast, Int.toNat_zero, Int.toNat_one, List.length_take, List.length_drop, List.length_append, List.length_replicate, List.length_cons, List.length_nil, List.length_set, List.length_map, true_and, and_true]); omega)
    · have hi1 : i < l.length := by omega
      have ht2 := hl.tick x (hmem hi1)
      have hw2 := hl.weight x (hmem hi1)
      (refine CallN.q (closC p t s x.1 ht hs ht2 hW hB) [0, 1, 2] (fun _ _ => ?_); (repeat' ((conv => whnf); first | apply And.intro | exact ⟨by kernel_rfl⟩ | apply DrawN.mk | apply CodeN.step hm rfl | exact trivial | exact rfl | (intro hh; try simp only [bs] at hh; try exact absurd hh (by decide)))); all_goals (conv => whnf); all_goals try exact ⟨by decide⟩)
      all_goals (refine ⟨i + 1, [0, 1, 2], ⟨rfl, rfl, ?_, ?_⟩, hi1, by omega⟩)
      all_goals (repeat' ((conv => whnf) <;> first | exact rfl | exact trivial | apply And.intro | exact Nat.zero_add _)); all_goals ((conv => whnf); try simp only [])
      all_goals first | exact wr2 i hi1 (by omega) | (rw [hst hi1, if_neg (by simpa using hh), Int.add_zero]; done) | (rw [hst hi1, if_pos (by simpa using hh)]; exact wr (by omega))
    · have e : i = l.length := by omega
      (refine RetN.q () [0, 1, 2] ?_ ?_ ?_ <;> (repeat' ((conv => whnf) <;> first | exact rfl | exact trivial | apply And.intro | exact Nat.zero_add _)); all_goals ((conv => whnf); try simp only []))
      rw [← hn, e, List.take_length]
end Go.Proofs.Ytkcifdblaboodaa.Hi
set_option linter.unusedVariables false
set_option linter.unusedSimpArgs false
namespace Go.Proofs.Ytkcifdblaboodaa.Hi
open Go Go.RowKit Fw Po
/-- The hits from the last one back. -/
def backs (l : List Hit) : List (Int × Hit) := (List.range l.length).map fun k => (((l.length - 1 - k : Nat) : Int), l.getD (l.length - 1 - k) (0, 0))
theorem backs_len (l : List Hit) : (backs l).length = l.length := by simp [backs]
theorem backs_at {l : List Hit} {k : Nat} (h : k < l.length) : (backs l)[k]? = some (((l.length - 1 - k : Nat) : Int), l.getD (l.length - 1 - k) (0, 0)) := by simp [backs, h]
theorem RL.ints {g g' : Gh} : ∀ {cs : List AV} {us : List Value}, (∀ c ∈ cs, ∃ k n, c = .int k n) → RL g cs us → RL g' cs us
  | [], [], _, _ => trivial
  | [], _ :: _, _, h => h.elim
  | _ :: _, [], _, h => h.elim
  | c :: r, u :: us, hc, h => by
    obtain ⟨k, n, rfl⟩ := hc c (List.mem_cons_self ..)
    refine ⟨by rw [h.1.int_iff]; exact .int _ _, RL.ints (fun c hm => hc c (List.mem_cons_of_mem _ hm)) h.2⟩
theorem RL.hit {g g' : Gh} {a b c : Unit → Int} {us : List Value} (h : RL g [.int .i64 a, .agg [.int .i64 b, .int .i64 c]] us) : RL g' [.int .i64 a, .agg [.int .i64 b, .int .i64 c]] us := by
  match us, h with
  | [u, v], h =>
    obtain ⟨vs, rfl, hl⟩ := h.2.1.agg_iff
    refine ⟨by rw [h.1.int_iff]; exact .int _ _, ?_, trivial⟩
    have h2 := R.mkAgg (RL.ints (g' := g') (by simp) hl)
    simpa using h2
theorem backIt (l : List Hit) (hl : l.length ≤ 1000000) : ItMeets Try.prog 108 [.cptr [.lst HitT fun _ => l] 0] (fun x : Int × Hit => [.int .i64 fun _ => x.1, .agg [.int .i64 fun _ => x.2.1, .int .i64 fun _ => x.2.2]]) (backs l) := by
  refine ItMeets.intro hm (fn := Try.f108) Try.func108 rfl (by decide) (Nat.le_of_ble_eq_true rfl) (fun x g g' us h => ?_) ?_
  · exact RL.hit h
  · intro S ll hyi
    (repeat' ((conv => whnf); first | apply And.intro | exact ⟨by kernel_rfl⟩ | apply DrawN.mk | apply CodeN.step hm rfl | exact trivial | exact rfl | (intro hh; try simp only [bs] at hh))); all_goals (conv => whnf)
    refine LoopN.intro hm (X := Nat) (fun k => k ≤ l.length) (fun k => l.length - k)
      (fun k => [(3, .int .i64 fun _ => (l.length : Int) - 1 - k), (1, .cptr [.lst HitT fun _ => l] 0), (0, .fn (.yield ll) [] [])]) (fun k => [.count fun _ => k]) 0 [0] ⟨rfl, rfl, ?_, ?_⟩ (Nat.zero_le _) (fun k hk => ?_)
    · (repeat' ((conv => whnf) <;> first | exact rfl | exact trivial | apply And.intro | exact Nat.zero_add _))
    · (repeat' ((conv => whnf) <;> first | exact rfl | exact trivial | apply And.intro | exact Nat.zero_add _)); all_goals ((conv => whnf); try simp only [])
      · rw [wr (by omega)]; simp
      all_goals first | (split <;> first | exact ⟨trivial, trivial⟩ | (rename_i h _; exact (h rfl).elim)) | skip
    · (repeat' ((conv => whnf); first | apply And.intro | exact ⟨by kernel_rfl⟩ | apply DrawN.mk | apply CodeN.step hm rfl | exact trivial | exact rfl | (intro hh; try simp only [bs] at hh))); all_goals (conv => whnf)
      · (refine Ob.mk ?_; (try simp only [Ty.dflt, Nat.zero_add, Nat.add_zero, Int.toNat_natCast, Int.toNat_zero, Int.toNat_one, List.length_take, List.length_drop, List.length_append, List.length_replicate, List.length_cons, List.length_nil, List.length_set, List.length_map, true_and, and_true]); omega)
      · have hk1 : k < l.length := by omega
        have e : ((l.length - 1 - k : Nat) : Int) = (l.length : Int) - 1 - k := by omega
        refine hyi k (((l.length - 1 - k : Nat) : Int), l.getD (l.length - 1 - k) (0, 0)) [(3, .int .i64 fun _ => (l.length : Int) - 1 - k), (1, .cptr [.lst HitT fun _ => l] 0), (0, .fn (.yield ll) [] [])] (backs_at hk1) ?_ ⟨rfl, rfl, ?_, ?_⟩ ?_ ?_
        · rw [← e]
          (repeat' ((conv => whnf) <;> first | exact rfl | exact trivial | apply And.intro | exact Nat.zero_add _)); all_goals ((conv => whnf); try simp only [])
          all_goals rfl
        · (repeat' ((conv => whnf) <;> first | exact rfl | exact trivial | apply And.intro | exact Nat.zero_add _)); all_goals ((conv => whnf); try simp only [])
        · (repeat' ((conv => whnf) <;> first | exact rfl | exact trivial | apply And.intro | exact Nat.zero_add _)); all_goals ((conv => whnf); try simp only [])
          all_goals first | (split <;> first | exact ⟨trivial, trivial⟩ | (rename_i h _; exact (h rfl).elim)) | skip
        · (repeat' ((conv => whnf); first | apply And.intro | exact ⟨by kernel_rfl⟩ | apply DrawN.mk | apply CodeN.step hm rfl | exact trivial | exact rfl | (intro hh; try simp only [bs] at hh))); all_goals (conv => whnf)
          refine ⟨k + 1, [0], ⟨rfl, rfl, ?_, ?_⟩, hk1, by omega⟩
          · (repeat' ((conv => whnf) <;> first | exact rfl | exact trivial | apply And.intro | exact Nat.zero_add _)); all_goals ((conv => whnf); try simp only [])
          · (repeat' ((conv => whnf) <;> first | exact rfl | exact trivial | apply And.intro | exact Nat.zero_add _)); all_goals ((conv => whnf); try simp only [])
            · rw [wr (by omega)]; omega
            all_goals first | (split <;> first | exact ⟨trivial, trivial⟩ | (rename_i h _; exact (h rfl).elim)) | skip
        · (repeat' ((conv => whnf); first | apply And.intro | exact ⟨by kernel_rfl⟩ | apply DrawN.mk | apply CodeN.step hm rfl | exact trivial | exact rfl | (intro hh; try simp only [bs] at hh))); all_goals (conv => whnf)
          exact ⟨_, ⟨rfl, trivial⟩, .inr rfl⟩
      · have e : k = l.length := by omega
        exact ⟨k, ⟨rfl, trivial⟩, .inl (by rw [backs_len, e])⟩
theorem backM (l : List Hit) : Meets Try.prog 92 [.lst HitT fun _ => l] [] (Y := Unit) (fun _ => True)
    (fun _ => .fn (.func 108) [] [.ptr 0 0]) (fun _ => [.cells 29 [.lst HitT fun _ => l]]) := by
  refine Meets.intro hm (fn := Try.f92) Try.func92 rfl (by decide) (Nat.le_of_ble_eq_true rfl) (fun _ => rfl) ?_; intro S hok; (conv => whnf)
  (repeat' ((conv => whnf); first | apply And.intro | exact ⟨by kernel_rfl⟩ | apply DrawN.mk | apply CodeN.step hm rfl | exact trivial | exact rfl | (intro hh; try simp only [bs] at hh))); all_goals (conv => whnf)
  (refine RetN.q () [0] ?_ ?_ ?_ <;> (repeat' ((conv => whnf) <;> first | exact rfl | exact trivial | apply And.intro | exact Nat.zero_add _)); all_goals ((conv => whnf); try simp only []))
theorem backs_inv {l : List Hit} {k : Nat} (h : k < l.length) : l.drop (l.length - (k + 1)) = l.getD (l.length - 1 - k) (0, 0) :: l.drop (l.length - k) := by
  rw [show l.length - (k + 1) = l.length - 1 - k by omega, drop_at (by omega), show l.length - 1 - k + 1 = l.length - k by omega]
theorem HOk.drop {l : List Hit} {t : Int} (q : HOk l t) (i : Nat) : HOk (l.drop i) t := q.sub (fun h hh => List.mem_of_mem_drop hh) (by have := q.len; rw [List.length_drop]; omega)
theorem levelM (p : Pol) (l : List Hit) (t : Int) (hp : PolOk p) (hl : HOk l t) (ht : 0 ≤ t ∧ t ≤ 2199023255552) : Meets Try.prog 57 [polAV p, .lst HitT fun _ => l, .int .i64 fun _ => t] [] (Y := Unit) (fun _ => True) (fun _ => .int .i64 fun _ => (lev p t l).2) (fun _ => []) := by
  refine Meets.intro hm (fn := Try.f57) Try.func57 rfl (by decide) (Nat.le_of_ble_eq_true rfl) (fun _ => rfl) ?_; intro S hok; (conv => whnf)
  (repeat' ((conv => whnf); first | apply And.intro | exact ⟨by kernel_rfl⟩ | apply DrawN.mk | apply CodeN.step hm rfl | exact trivial | exact rfl | (intro hh; try simp only [bs] at hh))); all_goals (conv => whnf)
  (refine CallN.q (backM l) [] (fun y hy => ?_); (repeat' ((conv => whnf); first | apply And.intro | exact ⟨by kernel_rfl⟩ | apply DrawN.mk | apply CodeN.step hm rfl | exact trivial | exact rfl | (intro hh; try simp only [bs] at hh))); all_goals (conv => whnf))
  refine CodeN.range hm hok [0, 1, 4] ?_
  (conv => whnf)
  have hlen := hl.len
  refine RangeQ.intro (backIt l (by omega)) _ (X := Int × Int) (fun k x => x = lev p t (l.drop (l.length - k))) (fun _ _ => False)
    (fun x => [.none, .none, .cells 3 [.int .i64 fun _ => x.2], .cells 3 [.int .i64 fun _ => x.1], .none]) (0, 0) rfl ?_ (fun _ => rfl) ?_ ?_ (fun _ => rfl) ⟨rfl, rfl⟩ (by simp [lev]) ?_ ?_ ?_
  · (repeat' ((conv => whnf) <;> first | exact rfl | exact trivial | apply And.intro | exact Nat.zero_add _)); all_goals ((conv => whnf); try simp only [])
  · intro p hp; simp at hp; rcases hp with rfl | rfl <;> decide
  · (repeat' ((conv => whnf) <;> first | exact rfl | exact trivial | apply And.intro | exact Nat.zero_add _))
  · intro S1 S2 k x y hy hx
    obtain ⟨hk, hye⟩ : k < l.length ∧ y = (((l.length - 1 - k : Nat) : Int), l.getD (l.length - 1 - k) (0, 0)) := by
      have hk : k < l.length := by
        have := (List.getElem?_eq_some_iff.1 hy).1
        rwa [backs_len] at this
      rw [backs_at hk] at hy
      exact ⟨hk, by simpa using hy.symm⟩
    have hbi := backs_inv hk
    have hb := lev_bound hp _ (hl.drop (l.length - k))
    have hdl : (l.drop (l.length - k)).length ≤ 64 := by rw [List.length_drop]; omega
    rw [← hx] at hb
    have hmem : l.getD (l.length - 1 - k) (0, 0) ∈ l := by rw [List.getD_eq_getElem?_getD, List.getElem?_eq_getElem (by omega)]; exact List.getElem_mem _
    have htk := hl.tick _ hmem
    have hwt := hl.weight _ hmem
    have hlv : lev p t (l.drop (l.length - (k + 1))) = (x.1 + (l.getD (l.length - 1 - k) (0, 0)).2 * p.2.2.1, max x.2 (x.1 + (l.getD (l.length - 1 - k) (0, 0)).2 * p.2.2.1 - p.2.1 * (t - (l.getD (l.length - 1 - k) (0, 0)).1))) := by
      rw [hbi, lev, ← hx]
    generalize l.getD (l.length - 1 - k) (0, 0) = z at *
    subst hye
    have hL := hp.limit
    have hW := hp.window
    have h1 : 0 ≤ z.2 * p.2.2.1 := Int.mul_nonneg (by omega) (by omega)
    have h2 : z.2 * p.2.2.1 ≤ 1048576 * 1048576 := Int.mul_le_mul hwt.2 hW.2 (by omega) (by omega)
    have h3 : 0 ≤ p.2.1 * (t - z.1) := Int.mul_nonneg (by omega) (by omega)
    have h4 : p.2.1 * (t - z.1) ≤ 1048576 * 2199023255552 := Int.mul_le_mul hL.2 (by omega) (by omega) (by omega)
    have hdl' : ((l.drop (l.length - k)).length : Int) ≤ 64 := by omega
    have e1 : IntKind.i64.wrap (z.2 * p.2.2.1) = z.2 * p.2.2.1 := wr (by omega)
    have e2 : IntKind.i64.wrap (x.1 + z.2 * p.2.2.1) = x.1 + z.2 * p.2.2.1 := wr (by omega)
    have e3 : IntKind.i64.wrap (t - z.1) = t - z.1 := wr (by omega)
    have e4 : IntKind.i64.wrap (p.2.1 * (t - z.1)) = p.2.1 * (t - z.1) := wr (by omega)
    have e5 : IntKind.i64.wrap (x.1 + z.2 * p.2.2.1 - p.2.1 * (t - z.1)) = x.1 + z.2 * p.2.2.1 - p.2.1 * (t - z.1) := wr (by omega)
    (repeat' ((conv => whnf); first | apply And.intro | exact ⟨by kernel_rfl⟩ | apply DrawN.mk | apply CodeN.step hm rfl | exact trivial | exact rfl | (intro hh; try simp only [bs] at hh))); all_goals (conv => whnf)
    refine ⟨_, [0, 1, 2, 3, 4], rfl, rfl, ?_, rfl⟩
    rw [hlv]
    (repeat' ((conv => whnf) <;> first | exact rfl | exact trivial | apply And.intro | exact Nat.zero_add _)); all_goals ((conv => whnf); try simp only [])
    all_goals (simp only [e1, e2, e3, e4, e5])
    all_goals first | (split <;> omega) | skip
  · intro x hx
    refine ⟨rfl, ?_⟩
    rw [backs_len, Nat.sub_self, List.drop_zero] at hx
    (repeat' ((conv => whnf); first | apply And.intro | exact ⟨by kernel_rfl⟩ | apply DrawN.mk | apply CodeN.step hm rfl | exact trivial | exact rfl | (intro hh; try simp only [bs] at hh))); all_goals (conv => whnf)
    (refine RetN.q () [] ?_ ?_ ?_ <;> (repeat' ((conv => whnf) <;> first | exact rfl | exact trivial | apply And.intro | exact Nat.zero_add _)); all_goals ((conv => whnf); try simp only []))
    rw [hx]
  · intro e x h; exact h.elim
end Go.Proofs.Ytkcifdblaboodaa.Hi
set_option linter.unusedVariables false
set_option linter.unusedSimpArgs false
namespace Go.Proofs.Ytkcifdblaboodaa.Hi
open Go Go.RowKit Fw Po
theorem PolOk.ringB {p : Pol} (hp : PolOk p) : 0 ≤ p.2.2.2 ∧ p.2.2.2 ≤ 16 := by
  by_cases h : p.1 = 3
  · have := hp.ring h; omega
  · have := hp.plain h; omega
theorem HOk.up {l : List Hit} {t t' : Int} (q : HOk l t) (h : t ≤ t') : HOk l t' := q.later h
theorem countsM (p : Pol) (l : List Hit) (t : Int) (hp : PolOk p) (hl : HOk l t) (ht : 0 ≤ t ∧ t ≤ 2199023255552) : Meets Try.prog 31 [polAV p, .lst HitT fun _ => l, .int .i64 fun _ => t] [] (Y := Unit) (fun _ => True) (fun _ => .int .i64 fun _ => counts p l t) (fun _ => []) := by
  have hs := slot_bound hp
  have hk := hp.kind
  have ht' : 0 ≤ t ∧ t ≤ 1125899906842624 := by omega
  refine Meets.intro hm (fn := Try.f31) Try.func31 rfl (by decide) (Nat.le_of_ble_eq_true rfl) (fun _ => rfl) ?_; intro S hok; (conv => whnf)
  (repeat' ((conv => whnf); first | apply And.intro | exact ⟨by kernel_rfl⟩ | apply DrawN.mk | apply CodeN.step hm rfl | exact trivial | exact rfl | (intro hh; try simp only [bs] at hh))); all_goals (conv => whnf)
  refine CallN.intro (slotM p) [] rfl rfl ?_ ?_ ?_
  · (repeat' ((conv => whnf) <;> first | exact rfl | exact trivial | apply And.intro | exact Nat.zero_add _))
  · (repeat' ((conv => whnf) <;> first | exact rfl | exact trivial | apply And.intro | exact Nat.zero_add _))
  intro y hy
  rw [if_pos hp]
  (repeat' ((conv => whnf); first | apply And.intro | exact ⟨by kernel_rfl⟩ | apply DrawN.mk | apply CodeN.step hm rfl | exact trivial | exact rfl | (intro hh; try simp only [bs] at hh))); all_goals (conv => whnf)
  · (refine CallN.q (levelM p l t hp hl ht) [] (fun _ _ => ?_); (repeat' ((conv => whnf); first | apply And.intro | exact ⟨by kernel_rfl⟩ | apply DrawN.mk | apply CodeN.step hm rfl | exact trivial | exact rfl | (intro hh; try simp only [bs] at hh; try exact absurd hh (by decide)))); all_goals (conv => whnf); all_goals try exact ⟨by decide⟩)
    (refine RetN.q () [] ?_ ?_ ?_ <;> (repeat' ((conv => whnf) <;> first | exact rfl | exact trivial | apply And.intro | exact Nat.zero_add _)); all_goals ((conv => whnf); try simp only []))
    simp [counts, hh]
  · (refine CallN.q (thoseA p t (slotOf p) l (hl.up ht'.2) ht' hs hp.window hp.ringB) [0, 1, 2] (fun _ _ => ?_); (repeat' ((conv => whnf); first | apply And.intro | exact ⟨by kernel_rfl⟩ | apply DrawN.mk | apply CodeN.step hm rfl | exact trivial | exact rfl | (intro hh; try simp only [bs] at hh; try exact absurd hh (by decide)))); all_goals (conv => whnf); all_goals try exact ⟨by decide⟩)
    (refine RetN.q () [] ?_ ?_ ?_ <;> (repeat' ((conv => whnf) <;> first | exact rfl | exact trivial | apply And.intro | exact Nat.zero_add _)); all_goals ((conv => whnf); try simp only []))
    simp only [counts, if_neg ‹¬p.1 = 1›]
    congr 1
    funext x
    simp [cq, hh]
  · (refine CallN.q (thoseB p t (slotOf p) l (hl.up ht'.2) ht' hs hp.window hp.ringB) [0, 1, 2] (fun _ _ => ?_); (repeat' ((conv => whnf); first | apply And.intro | exact ⟨by kernel_rfl⟩ | apply DrawN.mk | apply CodeN.step hm rfl | exact trivial | exact rfl | (intro hh; try simp only [bs] at hh; try exact absurd hh (by decide)))); all_goals (conv => whnf); all_goals try exact ⟨by decide⟩)
    (refine RetN.q () [] ?_ ?_ ?_ <;> (repeat' ((conv => whnf) <;> first | exact rfl | exact trivial | apply And.intro | exact Nat.zero_add _)); all_goals ((conv => whnf); try simp only []))
    simp only [counts, if_neg ‹¬p.1 = 1›]
    congr 1
    funext x
    simp [cq, hh]
  · (refine CallN.q (thoseC p t (slotOf p) l (hl.up ht'.2) ht' hs hp.window hp.ringB) [0, 1, 2] (fun _ _ => ?_); (repeat' ((conv => whnf); first | apply And.intro | exact ⟨by kernel_rfl⟩ | apply DrawN.mk | apply CodeN.step hm rfl | exact trivial | exact rfl | (intro hh; try simp only [bs] at hh; try exact absurd hh (by decide)))); all_goals (conv => whnf); all_goals try exact ⟨by decide⟩)
    (refine RetN.q () [] ?_ ?_ ?_ <;> (repeat' ((conv => whnf) <;> first | exact rfl | exact trivial | apply And.intro | exact Nat.zero_add _)); all_goals ((conv => whnf); try simp only []))
    simp only [counts, if_neg ‹¬p.1 = 1›]
    congr 1
    funext x
    simp only [cq]
    rw [if_neg (by omega), if_neg (by omega)]
theorem getD_mem {l : List Hit} {i : Nat} (h : i < l.length) : l.getD i (0, 0) ∈ l := by rw [List.getD_eq_getElem?_getD, List.getElem?_eq_getElem h]; exact List.getElem_mem h
theorem mem_take_at {l : List Hit} {i : Nat} {x : Hit} (h : x ∈ l.take i) : ∃ j, j < i ∧ j < l.length ∧ x = l.getD j (0, 0) := by
  obtain ⟨j, hj, e⟩ := List.getElem_of_mem h
  rw [List.length_take] at hj
  refine ⟨j, by omega, by omega, ?_⟩
  rw [← e, List.getElem_take, List.getD_eq_getElem?_getD, List.getElem?_eq_getElem (by omega)]; rfl
theorem may_tick {l : List Hit} (h : may l = true) {i : Nat} (hi : i < l.length) : 0 ≤ (l.getD i (0, 0)).1 ∧ (l.getD i (0, 0)).1 ≤ 1099511627776 := by
  have := (mayGo_ok l 0 h (Int.le_refl _)).1 _ (getD_mem hi); omega
theorem may_take {l : List Hit} (h : may l = true) (hl : l.length ≤ 64) {i : Nat} (hi : i < l.length) : HOk (l.take (i + 1)) (l.getD i (0, 0)).1 := by
  obtain ⟨h1, h2⟩ := mayGo_ok l 0 h (Int.le_refl _)
  refine ⟨fun x hx => ?_, fun x hx => ?_, by rw [List.length_take]; omega⟩
  · obtain ⟨j, hj, hj2, rfl⟩ := mem_take_at hx
    exact ⟨(h1 _ (getD_mem hj2)).1, h2 j i (by omega) hi⟩
  · have := h1 x (List.mem_of_mem_take hx); omega
theorem last_at {l : List Hit} (h : 0 < l.length) (t : Int) : lastOk l t = decide ((l.getD (l.length - 1) (0, 0)).1 ≤ t) := by
  unfold lastOk
  rw [List.getLast?_eq_getElem?, List.getD_eq_getElem?_getD, List.getElem?_eq_getElem (by omega)]
  rfl
theorem fitsTo_stop {p : Pol} {l : List Hit} {i : Nat} (h : fitsTo p l i = false) : ∀ n, i ≤ n → fitsTo p l n = false := by
  intro n hn
  induction n with
  | zero => rw [show i = 0 by omega] at h; exact h
  | succ n ih =>
    by_cases e : i = n + 1
    · rw [← e]; exact h
    · rw [fitsTo, ih (by omega)]; rfl
theorem fitsM (p : Pol) (l : List Hit) (t : Int) (hl : l.length ≤ 64) : Meets Try.prog 28 [polAV p, .lst HitT fun _ => l, .int .i64 fun _ => t] [] (Y := Unit) (fun _ => True) (fun _ => .bool fun _ => fits p l t) (fun _ => []) := by
  by_cases hp : PolOk p
  · refine Meets.intro hm (fn := Try.f28) Try.func28 rfl (by decide) (Nat.le_of_ble_eq_true rfl) (fun _ => rfl) ?_; intro S hok; (conv => whnf)
    (repeat' ((conv => whnf); first | apply And.intro | exact ⟨by kernel_rfl⟩ | apply DrawN.mk | apply CodeN.step hm rfl | exact trivial | exact rfl | (intro hh; try simp only [bs] at hh))); all_goals (conv => whnf)
    refine CallN.intro (checkM p) [] rfl rfl ?_ ?_ ?_
    · (repeat' ((conv => whnf) <;> first | exact rfl | exact trivial | apply And.intro | exact Nat.zero_add _))
    · (repeat' ((conv => whnf) <;> first | exact rfl | exact trivial | apply And.intro | exact Nat.zero_add _))
    intro y hy
    rw [if_pos hp]
    clear y hy
    (repeat' ((conv => whnf); first | apply And.intro | exact ⟨by kernel_rfl⟩ | apply DrawN.mk | apply CodeN.step hm rfl | exact trivial | exact rfl | (intro hh; try simp only [bs] at hh; try exact absurd hh (by decide)))); all_goals (conv => whnf)
    have hlst : 0 < l.length → (l.getD (IntKind.i64.wrap ((l.length : Int) - 1)).toNat HitT.dflt) = l.getD (l.length - 1) (0, 0) := fun h => by
      rw [wr (by omega), show ((l.length : Int) - 1).toNat = l.length - 1 by omega]; rfl
    (refine CallN.q (mayM l (by omega)) [] (fun _ _ => ?_); (repeat' ((conv => whnf); first | apply And.intro | exact ⟨by kernel_rfl⟩ | apply DrawN.mk | apply CodeN.step hm rfl | exact trivial | exact rfl | (intro hh; try simp only [bs] at hh; try exact absurd hh (by decide)))); all_goals (conv => whnf); all_goals try exact ⟨by decide⟩)
    · refine Ob.mk ?_
      have e : IntKind.i64.wrap ((l.length : Int) - 1) = (l.length : Int) - 1 := wr (by omega)
      simp only [e]; omega
    · rw [hlst (by omega)] at hh
      (refine RetN.q () [] ?_ ?_ ?_ <;> (repeat' ((conv => whnf) <;> first | exact rfl | exact trivial | apply And.intro | exact Nat.zero_add _)); all_goals ((conv => whnf); try simp only []))
      have := last_at (l := l) (by omega) t
      have hh : t < (l.getD (l.length - 1) (0, 0)).1 := hh
      have hf : lastOk l t = false := by rw [this]; exact decide_eq_false (by omega)
      simp [fits, hf]
    all_goals first
      | ((refine RetN.q () [] ?_ ?_ ?_ <;> (repeat' ((conv => whnf) <;> first | exact rfl | exact trivial | apply And.intro | exact Nat.zero_add _)); all_goals ((conv => whnf); try simp only [])); simp [fits, *]; done)
      | ((refine RetN.q () [] ?_ ?_ ?_ <;> (repeat' ((conv => whnf) <;> first | exact rfl | exact trivial | apply And.intro | exact Nat.zero_add _)); all_goals ((conv => whnf); try simp only [])); have : ¬ (0 ≤ t ∧ t ≤ 1099511627776) := by omega
         simp [fits]; omega)
      | skip
    all_goals
      have hlo : lastOk l t = true := by
        by_cases h0 : 0 < l.length
        · rw [last_at h0]
          first
            | exact absurd h0 (by omega)
            | (rw [hlst h0] at hh
               have hh : ¬ t < (l.getD (l.length - 1) (0, 0)).1 := hh
               exact decide_eq_true (by omega))
        · have : l = [] := List.eq_nil_of_length_eq_zero (by omega)
          rw [this]; rfl
      have hma : may l = true := by assumption
      have hft : fits p l t = fitsTo p l l.length := by
        unfold fits
        rw [hlo, hma, decide_eq_true hp, decide_eq_true (show (0 : Int) ≤ t by omega), decide_eq_true (show t ≤ 1099511627776 by omega)]
        rfl
      clear hlo hlst hh
      refine LoopN.intro hm (X := Nat) (fun i => i ≤ l.length ∧ fitsTo p l i = true) (fun i => l.length - i)
        (fun i => [(43, .int .i64 fun _ => (i : Int)), (42, .int .i64 fun _ => (l.length : Int)), (41, .lst HitT fun _ => l), (3, .ptr 0 0), (1, .lst HitT fun _ => l)])
        (fun i => [.cells 23 [.int .i64 fun _ => p.1, .int .i64 fun _ => p.2.1, .int .i64 fun _ => p.2.2.1, .int .i64 fun _ => p.2.2.2]]) 0 [0] ⟨rfl, rfl, ?_, ?_⟩ ⟨Nat.zero_le _, rfl⟩ (fun i hi => ?_)
      · (repeat' ((conv => whnf) <;> first | exact rfl | exact trivial | apply And.intro | exact Nat.zero_add _))
      · (repeat' ((conv => whnf) <;> first | exact rfl | exact trivial | apply And.intro | exact Nat.zero_add _))
      · obtain ⟨hi, hfi⟩ := hi
        have hx' : l.getD (i : Int).toNat HitT.dflt = l.getD i (0, 0) := rfl
        (repeat' ((conv => whnf); first | apply And.intro | exact ⟨by kernel_rfl⟩ | apply DrawN.mk | apply CodeN.step hm rfl | exact trivial | exact rfl | (intro hh; try simp only [bs] at hh))); all_goals (conv => whnf)
        all_goals (try simp only [hx'] at *)
        · (refine Ob.mk ?_; (try simp only [Ty.dflt, Nat.zero_add, Nat.add_zero, Int.toNat_natCast, Int.toNat_zero, Int.toNat_one, List.length_take, List.length_drop, List.length_append, List.length_replicate, List.length_cons, List.length_nil, List.length_set, List.length_map, true_and, and_true]); omega)
        · refine Ob.mk ?_
          have e := wr2 i (n := l.length) (by omega) (by omega)
          simp only [e]; omega
        · have hi1 : i < l.length := by omega
          have e := wr2 i hi1 (by omega)
          have e0 : List.drop (Int.toNat 0) (List.take ((i + 1 : Nat) : Int).toNat l) = l.take (i + 1) := rfl
          simp only [e, e0]
          have hH := may_take hma hl hi1
          have hT := may_tick hma hi1
          have hst : fitsTo p l (i + 1) = decide (counts p (l.take (i + 1)) (l.getD i (0, 0)).1 ≤ worth p p.2.1) := by rw [fitsTo, hfi, Bool.true_and]
          (refine CallN.q (countsM p (l.take (i + 1)) (l.getD i (0, 0)).1 hp hH (by omega)) [] (fun _ _ => ?_); (repeat' ((conv => whnf); first | apply And.intro | exact ⟨by kernel_rfl⟩ | apply DrawN.mk | apply CodeN.step hm rfl | exact trivial | exact rfl | (intro hh; try simp only [bs] at hh; try exact absurd hh (by decide)))); all_goals (conv => whnf); all_goals try exact ⟨by decide⟩)
          (refine CallN.q (worthM p hp p.2.1 hp.limit) [] (fun _ _ => ?_); (repeat' ((conv => whnf); first | apply And.intro | exact ⟨by kernel_rfl⟩ | apply DrawN.mk | apply CodeN.step hm rfl | exact trivial | exact rfl | (intro hh; try simp only [bs] at hh; try exact absurd hh (by decide)))); all_goals (conv => whnf); all_goals try exact ⟨by decide⟩)
          · have hs := fitsTo_stop (i := i + 1) (p := p) (l := l) (by rw [hst]; exact decide_eq_false (by omega)) l.length hi1
            (refine RetN.q () [] ?_ ?_ ?_ <;> (repeat' ((conv => whnf) <;> first | exact rfl | exact trivial | apply And.intro | exact Nat.zero_add _)); all_goals ((conv => whnf); try simp only []))
            rw [hft, hs]
          · refine ⟨i + 1, [0], ⟨rfl, rfl, ?_, ?_⟩, ⟨hi1, by rw [hst]; exact decide_eq_true (by omega)⟩, by omega⟩
            · (repeat' ((conv => whnf) <;> first | exact rfl | exact trivial | apply And.intro | exact Nat.zero_add _))
            · (repeat' ((conv => whnf) <;> first | exact rfl | exact trivial | apply And.intro | exact Nat.zero_add _)); all_goals ((conv => whnf); try simp only [])
              exact wr2 i hi1 (by omega)
        · have e : i = l.length := by omega
          (refine RetN.q () [] ?_ ?_ ?_ <;> (repeat' ((conv => whnf) <;> first | exact rfl | exact trivial | apply And.intro | exact Nat.zero_add _)); all_goals ((conv => whnf); try simp only []))
          rw [hft, ← e, hfi]
  · refine Meets.intro hm (fn := Try.f28) Try.func28 rfl (by decide) (Nat.le_of_ble_eq_true rfl) (fun _ => rfl) ?_; intro S hok; (conv => whnf)
    (repeat' ((conv => whnf); first | apply And.intro | exact ⟨by kernel_rfl⟩ | apply DrawN.mk | apply CodeN.step hm rfl | exact trivial | exact rfl | (intro hh; try simp only [bs] at hh))); all_goals (conv => whnf)
    refine CallN.intro (checkM p) [] rfl rfl ?_ ?_ ?_
    · (repeat' ((conv => whnf) <;> first | exact rfl | exact trivial | apply And.intro | exact Nat.zero_add _))
    · (repeat' ((conv => whnf) <;> first | exact rfl | exact trivial | apply And.intro | exact Nat.zero_add _))
    intro y hy
    rw [if_neg hp]
    (repeat' ((conv => whnf); first | apply And.intro | exact ⟨by kernel_rfl⟩ | apply DrawN.mk | apply CodeN.step hm rfl | exact trivial | exact rfl | (intro hh; try simp only [bs] at hh; try exact absurd hh (by decide)))); all_goals (conv => whnf)
    (refine RetN.q () [] ?_ ?_ ?_ <;> (repeat' ((conv => whnf) <;> first | exact rfl | exact trivial | apply And.intro | exact Nat.zero_add _)); all_goals ((conv => whnf); try simp only []))
    simp [fits, hp]
end Go.Proofs.Ytkcifdblaboodaa.Hi
set_option linter.unusedVariables false
set_option linter.unusedSimpArgs false
namespace Go.Proofs.Ytkcifdblaboodaa.Hi
open Go Go.RowKit Fw Po
theorem waitM (p : Pol) (l : List Hit) (t most : Int) (hp : PolOk p) (hl : HOk l t) (ht : 0 ≤ t ∧ t ≤ 1099511627776) : Meets Try.prog 33 [polAV p, .lst HitT fun _ => l, .int .i64 fun _ => t, .int .i64 fun _ => most] [] (Y := Unit) (fun _ => True) (fun _ => .int .i64 fun _ => wait p l t most) (fun _ => []) := by
  have hW := hp.window
  refine Meets.intro hm (fn := Try.f33) Try.func33 rfl (by decide) (Nat.le_of_ble_eq_true rfl) (fun _ => rfl) ?_; intro S hok; (conv => whnf)
  (repeat' ((conv => whnf); first | apply And.intro | exact ⟨by kernel_rfl⟩ | apply DrawN.mk | apply CodeN.step hm rfl | exact trivial | exact rfl | (intro hh; try simp only [bs] at hh))); all_goals (conv => whnf)
  refine LoopN.intro hm (X := Int × Int) (fun x => 0 ≤ x.1 ∧ x.1 ≤ x.2 ∧ x.2 ≤ p.2.2.1 ∧ (x.1 = 0 ∨ most < counts p l (t + (x.1 - 1))) ∧ (x.2 = p.2.2.1 ∨ counts p l (t + x.2) ≤ most)) (fun x => (x.2 - x.1).toNat)
    (fun x => [(9, .int .i64 fun _ => x.1), (10, .int .i64 fun _ => x.2), (4, .ptr 0 0), (1, .lst HitT fun _ => l), (2, .int .i64 fun _ => t), (3, .int .i64 fun _ => most)])
    (fun i => [.cells 23 [.int .i64 fun _ => p.1, .int .i64 fun _ => p.2.1, .int .i64 fun _ => p.2.2.1, .int .i64 fun _ => p.2.2.2]]) (0, p.2.2.1) [0] ⟨rfl, rfl, ?_, ?_⟩ ⟨by simp, by simp; omega, by simp, .inl rfl, .inl rfl⟩ (fun x hx => ?_)
  · (repeat' ((conv => whnf) <;> first | exact rfl | exact trivial | apply And.intro | exact Nat.zero_add _))
  · (repeat' ((conv => whnf) <;> first | exact rfl | exact trivial | apply And.intro | exact Nat.zero_add _))
  · obtain ⟨a, b⟩ := x
    simp only [] at hx
    obtain ⟨h0, h1, h2, h3, h4⟩ := hx
    have e1 : IntKind.i64.wrap (a + b) = a + b := wr (by omega)
    have hh0 : 0 ≤ (a + b).tdiv 2 := Int.tdiv_nonneg (by omega) (by omega)
    have hh1 : (a + b).tdiv 2 = (a + b) / 2 := Int.tdiv_eq_ediv_of_nonneg (by omega)
    have e2 : IntKind.i64.wrap ((a + b).tdiv 2) = (a + b) / 2 := by rw [hh1]; exact wr (by omega)
    have e3 : IntKind.i64.wrap (t + (a + b) / 2) = t + (a + b) / 2 := wr (by omega)
    (repeat' ((conv => whnf); first | apply And.intro | exact ⟨by kernel_rfl⟩ | apply DrawN.mk | apply CodeN.step hm rfl | exact trivial | exact rfl | (intro hh; try simp only [bs] at hh))); all_goals (conv => whnf)
    all_goals (try simp only [e1, e2, e3])
    · exact Ob.mk (by decide)
    · (refine CallN.q (countsM p l (t + (a + b) / 2) hp (hl.up (by omega)) (by omega)) [] (fun _ _ => ?_); (repeat' ((conv => whnf); first | apply And.intro | exact ⟨by kernel_rfl⟩ | apply DrawN.mk | apply CodeN.step hm rfl | exact trivial | exact rfl | (intro hh; try simp only [bs] at hh; try exact absurd hh (by decide)))); all_goals (conv => whnf); all_goals try exact ⟨by decide⟩)
      · refine ⟨(a, (a + b) / 2), [0], ⟨rfl, rfl, ?_, ?_⟩, ⟨h0, ?_, ?_, h3, .inr hh⟩, ?_⟩
        · (repeat' ((conv => whnf) <;> first | exact rfl | exact trivial | apply And.intro | exact Nat.zero_add _))
        · (repeat' ((conv => whnf) <;> first | exact rfl | exact trivial | apply And.intro | exact Nat.zero_add _))
        · simp only []; omega
        · simp only []; omega
        · simp only []; omega
      · refine ⟨((a + b) / 2 + 1, b), [0], ⟨rfl, rfl, ?_, ?_⟩, ⟨?_, ?_, h2, .inr ?_, h4⟩, ?_⟩
        · (repeat' ((conv => whnf) <;> first | exact rfl | exact trivial | apply And.intro | exact Nat.zero_add _))
        · (repeat' ((conv => whnf) <;> first | exact rfl | exact trivial | apply And.intro | exact Nat.zero_add _)); all_goals ((conv => whnf); try simp only [])
          exact wr (by omega)
        · simp only []; omega
        · simp only []; omega
        · simp only []
          rw [show t + ((a + b) / 2 + 1 - 1) = t + (a + b) / 2 by omega]; omega
        · simp only []; omega
    · have e : a = b := by omega
      subst e
      (refine RetN.q () [] ?_ ?_ ?_ <;> (repeat' ((conv => whnf) <;> first | exact rfl | exact trivial | apply And.intro | exact Nat.zero_add _)); all_goals ((conv => whnf); try simp only []))
      exact (wait_eq hp hl h0 h2 h3 h4).symm
theorem growM (n : Int) (hn : 1 ≤ n ∧ n ≤ 1000000) : Meets Try.prog 62 [.snil, .int .i64 fun _ => n] [] (Y := Unit) (fun _ => True) (fun _ => .vec 0 2 (fun _ => 0) (fun _ => 0)) (fun _ => [.vect 64 HitT fun _ => List.replicate n.toNat (0, 0)]) := by
  have e0 : IntKind.i64.wrap (n - IntKind.i64.wrap (0 - 0)) = n := by
    rw [show IntKind.i64.wrap (0 - 0) = 0 from wr (by omega), wr (by omega)]; omega
  refine Meets.intro hm (fn := Try.f62) Try.func62 rfl (by decide) (Nat.le_of_ble_eq_true rfl) (fun _ => rfl) ?_; intro S hok; (conv => whnf)
  (repeat' ((conv => whnf); first | apply And.intro | exact ⟨by kernel_rfl⟩ | apply DrawN.mk | apply CodeN.step hm rfl | exact trivial | exact rfl | (intro hh; try simp only [bs] at hh))); all_goals (conv => whnf)
  all_goals (try simp only [e0] at *)
  · exact absurd hh (by omega)
  · exact Ob.mk (by decide)
  · refine Ob.mk ?_
    have e : ((Try.t64.bytes : Nat) : Int) = 16 := rfl
    rw [e]; omega
  · exact absurd hh (by omega)
  · exact absurd hh (by omega)
  · exact Ob.mk ⟨Int.le_refl _, Int.le_refl _, Int.natCast_nonneg _⟩
  · (refine RetN.q () [0] ?_ ?_ ?_ <;> (repeat' ((conv => whnf) <;> first | exact rfl | exact trivial | apply And.intro | exact Nat.zero_add _)); all_goals ((conv => whnf); try simp only []))
  · exact absurd hh (by omega)
theorem concatM (ls : List (List Hit)) (hn : 1 ≤ ls.flatten.length ∧ ls.flatten.length ≤ 1000000) (hls : ls.length ≤ 1000) : Meets Try.prog 32 [.lst (.list HitT) fun _ => ls] [] (Y := Unit) (fun _ => True) (fun _ => .vec 0 2 (fun _ => 0) (fun _ => ls.flatten.length)) (fun _ => [.vect 64 HitT fun _ => ls.flatten]) := by
  refine Meets.intro hm (fn := Try.f32) Try.func32 rfl (by decide) (Nat.le_of_ble_eq_true rfl) (fun _ => rfl) ?_; intro S hok; (conv => whnf)
  (repeat' ((conv => whnf); first | apply And.intro | exact ⟨by kernel_rfl⟩ | apply DrawN.mk | apply CodeN.step hm rfl | exact trivial | exact rfl | (intro hh; try simp only [bs] at hh))); all_goals (conv => whnf)
  have hsz : ∀ i, (ls.take i).flatten.length ≤ ls.flatten.length := fun i => by
    conv => rhs; rw [← List.take_append_drop i ls]
    rw [List.flatten_append, List.length_append]; omega
  have hst : ∀ i, i < ls.length → (ls.take (i + 1)).flatten = (ls.take i).flatten ++ ls.getD i [] := fun i hi => by
    rw [List.take_add_one, List.getElem?_eq_getElem hi, List.flatten_append]; simp [List.getD_eq_getElem?_getD, hi]
  refine LoopN.intro hm (X := Nat) (fun i => i ≤ ls.length) (fun i => ls.length - i)
    (fun i => [(11, .int .i64 fun _ => (i : Int)), (10, .int .i64 fun _ => (ls.length : Int)), (9, .lst (.list HitT) fun _ => ls), (3, .int .i64 fun _ => ((ls.take i).flatten.length : Int)), (0, .lst (.list HitT) fun _ => ls), (2, .snil)])
    (fun i => []) 0 [] ⟨rfl, rfl, ?_, ?_⟩ (Nat.zero_le _) (fun i hi => ?_)
  · (repeat' ((conv => whnf) <;> first | exact rfl | exact trivial | apply And.intro | exact Nat.zero_add _))
  · (repeat' ((conv => whnf) <;> first | exact rfl | exact trivial | apply And.intro | exact Nat.zero_add _))
  · have h1 := hsz (i + 1)
    have hst := hst i
    have hx' : ls.getD (i : Int).toNat (Ty.list HitT).dflt = ls.getD i [] := rfl
    (repeat' ((conv => whnf); first | apply And.intro | exact ⟨by kernel_rfl⟩ | apply DrawN.mk | apply CodeN.step hm rfl | exact trivial | exact rfl | (intro hh; try simp only [bs] at hh))); all_goals (conv => whnf)
    all_goals (try simp only [hx'] at *)
    · (refine Ob.mk ?_; (try simp only [Ty.dflt, Nat.zero_add, Nat.add_zero, Int.toNat_natCast, Int.toNat_zero, Int.toNat_one, List.length_take, List.length_drop, List.length_append, List.length_replicate, List.length_cons, List.length_nil, List.length_set, List.length_map, true_and, and_true]); omega)
    · rw [hst (by omega), List.length_append] at h1
      rw [wr (by omega)] at hh
      exact absurd hh (by omega)
    · have hi1 : i < ls.length := by omega
      refine ⟨i + 1, [], ⟨rfl, rfl, ?_, ?_⟩, hi1, by omega⟩
      · (repeat' ((conv => whnf) <;> first | exact rfl | exact trivial | apply And.intro | exact Nat.zero_add _))
      · rw [hst hi1, List.length_append] at h1
        (repeat' ((conv => whnf) <;> first | exact rfl | exact trivial | apply And.intro | exact Nat.zero_add _)); all_goals ((conv => whnf); try simp only [])
        · exact wr2 i hi1 (by omega)
        · rw [hst hi1, List.length_append, wr (by omega)]; omega
    · have e : i = ls.length := by omega
      subst e
      rw [List.take_length]
      (refine CallN.q (growM ls.flatten.length (by omega)) [] (fun _ _ => ?_); (repeat' ((conv => whnf); first | apply And.intro | exact ⟨by kernel_rfl⟩ | apply DrawN.mk | apply CodeN.step hm rfl | exact trivial | exact rfl | (intro hh; try simp only [bs] at hh; try exact absurd hh (by decide)))); all_goals (conv => whnf); all_goals try exact ⟨by decide⟩)
      clear hi h1 hst hh
      refine LoopN.intro hm (X := Nat × List Hit) (fun x => x.1 ≤ ls.length ∧ (0 < x.1 → x.2 = (ls.take x.1).flatten)) (fun x => ls.length - x.1)
        (fun x => [(27, .int .i64 fun _ => (x.1 : Int)), (26, .int .i64 fun _ => (ls.length : Int)), (25, .lst (.list HitT) fun _ => ls), (6, .vec 0 2 (fun _ => 0) fun _ => (ls.take x.1).flatten.length)])
        (fun x => [.vect 64 HitT fun _ => x.2]) (0, List.replicate ls.flatten.length (0, 0)) [0] ⟨rfl, rfl, ?_, ?_⟩ ⟨Nat.zero_le _, fun h => by simp at h⟩ (fun x hx => ?_)
      · (repeat' ((conv => whnf) <;> first | exact rfl | exact trivial | apply And.intro | exact Nat.zero_add _))
      · (repeat' ((conv => whnf) <;> first | exact rfl | exact trivial | apply And.intro | exact Nat.zero_add _))
      · obtain ⟨i, xs⟩ := x
        obtain ⟨hi, hxs⟩ := hx
        simp only [] at hi hxs
        have h1 := hsz (i + 1)
        have hst := ‹∀ i, i < ls.length → _› i
        have hx' : ls.getD (i : Int).toNat (Ty.list HitT).dflt = ls.getD i [] := rfl
        (repeat' ((conv => whnf); first | apply And.intro | exact ⟨by kernel_rfl⟩ | apply DrawN.mk | apply CodeN.step hm rfl | exact trivial | exact rfl | (intro hh; try simp only [bs] at hh))); all_goals (conv => whnf)
        all_goals (try simp only [hx'] at *)
        · (refine Ob.mk ?_; (try simp only [Ty.dflt, Nat.zero_add, Nat.add_zero, Int.toNat_natCast, Int.toNat_zero, Int.toNat_one, List.length_take, List.length_drop, List.length_append, List.length_replicate, List.length_cons, List.length_nil, List.length_set, List.length_map, true_and, and_true]); omega)
        · refine Ob.mk ?_
          have e : (Try.t64.bytes : Nat) = 16 := rfl
          rw [hst (by omega), List.length_append] at h1
          rw [e]
          exact ⟨trivial, by omega, by omega⟩
        · have hi1 : i < ls.length := by omega
          have hap : xs.take (ls.take i).flatten.length ++ ls.getD i [] = (ls.take (i + 1)).flatten := by
            rw [hst hi1]
            by_cases h0 : 0 < i
            · rw [hxs h0, List.take_length]
            · have e : i = 0 := by omega
              subst e; simp
          refine ⟨(i + 1, xs.take (ls.take i).flatten.length ++ ls.getD i []), [0], ⟨rfl, rfl, ?_, ?_⟩, ⟨hi1, fun _ => hap⟩, by simp only []; omega⟩
          · (repeat' ((conv => whnf) <;> first | exact rfl | exact trivial | apply And.intro | exact Nat.zero_add _))
          · (repeat' ((conv => whnf) <;> first | exact rfl | exact trivial | apply And.intro | exact Nat.zero_add _)); all_goals ((conv => whnf); try simp only [])
            · exact wr2 i hi1 (by omega)
            · rw [hst hi1, List.length_append]
        · have e : i = ls.length := by omega
          have h0 : 0 < i := by
            rcases Nat.eq_zero_or_pos i with h0 | h0
            · exfalso
              have : ls = [] := List.eq_nil_of_length_eq_zero (by omega)
              rw [this] at hn; simp at hn
            · exact h0
          have hxs := hxs h0
          (refine RetN.q () [0] ?_ ?_ ?_ <;> (repeat' ((conv => whnf) <;> first | exact rfl | exact trivial | apply And.intro | exact Nat.zero_add _)); all_goals ((conv => whnf); try simp only []))
          · rw [hxs, e, List.take_length]
          · rw [e, List.take_length]
end Go.Proofs.Ytkcifdblaboodaa.Hi
