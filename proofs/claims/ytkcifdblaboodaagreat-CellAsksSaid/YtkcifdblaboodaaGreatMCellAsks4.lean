/- The law CellAsks holds at every input that its statement lets in; part 5 of its proof. -/
import Derived.Test.YtkcifdblaboodaaGreatMCellAsks3
import Derived.ProofKit
import Derived.OpenShut
import Derived.JoinedCond
import Derived.Test.YtkcifdblaboodaaGreatRows
set_option linter.unusedVariables false
set_option linter.unusedSimpArgs false
namespace Go.Proofs.YtkcifdblaboodaaGreat.Ce
open Go Go.RowKit Fw Hi
theorem timeB_iff {t : Int} : timeB t = true ↔ 0 ≤ t ∧ t ≤ 1099511627776 := by simp [timeB]
theorem weighs_iff {w : Int} : weighs w = true ↔ 1 ≤ w ∧ w ≤ 1048576 := by simp [weighs]
/-- A cell that is asked: as it was, moved, or moved and added to. -/
theorem ask_cases {p : Pol} {c : Cell} (hm : mayC p c = true) {t w : Int} (ht : c.1 ≤ t) :
    (askC p c t w = (c, zeroV) ∧ ¬ (timeB t = true ∧ weighs w = true)) ∨
    ((timeB t = true ∧ weighs w = true) ∧ cnt p c t + worth p w ≤ worth p p.2.1 ∧ askC p c t w = (added p (moved p c t) w, true, (worth p p.2.1 - (cnt p c t + worth p w)).tdiv (worth p 1), 0, wt p (added p (moved p c t) w) 0)) ∨
    ((timeB t = true ∧ weighs w = true) ∧ ¬ cnt p c t + worth p w ≤ worth p p.2.1 ∧ askC p c t w = (moved p c t, false, (worth p p.2.1 - cnt p c t).tdiv (worth p 1), (if p.2.1 < w then 2199023255552 else wt p (moved p c t) (worth p p.2.1 - worth p w)), wt p (moved p c t) 0)) := by
  by_cases h : timeB t = true ∧ weighs w = true
  · have e : cnt p (moved p c t) t = cnt p c t := moved_cnt hm ht (Int.le_refl _)
    by_cases h2 : cnt p c t + worth p w ≤ worth p p.2.1
    · right; left
      refine ⟨h, h2, ?_⟩
      unfold askC
      rw [hm, h.1, h.2, Int.max_eq_left ht]
      simp only [Bool.and_self, if_true, moved_at, e, if_pos h2]
    · right; right
      refine ⟨h, h2, ?_⟩
      unfold askC
      rw [hm, h.1, h.2, Int.max_eq_left ht]
      simp only [Bool.and_self, if_true, moved_at, e, if_neg h2]
  · left
    refine ⟨?_, h⟩
    unfold askC
    rw [if_neg]
    rw [hm, Bool.true_and, Bool.and_eq_true]
    exact h
theorem ask_no {p : Pol} {c : Cell} (hm : mayC p c = true) {t w : Int} (ht : c.1 ≤ t) (hb : timeB t = true) (hw : weighs w = true) (hn : worth p p.2.1 < cnt p c t + worth p w) :
    askC p c t w = (moved p c t, false, (worth p p.2.1 - cnt p c t).tdiv (worth p 1), (if p.2.1 < w then 2199023255552 else wt p (moved p c t) (worth p p.2.1 - worth p w)), wt p (moved p c t) 0) := by
  rcases ask_cases hm (w := w) ht with ⟨e, h⟩ | ⟨_, h, e⟩ | ⟨_, h, e⟩
  · exact absurd ⟨hb, hw⟩ h
  · omega
  · exact e
theorem ask_may {p : Pol} {c : Cell} (hm : mayC p c = true) {t w : Int} (ht : c.1 ≤ t) : mayC p (askC p c t w).1 = true ∧ c.1 ≤ (askC p c t w).1.1 ∧ (askC p c t w).1.1 ≤ t := by
  rcases ask_cases hm (w := w) ht with ⟨e, h⟩ | ⟨⟨h1, h2⟩, h3, e⟩ | ⟨⟨h1, h2⟩, h3, e⟩
  · rw [e]; exact ⟨hm, Int.le_refl _, ht⟩
  · rw [e]
    have ht1 := timeB_iff.1 h1
    have hm2 := moved_may hm ht ht1.2
    refine ⟨added_may hm2 (moved_full p c t) (weighs_iff.1 h2).1 ?_, ?_, ?_⟩
    · rw [← cnt_own hm2, moved_at, moved_cnt hm ht (Int.le_refl _)]; exact h3
    · simp only [added_at, moved_at]; exact ht
    · simp only [added_at, moved_at]; exact Int.le_refl _
  · rw [e]
    have ht1 := timeB_iff.1 h1
    exact ⟨moved_may hm ht ht1.2, by simp only [moved_at]; exact ht, by simp only [moved_at]; exact Int.le_refl _⟩
theorem ends_le {p : Pol} {c : Cell} (hm : mayC p c = true) : endsC p c ≤ c.1 + p.2.2.1 := by
  unfold endsC
  rw [hm, if_pos rfl]
  have := (wt_bound (p := p) (d := moved p c c.1) (may_pol hm).1 0).2
  omega
theorem worth_lin (p : Pol) (w : Int) : worth p w = w * worth p 1 := by
  unfold worth
  split
  · rw [Int.one_mul]
  · rw [Int.mul_one]
theorem worth_one {p : Pol} (hp : PolOk p) : 1 ≤ worth p 1 := (worth_bound hp (by omega)).1
/-- Two asks of too much, one at a later time. -/
theorem goes_over {p : Pol} {c : Cell} (hm : mayC p c = true) {t1 t2 : Int} (h1 : c.1 ≤ t1) (h2 : t1 ≤ t2) (h3 : t2 ≤ 1099511627776) (hL : p.2.1 + 1 ≤ 1048576) :
    (askC p c t1 (p.2.1 + 1)).2.1 = false ∧ (askC p c t1 (p.2.1 + 1)).2.2.1 ≤ (askC p c t2 (p.2.1 + 1)).2.2.1 ∧ (askC p c t2 (p.2.1 + 1)).2.2.2.2 ≤ (askC p c t1 (p.2.1 + 1)).2.2.2.2 ∧ (askC p c t2 (p.2.1 + 1)).2.2.1 ≤ p.2.1 ∧ 0 ≤ (askC p c t2 (p.2.1 + 1)).2.2.2.2 ∧ (askC p c t2 (p.2.1 + 1)).2.2.2.2 ≤ 1048576 := by
  obtain ⟨hp, h0, h00⟩ := may_pol hm
  have hl := hp.limit
  have hw : weighs (p.2.1 + 1) = true := weighs_iff.2 ⟨by omega, hL⟩
  have hb1 : timeB t1 = true := timeB_iff.2 ⟨by omega, by omega⟩
  have hb2 : timeB t2 = true := timeB_iff.2 ⟨by omega, by omega⟩
  have hw1 := worth_one hp
  have hwl : worth p (p.2.1 + 1) = worth p p.2.1 + worth p 1 := by
    rw [worth_lin p (p.2.1 + 1), worth_lin p p.2.1, Int.add_mul, Int.one_mul]
  have n1 := cnt_nonneg hm t1
  have n2 := cnt_nonneg hm t2
  have n3 := cnt_anti hm h1 h2
  have n4 : cnt p c t1 ≤ worth p p.2.1 := by
    have hm2 := moved_may hm h1 (by omega)
    have := (own_le hm2).2
    rw [← cnt_own hm2, moved_at, moved_cnt hm h1 (Int.le_refl _)] at this
    exact this
  have e1 := ask_no hm h1 hb1 hw (by omega)
  have e2 := ask_no hm (Int.le_trans h1 h2) hb2 hw (by omega)
  have m1 := moved_may hm h1 (by omega)
  have m2 := moved_may hm (Int.le_trans h1 h2) (by omega)
  have b1 := wt_bound (p := p) (d := moved p c t1) hp 0
  have b2 := wt_bound (p := p) (d := moved p c t2) hp 0
  have hwd := hp.window
  rw [e1, e2]
  refine ⟨rfl, tdiv_mono (by omega) (by omega) hw1, ?_, ?_, b2.1, by simp only []; omega⟩
  · show wt p (moved p c t2) 0 ≤ wt p (moved p c t1) 0
    rw [wt_le m2 (Int.le_refl _) b1.1, moved_at, moved_cnt hm (Int.le_trans h1 h2) (by omega)]
    have q := (wt_le m1 (m := 0) (Int.le_refl _) b1.1).1 (Int.le_refl _)
    rw [moved_at, moved_cnt hm h1 (by omega)] at q
    exact Int.le_trans (cnt_anti hm (by omega) (by omega)) q
  · show (worth p p.2.1 - cnt p c t2).tdiv (worth p 1) ≤ p.2.1
    have h5 := tdiv_mono (a := worth p p.2.1 - cnt p c t2) (b := worth p p.2.1) (s := worth p 1) (by omega) (by omega) hw1
    rw [worth_lin p p.2.1, Int.mul_tdiv_cancel _ (by omega)] at h5
    rw [worth_lin p p.2.1]
    exact h5
/-- Moved twice, or at once. -/
theorem moved_moved {p : Pol} {c : Cell} (hm : mayC p c = true) {t t' : Int} (h1 : c.1 ≤ t) (h2 : t ≤ t') : moved p (moved p c t) t' = moved p c t' := by
  obtain ⟨hp, h0, _⟩ := may_pol hm
  have hc := moved_cnt hm h1 h2
  rcases kind_of hp with k | k | k | k
  · unfold moved at hc ⊢
    simp only [if_pos (show p.1 = 1 ∨ p.1 = 2 from .inl k)] at hc ⊢
    rw [hc]
  · unfold moved at hc ⊢
    simp only [if_pos (show p.1 = 1 ∨ p.1 = 2 from .inr k)] at hc ⊢
    rw [hc]
  · unfold moved
    simp only [if_neg (show ¬ (p.1 = 1 ∨ p.1 = 2) by omega), if_pos k]
    have hB := ring_B hp k
    have n1 := numR_mono hp h0 h1
    have n2 := numR_mono hp (by omega : 0 ≤ t) h2
    congr 2
    unfold atR
    refine congrArg (fun l => (l, ([] : List Hit))) (List.map_congr_left ?_)
    intro j hj
    have hj : j < p.2.2.2.toNat := List.mem_range.1 hj
    show (if numR p t < nb p t' j then 0 else (atR p c t).getD j 0) = _
    rw [atR_getD hj]
    by_cases g : numR p t < nb p t' j
    · rw [if_pos g, if_pos (by omega)]
    · rw [if_neg g, ← nb_same hB.1 n2 (by omega)]
  · unfold moved
    simp only [if_neg (show ¬ (p.1 = 1 ∨ p.1 = 2) by omega), if_neg (show ¬ p.1 = 3 by omega)]
    rw [since_since h2]
/-- What is told of a cell is told of it moved. -/
theorem ask_moved {p : Pol} {c : Cell} (hm : mayC p c = true) {t t' w : Int} (h1 : c.1 ≤ t) (h2 : t ≤ t') (h3 : t ≤ 1099511627776) : (askC p (moved p c t) t' w).2 = (askC p c t' w).2 := by
  have hm2 := moved_may hm h1 h3
  unfold askC
  rw [hm, hm2, moved_at, Int.max_eq_left h2, Int.max_eq_left (Int.le_trans h1 h2), moved_moved hm h1 h2]
  split
  · split <;> rfl
  · rfl
end Go.Proofs.YtkcifdblaboodaaGreat.Ce
set_option linter.unusedVariables false
set_option linter.unusedSimpArgs false
namespace Go.Proofs.YtkcifdblaboodaaGreat.Ce
open Go Go.RowKit Fw Hi
abbrev ArrT : Ty := .pair (.int .i64) (.int .i64)
theorem new_may {p : Pol} (hp : PolOk p) {t : Int} (h : 0 ≤ t ∧ t ≤ 1099511627776) : mayC p (t, 0, [], []) = true := by
  have hL := hp.limit
  have hW := hp.window
  have hLW : 0 ≤ p.2.1 * p.2.2.1 := Int.mul_nonneg (by omega) (by omega)
  rcases kind_of hp with k | k | k | k
  · exact (may1 k).2 ⟨hp, h, by simp, hLW, rfl, rfl⟩
  · exact (may2 k).2 ⟨hp, h, by simp, by simp only []; omega, rfl, rfl⟩
  · exact (may3 k).2 ⟨hp, h, rfl, rfl, .inl rfl, by simp, by simp; omega, fun j _ => rfl⟩
  · exact (may4 k).2 ⟨hp, h, rfl, rfl, rfl, by show (0 : Int) ≤ _; omega⟩
theorem new_cnt (p : Pol) (t : Int) : cnt p (t, 0, [], []) t = 0 := by
  unfold cnt
  split
  · show max 0 (0 - p.2.1 * (t - t)) = 0
    rw [Int.sub_self, Int.mul_zero]; decide
  · split
    · split <;> rfl
    · split
      · have e : atR p (t, 0, [], []) t = List.replicate p.2.2.2.toNat 0 := by
          unfold atR
          apply List.ext_getElem (by simp)
          intro i h1 h2
          simp
        rw [e]; simp
      · rfl
theorem zero_moved {p : Pol} {c : Cell} (hm : mayC p c = true) {t : Int} (h1 : c.1 ≤ t) (h2 : t ≤ 1099511627776) (h : cnt p c t = 0) : moved p c t = moved p (t, 0, [], []) t := by
  obtain ⟨hp, h0, _⟩ := may_pol hm
  have hn := new_cnt p t
  rcases kind_of hp with k | k | k | k
  · unfold moved
    rw [if_pos (.inl k), if_pos (.inl k), h, hn]
  · unfold moved
    rw [if_pos (.inr k), if_pos (.inr k), h, hn]
  · have hB := ring_B hp k
    have hm2 := (may3 k).1 (moved_may hm h1 h2)
    have e : ∀ d : Cell, moved p d t = (t, 0, atR p d t, []) := fun d => by
      unfold moved
      rw [if_neg (by omega), if_pos k]
    rw [e] at hm2
    rw [e, e]
    have hs : (atR p c t).sum = 0 := by
      unfold cnt at h
      rw [if_neg (by omega), if_neg (by omega), if_pos k] at h
      exact h
    have hz : atR p c t = atR p (t, 0, [], []) t := by
      apply Bt.getD_ext (by rw [atR_len, atR_len])
      intro j hj
      rw [atR_len] at hj
      rw [atR_getD (c := (t, 0, [], [])) hj]
      have hx : (atR p c t).getD j 0 = 0 := by
        have hv : ∀ x ∈ atR p c t, 0 ≤ x := fun x hx => (hm2.val x hx).1
        have hmem : (atR p c t).getD j 0 ∈ atR p c t := by
          rw [List.getD_eq_getElem?_getD, List.getElem?_eq_getElem (by rw [atR_len]; exact hj)]
          exact List.getElem_mem _
        have := sum_mem hv hmem
        have := hv _ hmem
        omega
      rw [hx]
      split <;> rfl
    rw [hz]
  · have e : ∀ d : Cell, moved p d t = (t, 0, [], sinceE p d.2.2.2 t) := fun d => by
      unfold moved
      rw [if_neg (by omega), if_neg (by omega)]
    have hm2 := (may4 k).1 (moved_may hm h1 h2)
    rw [e] at hm2
    have hs : sumH (sinceE p c.2.2.2 t) = 0 := by
      unfold cnt at h
      rw [if_neg (by omega), if_neg (by omega), if_neg (by omega)] at h
      exact h
    have hl := mayH_num _ _ hm2.go
    have hl0 : sinceE p c.2.2.2 t = [] := List.eq_nil_of_length_eq_zero (by simp only [] at hl; omega)
    rw [e, e, hl0]; rfl
theorem neutral_new {p : Pol} {c : Cell} (hm : mayC p c = true) {t : Int} (h1 : c.1 ≤ t) (h2 : t ≤ 1099511627776) (h : cnt p c t = 0) {w : Int} (hw : weighs w = true) : askC p c t w = askC p (t, 0, [], []) t w := by
  obtain ⟨hp, h0, _⟩ := may_pol hm
  have hb : timeB t = true := timeB_iff.2 ⟨by omega, h2⟩
  have hn := new_may hp (t := t) ⟨by omega, h2⟩
  unfold askC
  rw [hm, hn, hb, hw, Int.max_eq_left h1, Int.max_self, zero_moved hm h1 h2 h]
  rfl
theorem neutral_whole {p : Pol} {c : Cell} (hm : mayC p c = true) {t : Int} (h1 : c.1 ≤ t) (h2 : t ≤ 1099511627776) : neutralC p c t = (askC p c t p.2.1).2.1 := by
  obtain ⟨hp, h0, _⟩ := may_pol hm
  have hl := hp.limit
  have hn := cnt_nonneg hm t
  have hq := neutral_iff hm h1
  rw [Bool.eq_iff_iff, hq]
  rcases ask_cases hm (w := p.2.1) h1 with ⟨e, h⟩ | ⟨_, h, e⟩ | ⟨_, h, e⟩
  · exact absurd ⟨timeB_iff.2 ⟨by omega, h2⟩, weighs_iff.2 hl⟩ h
  · rw [e]; simp only [iff_true]; omega
  · rw [e]; simp only [Bool.false_eq_true, iff_false]; omega
theorem new_neutral {p : Pol} (hp : PolOk p) {t : Int} (h : 0 ≤ t ∧ t ≤ 1099511627776) : neutralC p (t, 0, [], []) t = true := (neutral_iff (new_may hp h) (Int.le_refl _)).2 (new_cnt p t)
/-! ### Kinds that tell the same -/
structure Pair (p q : Pol) : Prop where
  p1 : p.1 ≠ 1
  q1 : q.1 ≠ 1
  limit : p.2.1 = q.2.1
  window : p.2.2.1 = q.2.2.1
  ok : PolOk p ↔ PolOk q
  counts : PolOk p → ∀ (h : List Hit) (t : Int), (∀ x ∈ h, 0 ≤ x.1 ∧ x.1 ≤ t) → Hi.counts p h t = Hi.counts q h t
theorem Pair.worth {p q : Pol} (P : Pair p q) (w : Int) : worth p w = worth q w := by
  unfold Hi.worth; rw [if_neg P.p1, if_neg P.q1]
theorem Pair.ask {p q : Pol} (P : Pair p q) {c d : Cell} {h : List Hit} (rp : Rel p c h) (rq : Rel q d h) {t w : Int} (hc : c.1 ≤ t) (hd : d.1 ≤ t) (ht : t ≤ 1099511627776) : Hi.ask p h t w = Hi.ask q h t w := by
  have fp := rp.fit.later hc ht
  have fq := rq.fit.later hd ht
  have h0 := fp.pos
  have e : ∀ l : List Hit, (∀ x ∈ l, 0 ≤ x.1 ∧ x.1 ≤ t) → ∀ k : Nat, Hi.counts p l (t + k) = Hi.counts q l (t + k) := fun l hl k => P.counts fp.pol l _ fun x hx => by have := hl x hx; omega
  have ew : ∀ l : List Hit, (∀ x ∈ l, 0 ≤ x.1 ∧ x.1 ≤ t) → ∀ m, Hi.wait p l t m = Hi.wait q l t m := fun l hl m => by
    unfold Hi.wait
    rw [waitFrom_G, waitFrom_G, P.window]
    exact waitG_congr (e l hl) _ _
  have e0 : ∀ l : List Hit, (∀ x ∈ l, 0 ≤ x.1 ∧ x.1 ≤ t) → Hi.counts p l t = Hi.counts q l t := fun l hl => by have := e l hl 0; rwa [Int.natCast_zero, Int.add_zero] at this
  have hh := fp.hits.tick
  have hs : ∀ x ∈ h ++ [(t, w)], 0 ≤ x.1 ∧ x.1 ≤ t := fun x hx => by
    rcases List.mem_append.1 hx with hx | hx
    · exact hh x hx
    · simp at hx; subst hx; exact ⟨h0, Int.le_refl _⟩
  unfold Hi.ask
  rw [fp.fits, fq.fits, P.limit]
  simp only [P.worth, e0 h hh, ew h hh]
  by_cases hk : Hi.counts q h t + Hi.worth q w ≤ Hi.worth q q.2.1
  · simp only [if_pos hk, e0 _ hs, ew _ hs]
  · simp only [if_neg hk, e0 _ hh, ew _ hh]
theorem pair_fixed (L W : Int) : Pair (2, L, W, 0) (3, L, W, 1) where
  p1 := by simp
  q1 := by simp
  limit := rfl
  window := rfl
  ok := ⟨fun h => ⟨by simp, h.limit, h.window, fun _ => ⟨by simp, by simp, Int.tmod_one _⟩, fun h => absurd rfl h, fun h => absurd h (by simp)⟩, fun h => ⟨by simp, h.limit, h.window, fun h => absurd h (by simp), fun _ => rfl, fun h => absurd h (by simp)⟩⟩
  counts := fun hp h t hx => by
    have hW := hp.window
    simp only [] at hW
    unfold Hi.counts
    rw [if_neg (show ¬ (_ : Int) = 1 by simp), if_neg (show ¬ (_ : Int) = 1 by simp)]
    refine those_congr h fun x hx' => ?_
    have hb := hx x hx'
    have e1 : slotOf (2, L, W, 0) = W := rfl
    have e2 : slotOf (3, L, W, 1) = W := Int.tdiv_one _
    have hmn := tdiv_mono (s := W) hb.1 hb.2 hW.1
    show decide (x.1.tdiv (slotOf (2, L, W, 0)) = t.tdiv (slotOf (2, L, W, 0))) = decide (t.tdiv (slotOf (3, L, W, 1)) - 1 < x.1.tdiv (slotOf (3, L, W, 1)))
    rw [e1, e2, decide_eq_decide]
    omega
theorem pair_exact (L W : Int) (hL : L ≤ 16) (hW : W ≤ 16) : Pair (4, L, W, 0) (3, L, W, W) where
  p1 := by simp
  q1 := by simp
  limit := rfl
  window := rfl
  ok := ⟨fun h => ⟨by simp, h.limit, h.window, fun _ => ⟨h.window.1, hW, Int.tmod_self⟩, fun h => absurd rfl h, fun h => absurd h (by simp)⟩, fun h => ⟨by simp, h.limit, h.window, fun h => absurd h (by simp), fun _ => rfl, fun _ => hL⟩⟩
  counts := fun hp h t hx => by
    have hW := hp.window
    simp only [] at hW
    unfold Hi.counts
    rw [if_neg (show ¬ (_ : Int) = 1 by simp), if_neg (show ¬ (_ : Int) = 1 by simp)]
    refine those_congr h fun x hx' => ?_
    have e2 : slotOf (3, L, W, W) = 1 := Int.tdiv_self (a := W) (by omega)
    show decide (t - W < x.1) = decide (t.tdiv (slotOf (3, L, W, W)) - W < x.1.tdiv (slotOf (3, L, W, W)))
    rw [e2, Int.tdiv_one, Int.tdiv_one]
/-- Two cells that were asked the same. -/
def Twin (p q : Pol) (c d : Cell) (t : Int) (i : Nat) : Prop := PolOk p → ∃ h : List Hit, h.length ≤ i ∧ Rel p c h ∧ Rel q d h ∧ c.1 ≤ t ∧ d.1 ≤ t
theorem Twin.new {p q : Pol} (P : Pair p q) : Twin p q (0, 0, [], []) (0, 0, [], []) 0 0 := fun hp => ⟨[], Nat.le_refl _, Rel.nil hp, Rel.nil (P.ok.1 hp), Int.le_refl _, Int.le_refl _⟩
theorem ask_not {p : Pol} (hp : ¬ PolOk p) (c : Cell) (t w : Int) : askC p c t w = (c, zeroV) := by
  unfold askC
  rw [if_neg]
  intro h
  rw [Bool.and_eq_true, Bool.and_eq_true] at h
  exact hp (may_pol h.1.1).1
theorem ask_nope {p : Pol} {c : Cell} {t w : Int} (hw : weighs w = false) : askC p c t w = (c, zeroV) := by
  unfold askC
  rw [hw, Bool.and_false]; rfl
theorem ask_grow (p : Pol) (h : List Hit) (t w : Int) : (Hi.ask p h t w).1.length ≤ h.length + 1 := by
  unfold Hi.ask
  split
  · simp only []
    split
    · simp
    · omega
  · simp
theorem Twin.step {p q : Pol} (P : Pair p q) {c d : Cell} {t t' : Int} {i : Nat} (T : Twin p q c d t i) (w : Int) (h1 : t ≤ t') (h2 : t' ≤ 1099511627776) (hi : i ≤ 63) :
    (askC p c t' w).2 = (askC q d t' w).2 ∧ Twin p q (askC p c t' w).1 (askC q d t' w).1 t' (i + 1) := by
  by_cases hp : PolOk p
  · obtain ⟨h, hl, rp, rq, hc, hd⟩ := T hp
    by_cases hw : weighs w = true
    · obtain ⟨a1, a2, a3⟩ := ask_same rp (t := t') (w := w) (by omega) h2 hw (by omega)
      obtain ⟨b1, b2, b3⟩ := ask_same rq (t := t') (w := w) (by omega) h2 hw (by omega)
      have e := P.ask rp rq (t := t') (w := w) (by omega) (by omega) h2
      refine ⟨by rw [a1, b1, e], fun _ => ⟨(Hi.ask p h t' w).1, by have := ask_grow p h t' w; omega, a2, by rw [e]; exact b2, by omega, by omega⟩⟩
    · rw [ask_nope (Bool.eq_false_iff.2 hw), ask_nope (Bool.eq_false_iff.2 hw)]
      exact ⟨rfl, fun _ => ⟨h, by omega, rp, rq, Int.le_trans hc h1, Int.le_trans hd h1⟩⟩
  · rw [ask_not hp, ask_not (fun hq => hp (P.ok.2 hq))]
    exact ⟨rfl, fun hp' => absurd hp' hp⟩
/-- A cell as may be, or a new one of no policy. -/
def Cl1 (p : Pol) (c : Cell) (t : Int) : Prop := (mayC p c = true ∧ c.1 ≤ t) ∨ (¬ PolOk p ∧ c = (0, 0, [], []))
theorem Cl1.new (p : Pol) : Cl1 p (0, 0, [], []) 0 := by
  by_cases h : PolOk p
  · exact .inl ⟨new_may h (by decide), Int.le_refl _⟩
  · exact .inr ⟨h, rfl⟩
theorem Cl1.level {p : Pol} {c : Cell} {t : Int} (h : Cl1 p c t) : -9223372036854775808 ≤ c.2.1 ∧ c.2.1 ≤ 9223372036854775807 := by
  rcases h with h | h
  · exact may_level h.1
  · rw [h.2]; decide
theorem Cl1.step {p : Pol} {c : Cell} {t t' : Int} (h : Cl1 p c t) (w : Int) (ht : t ≤ t') : Cl1 p (askC p c t' w).1 t' := by
  rcases h with h | h
  · have := ask_may h.1 (t := t') (w := w) (by omega)
    exact .inl ⟨this.1, this.2.2⟩
  · rw [ask_not h.1]; exact .inr h
end Go.Proofs.YtkcifdblaboodaaGreat.Ce
set_option linter.unusedVariables false
set_option linter.unusedSimpArgs false
namespace Go.Proofs.YtkcifdblaboodaaGreat.Fw
open Go Go.RowKit
theorem CodeN.le {P : Program} {N : Nat} {M : List Bool} {S : Sc} {c : Code} {env env' : Env} {E E' : List Chunk} {K : Ex → Env → List Chunk → Prop} (π : List Nat) (hle : Le M π env E env' E') (h : CodeN P N S M c env' E' K) : CodeN P N S M c env E K where
  h := fun r g a w hr hM hI hN => h.h r (g.ren π) a w hr hM (hI.ren hM hle) hN
/-- A first statement, what is so behind it, and the rest. -/
theorem CodeN.mid {P : Program} {N : Nat} {M : List Bool} {S : Sc} {c a b : Code} {env : Env} {E : List Chunk} {K : Ex → Env → List Chunk → Prop} (hm : P.follows .mixedOrders = true) {X : Type} (inv : X → Prop) (st : X → Env) (ch : X → List Chunk)
    (hc : c = .seq a b)
    (first : sCode P N S M a env E fun e env' E' => match e with
      | .normal => ∃ x, ∃ π, Le M π env' E' (st x) (ch x) ∧ inv x
      | .ret => K .ret env' E' | .exit n => K (.exit n) env' E')
    (rest : ∀ x, inv x → fEnv (st x) fun env => fEE (ch x) fun E => CodeN P N S M b env E K) : CodeN P N S M c env E K := by
  subst hc
  refine ⟨fun r g a' w hr hM h hN => ?_⟩
  obtain ⟨hr1, hr2⟩ := noDraw_and hr rfl
  refine wpIn_seq (Go.wpIn_mono (sCode_ok hm hM a r hr1 h hN first) ?_)
  rintro e a' w' ⟨e', g', env', E', rfl, h1, h2, h4⟩
  cases e' with
  | normal =>
    obtain ⟨x, π, hle, hi⟩ := h4
    have hk := rest x hi
    rw [fEnv_eq, fEE_eq] at hk
    exact hk.h r (g'.ren π) a' w' hr2 hM (h1.ren hM hle) h2
  | ret => exact ⟨.ret, g', env', E', rfl, h1, h2, h4⟩
  | exit n => exact ⟨.exit n, g', env', E', rfl, h1, h2, h4⟩
end Go.Proofs.YtkcifdblaboodaaGreat.Fw
set_option linter.unusedVariables false
set_option linter.unusedSimpArgs false
namespace Go.Proofs.YtkcifdblaboodaaGreat.Ce
open Go Go.RowKit Fw Hi Po
theorem ttimeM (t : Int) : Meets Tryz.prog 53 [.int .i64 fun _ => t] [] (Y := Unit) (fun _ => True) (fun _ => .bool fun _ => timeB t) (fun _ => []) := by
  refine Meets.intro hm (fn := Tryz.f53) Tryz.func53 rfl (by decide) (Nat.le_of_ble_eq_true rfl) (fun _ => rfl) ?_; intro S hok; (conv => whnf)
  (repeat' ((conv => whnf); first | apply And.intro | exact ⟨by kernel_rfl⟩ | apply DrawN.mk | apply CodeN.step hm rfl | exact trivial | exact rfl | (intro hh; try simp only [bs] at hh))); all_goals (conv => whnf)
  all_goals
    (refine RetN.q () [] ?_ ?_ ?_ <;> (repeat' ((conv => whnf) <;> first | exact rfl | exact trivial | apply And.intro | exact Nat.zero_add _)); all_goals ((conv => whnf); try simp only []))
    simp [timeB, *]
theorem not_may {p : Pol} (hp : ¬ PolOk p) (c : Cell) : mayC p c = false := Bool.eq_false_iff.2 fun h => hp (may_pol h).1
theorem time_false {p : Pol} {c : Cell} (h : timeB c.1 = false) : mayC p c = false := Bool.eq_false_iff.2 fun hm => by
  have := may_pol hm
  rw [timeB_iff.2 ⟨this.2.1, this.2.2⟩] at h
  cases h
theorem chkM (p : Pol) : Meets Tryz.prog 64 [polAV p] [] (Y := Unit) (fun _ => True) (fun _ => .int .i64 fun _ => if PolOk p then 0 else 1) (fun _ => []) := rcheckM p
theorem r10may (p : Pol) (c : Cell) (k : p.1 = 1) (hc : -9223372036854775808 ≤ c.2.1 ∧ c.2.1 ≤ 9223372036854775807) : Meets Tryz.prog 26 [polAV p, cellAV c] [] (Y := Unit) (fun _ => True) (fun _ => .bool fun _ => mayC p c) (fun _ => []) := by
  have MC := rcheckM p
  by_cases hp : PolOk p
  rotate_left
  · rw [if_neg hp] at MC
    have hf := not_may hp c
    refine Meets.intro hm (fn := Tryz.f26) Tryz.func26 rfl (by decide) (Nat.le_of_ble_eq_true rfl) (fun _ => rfl) ?_; intro S hok; (conv => whnf)
    (repeat' ((conv => whnf); first | apply And.intro | exact ⟨by kernel_rfl⟩ | apply DrawN.mk | apply CodeN.step hm rfl | exact trivial | exact rfl | (intro hh; try simp only [bs] at hh))); all_goals (conv => whnf)
    (refine CallN.q MC [] (fun _ _ => ?_); (repeat' ((conv => whnf); first | apply And.intro | exact ⟨by kernel_rfl⟩ | apply DrawN.mk | apply CodeN.step hm rfl | exact trivial | exact rfl | (intro hh; try simp only [bs] at hh; try exact absurd hh (by decide)))); all_goals (conv => whnf); all_goals try exact ⟨by decide⟩)
    all_goals
      (refine RetN.q () [] ?_ ?_ ?_ <;> (repeat' ((conv => whnf) <;> first | exact rfl | exact trivial | apply And.intro | exact Nat.zero_add _)); all_goals ((conv => whnf); try simp only []))
      exact hf
  · rw [if_pos hp] at MC
    have hL := hp.limit
    have hW := hp.window
    have hLW : p.2.1 * p.2.2.1 ≤ 1048576 * 1048576 := Int.mul_le_mul hL.2 hW.2 (by omega) (by omega)
    have hLW0 : 0 ≤ p.2.1 * p.2.2.1 := Int.mul_nonneg (by omega) (by omega)
    have e1 : IntKind.i64.wrap (p.2.1 * p.2.2.1) = p.2.1 * p.2.2.1 := wr (by omega)
    have hk : mayC p c = true ↔ timeB c.1 = true ∧ 0 ≤ c.2.1 ∧ c.2.1 ≤ p.2.1 * p.2.2.1 ∧ (c.2.2.1.length : Int) = 0 ∧ (c.2.2.2.length : Int) = 0 := by
      rw [may1 k, timeB_iff]
      constructor
      · rintro ⟨_, h1, h2, h3, h4, h5⟩
        exact ⟨h1, h2, h3, by rw [h4]; rfl, by rw [h5]; rfl⟩
      · rintro ⟨h1, h2, h3, h4, h5⟩
        exact ⟨hp, h1, h2, h3, List.eq_nil_of_length_eq_zero (by omega), List.eq_nil_of_length_eq_zero (by omega)⟩
    refine Meets.intro hm (fn := Tryz.f26) Tryz.func26 rfl (by decide) (Nat.le_of_ble_eq_true rfl) (fun _ => rfl) ?_; intro S hok; (conv => whnf)
    (repeat' ((conv => whnf); first | apply And.intro | exact ⟨by kernel_rfl⟩ | apply DrawN.mk | apply CodeN.step hm rfl | exact trivial | exact rfl | (intro hh; try simp only [bs] at hh))); all_goals (conv => whnf)
    (refine CallN.q MC [] (fun _ _ => ?_); (repeat' ((conv => whnf); first | apply And.intro | exact ⟨by kernel_rfl⟩ | apply DrawN.mk | apply CodeN.step hm rfl | exact trivial | exact rfl | (intro hh; try simp only [bs] at hh; try exact absurd hh (by decide)))); all_goals (conv => whnf); all_goals try exact ⟨by decide⟩)
    all_goals (try simp only [e1] at hh ⊢)
    rotate_left
    · exfalso; exact hh k
    (refine CallN.q (ttimeM c.1) [] (fun _ _ => ?_); (repeat' ((conv => whnf); first | apply And.intro | exact ⟨by kernel_rfl⟩ | apply DrawN.mk | apply CodeN.step hm rfl | exact trivial | exact rfl | (intro hh; try simp only [bs] at hh; try exact absurd hh (by decide)))); all_goals (conv => whnf); all_goals try exact ⟨by decide⟩)
    all_goals (try simp only [e1] at hh ⊢)
    all_goals
      (refine RetN.q () [] ?_ ?_ ?_ <;> (repeat' ((conv => whnf) <;> first | exact rfl | exact trivial | apply And.intro | exact Nat.zero_add _)); all_goals ((conv => whnf); try simp only []))
    all_goals first
      | (rw [Bool.eq_iff_iff, hk, beq_iff_eq]; exact ⟨fun h => ⟨by assumption, by omega, by omega, by omega, h⟩, fun h => h.2.2.2.2⟩)
      | (refine Bool.eq_false_iff.2 fun hm => ?_
         have hm' := hk.1 hm
         first
           | omega
           | (rw [hm'.1] at hh; cases hh))
theorem r11may (p : Pol) (c : Cell) (k : p.1 = 2) : Meets Tryz.prog 27 [polAV p, cellAV c] [] (Y := Unit) (fun _ => True) (fun _ => .bool fun _ => mayC p c) (fun _ => []) := by
  have MC := rcheckM p
  by_cases hp : PolOk p
  rotate_left
  · rw [if_neg hp] at MC
    have hf := not_may hp c
    refine Meets.intro hm (fn := Tryz.f27) Tryz.func27 rfl (by decide) (Nat.le_of_ble_eq_true rfl) (fun _ => rfl) ?_; intro S hok; (conv => whnf)
    (repeat' ((conv => whnf); first | apply And.intro | exact ⟨by kernel_rfl⟩ | apply DrawN.mk | apply CodeN.step hm rfl | exact trivial | exact rfl | (intro hh; try simp only [bs] at hh))); all_goals (conv => whnf)
    (refine CallN.q MC [] (fun _ _ => ?_); (repeat' ((conv => whnf); first | apply And.intro | exact ⟨by kernel_rfl⟩ | apply DrawN.mk | apply CodeN.step hm rfl | exact trivial | exact rfl | (intro hh; try simp only [bs] at hh; try exact absurd hh (by decide)))); all_goals (conv => whnf); all_goals try exact ⟨by decide⟩)
    all_goals
      (refine RetN.q () [] ?_ ?_ ?_ <;> (repeat' ((conv => whnf) <;> first | exact rfl | exact trivial | apply And.intro | exact Nat.zero_add _)); all_goals ((conv => whnf); try simp only []))
      exact hf
  · rw [if_pos hp] at MC
    have e1 : True := trivial
    have hk : mayC p c = true ↔ timeB c.1 = true ∧ 0 ≤ c.2.1 ∧ c.2.1 ≤ p.2.1 ∧ (c.2.2.1.length : Int) = 0 ∧ (c.2.2.2.length : Int) = 0 := by
      rw [may2 k, timeB_iff]
      constructor
      · rintro ⟨_, h1, h2, h3, h4, h5⟩
        exact ⟨h1, h2, h3, by rw [h4]; rfl, by rw [h5]; rfl⟩
      · rintro ⟨h1, h2, h3, h4, h5⟩
        exact ⟨hp, h1, h2, h3, List.eq_nil_of_length_eq_zero (by omega), List.eq_nil_of_length_eq_zero (by omega)⟩
    refine Meets.intro hm (fn := Tryz.f27) Tryz.func27 rfl (by decide) (Nat.le_of_ble_eq_true rfl) (fun _ => rfl) ?_; intro S hok; (conv => whnf)
    (repeat' ((conv => whnf); first | apply And.intro | exact ⟨by kernel_rfl⟩ | apply DrawN.mk | apply CodeN.step hm rfl | exact trivial | exact rfl | (intro hh; try simp only [bs] at hh))); all_goals (conv => whnf)
    (refine CallN.q MC [] (fun _ _ => ?_); (repeat' ((conv => whnf); first | apply And.intro | exact ⟨by kernel_rfl⟩ | apply DrawN.mk | apply CodeN.step hm rfl | exact trivial | exact rfl | (intro hh; try simp only [bs] at hh; try exact absurd hh (by decide)))); all_goals (conv => whnf); all_goals try exact ⟨by decide⟩)
    rotate_left
    · exfalso; exact hh k
    (refine CallN.q (ttimeM c.1) [] (fun _ _ => ?_); (repeat' ((conv => whnf); first | apply And.intro | exact ⟨by kernel_rfl⟩ | apply DrawN.mk | apply CodeN.step hm rfl | exact trivial | exact rfl | (intro hh; try simp only [bs] at hh; try exact absurd hh (by decide)))); all_goals (conv => whnf); all_goals try exact ⟨by decide⟩)
    all_goals
      (refine RetN.q () [] ?_ ?_ ?_ <;> (repeat' ((conv => whnf) <;> first | exact rfl | exact trivial | apply And.intro | exact Nat.zero_add _)); all_goals ((conv => whnf); try simp only []))
    all_goals first
      | (rw [Bool.eq_iff_iff, hk, beq_iff_eq]; exact ⟨fun h => ⟨by assumption, by omega, by omega, by omega, h⟩, fun h => h.2.2.2.2⟩)
      | (refine Bool.eq_false_iff.2 fun hm => ?_
         have hm' := hk.1 hm
         first
           | omega
           | (rw [hm'.1] at hh; cases hh))
theorem r13may (p : Pol) (c : Cell) (k : p.1 = 4) (hl : c.2.2.2.length ≤ 40) : Meets Tryz.prog 29 [polAV p, cellAV c] [] (Y := Unit) (fun _ => True) (fun _ => .bool fun _ => mayC p c) (fun _ => []) := by
  have MC := rcheckM p
  by_cases hp : PolOk p
  rotate_left
  · rw [if_neg hp] at MC
    have hf := not_may hp c
    refine Meets.intro hm (fn := Tryz.f29) Tryz.func29 rfl (by decide) (Nat.le_of_ble_eq_true rfl) (fun _ => rfl) ?_; intro S hok; (conv => whnf)
    (repeat' ((conv => whnf); first | apply And.intro | exact ⟨by kernel_rfl⟩ | apply DrawN.mk | apply CodeN.step hm rfl | exact trivial | exact rfl | (intro hh; try simp only [bs] at hh))); all_goals (conv => whnf)
    (refine CallN.q MC [] (fun _ _ => ?_); (repeat' ((conv => whnf); first | apply And.intro | exact ⟨by kernel_rfl⟩ | apply DrawN.mk | apply CodeN.step hm rfl | exact trivial | exact rfl | (intro hh; try simp only [bs] at hh; try exact absurd hh (by decide)))); all_goals (conv => whnf); all_goals try exact ⟨by decide⟩)
    all_goals
      (refine RetN.q () [] ?_ ?_ ?_ <;> (repeat' ((conv => whnf) <;> first | exact rfl | exact trivial | apply And.intro | exact Nat.zero_add _)); all_goals ((conv => whnf); try simp only []))
      exact hf
  · rw [if_pos hp] at MC
    have hL := hp.limit
    have hW := hp.window
    have htb : timeB c.1 = true ↔ 0 ≤ c.1 ∧ c.1 ≤ 1099511627776 := timeB_iff
    refine Meets.intro hm (fn := Tryz.f29) Tryz.func29 rfl (by decide) (Nat.le_of_ble_eq_true rfl) (fun _ => rfl) ?_; intro S hok; (conv => whnf)
    (repeat' ((conv => whnf); first | apply And.intro | exact ⟨by kernel_rfl⟩ | apply DrawN.mk | apply CodeN.step hm rfl | exact trivial | exact rfl | (intro hh; try simp only [bs] at hh))); all_goals (conv => whnf)
    (refine CallN.q MC [] (fun _ _ => ?_); (repeat' ((conv => whnf); first | apply And.intro | exact ⟨by kernel_rfl⟩ | apply DrawN.mk | apply CodeN.step hm rfl | exact trivial | exact rfl | (intro hh; try simp only [bs] at hh; try exact absurd hh (by decide)))); all_goals (conv => whnf); all_goals try exact ⟨by decide⟩)
    all_goals first | (exfalso; exact hh k) | skip
    all_goals
      (refine CallN.q (ttimeM c.1) [] (fun _ _ => ?_); (repeat' ((conv => whnf); first | apply And.intro | exact ⟨by kernel_rfl⟩ | apply DrawN.mk | apply CodeN.step hm rfl | exact trivial | exact rfl | (intro hh; try simp only [bs] at hh; try exact absurd hh (by decide)))); all_goals (conv => whnf); all_goals try exact ⟨by decide⟩)
    all_goals first
      | ((refine RetN.q () [] ?_ ?_ ?_ <;> (repeat' ((conv => whnf) <;> first | exact rfl | exact trivial | apply And.intro | exact Nat.zero_add _)); all_goals ((conv => whnf); try simp only []))
         have hf := may_no4 (p := p) (c := c) k (by
           rintro ⟨h1, h2, h3, h4⟩
           first
             | omega
             | (rw [h1] at hh; cases hh))
         first | exact hf | exact hf.symm)
      | skip
    have ht : timeB c.1 = true := by assumption
    have ht2 := htb.1 ht
    have ew : IntKind.i64.wrap (c.1 - p.2.2.1) = c.1 - p.2.2.1 := wr (by omega)
    have hlv : c.2.1 = 0 := by assumption
    have hsl : (c.2.2.1.length : Int) = 0 := hh
    generalize hl0 : max (-1) (c.1 - p.2.2.1) = l0
    refine LoopN.intro hm (X := Nat) (fun i => i ≤ c.2.2.2.length ∧ mayHGo c.1 p.2.1 l0 c.2.2.2 = mayHGo c.1 p.2.1 (lastH l0 c.2.2.2 i) (c.2.2.2.drop i) ∧ l0 ≤ lastH l0 c.2.2.2 i ∧ 0 ≤ sumH (c.2.2.2.take i) ∧ sumH (c.2.2.2.take i) ≤ 1048576 * (i : Int)) (fun i => c.2.2.2.length - i)
      (fun i => [(6, .int .i64 fun _ => (i : Int)), (5, .int .i64 fun _ => sumH (c.2.2.2.take i)), (3, .ptr 1 0), (2, .ptr 0 0)])
      (fun i => [.cells 23 [.int .i64 fun _ => p.1, .int .i64 fun _ => p.2.1, .int .i64 fun _ => p.2.2.1, .int .i64 fun _ => p.2.2.2], .cells 27 [.int .i64 fun _ => c.1, .int .i64 fun _ => c.2.1, .lst (.int .i64) fun _ => c.2.2.1, .lst HitT fun _ => c.2.2.2]]) 0 [0, 1] ⟨rfl, rfl, ?_, ?_⟩ ⟨Nat.zero_le _, rfl, Int.le_refl _, Int.le_refl _, Int.le_refl _⟩ (fun i hi => ?_)
    · (repeat' ((conv => whnf) <;> first | exact rfl | exact trivial | apply And.intro | exact Nat.zero_add _))
    · (repeat' ((conv => whnf) <;> first | exact rfl | exact trivial | apply And.intro | exact Nat.zero_add _))
    obtain ⟨hi, hgo, hb1, hb3, hb4⟩ := hi
    have hstep := fun h => mayH_step (a := c.1) (L := p.2.1) (last0 := l0) (l := c.2.2.2) (i := i) h
    have hst := fun h => sumH_take (l := c.2.2.2) (i := i) h
    have hl1 : lastH l0 c.2.2.2 (i + 1) = (c.2.2.2.getD i (0, 0)).1 := rfl
    have hlp : 0 < i → lastH l0 c.2.2.2 i = (c.2.2.2.getD (i - 1) (0, 0)).1 := fun h0 => by
      obtain ⟨j, rfl⟩ : ∃ j, i = j + 1 := ⟨i - 1, by omega⟩
      rfl
    have hlz : i = 0 → lastH l0 c.2.2.2 i = l0 := fun h0 => by subst h0; rfl
    have wm : 0 < i → IntKind.i64.wrap ((i : Int) - 1) = ((i - 1 : Nat) : Int) := fun h0 => by rw [wr (by omega)]; omega
    have hx' : c.2.2.2.getD (i : Int).toNat HitT.dflt = c.2.2.2.getD i (0, 0) := rfl
    generalize hx : c.2.2.2.getD i (0, 0) = x at *
    by_cases h0 : 0 < i
    · have wm2 := wm h0
      have hy' : c.2.2.2.getD (((i - 1 : Nat) : Int)).toNat HitT.dflt = c.2.2.2.getD (i - 1) (0, 0) := rfl
      have hlp2 := hlp h0
      generalize c.2.2.2.getD (i - 1) (0, 0) = y at hy' hlp2
      (repeat' ((conv => whnf); first | apply And.intro | exact ⟨by kernel_rfl⟩ | apply DrawN.mk | apply CodeN.step hm rfl | exact trivial | exact rfl | (intro hh; try simp only [bs] at hh))); all_goals (conv => whnf)
      all_goals (try simp only [hx', wm2, hy', ew] at hh ⊢)
      all_goals (try simp only [hx', ew] at hh ⊢)
      all_goals first
        | (refine Ob.mk ?_; first | omega | (simp only []; omega))
        | (exfalso; omega)
        | ((refine RetN.q () [] ?_ ?_ ?_ <;> (repeat' ((conv => whnf) <;> first | exact rfl | exact trivial | apply And.intro | exact Nat.zero_add _)); all_goals ((conv => whnf); try simp only []))
           have hf := may_no4 (p := p) (c := c) k (by
             rintro ⟨_, _, _, h4, _⟩
             rw [hl0, hgo, hstep (by omega)] at h4
             simp only [Bool.and_eq_true, decide_eq_true_eq] at h4
             omega)
           first | exact hf | exact hf.symm)
        | (have e : i = c.2.2.2.length := by omega
           (refine RetN.q () [] ?_ ?_ ?_ <;> (repeat' ((conv => whnf) <;> first | exact rfl | exact trivial | apply And.intro | exact Nat.zero_add _)); all_goals ((conv => whnf); try simp only []))
           have hg1 : mayHGo c.1 p.2.1 (max (-1) (c.1 - p.2.2.1)) c.2.2.2 = true := by rw [hl0, hgo, e, List.drop_length]; rfl
           rw [Bool.eq_iff_iff, may4 k, decide_eq_true_eq]
           rw [e, List.take_length]
           constructor
           · intro h
             exact ⟨hp, ht2, hlv, List.length_eq_zero_iff.1 (by omega), hg1, h⟩
           · intro g
             exact g.sum)
        | (have hi2 : i < c.2.2.2.length := by omega
           have q3 := hstep hi2
           have hh2 := hst hi2
           simp only [hx', wm2, hy', ew] at *
           rw [decide_eq_true (by omega), decide_eq_true (by omega), decide_eq_true (by omega), decide_eq_true (by omega), Bool.and_self, Bool.and_self, Bool.and_self, Bool.true_and] at q3
           refine ⟨i + 1, [0, 1], ⟨rfl, rfl, ?_, ?_⟩, ⟨hi2, hgo.trans q3, by omega, by omega, by omega⟩, by omega⟩
           · (repeat' ((conv => whnf) <;> first | exact rfl | exact trivial | apply And.intro | exact Nat.zero_add _))
           · (repeat' ((conv => whnf) <;> first | exact rfl | exact trivial | apply And.intro | exact Nat.zero_add _)); all_goals ((conv => whnf); try simp only [])
             · exact wr (by omega)
             · rw [hh2]
               exact wr (by omega))
    · have hlz2 := hlz (by omega)
      (repeat' ((conv => whnf); first | apply And.intro | exact ⟨by kernel_rfl⟩ | apply DrawN.mk | apply CodeN.step hm rfl | exact trivial | exact rfl | (intro hh; try simp only [bs] at hh))); all_goals (conv => whnf)
      all_goals (try simp only [hx', wm2, hy', ew] at hh ⊢)
      all_goals (try simp only [hx', ew] at hh ⊢)
      all_goals first
        | (refine Ob.mk ?_; first | omega | (simp only []; omega))
        | (exfalso; omega)
        | ((refine RetN.q () [] ?_ ?_ ?_ <;> (repeat' ((conv => whnf) <;> first | exact rfl | exact trivial | apply And.intro | exact Nat.zero_add _)); all_goals ((conv => whnf); try simp only []))
           have hf := may_no4 (p := p) (c := c) k (by
             rintro ⟨_, _, _, h4, _⟩
             rw [hl0, hgo, hstep (by omega)] at h4
             simp only [Bool.and_eq_true, decide_eq_true_eq] at h4
             omega)
           first | exact hf | exact hf.symm)
        | (have e : i = c.2.2.2.length := by omega
           (refine RetN.q () [] ?_ ?_ ?_ <;> (repeat' ((conv => whnf) <;> first | exact rfl | exact trivial | apply And.intro | exact Nat.zero_add _)); all_goals ((conv => whnf); try simp only []))
           have hg1 : mayHGo c.1 p.2.1 (max (-1) (c.1 - p.2.2.1)) c.2.2.2 = true := by rw [hl0, hgo, e, List.drop_length]; rfl
           rw [Bool.eq_iff_iff, may4 k, decide_eq_true_eq]
           rw [e, List.take_length]
           constructor
           · intro h
             exact ⟨hp, ht2, hlv, List.length_eq_zero_iff.1 (by omega), hg1, h⟩
           · intro g
             exact g.sum)
        | (have hi2 : i < c.2.2.2.length := by omega
           have q3 := hstep hi2
           have hh2 := hst hi2
           simp only [hx', ew] at *
           rw [decide_eq_true (by omega), decide_eq_true (by omega), decide_eq_true (by omega), decide_eq_true (by omega), Bool.and_self, Bool.and_self, Bool.and_self, Bool.true_and] at q3
           refine ⟨i + 1, [0, 1], ⟨rfl, rfl, ?_, ?_⟩, ⟨hi2, hgo.trans q3, by omega, by omega, by omega⟩, by omega⟩
           · (repeat' ((conv => whnf) <;> first | exact rfl | exact trivial | apply And.intro | exact Nat.zero_add _))
           · (repeat' ((conv => whnf) <;> first | exact rfl | exact trivial | apply And.intro | exact Nat.zero_add _)); all_goals ((conv => whnf); try simp only [])
             · exact wr (by omega)
             · rw [hh2]
               exact wr (by omega))
end Go.Proofs.YtkcifdblaboodaaGreat.Ce
set_option linter.unusedVariables false
set_option linter.unusedSimpArgs false
namespace Go.Proofs.YtkcifdblaboodaaGreat.Ce
open Go Go.RowKit Fw Hi Po
theorem r12num (p : Pol) (t : Int) (hp : PolOk p) (k : p.1 = 3) (ht : 0 ≤ t ∧ t ≤ 2199023255552) : Meets Tryz.prog 58 [polAV p, .int .i64 fun _ => t] [] (Y := Unit) (fun _ => True) (fun _ => .int .i64 fun _ => numR p t) (fun _ => []) := by
  have hB := ring_B hp k
  have hW := hp.window
  have hs := slot_bound hp
  have es : slotOf p = p.2.2.1.tdiv p.2.2.2 := by unfold slotOf; rw [if_pos k]
  have e1 : IntKind.i64.wrap (p.2.2.1.tdiv p.2.2.2) = slotOf p := by rw [← es]; exact wr (by omega)
  have hn := numR_pos hp ht.1
  have hn2 := numR_le hp ht.1
  have e2 : IntKind.i64.wrap (t.tdiv (slotOf p)) = numR p t := wr (by unfold numR at hn hn2; omega)
  refine Meets.intro hm (fn := Tryz.f58) Tryz.func58 rfl (by decide) (Nat.le_of_ble_eq_true rfl) (fun _ => rfl) ?_; intro S hok; (conv => whnf)
  (repeat' ((conv => whnf); first | apply And.intro | exact ⟨by kernel_rfl⟩ | apply DrawN.mk | apply CodeN.step hm rfl | exact trivial | exact rfl | (intro hh; try simp only [bs] at hh))); all_goals (conv => whnf)
  all_goals (try simp only [e1, e2] at hh ⊢)
  all_goals first | (refine Ob.mk ?_; first | omega | (simp only []; omega)) | skip
  (refine RetN.q () [] ?_ ?_ ?_ <;> (repeat' ((conv => whnf) <;> first | exact rfl | exact trivial | apply And.intro | exact Nat.zero_add _)); all_goals ((conv => whnf); try simp only []))
  all_goals (try simp only [e1, e2])
theorem r12may (p : Pol) (c : Cell) (k : p.1 = 3) (hl : c.2.2.1.length ≤ 40) : Meets Tryz.prog 28 [polAV p, cellAV c] [] (Y := Unit) (fun _ => True) (fun _ => .bool fun _ => mayC p c) (fun _ => []) := by
  have MC := rcheckM p
  by_cases hp : PolOk p
  rotate_left
  · rw [if_neg hp] at MC
    have hf := not_may hp c
    refine Meets.intro hm (fn := Tryz.f28) Tryz.func28 rfl (by decide) (Nat.le_of_ble_eq_true rfl) (fun _ => rfl) ?_; intro S hok; (conv => whnf)
    (repeat' ((conv => whnf); first | apply And.intro | exact ⟨by kernel_rfl⟩ | apply DrawN.mk | apply CodeN.step hm rfl | exact trivial | exact rfl | (intro hh; try simp only [bs] at hh))); all_goals (conv => whnf)
    (refine CallN.q MC [] (fun _ _ => ?_); (repeat' ((conv => whnf); first | apply And.intro | exact ⟨by kernel_rfl⟩ | apply DrawN.mk | apply CodeN.step hm rfl | exact trivial | exact rfl | (intro hh; try simp only [bs] at hh; try exact absurd hh (by decide)))); all_goals (conv => whnf); all_goals try exact ⟨by decide⟩)
    all_goals
      (refine RetN.q () [] ?_ ?_ ?_ <;> (repeat' ((conv => whnf) <;> first | exact rfl | exact trivial | apply And.intro | exact Nat.zero_add _)); all_goals ((conv => whnf); try simp only []))
      exact hf
  · rw [if_pos hp] at MC
    have hL := hp.limit
    have hW := hp.window
    have hB := ring_B hp k
    have htb : timeB c.1 = true ↔ 0 ≤ c.1 ∧ c.1 ≤ 1099511627776 := timeB_iff
    refine Meets.intro hm (fn := Tryz.f28) Tryz.func28 rfl (by decide) (Nat.le_of_ble_eq_true rfl) (fun _ => rfl) ?_; intro S hok; (conv => whnf)
    (repeat' ((conv => whnf); first | apply And.intro | exact ⟨by kernel_rfl⟩ | apply DrawN.mk | apply CodeN.step hm rfl | exact trivial | exact rfl | (intro hh; try simp only [bs] at hh))); all_goals (conv => whnf)
    (refine CallN.q MC [] (fun _ _ => ?_); (repeat' ((conv => whnf); first | apply And.intro | exact ⟨by kernel_rfl⟩ | apply DrawN.mk | apply CodeN.step hm rfl | exact trivial | exact rfl | (intro hh; try simp only [bs] at hh; try exact absurd hh (by decide)))); all_goals (conv => whnf); all_goals try exact ⟨by decide⟩)
    all_goals first | (exfalso; exact hh k) | skip
    all_goals
      (refine CallN.q (ttimeM c.1) [] (fun _ _ => ?_); (repeat' ((conv => whnf); first | apply And.intro | exact ⟨by kernel_rfl⟩ | apply DrawN.mk | apply CodeN.step hm rfl | exact trivial | exact rfl | (intro hh; try simp only [bs] at hh; try exact absurd hh (by decide)))); all_goals (conv => whnf); all_goals try exact ⟨by decide⟩)
    all_goals first
      | ((refine RetN.q () [] ?_ ?_ ?_ <;> (repeat' ((conv => whnf) <;> first | exact rfl | exact trivial | apply And.intro | exact Nat.zero_add _)); all_goals ((conv => whnf); try simp only []))
         have hf := may_no3 (p := p) (c := c) k (by
           rintro ⟨h1, h2, h3, h4⟩
           first
             | omega
             | (rw [h1] at hh; cases hh))
         first | exact hf | exact hf.symm)
      | skip
    all_goals
      have ht : timeB c.1 = true := by assumption
      have ht2 := htb.1 ht
      have hlv : c.2.1 = 0 := by assumption
      have hhl : c.2.2.2 = [] := List.length_eq_zero_iff.1 (by omega)
      have hln : c.2.2.1 = [] ∨ (c.2.2.1.length : Int) = p.2.2.2 := by first | exact .inl (List.length_eq_zero_iff.1 (by omega)) | exact .inr (by omega)
      refine LoopN.intro hm (X := Nat) (fun i => i ≤ c.2.2.1.length ∧ (∀ j : Nat, j < i → (0 ≤ c.2.2.1.getD j 0 ∧ c.2.2.1.getD j 0 ≤ p.2.1) ∧ (0 < c.2.2.1.getD j 0 → (j : Int) ≤ numR p c.1))) (fun i => c.2.2.1.length - i)
        (fun i => [(6, .int .i64 fun _ => (i : Int)), (5, .int .i64 fun _ => (c.2.2.1.take i).sum), (3, .ptr 1 0), (2, .ptr 0 0)])
        (fun i => [.cells 23 [.int .i64 fun _ => p.1, .int .i64 fun _ => p.2.1, .int .i64 fun _ => p.2.2.1, .int .i64 fun _ => p.2.2.2], .cells 27 [.int .i64 fun _ => c.1, .int .i64 fun _ => c.2.1, .lst (.int .i64) fun _ => c.2.2.1, .lst HitT fun _ => c.2.2.2]]) 0 [0, 1] ⟨rfl, rfl, ?_, ?_⟩ ⟨Nat.zero_le _, fun j hj => absurd hj (Nat.not_lt_zero _)⟩ (fun i hi => ?_)
      · (repeat' ((conv => whnf) <;> first | exact rfl | exact trivial | apply And.intro | exact Nat.zero_add _))
      · (repeat' ((conv => whnf) <;> first | exact rfl | exact trivial | apply And.intro | exact Nat.zero_add _))
      obtain ⟨hi, hv⟩ := hi
      have hsb := Ce.sum_bound (m := 1048576) (l := c.2.2.1.take i) (fun x hx => by
        obtain ⟨j, hj⟩ := List.mem_iff_getElem?.1 hx
        rw [List.getElem?_take] at hj
        split at hj
        · rename_i hji
          have := hv j hji
          rw [List.getD_eq_getElem?_getD, hj] at this
          exact ⟨this.1.1, by have := this.1.2; simp only [Option.getD_some] at this; omega⟩
        · cases hj) (by omega)
      rw [List.length_take] at hsb
      have hst := fun h => Ce.sum_take (l := c.2.2.1) (i := i) h
      have hx' : c.2.2.1.getD (i : Int).toNat (Ty.int .i64).dflt = c.2.2.1.getD i 0 := rfl
      have hR : ∀ x, c.2.2.1.getD i 0 = x → i < c.2.2.1.length → mayC p c = true → (0 ≤ x ∧ x ≤ p.2.1) ∧ (0 < x → (i : Int) ≤ numR p c.1) := fun x hx hi2 hm1 => by
        have g := (may3 k).1 hm1
        have h1 := g.nonneg i
        rw [hx] at h1
        refine ⟨h1, fun h0 => ?_⟩
        by_cases hq : (i : Int) ≤ numR p c.1
        · exact hq
        · have := g.early i (by omega)
          omega
      have hv2 : ∀ x, c.2.2.1.getD i 0 = x → (0 ≤ x ∧ x ≤ p.2.1) → (0 < x → (i : Int) ≤ numR p c.1) → ∀ j : Nat, j < i + 1 → (0 ≤ c.2.2.1.getD j 0 ∧ c.2.2.1.getD j 0 ≤ p.2.1) ∧ (0 < c.2.2.1.getD j 0 → (j : Int) ≤ numR p c.1) := fun x hx h1 h2 j hj => by
        by_cases e : j = i
        · subst e; rw [hx]; exact ⟨h1, h2⟩
        · exact hv j (by omega)
      generalize hx : c.2.2.1.getD i 0 = x at *
      (repeat' ((conv => whnf); first | apply And.intro | exact ⟨by kernel_rfl⟩ | apply DrawN.mk | apply CodeN.step hm rfl | exact trivial | exact rfl | (intro hh; try simp only [bs] at hh))); all_goals (conv => whnf)
      all_goals (try simp only [hx'] at *)
      all_goals first | (refine Ob.mk ?_; first | omega | (simp only []; omega)) | skip
      all_goals first
        | ((refine CallN.q (r12num p c.1 hp k (by omega)) [] (fun _ _ => ?_); (repeat' ((conv => whnf); first | apply And.intro | exact ⟨by kernel_rfl⟩ | apply DrawN.mk | apply CodeN.step hm rfl | exact trivial | exact rfl | (intro hh; try simp only [bs] at hh; try exact absurd hh (by decide)))); all_goals (conv => whnf); all_goals try exact ⟨by decide⟩))
        | skip
      all_goals first | (refine Ob.mk ?_; first | omega | (simp only []; omega)) | skip
      all_goals (try simp only [hx'] at *)
      all_goals first
        | ((refine RetN.q () [] ?_ ?_ ?_ <;> (repeat' ((conv => whnf) <;> first | exact rfl | exact trivial | apply And.intro | exact Nat.zero_add _)); all_goals ((conv => whnf); try simp only []))
           first
             | (refine Bool.eq_false_iff.2 fun hm1 => ?_
                have := hR x rfl (by omega) hm1
                omega)
             | (refine (Bool.eq_false_iff.2 fun hm1 => ?_).symm
                have := hR x rfl (by omega) hm1
                omega)
             | (have e : i = c.2.2.1.length := by omega
                rw [Bool.eq_iff_iff, may3 k, decide_eq_true_eq, e, List.take_length]
                rw [e] at hv
                constructor
                · intro h
                  refine ⟨hp, ht2, hlv, hhl, hln, fun y hy => ?_, h, fun j hj => ?_⟩
                  · obtain ⟨j, hj⟩ := List.mem_iff_getElem?.1 hy
                    have hj2 := (List.getElem?_eq_some_iff.1 hj).1
                    have := (hv j hj2).1
                    rw [List.getD_eq_getElem?_getD, hj] at this
                    exact this
                  · by_cases hj2 : j < c.2.2.1.length
                    · have := hv j hj2
                      omega
                    · rw [List.getD_eq_getElem?_getD, List.getElem?_eq_none (by omega)]; rfl
                · intro g
                  exact g.sum))
        | (have hi2 : i < c.2.2.1.length := by omega
           have hh2 := hst hi2
           refine ⟨i + 1, [0, 1], ⟨rfl, rfl, ?_, ?_⟩, ⟨hi2, hv2 x rfl (by omega) (by omega)⟩, by omega⟩
           · (repeat' ((conv => whnf) <;> first | exact rfl | exact trivial | apply And.intro | exact Nat.zero_add _))
           · (repeat' ((conv => whnf) <;> first | exact rfl | exact trivial | apply And.intro | exact Nat.zero_add _)); all_goals ((conv => whnf); try simp only [])
             · exact wr (by omega)
             · rw [hh2]
               first
                 | exact wr (by omega)
                 | (show IntKind.i64.wrap ((c.2.2.1.take i).sum + c.2.2.1.getD i 0) = _
                    rw [hx]
                    exact wr (by omega)))
        | skip
theorem r14may (p : Pol) (c : Cell) (hc : -9223372036854775808 ≤ c.2.1 ∧ c.2.1 ≤ 9223372036854775807) (h1 : c.2.2.1.length ≤ 40) (h2 : c.2.2.2.length ≤ 40) : Meets Tryz.prog 11 [polAV p, cellAV c] [] (Y := Unit) (fun _ => True) (fun _ => .bool fun _ => mayC p c) (fun _ => []) := by
  by_cases k1 : p.1 = 1
  · refine Meets.intro hm (fn := Tryz.f11) Tryz.func11 rfl (by decide) (Nat.le_of_ble_eq_true rfl) (fun _ => rfl) ?_; intro S hok; (conv => whnf)
    (repeat' ((conv => whnf); first | apply And.intro | exact ⟨by kernel_rfl⟩ | apply DrawN.mk | apply CodeN.step hm rfl | exact trivial | exact rfl | (intro hh; try simp only [bs] at hh))); all_goals (conv => whnf)
    all_goals first | (exfalso; omega) | skip
    (refine CallN.q (r10may p c k1 hc) [] (fun _ _ => ?_); (repeat' ((conv => whnf); first | apply And.intro | exact ⟨by kernel_rfl⟩ | apply DrawN.mk | apply CodeN.step hm rfl | exact trivial | exact rfl | (intro hh; try simp only [bs] at hh; try exact absurd hh (by decide)))); all_goals (conv => whnf); all_goals try exact ⟨by decide⟩)
    (refine RetN.q () [] ?_ ?_ ?_ <;> (repeat' ((conv => whnf) <;> first | exact rfl | exact trivial | apply And.intro | exact Nat.zero_add _)); all_goals ((conv => whnf); try simp only []))
  by_cases k2 : p.1 = 2
  · refine Meets.intro hm (fn := Tryz.f11) Tryz.func11 rfl (by decide) (Nat.le_of_ble_eq_true rfl) (fun _ => rfl) ?_; intro S hok; (conv => whnf)
    (repeat' ((conv => whnf); first | apply And.intro | exact ⟨by kernel_rfl⟩ | apply DrawN.mk | apply CodeN.step hm rfl | exact trivial | exact rfl | (intro hh; try simp only [bs] at hh))); all_goals (conv => whnf)
    all_goals first | (exfalso; omega) | skip
    (refine CallN.q (r11may p c k2) [] (fun _ _ => ?_); (repeat' ((conv => whnf); first | apply And.intro | exact ⟨by kernel_rfl⟩ | apply DrawN.mk | apply CodeN.step hm rfl | exact trivial | exact rfl | (intro hh; try simp only [bs] at hh; try exact absurd hh (by decide)))); all_goals (conv => whnf); all_goals try exact ⟨by decide⟩)
    (refine RetN.q () [] ?_ ?_ ?_ <;> (repeat' ((conv => whnf) <;> first | exact rfl | exact trivial | apply And.intro | exact Nat.zero_add _)); all_goals ((conv => whnf); try simp only []))
  by_cases k3 : p.1 = 3
  · refine Meets.intro hm (fn := Tryz.f11) Tryz.func11 rfl (by decide) (Nat.le_of_ble_eq_true rfl) (fun _ => rfl) ?_; intro S hok; (conv => whnf)
    (repeat' ((conv => whnf); first | apply And.intro | exact ⟨by kernel_rfl⟩ | apply DrawN.mk | apply CodeN.step hm rfl | exact trivial | exact rfl | (intro hh; try simp only [bs] at hh))); all_goals (conv => whnf)
    all_goals first | (exfalso; omega) | skip
    (refine CallN.q (r12may p c k3 h1) [] (fun _ _ => ?_); (repeat' ((conv => whnf); first | apply And.intro | exact ⟨by kernel_rfl⟩ | apply DrawN.mk | apply CodeN.step hm rfl | exact trivial | exact rfl | (intro hh; try simp only [bs] at hh; try exact absurd hh (by decide)))); all_goals (conv => whnf); all_goals try exact ⟨by decide⟩)
    (refine RetN.q () [] ?_ ?_ ?_ <;> (repeat' ((conv => whnf) <;> first | exact rfl | exact trivial | apply And.intro | exact Nat.zero_add _)); all_goals ((conv => whnf); try simp only []))
  by_cases k4 : p.1 = 4
  · refine Meets.intro hm (fn := Tryz.f11) Tryz.func11 rfl (by decide) (Nat.le_of_ble_eq_true rfl) (fun _ => rfl) ?_; intro S hok; (conv => whnf)
    (repeat' ((conv => whnf); first | apply And.intro | exact ⟨by kernel_rfl⟩ | apply DrawN.mk | apply CodeN.step hm rfl | exact trivial | exact rfl | (intro hh; try simp only [bs] at hh))); all_goals (conv => whnf)
    all_goals first | (exfalso; omega) | skip
    (refine CallN.q (r13may p c k4 h2) [] (fun _ _ => ?_); (repeat' ((conv => whnf); first | apply And.intro | exact ⟨by kernel_rfl⟩ | apply DrawN.mk | apply CodeN.step hm rfl | exact trivial | exact rfl | (intro hh; try simp only [bs] at hh; try exact absurd hh (by decide)))); all_goals (conv => whnf); all_goals try exact ⟨by decide⟩)
    (refine RetN.q () [] ?_ ?_ ?_ <;> (repeat' ((conv => whnf) <;> first | exact rfl | exact trivial | apply And.intro | exact Nat.zero_add _)); all_goals ((conv => whnf); try simp only []))
  have hmf : mayC p c = false := not_may (fun hp => by have := kind_of hp; omega) c
  refine Meets.intro hm (fn := Tryz.f11) Tryz.func11 rfl (by decide) (Nat.le_of_ble_eq_true rfl) (fun _ => rfl) ?_; intro S hok; (conv => whnf)
  (repeat' ((conv => whnf); first | apply And.intro | exact ⟨by kernel_rfl⟩ | apply DrawN.mk | apply CodeN.step hm rfl | exact trivial | exact rfl | (intro hh; try simp only [bs] at hh))); all_goals (conv => whnf)
  all_goals first | (exfalso; omega) | skip
  (refine RetN.q () [] ?_ ?_ ?_ <;> (repeat' ((conv => whnf) <;> first | exact rfl | exact trivial | apply And.intro | exact Nat.zero_add _)); all_goals ((conv => whnf); try simp only []))
  exact hmf
theorem few_len {c : Cell} (h : fewB c = true) : c.2.2.1.length ≤ 40 ∧ c.2.2.2.length ≤ 40 := by
  unfold fewB at h
  rw [Bool.and_eq_true, decide_eq_true_eq, decide_eq_true_eq] at h
  omega
end Go.Proofs.YtkcifdblaboodaaGreat.Ce
set_option linter.unusedVariables false
set_option linter.unusedSimpArgs false
namespace Go.Proofs.YtkcifdblaboodaaGreat.Ce
open Go Go.RowKit Fw Hi Po
theorem up_tdiv {a b : Int} (ha : 0 < a) (hb : 1 ≤ b) : (a + b - 1).tdiv b = up a b := by
  rw [Int.tdiv_eq_ediv_of_nonneg (by omega)]
  unfold up
  have h1 := Int.emod_add_mul_ediv a b
  have h2 := Int.emod_nonneg a (b := b) (by omega)
  have h3 := Int.emod_lt_of_pos a (b := b) (by omega)
  by_cases h : a % b = 0
  · rw [h, show min (0 : Int) 1 = 0 by decide, Int.add_zero]
    have e : a + b - 1 = (b - 1) + b * (a / b) := by omega
    rw [e, Int.add_mul_ediv_left _ _ (by omega), Int.ediv_eq_zero_of_lt (by omega) (by omega), Int.zero_add]
  · rw [Int.min_eq_right (by omega)]
    have e : a + b - 1 = (a % b - 1) + b * (a / b + 1) := by rw [Int.mul_add]; omega
    rw [e, Int.add_mul_ediv_left _ _ (by omega), Int.ediv_eq_zero_of_lt (by omega) (by omega), Int.zero_add]
theorem up_zero (b : Int) : up 0 b = 0 := by unfold up; rw [Int.zero_ediv, Int.zero_emod]; rfl
theorem r10up (a b : Int) (ha : 0 ≤ a ∧ a ≤ 4611686018427387904) (hb : 1 ≤ b ∧ b ≤ 1048576) : Meets Tryz.prog 56 [.int .i64 fun _ => a, .int .i64 fun _ => b] [] (Y := Unit) (fun _ => True) (fun _ => .int .i64 fun _ => up a b) (fun _ => []) := by
  have hu := up_spec (a := a) (b := b) ha.1 (by omega)
  have e1 : IntKind.i64.wrap (a + b) = a + b := wr (by omega)
  have e2 : IntKind.i64.wrap (a + b - 1) = a + b - 1 := wr (by omega)
  have hu2 : up a b ≤ a := by
    rcases Int.lt_or_le 0 (up a b) with h | h
    · have := hu.2.2 h
      have h2 : 1 * (up a b - 1) ≤ b * (up a b - 1) := Int.mul_le_mul_of_nonneg_right (by omega) (by omega)
      omega
    · omega
  refine Meets.intro hm (fn := Tryz.f56) Tryz.func56 rfl (by decide) (Nat.le_of_ble_eq_true rfl) (fun _ => rfl) ?_; intro S hok; (conv => whnf)
  (repeat' ((conv => whnf); first | apply And.intro | exact ⟨by kernel_rfl⟩ | apply DrawN.mk | apply CodeN.step hm rfl | exact trivial | exact rfl | (intro hh; try simp only [bs] at hh))); all_goals (conv => whnf)
  all_goals (try simp only [e1, e2] at hh ⊢)
  all_goals first | (refine Ob.mk ?_; first | omega | (simp only []; omega)) | skip
  · (refine RetN.q () [] ?_ ?_ ?_ <;> (repeat' ((conv => whnf) <;> first | exact rfl | exact trivial | apply And.intro | exact Nat.zero_add _)); all_goals ((conv => whnf); try simp only []))
    have : a = 0 := by omega
    rw [this, up_zero]
  · (refine RetN.q () [] ?_ ?_ ?_ <;> (repeat' ((conv => whnf) <;> first | exact rfl | exact trivial | apply And.intro | exact Nat.zero_add _)); all_goals ((conv => whnf); try simp only []))
    all_goals (try simp only [e1, e2])
    rw [up_tdiv (by omega) hb.1]
    exact wr (by omega)
theorem r10level (p : Pol) (c : Cell) (t : Int) (k : p.1 = 1) (hv : mayC p c = true) (ht : c.1 ≤ t ∧ t ≤ 1099511627776) : Meets Tryz.prog 55 [polAV p, cellAV c, .int .i64 fun _ => t] [] (Y := Unit) (fun _ => True) (fun _ => .int .i64 fun _ => cnt p c t) (fun _ => []) := by
  obtain ⟨hp, hct⟩ := may_pol hv
  have M1 := r10may p c k (may_level hv)
  rw [hv] at M1
  have M2 := ttimeM t
  rw [timeB_iff.2 ⟨by omega, ht.2⟩] at M2
  have hL := hp.limit
  have g := (may1 k).1 hv
  have hW := hp.window
  have hLW : p.2.1 * p.2.2.1 ≤ 1048576 * 1048576 := Int.mul_le_mul hL.2 hW.2 (by omega) (by omega)
  have ec : cnt p c t = max 0 (c.2.1 - p.2.1 * (t - c.1)) := by unfold cnt; rw [if_pos k]
  have hx0 : 0 ≤ (t - c.1) * p.2.1 := Int.mul_nonneg (by omega) (by omega)
  have hx1 : (t - c.1) * p.2.1 ≤ 1099511627776 * 1048576 := Int.mul_le_mul (by omega) hL.2 (by omega) (by omega)
  have e1 : IntKind.i64.wrap (t - c.1) = t - c.1 := wr (by omega)
  have e2 : IntKind.i64.wrap ((t - c.1) * p.2.1) = (t - c.1) * p.2.1 := wr (by omega)
  have e3 : IntKind.i64.wrap (c.2.1 - (t - c.1) * p.2.1) = c.2.1 - (t - c.1) * p.2.1 := wr (by omega)
  rw [Int.mul_comm] at ec
  refine Meets.intro hm (fn := Tryz.f55) Tryz.func55 rfl (by decide) (Nat.le_of_ble_eq_true rfl) (fun _ => rfl) ?_; intro S hok; (conv => whnf)
  (repeat' ((conv => whnf); first | apply And.intro | exact ⟨by kernel_rfl⟩ | apply DrawN.mk | apply CodeN.step hm rfl | exact trivial | exact rfl | (intro hh; try simp only [bs] at hh))); all_goals (conv => whnf)
  (refine CallN.q M1 [] (fun _ _ => ?_); (repeat' ((conv => whnf); first | apply And.intro | exact ⟨by kernel_rfl⟩ | apply DrawN.mk | apply CodeN.step hm rfl | exact trivial | exact rfl | (intro hh; try simp only [bs] at hh; try exact absurd hh (by decide)))); all_goals (conv => whnf); all_goals try exact ⟨by decide⟩)
  (refine CallN.q M2 [] (fun _ _ => ?_); (repeat' ((conv => whnf); first | apply And.intro | exact ⟨by kernel_rfl⟩ | apply DrawN.mk | apply CodeN.step hm rfl | exact trivial | exact rfl | (intro hh; try simp only [bs] at hh; try exact absurd hh (by decide)))); all_goals (conv => whnf); all_goals try exact ⟨by decide⟩)
  all_goals (try simp only [e1, e2, e3] at hh ⊢)
  all_goals
    (refine RetN.q () [] ?_ ?_ ?_ <;> (repeat' ((conv => whnf) <;> first | exact rfl | exact trivial | apply And.intro | exact Nat.zero_add _)); all_goals ((conv => whnf); try simp only []))
    all_goals (try simp only [e1, e2, e3])
    rw [ec]
  · have : t = c.1 := by omega
    rw [this, Int.sub_self, Int.zero_mul]; omega
  · split <;> omega
set_option maxHeartbeats 4000000 in
set_option maxRecDepth 4000 in
theorem r10ask (p : Pol) (c : Cell) (t w : Int) (k : p.1 = 1) (hc : -9223372036854775808 ≤ c.2.1 ∧ c.2.1 ≤ 9223372036854775807) : Meets Tryz.prog 22 [polAV p, cellAV c, .int .i64 fun _ => t, .int .i64 fun _ => w] [] (Y := Unit) (fun _ => True) (fun _ => .tup [cellAV (askC p c t w).1, verAV (askC p c t w).2]) (fun _ => []) := by
  by_cases hv : mayC p c = true ∧ timeB t = true ∧ weighs w = true
  · obtain ⟨h1, h2, h3⟩ := hv
    have M1 := r10may p c k hc
    have M2 := ttimeM t
    have M3 := rweighsM w
    rw [h1] at M1
    rw [h2] at M2
    rw [h3] at M3
    have ht : 0 ≤ t ∧ t ≤ 1099511627776 := by simpa [timeB] using h2
    have hw : 1 ≤ w ∧ w ≤ 1048576 := by simpa [weighs] using h3
    obtain ⟨hp, hct⟩ := may_pol h1
    have hL := hp.limit
    have hW := hp.window
    have hmx : (if c.1 > t then c.1 else t) = max t c.1 := by split <;> omega
    have hn := cnt_nonneg h1 (max t c.1)
    have hn2 : cnt p c (max t c.1) ≤ p.2.1 * p.2.2.1 := by
      have := own_le (moved_may h1 (t := max t c.1) (by omega) (by omega))
      unfold moved own worth at this
      simpa only [if_pos k, if_pos (show p.1 = 1 ∨ p.1 = 2 from .inl k)] using this.2
    have hLW : p.2.1 * p.2.2.1 ≤ 1048576 * 1048576 := Int.mul_le_mul hL.2 hW.2 (by omega) (by omega)
    have hww : 0 ≤ w * p.2.2.1 ∧ w * p.2.2.1 ≤ 1048576 * 1048576 := ⟨Int.mul_nonneg (by omega) (by omega), Int.mul_le_mul hw.2 hW.2 (by omega) (by omega)⟩
    have ha := ask1 k h1 h2 h3
    have ML := r10level p c (max t c.1) k h1 (by omega)
    generalize hT : max t c.1 = T at *
    generalize hn0 : cnt p c T = n at *
    have e1 : IntKind.i64.wrap (p.2.1 * p.2.2.1) = p.2.1 * p.2.2.1 := wr (by omega)
    have e2 : IntKind.i64.wrap (w * p.2.2.1) = w * p.2.2.1 := wr (by omega)
    have e3 : IntKind.i64.wrap (n + w * p.2.2.1) = n + w * p.2.2.1 := wr (by omega)
    have e4 : IntKind.i64.wrap (n + w * p.2.2.1 - p.2.1 * p.2.2.1) = n + w * p.2.2.1 - p.2.1 * p.2.2.1 := wr (by omega)
    have hmin : (p.2.1 - w) * p.2.2.1 = p.2.1 * p.2.2.1 - w * p.2.2.1 := Int.sub_mul ..
    have hdiv : ∀ x : Int, 0 ≤ x → x ≤ 1099511627776 → IntKind.i64.wrap ((IntKind.i64.wrap x).tdiv p.2.2.1) = x.tdiv p.2.2.1 := fun x h1 h2 => by
      have h3 : 0 ≤ x.tdiv p.2.2.1 := Int.tdiv_nonneg h1 (by omega)
      have h4 : x.tdiv p.2.2.1 ≤ x := by rw [Int.tdiv_eq_ediv_of_nonneg h1]; exact Int.ediv_le_self _ h1
      rw [wr (x := x) (by omega), wr (x := x.tdiv p.2.2.1) (by omega)]
    by_cases hcc : n + w * p.2.2.1 ≤ p.2.1 * p.2.2.1
    · rw [if_pos hcc] at ha
      have hd := hdiv (p.2.1 * p.2.2.1 - (n + w * p.2.2.1)) (by omega) (by omega)
      refine Meets.intro hm (fn := Tryz.f22) Tryz.func22 rfl (by decide) (Nat.le_of_ble_eq_true rfl) (fun _ => rfl) ?_; intro S hok; (conv => whnf)
      (repeat' ((conv => whnf); first | apply And.intro | exact ⟨by kernel_rfl⟩ | apply DrawN.mk | apply CodeN.step hm rfl | exact trivial | exact rfl | (intro hh; try simp only [bs] at hh))); all_goals (conv => whnf)
      (refine CallN.q M1 [] (fun _ _ => ?_); (repeat' ((conv => whnf); first | apply And.intro | exact ⟨by kernel_rfl⟩ | apply DrawN.mk | apply CodeN.step hm rfl | exact trivial | exact rfl | (intro hh; try simp only [bs] at hh; try exact absurd hh (by decide)))); all_goals (conv => whnf); all_goals try exact ⟨by decide⟩)
      (refine CallN.q M2 [] (fun _ _ => ?_); (repeat' ((conv => whnf); first | apply And.intro | exact ⟨by kernel_rfl⟩ | apply DrawN.mk | apply CodeN.step hm rfl | exact trivial | exact rfl | (intro hh; try simp only [bs] at hh; try exact absurd hh (by decide)))); all_goals (conv => whnf); all_goals try exact ⟨by decide⟩)
      (refine CallN.q M3 [] (fun _ _ => ?_); (repeat' ((conv => whnf); first | apply And.intro | exact ⟨by kernel_rfl⟩ | apply DrawN.mk | apply CodeN.step hm rfl | exact trivial | exact rfl | (intro hh; try simp only [bs] at hh; try exact absurd hh (by decide)))); all_goals (conv => whnf); all_goals try exact ⟨by decide⟩)
      simp only [hmx]
      (refine CallN.q ML [] (fun _ _ => ?_); (repeat' ((conv => whnf); first | apply And.intro | exact ⟨by kernel_rfl⟩ | apply DrawN.mk | apply CodeN.step hm rfl | exact trivial | exact rfl | (intro hh; try simp only [bs] at hh; try exact absurd hh (by decide)))); all_goals (conv => whnf); all_goals try exact ⟨by decide⟩)
      all_goals (try simp only [e1, e2, e3, e4, hd] at hh ⊢)
      all_goals first | (exfalso; omega) | (exfalso; simp only [e1, e2, e3] at *; omega) | skip
      · refine Ob.mk ?_
        first | omega | (simp only []; omega)
      (refine CallN.q (r10up (n + w * p.2.2.1) p.2.1 (by omega) (by omega)) [] (fun _ _ => ?_); (repeat' ((conv => whnf); first | apply And.intro | exact ⟨by kernel_rfl⟩ | apply DrawN.mk | apply CodeN.step hm rfl | exact trivial | exact rfl | (intro hh; try simp only [bs] at hh; try exact absurd hh (by decide)))); all_goals (conv => whnf); all_goals try exact ⟨by decide⟩)
      all_goals (try simp only [e1, e2, e3, e4, hd])
      rw [ha]
      (refine RetN.q () [] ?_ ?_ ?_ <;> (repeat' ((conv => whnf) <;> first | exact rfl | exact trivial | apply And.intro | exact Nat.zero_add _)); all_goals ((conv => whnf); try simp only []))
      all_goals first | done | rfl | exact decide_eq_true hcc | skip
    · rw [if_neg hcc] at ha
      have hd := hdiv (p.2.1 * p.2.2.1 - n) (by omega) (by omega)
      by_cases hlt : p.2.1 < w
      · rw [if_pos hlt] at ha
        refine Meets.intro hm (fn := Tryz.f22) Tryz.func22 rfl (by decide) (Nat.le_of_ble_eq_true rfl) (fun _ => rfl) ?_; intro S hok; (conv => whnf)
        (repeat' ((conv => whnf); first | apply And.intro | exact ⟨by kernel_rfl⟩ | apply DrawN.mk | apply CodeN.step hm rfl | exact trivial | exact rfl | (intro hh; try simp only [bs] at hh))); all_goals (conv => whnf)
        (refine CallN.q M1 [] (fun _ _ => ?_); (repeat' ((conv => whnf); first | apply And.intro | exact ⟨by kernel_rfl⟩ | apply DrawN.mk | apply CodeN.step hm rfl | exact trivial | exact rfl | (intro hh; try simp only [bs] at hh; try exact absurd hh (by decide)))); all_goals (conv => whnf); all_goals try exact ⟨by decide⟩)
        (refine CallN.q M2 [] (fun _ _ => ?_); (repeat' ((conv => whnf); first | apply And.intro | exact ⟨by kernel_rfl⟩ | apply DrawN.mk | apply CodeN.step hm rfl | exact trivial | exact rfl | (intro hh; try simp only [bs] at hh; try exact absurd hh (by decide)))); all_goals (conv => whnf); all_goals try exact ⟨by decide⟩)
        (refine CallN.q M3 [] (fun _ _ => ?_); (repeat' ((conv => whnf); first | apply And.intro | exact ⟨by kernel_rfl⟩ | apply DrawN.mk | apply CodeN.step hm rfl | exact trivial | exact rfl | (intro hh; try simp only [bs] at hh; try exact absurd hh (by decide)))); all_goals (conv => whnf); all_goals try exact ⟨by decide⟩)
        simp only [hmx]
        (refine CallN.q ML [] (fun _ _ => ?_); (repeat' ((conv => whnf); first | apply And.intro | exact ⟨by kernel_rfl⟩ | apply DrawN.mk | apply CodeN.step hm rfl | exact trivial | exact rfl | (intro hh; try simp only [bs] at hh; try exact absurd hh (by decide)))); all_goals (conv => whnf); all_goals try exact ⟨by decide⟩)
        all_goals (try simp only [e1, e2, e3, e4, hd] at hh ⊢)
        all_goals first | (exfalso; omega) | (exfalso; simp only [e1, e2, e3] at *; omega) | skip
        · refine Ob.mk ?_
          first | omega | (simp only []; omega)
        (refine CallN.q (r10up n p.2.1 (by omega) (by omega)) [] (fun _ _ => ?_); (repeat' ((conv => whnf); first | apply And.intro | exact ⟨by kernel_rfl⟩ | apply DrawN.mk | apply CodeN.step hm rfl | exact trivial | exact rfl | (intro hh; try simp only [bs] at hh; try exact absurd hh (by decide)))); all_goals (conv => whnf); all_goals try exact ⟨by decide⟩)
        all_goals (try simp only [e1, e2, e3, e4, hd])
        rw [ha]
        (refine RetN.q () [] ?_ ?_ ?_ <;> (repeat' ((conv => whnf) <;> first | exact rfl | exact trivial | apply And.intro | exact Nat.zero_add _)); all_goals ((conv => whnf); try simp only []))
        all_goals first | done | rfl | exact decide_eq_false hcc | skip
      · rw [if_neg hlt] at ha
        refine Meets.intro hm (fn := Tryz.f22) Tryz.func22 rfl (by decide) (Nat.le_of_ble_eq_true rfl) (fun _ => rfl) ?_; intro S hok; (conv => whnf)
        (repeat' ((conv => whnf); first | apply And.intro | exact ⟨by kernel_rfl⟩ | apply DrawN.mk | apply CodeN.step hm rfl | exact trivial | exact rfl | (intro hh; try simp only [bs] at hh))); all_goals (conv => whnf)
        (refine CallN.q M1 [] (fun _ _ => ?_); (repeat' ((conv => whnf); first | apply And.intro | exact ⟨by kernel_rfl⟩ | apply DrawN.mk | apply CodeN.step hm rfl | exact trivial | exact rfl | (intro hh; try simp only [bs] at hh; try exact absurd hh (by decide)))); all_goals (conv => whnf); all_goals try exact ⟨by decide⟩)
        (refine CallN.q M2 [] (fun _ _ => ?_); (repeat' ((conv => whnf); first | apply And.intro | exact ⟨by kernel_rfl⟩ | apply DrawN.mk | apply CodeN.step hm rfl | exact trivial | exact rfl | (intro hh; try simp only [bs] at hh; try exact absurd hh (by decide)))); all_goals (conv => whnf); all_goals try exact ⟨by decide⟩)
        (refine CallN.q M3 [] (fun _ _ => ?_); (repeat' ((conv => whnf); first | apply And.intro | exact ⟨by kernel_rfl⟩ | apply DrawN.mk | apply CodeN.step hm rfl | exact trivial | exact rfl | (intro hh; try simp only [bs] at hh; try exact absurd hh (by decide)))); all_goals (conv => whnf); all_goals try exact ⟨by decide⟩)
        simp only [hmx]
        (refine CallN.q ML [] (fun _ _ => ?_); (repeat' ((conv => whnf); first | apply And.intro | exact ⟨by kernel_rfl⟩ | apply DrawN.mk | apply CodeN.step hm rfl | exact trivial | exact rfl | (intro hh; try simp only [bs] at hh; try exact absurd hh (by decide)))); all_goals (conv => whnf); all_goals try exact ⟨by decide⟩)
        all_goals (try simp only [e1, e2, e3, e4, hd] at hh ⊢)
        all_goals first | (exfalso; omega) | (exfalso; simp only [e1, e2, e3] at *; omega) | skip
        have hlw : 0 ≤ (p.2.1 - w) * p.2.2.1 := Int.mul_nonneg (by omega) (by omega)
        (refine CallN.q (r10up (n + w * p.2.2.1 - p.2.1 * p.2.2.1) p.2.1 (by omega) (by omega)) [] (fun _ _ => ?_); (repeat' ((conv => whnf); first | apply And.intro | exact ⟨by kernel_rfl⟩ | apply DrawN.mk | apply CodeN.step hm rfl | exact trivial | exact rfl | (intro hh; try simp only [bs] at hh; try exact absurd hh (by decide)))); all_goals (conv => whnf); all_goals try exact ⟨by decide⟩)
        all_goals (try simp only [e1, e2, e3, e4, hd])
        · refine Ob.mk ?_
          first | omega | (simp only []; omega)
        (refine CallN.q (r10up n p.2.1 (by omega) (by omega)) [] (fun _ _ => ?_); (repeat' ((conv => whnf); first | apply And.intro | exact ⟨by kernel_rfl⟩ | apply DrawN.mk | apply CodeN.step hm rfl | exact trivial | exact rfl | (intro hh; try simp only [bs] at hh; try exact absurd hh (by decide)))); all_goals (conv => whnf); all_goals try exact ⟨by decide⟩)
        all_goals (try simp only [e1, e2, e3, e4, hd])
        rw [ha]
        (refine RetN.q () [] ?_ ?_ ?_ <;> (repeat' ((conv => whnf) <;> first | exact rfl | exact trivial | apply And.intro | exact Nat.zero_add _)); all_goals ((conv => whnf); try simp only []))
        all_goals first | done | rfl | exact decide_eq_false hcc | skip
  · rw [ask_bad hv]
    refine Meets.intro hm (fn := Tryz.f22) Tryz.func22 rfl (by decide) (Nat.le_of_ble_eq_true rfl) (fun _ => rfl) ?_; intro S hok; (conv => whnf)
    (repeat' ((conv => whnf); first | apply And.intro | exact ⟨by kernel_rfl⟩ | apply DrawN.mk | apply CodeN.step hm rfl | exact trivial | exact rfl | (intro hh; try simp only [bs] at hh))); all_goals (conv => whnf)
    (refine CallN.q (r10may p c k hc) [] (fun _ _ => ?_); (repeat' ((conv => whnf); first | apply And.intro | exact ⟨by kernel_rfl⟩ | apply DrawN.mk | apply CodeN.step hm rfl | exact trivial | exact rfl | (intro hh; try simp only [bs] at hh; try exact absurd hh (by decide)))); all_goals (conv => whnf); all_goals try exact ⟨by decide⟩)
    all_goals try
      (refine CallN.q (ttimeM t) [] (fun _ _ => ?_); (repeat' ((conv => whnf); first | apply And.intro | exact ⟨by kernel_rfl⟩ | apply DrawN.mk | apply CodeN.step hm rfl | exact trivial | exact rfl | (intro hh; try simp only [bs] at hh; try exact absurd hh (by decide)))); all_goals (conv => whnf); all_goals try exact ⟨by decide⟩)
    all_goals try
      (refine CallN.q (rweighsM w) [] (fun _ _ => ?_); (repeat' ((conv => whnf); first | apply And.intro | exact ⟨by kernel_rfl⟩ | apply DrawN.mk | apply CodeN.step hm rfl | exact trivial | exact rfl | (intro hh; try simp only [bs] at hh; try exact absurd hh (by decide)))); all_goals (conv => whnf); all_goals try exact ⟨by decide⟩)
    all_goals first
      | (exfalso; exact hv ⟨by assumption, by assumption, by assumption⟩)
      | ((refine RetN.q () [] ?_ ?_ ?_ <;> (repeat' ((conv => whnf) <;> first | exact rfl | exact trivial | apply And.intro | exact Nat.zero_add _)); all_goals ((conv => whnf); try simp only []))
         done)
theorem r10ends (p : Pol) (c : Cell) (k : p.1 = 1) (hc : -9223372036854775808 ≤ c.2.1 ∧ c.2.1 ≤ 9223372036854775807) : Meets Tryz.prog 30 [polAV p, cellAV c] [] (Y := Unit) (fun _ => True) (fun _ => .int .i64 fun _ => endsC p c) (fun _ => []) := by
  refine Meets.intro hm (fn := Tryz.f30) Tryz.func30 rfl (by decide) (Nat.le_of_ble_eq_true rfl) (fun _ => rfl) ?_; intro S hok; (conv => whnf)
  (repeat' ((conv => whnf); first | apply And.intro | exact ⟨by kernel_rfl⟩ | apply DrawN.mk | apply CodeN.step hm rfl | exact trivial | exact rfl | (intro hh; try simp only [bs] at hh))); all_goals (conv => whnf)
  (refine CallN.q (r10may p c k hc) [] (fun _ _ => ?_); (repeat' ((conv => whnf); first | apply And.intro | exact ⟨by kernel_rfl⟩ | apply DrawN.mk | apply CodeN.step hm rfl | exact trivial | exact rfl | (intro hh; try simp only [bs] at hh; try exact absurd hh (by decide)))); all_goals (conv => whnf); all_goals try exact ⟨by decide⟩)
  · (refine RetN.q () [] ?_ ?_ ?_ <;> (repeat' ((conv => whnf) <;> first | exact rfl | exact trivial | apply And.intro | exact Nat.zero_add _)); all_goals ((conv => whnf); try simp only []))
    unfold endsC
    rw [if_neg (by simp [*])]
  · have h1 : mayC p c = true := by assumption
    obtain ⟨hp, hct⟩ := may_pol h1
    have hL := hp.limit
    have hW := hp.window
    have g := (may1 k).1 h1
    have hLW : p.2.1 * p.2.2.1 ≤ 1048576 * 1048576 := Int.mul_le_mul hL.2 hW.2 (by omega) (by omega)
    have hmm := moved_may h1 (Int.le_refl _) hct.2
    have he : endsC p c = c.1 + up c.2.1 p.2.1 := by
      unfold endsC
      rw [if_pos h1, wt1 hmm k (Int.le_refl _)]
      have : (moved p c c.1).2.1 = c.2.1 := by
        unfold moved
        rw [if_pos (.inl k)]
        show cnt p c c.1 = _
        rw [cnt_own h1]; unfold own; rw [if_pos (.inl k)]
      rw [this, Int.sub_zero, Int.max_eq_right g.2.2.1]
    have hu := (up_spec (a := c.2.1) (b := p.2.1) g.2.2.1 (by omega))
    have hu2 : up c.2.1 p.2.1 ≤ c.2.1 := by
      rcases Int.lt_or_le 0 (up c.2.1 p.2.1) with h | h
      · have := hu.2.2 h
        have h2 : 1 * (up c.2.1 p.2.1 - 1) ≤ p.2.1 * (up c.2.1 p.2.1 - 1) := Int.mul_le_mul_of_nonneg_right (by omega) (by omega)
        omega
      · omega
    rw [he]
    (refine CallN.q (r10up c.2.1 p.2.1 (by omega) (by omega)) [] (fun _ _ => ?_); (repeat' ((conv => whnf); first | apply And.intro | exact ⟨by kernel_rfl⟩ | apply DrawN.mk | apply CodeN.step hm rfl | exact trivial | exact rfl | (intro hh; try simp only [bs] at hh; try exact absurd hh (by decide)))); all_goals (conv => whnf); all_goals try exact ⟨by decide⟩)
    (refine RetN.q () [] ?_ ?_ ?_ <;> (repeat' ((conv => whnf) <;> first | exact rfl | exact trivial | apply And.intro | exact Nat.zero_add _)); all_goals ((conv => whnf); try simp only []))
    exact wr (by omega)
end Go.Proofs.YtkcifdblaboodaaGreat.Ce
set_option linter.unusedVariables false
set_option linter.unusedSimpArgs false
namespace Go.Proofs.YtkcifdblaboodaaGreat.Ce
open Go Go.RowKit Fw Hi Po
theorem next_block {T W : Int} (h0 : 0 ≤ T) (h1 : T ≤ 1099511627776) (hW : 1 ≤ W ∧ W ≤ 1048576) : IntKind.i64.wrap (T.tdiv W) = T.tdiv W ∧ IntKind.i64.wrap (T.tdiv W + 1) = T.tdiv W + 1 ∧ IntKind.i64.wrap (W * (T.tdiv W + 1)) = W * (T.tdiv W + 1) ∧ IntKind.i64.wrap (W * (T.tdiv W + 1) - T) = W - T.tmod W ∧ W * (T.tdiv W + 1) = T + (W - T.tmod W) ∧ 1 ≤ W - T.tmod W ∧ W - T.tmod W ≤ W := by
  obtain ⟨b1, b2, b3⟩ := tdiv_block (t := T) (W := W) h0 hW.1
  have hd : 0 ≤ T.tdiv W := Int.tdiv_nonneg h0 (by omega)
  have hd2 : T.tdiv W ≤ T := by rw [Int.tdiv_eq_ediv_of_nonneg h0]; exact Int.ediv_le_self _ h0
  have e : W * (T.tdiv W + 1) = T.tdiv W * W + W := by rw [Int.mul_add, Int.mul_comm]; omega
  refine ⟨wr (by omega), wr (by omega), wr (by omega), ?_, by omega, by omega, by omega⟩
  rw [wr (by omega)]; omega
theorem r11total (p : Pol) (c : Cell) (t : Int) (k : p.1 = 2) (hv : mayC p c = true) (ht : c.1 ≤ t ∧ t ≤ 1099511627776) : Meets Tryz.prog 57 [polAV p, cellAV c, .int .i64 fun _ => t] [] (Y := Unit) (fun _ => True) (fun _ => .int .i64 fun _ => cnt p c t) (fun _ => []) := by
  obtain ⟨hp, hct⟩ := may_pol hv
  have M1 := r11may p c k
  rw [hv] at M1
  have M2 := ttimeM t
  rw [timeB_iff.2 ⟨by omega, ht.2⟩] at M2
  have hW := hp.window
  have ec : cnt p c t = if t.tdiv p.2.2.1 = c.1.tdiv p.2.2.1 then c.2.1 else 0 := by unfold cnt; rw [if_neg (by omega), if_pos k]
  have e1 := (next_block (T := t) (by omega) ht.2 hW).1
  have e2 := (next_block (T := c.1) (by omega) hct.2 hW).1
  refine Meets.intro hm (fn := Tryz.f57) Tryz.func57 rfl (by decide) (Nat.le_of_ble_eq_true rfl) (fun _ => rfl) ?_; intro S hok; (conv => whnf)
  (repeat' ((conv => whnf); first | apply And.intro | exact ⟨by kernel_rfl⟩ | apply DrawN.mk | apply CodeN.step hm rfl | exact trivial | exact rfl | (intro hh; try simp only [bs] at hh))); all_goals (conv => whnf)
  (refine CallN.q M1 [] (fun _ _ => ?_); (repeat' ((conv => whnf); first | apply And.intro | exact ⟨by kernel_rfl⟩ | apply DrawN.mk | apply CodeN.step hm rfl | exact trivial | exact rfl | (intro hh; try simp only [bs] at hh; try exact absurd hh (by decide)))); all_goals (conv => whnf); all_goals try exact ⟨by decide⟩)
  (refine CallN.q M2 [] (fun _ _ => ?_); (repeat' ((conv => whnf); first | apply And.intro | exact ⟨by kernel_rfl⟩ | apply DrawN.mk | apply CodeN.step hm rfl | exact trivial | exact rfl | (intro hh; try simp only [bs] at hh; try exact absurd hh (by decide)))); all_goals (conv => whnf); all_goals try exact ⟨by decide⟩)
  all_goals (try simp only [e1, e2] at hh ⊢)
  all_goals first | (refine Ob.mk ?_; first | omega | (simp only []; omega)) | skip
  all_goals first | (exfalso; omega) | skip
  all_goals
    (refine RetN.q () [] ?_ ?_ ?_ <;> (repeat' ((conv => whnf) <;> first | exact rfl | exact trivial | apply And.intro | exact Nat.zero_add _)); all_goals ((conv => whnf); try simp only []))
    rw [ec]
    first
      | (rw [if_pos (by assumption)])
      | (rw [if_neg (by assumption)])
set_option maxHeartbeats 4000000 in
set_option maxRecDepth 4000 in
theorem r11ask (p : Pol) (c : Cell) (t w : Int) (k : p.1 = 2) : Meets Tryz.prog 23 [polAV p, cellAV c, .int .i64 fun _ => t, .int .i64 fun _ => w] [] (Y := Unit) (fun _ => True) (fun _ => .tup [cellAV (askC p c t w).1, verAV (askC p c t w).2]) (fun _ => []) := by
  by_cases hv : mayC p c = true ∧ timeB t = true ∧ weighs w = true
  · obtain ⟨h1, h2, h3⟩ := hv
    have M1 := r11may p c k
    have M2 := ttimeM t
    have M3 := rweighsM w
    rw [h1] at M1
    rw [h2] at M2
    rw [h3] at M3
    have ht : 0 ≤ t ∧ t ≤ 1099511627776 := by simpa [timeB] using h2
    have hw : 1 ≤ w ∧ w ≤ 1048576 := by simpa [weighs] using h3
    obtain ⟨hp, hct⟩ := may_pol h1
    have hL := hp.limit
    have hW := hp.window
    have hmx : (if c.1 > t then c.1 else t) = max t c.1 := by split <;> omega
    have hn := cnt_nonneg h1 (max t c.1)
    have hn2 : cnt p c (max t c.1) ≤ p.2.1 := by
      have := own_le (moved_may h1 (t := max t c.1) (by omega) (by omega))
      unfold moved own worth at this
      simpa only [if_neg (show ¬ p.1 = 1 by omega), if_pos (show p.1 = 1 ∨ p.1 = 2 from .inr k)] using this.2
    have ha := ask2 k h1 h2 h3
    have ML := r11total p c (max t c.1) k h1 (by omega)
    obtain ⟨b1, b2, b3, b4, b5, b6, b7⟩ := next_block (T := max t c.1) (by omega) (by omega) hW
    generalize hT : max t c.1 = T at *
    generalize hn0 : cnt p c T = n at *
    have e3 : IntKind.i64.wrap (n + w) = n + w := wr (by omega)
    have e4 : IntKind.i64.wrap (p.2.1 - n) = p.2.1 - n := wr (by omega)
    have e5 : n + w ≤ p.2.1 → IntKind.i64.wrap (p.2.1 - (n + w)) = p.2.1 - (n + w) := fun h => wr (by omega)
    by_cases hcc : n + w ≤ p.2.1
    · rw [if_pos hcc] at ha
      have e6 := e5 hcc
      refine Meets.intro hm (fn := Tryz.f23) Tryz.func23 rfl (by decide) (Nat.le_of_ble_eq_true rfl) (fun _ => rfl) ?_; intro S hok; (conv => whnf)
      (repeat' ((conv => whnf); first | apply And.intro | exact ⟨by kernel_rfl⟩ | apply DrawN.mk | apply CodeN.step hm rfl | exact trivial | exact rfl | (intro hh; try simp only [bs] at hh))); all_goals (conv => whnf)
      (refine CallN.q M1 [] (fun _ _ => ?_); (repeat' ((conv => whnf); first | apply And.intro | exact ⟨by kernel_rfl⟩ | apply DrawN.mk | apply CodeN.step hm rfl | exact trivial | exact rfl | (intro hh; try simp only [bs] at hh; try exact absurd hh (by decide)))); all_goals (conv => whnf); all_goals try exact ⟨by decide⟩)
      (refine CallN.q M2 [] (fun _ _ => ?_); (repeat' ((conv => whnf); first | apply And.intro | exact ⟨by kernel_rfl⟩ | apply DrawN.mk | apply CodeN.step hm rfl | exact trivial | exact rfl | (intro hh; try simp only [bs] at hh; try exact absurd hh (by decide)))); all_goals (conv => whnf); all_goals try exact ⟨by decide⟩)
      (refine CallN.q M3 [] (fun _ _ => ?_); (repeat' ((conv => whnf); first | apply And.intro | exact ⟨by kernel_rfl⟩ | apply DrawN.mk | apply CodeN.step hm rfl | exact trivial | exact rfl | (intro hh; try simp only [bs] at hh; try exact absurd hh (by decide)))); all_goals (conv => whnf); all_goals try exact ⟨by decide⟩)
      simp only [hmx]
      (refine CallN.q ML [] (fun _ _ => ?_); (repeat' ((conv => whnf); first | apply And.intro | exact ⟨by kernel_rfl⟩ | apply DrawN.mk | apply CodeN.step hm rfl | exact trivial | exact rfl | (intro hh; try simp only [bs] at hh; try exact absurd hh (by decide)))); all_goals (conv => whnf); all_goals try exact ⟨by decide⟩)
      all_goals (try simp only [b1, b2, b3, b4, e3, e4, e6] at hh ⊢)
      all_goals first | (refine Ob.mk ?_; first | omega | (simp only []; omega)) | skip
      all_goals first | (exfalso; omega) | (exfalso; simp only [e3] at *; omega) | skip
      rw [ha]
      (refine RetN.q () [] ?_ ?_ ?_ <;> (repeat' ((conv => whnf) <;> first | exact rfl | exact trivial | apply And.intro | exact Nat.zero_add _)); all_goals ((conv => whnf); try simp only []))
      all_goals (try simp only [b1, b2, b3, b4, e3, e4, e6])
      all_goals first | done | rfl | exact decide_eq_true hcc | skip
    · rw [if_neg hcc] at ha
      by_cases hlt : p.2.1 < w
      · rw [if_pos hlt] at ha
        refine Meets.intro hm (fn := Tryz.f23) Tryz.func23 rfl (by decide) (Nat.le_of_ble_eq_true rfl) (fun _ => rfl) ?_; intro S hok; (conv => whnf)
        (repeat' ((conv => whnf); first | apply And.intro | exact ⟨by kernel_rfl⟩ | apply DrawN.mk | apply CodeN.step hm rfl | exact trivial | exact rfl | (intro hh; try simp only [bs] at hh))); all_goals (conv => whnf)
        (refine CallN.q M1 [] (fun _ _ => ?_); (repeat' ((conv => whnf); first | apply And.intro | exact ⟨by kernel_rfl⟩ | apply DrawN.mk | apply CodeN.step hm rfl | exact trivial | exact rfl | (intro hh; try simp only [bs] at hh; try exact absurd hh (by decide)))); all_goals (conv => whnf); all_goals try exact ⟨by decide⟩)
        (refine CallN.q M2 [] (fun _ _ => ?_); (repeat' ((conv => whnf); first | apply And.intro | exact ⟨by kernel_rfl⟩ | apply DrawN.mk | apply CodeN.step hm rfl | exact trivial | exact rfl | (intro hh; try simp only [bs] at hh; try exact absurd hh (by decide)))); all_goals (conv => whnf); all_goals try exact ⟨by decide⟩)
        (refine CallN.q M3 [] (fun _ _ => ?_); (repeat' ((conv => whnf); first | apply And.intro | exact ⟨by kernel_rfl⟩ | apply DrawN.mk | apply CodeN.step hm rfl | exact trivial | exact rfl | (intro hh; try simp only [bs] at hh; try exact absurd hh (by decide)))); all_goals (conv => whnf); all_goals try exact ⟨by decide⟩)
        simp only [hmx]
        (refine CallN.q ML [] (fun _ _ => ?_); (repeat' ((conv => whnf); first | apply And.intro | exact ⟨by kernel_rfl⟩ | apply DrawN.mk | apply CodeN.step hm rfl | exact trivial | exact rfl | (intro hh; try simp only [bs] at hh; try exact absurd hh (by decide)))); all_goals (conv => whnf); all_goals try exact ⟨by decide⟩)
        all_goals (try simp only [b1, b2, b3, b4, e3, e4] at hh ⊢)
        all_goals first | (refine Ob.mk ?_; first | omega | (simp only []; omega)) | skip
        all_goals first | (exfalso; omega) | (exfalso; simp only [e3] at *; omega) | skip
        all_goals
          rw [ha]
          (refine RetN.q () [] ?_ ?_ ?_ <;> (repeat' ((conv => whnf) <;> first | exact rfl | exact trivial | apply And.intro | exact Nat.zero_add _)); all_goals ((conv => whnf); try simp only []))
          all_goals (try simp only [b1, b2, b3, b4, e3, e4])
          all_goals first | done | rfl | exact decide_eq_false hcc | (rw [if_pos (by omega)]) | (rw [if_neg (by omega)]) | skip
      · rw [if_neg hlt] at ha
        refine Meets.intro hm (fn := Tryz.f23) Tryz.func23 rfl (by decide) (Nat.le_of_ble_eq_true rfl) (fun _ => rfl) ?_; intro S hok; (conv => whnf)
        (repeat' ((conv => whnf); first | apply And.intro | exact ⟨by kernel_rfl⟩ | apply DrawN.mk | apply CodeN.step hm rfl | exact trivial | exact rfl | (intro hh; try simp only [bs] at hh))); all_goals (conv => whnf)
        (refine CallN.q M1 [] (fun _ _ => ?_); (repeat' ((conv => whnf); first | apply And.intro | exact ⟨by kernel_rfl⟩ | apply DrawN.mk | apply CodeN.step hm rfl | exact trivial | exact rfl | (intro hh; try simp only [bs] at hh; try exact absurd hh (by decide)))); all_goals (conv => whnf); all_goals try exact ⟨by decide⟩)
        (refine CallN.q M2 [] (fun _ _ => ?_); (repeat' ((conv => whnf); first | apply And.intro | exact ⟨by kernel_rfl⟩ | apply DrawN.mk | apply CodeN.step hm rfl | exact trivial | exact rfl | (intro hh; try simp only [bs] at hh; try exact absurd hh (by decide)))); all_goals (conv => whnf); all_goals try exact ⟨by decide⟩)
        (refine CallN.q M3 [] (fun _ _ => ?_); (repeat' ((conv => whnf); first | apply And.intro | exact ⟨by kernel_rfl⟩ | apply DrawN.mk | apply CodeN.step hm rfl | exact trivial | exact rfl | (intro hh; try simp only [bs] at hh; try exact absurd hh (by decide)))); all_goals (conv => whnf); all_goals try exact ⟨by decide⟩)
        simp only [hmx]
        (refine CallN.q ML [] (fun _ _ => ?_); (repeat' ((conv => whnf); first | apply And.intro | exact ⟨by kernel_rfl⟩ | apply DrawN.mk | apply CodeN.step hm rfl | exact trivial | exact rfl | (intro hh; try simp only [bs] at hh; try exact absurd hh (by decide)))); all_goals (conv => whnf); all_goals try exact ⟨by decide⟩)
        all_goals (try simp only [b1, b2, b3, b4, e3, e4] at hh ⊢)
        all_goals first | (refine Ob.mk ?_; first | omega | (simp only []; omega)) | skip
        all_goals first | (exfalso; omega) | (exfalso; simp only [e3] at *; omega) | skip
        all_goals
          rw [ha]
          (refine RetN.q () [] ?_ ?_ ?_ <;> (repeat' ((conv => whnf) <;> first | exact rfl | exact trivial | apply And.intro | exact Nat.zero_add _)); all_goals ((conv => whnf); try simp only []))
          all_goals (try simp only [b1, b2, b3, b4, e3, e4])
          all_goals first | done | rfl | exact decide_eq_false hcc | (rw [if_pos (by omega)]) | (rw [if_neg (by omega)]) | skip
  · rw [ask_bad hv]
    refine Meets.intro hm (fn := Tryz.f23) Tryz.func23 rfl (by decide) (Nat.le_of_ble_eq_true rfl) (fun _ => rfl) ?_; intro S hok; (conv => whnf)
    (repeat' ((conv => whnf); first | apply And.intro | exact ⟨by kernel_rfl⟩ | apply DrawN.mk | apply CodeN.step hm rfl | exact trivial | exact rfl | (intro hh; try simp only [bs] at hh))); all_goals (conv => whnf)
    (refine CallN.q (r11may p c k) [] (fun _ _ => ?_); (repeat' ((conv => whnf); first | apply And.intro | exact ⟨by kernel_rfl⟩ | apply DrawN.mk | apply CodeN.step hm rfl | exact trivial | exact rfl | (intro hh; try simp only [bs] at hh; try exact absurd hh (by decide)))); all_goals (conv => whnf); all_goals try exact ⟨by decide⟩)
    all_goals try
      (refine CallN.q (ttimeM t) [] (fun _ _ => ?_); (repeat' ((conv => whnf); first | apply And.intro | exact ⟨by kernel_rfl⟩ | apply DrawN.mk | apply CodeN.step hm rfl | exact trivial | exact rfl | (intro hh; try simp only [bs] at hh; try exact absurd hh (by decide)))); all_goals (conv => whnf); all_goals try exact ⟨by decide⟩)
    all_goals try
      (refine CallN.q (rweighsM w) [] (fun _ _ => ?_); (repeat' ((conv => whnf); first | apply And.intro | exact ⟨by kernel_rfl⟩ | apply DrawN.mk | apply CodeN.step hm rfl | exact trivial | exact rfl | (intro hh; try simp only [bs] at hh; try exact absurd hh (by decide)))); all_goals (conv => whnf); all_goals try exact ⟨by decide⟩)
    all_goals first
      | (exfalso; exact hv ⟨by assumption, by assumption, by assumption⟩)
      | ((refine RetN.q () [] ?_ ?_ ?_ <;> (repeat' ((conv => whnf) <;> first | exact rfl | exact trivial | apply And.intro | exact Nat.zero_add _)); all_goals ((conv => whnf); try simp only []))
         done)
theorem r11ends (p : Pol) (c : Cell) (k : p.1 = 2) : Meets Tryz.prog 31 [polAV p, cellAV c] [] (Y := Unit) (fun _ => True) (fun _ => .int .i64 fun _ => endsC p c) (fun _ => []) := by
  refine Meets.intro hm (fn := Tryz.f31) Tryz.func31 rfl (by decide) (Nat.le_of_ble_eq_true rfl) (fun _ => rfl) ?_; intro S hok; (conv => whnf)
  (repeat' ((conv => whnf); first | apply And.intro | exact ⟨by kernel_rfl⟩ | apply DrawN.mk | apply CodeN.step hm rfl | exact trivial | exact rfl | (intro hh; try simp only [bs] at hh))); all_goals (conv => whnf)
  (refine CallN.q (r11may p c k) [] (fun _ _ => ?_); (repeat' ((conv => whnf); first | apply And.intro | exact ⟨by kernel_rfl⟩ | apply DrawN.mk | apply CodeN.step hm rfl | exact trivial | exact rfl | (intro hh; try simp only [bs] at hh; try exact absurd hh (by decide)))); all_goals (conv => whnf); all_goals try exact ⟨by decide⟩)
  all_goals first
    | ((refine RetN.q () [] ?_ ?_ ?_ <;> (repeat' ((conv => whnf) <;> first | exact rfl | exact trivial | apply And.intro | exact Nat.zero_add _)); all_goals ((conv => whnf); try simp only []))
       unfold endsC
       rw [if_neg (by simp [*])]
       done)
    | skip
  all_goals
    have h1 : mayC p c = true := by assumption
    obtain ⟨hp, hct⟩ := may_pol h1
    have hW := hp.window
    have g := (may2 k).1 h1
    have hmm := moved_may h1 (Int.le_refl _) hct.2
    obtain ⟨b1, b2, b3, b4, b5, b6, b7⟩ := next_block (T := c.1) (by omega) hct.2 hW
    have he : endsC p c = c.1 + if c.2.1 ≤ 0 then 0 else p.2.2.1 - c.1.tmod p.2.2.1 := by
      unfold endsC
      rw [if_pos h1, wt2 hmm k (Int.le_refl _), moved_at]
      have : (moved p c c.1).2.1 = c.2.1 := by
        unfold moved
        rw [if_pos (.inr k)]
        show cnt p c c.1 = _
        rw [cnt_own h1]; unfold own; rw [if_pos (.inr k)]
      rw [this]
    try rw [he]
    first
      | (refine Ob.mk ?_; first | omega | (simp only []; omega))
      | ((refine RetN.q () [] ?_ ?_ ?_ <;> (repeat' ((conv => whnf) <;> first | exact rfl | exact trivial | apply And.intro | exact Nat.zero_add _)); all_goals ((conv => whnf); try simp only []))
         all_goals (try simp only [b1, b2, b3])
         first
           | (rw [if_pos (by omega)]; omega)
           | (rw [if_neg (by omega)]; omega))
end Go.Proofs.YtkcifdblaboodaaGreat.Ce
set_option linter.unusedVariables false
set_option linter.unusedSimpArgs false
namespace Go.Proofs.YtkcifdblaboodaaGreat.Ce
open Go Go.RowKit Fw Hi Po
/-- What is above, of hits. -/
def over (x : Int) (l : List Hit) : Int := sumH (l.filter fun h => decide (x < h.1))
theorem over_take {x : Int} {l : List Hit} {i : Nat} (h : i < l.length) : over x (l.take (i + 1)) = over x (l.take i) + if x < (l.getD i (0, 0)).1 then (l.getD i (0, 0)).2 else 0 := by
  unfold over
  rw [List.take_add_one, List.getElem?_eq_getElem h, List.filter_append, sumH_append, List.getD_eq_getElem?_getD, List.getElem?_eq_getElem h]
  simp only [Option.toList_some, Option.getD_some, List.filter_cons, List.filter_nil]
  by_cases hx : x < l[i].1
  · rw [if_pos (by simpa using hx), if_pos hx]; simp [sumH]
  · rw [if_neg (by simpa using hx), if_neg hx]; simp [sumH]
theorem filt_drop {x : Int} : ∀ {l : List Hit} {a L last : Int}, mayHGo a L last l = true → l.filter (fun h => decide (x < h.1)) = l.dropWhile fun h => decide (h.1 ≤ x)
  | [], _, _, _, _ => rfl
  | h :: r, a, L, last, hm => by
    have hall := mayH_mem _ _ hm
    simp only [mayHGo, Bool.and_eq_true, decide_eq_true_eq] at hm
    have ih := filt_drop (x := x) hm.2
    rw [List.filter_cons, List.dropWhile_cons]
    by_cases hx : x < h.1
    · rw [if_pos (by simpa using hx), if_neg (by simp; omega)]
      have hr : ∀ y ∈ r, x < y.1 := fun y hy => by have := (mayH_mem _ _ hm.2 y hy).1; omega
      rw [List.filter_eq_self.2 (fun y hy => by simpa using hr y hy)]
    · rw [if_neg (by simpa using hx), if_pos (by simp; omega), ih]
theorem over_bound {x : Int} {l : List Hit} (h : ∀ y ∈ l, 0 ≤ y.2 ∧ y.2 ≤ 1048576) : 0 ≤ over x l ∧ over x l ≤ 1048576 * l.length := by
  have := sumH_bound (m := 1048576) (by omega) (l := l.filter fun h => decide (x < h.1)) fun y hy => h y ((List.mem_filter.1 hy).1)
  have h2 := List.length_filter_le (fun h : Hit => decide (x < h.1)) l
  unfold over
  omega
theorem r13counts (p : Pol) (l : List Hit) (t : Int) (hp : PolOk p) (ht : 0 ≤ t ∧ t ≤ 4398046511104) (hl : l.length ≤ 100) (hw : ∀ y ∈ l, 0 ≤ y.2 ∧ y.2 ≤ 1048576) : Meets Tryz.prog 62 [polAV p, .lst HitT fun _ => l, .int .i64 fun _ => t] [] (Y := Unit) (fun _ => True) (fun _ => .int .i64 fun _ => over (t - p.2.2.1) l) (fun _ => []) := by
  have hW := hp.window
  have e1 : IntKind.i64.wrap (t - p.2.2.1) = t - p.2.2.1 := wr (by omega)
  refine Meets.intro hm (fn := Tryz.f62) Tryz.func62 rfl (by decide) (Nat.le_of_ble_eq_true rfl) (fun _ => rfl) ?_; intro S hok; (conv => whnf)
  (repeat' ((conv => whnf); first | apply And.intro | exact ⟨by kernel_rfl⟩ | apply DrawN.mk | apply CodeN.step hm rfl | exact trivial | exact rfl | (intro hh; try simp only [bs] at hh))); all_goals (conv => whnf)
  refine LoopN.intro hm (X := Nat) (fun i => i ≤ l.length) (fun i => l.length - i)
    (fun i => [(8, .int .i64 fun _ => (i : Int)), (7, .int .i64 fun _ => over (t - p.2.2.1) (l.take i)), (3, .ptr 0 0), (1, .lst HitT fun _ => l), (2, .int .i64 fun _ => t)])
    (fun _ => [.cells 23 [.int .i64 fun _ => p.1, .int .i64 fun _ => p.2.1, .int .i64 fun _ => p.2.2.1, .int .i64 fun _ => p.2.2.2]]) 0 [0] ⟨rfl, rfl, ?_, ?_⟩ (Nat.zero_le _) (fun i hi => ?_)
  · (repeat' ((conv => whnf) <;> first | exact rfl | exact trivial | apply And.intro | exact Nat.zero_add _))
  · (repeat' ((conv => whnf) <;> first | exact rfl | exact trivial | apply And.intro | exact Nat.zero_add _))
  have hst := fun h => over_take (x := t - p.2.2.1) (l := l) (i := i) h
  have hb := over_bound (x := t - p.2.2.1) (l := l.take i) fun y hy => hw y (List.mem_of_mem_take hy)
  rw [List.length_take] at hb
  have hx' : l.getD (i : Int).toNat HitT.dflt = l.getD i (0, 0) := rfl
  have hwi := fun h : i < l.length => hw (l.getD i (0, 0)) (hit_mem h)
  generalize l.getD i (0, 0) = y at *
  (repeat' ((conv => whnf); first | apply And.intro | exact ⟨by kernel_rfl⟩ | apply DrawN.mk | apply CodeN.step hm rfl | exact trivial | exact rfl | (intro hh; try simp only [bs] at hh))); all_goals (conv => whnf)
  all_goals (try simp only [hx', e1] at hh ⊢)
  all_goals first | (refine Ob.mk ?_; first | omega | (simp only []; omega)) | skip
  · have hi2 : i < l.length := by omega
    have h1 := hst hi2
    have h2 := hwi hi2
    rw [if_pos hh] at h1
    refine ⟨i + 1, [0], ⟨rfl, rfl, ?_, ?_⟩, hi2, by omega⟩
    · (repeat' ((conv => whnf) <;> first | exact rfl | exact trivial | apply And.intro | exact Nat.zero_add _))
    · (repeat' ((conv => whnf) <;> first | exact rfl | exact trivial | apply And.intro | exact Nat.zero_add _)); all_goals ((conv => whnf); try simp only [])
      · exact wr (by omega)
      · rw [h1]; exact wr (by omega)
  · have hi2 : i < l.length := by omega
    have h1 := hst hi2
    rw [if_neg hh, Int.add_zero] at h1
    refine ⟨i + 1, [0], ⟨rfl, rfl, ?_, ?_⟩, hi2, by omega⟩
    · (repeat' ((conv => whnf) <;> first | exact rfl | exact trivial | apply And.intro | exact Nat.zero_add _))
    · (repeat' ((conv => whnf) <;> first | exact rfl | exact trivial | apply And.intro | exact Nat.zero_add _)); all_goals ((conv => whnf); try simp only [])
      · exact wr (by omega)
      · exact h1.symm
  · have e : i = l.length := by omega
    (refine RetN.q () [] ?_ ?_ ?_ <;> (repeat' ((conv => whnf) <;> first | exact rfl | exact trivial | apply And.intro | exact Nat.zero_add _)); all_goals ((conv => whnf); try simp only []))
    rw [e, List.take_length]
theorem over_since {p : Pol} {l : List Hit} {a L last t : Int} (hm : mayHGo a L last l = true) : over (t - p.2.2.1) l = sumH (sinceE p l t) := by
  unfold over sinceE
  rw [filt_drop hm]
theorem r13wait (p : Pol) (l : List Hit) (T m : Int) (k : p.1 = 4) (hmy : mayC p (T, 0, [], l) = true) (hm0 : 0 ≤ m) : Meets Tryz.prog 63 [polAV p, .lst HitT fun _ => l, .int .i64 fun _ => T, .int .i64 fun _ => m] [] (Y := Unit) (fun _ => True) (fun _ => .int .i64 fun _ => wt p (T, 0, [], l) m) (fun _ => []) := by
  have g := (may4 k).1 hmy
  have hp := g.pol
  have hT := g.time
  simp only [] at hT
  have hL := hp.limit
  have hW := hp.window
  have hgo : mayHGo T p.2.1 (max (-1) (T - p.2.2.1)) l = true := g.go
  have hmem := mayH_mem _ _ hgo
  have hpk := may_packs hmy
  have hlen : l.length ≤ 16 := hpk.hlen
  have hwt : ∀ y ∈ l, 0 ≤ y.2 ∧ y.2 ≤ 1048576 := fun y hy => by have := hmem y hy; omega
  have M := fun t h => r13counts p l t hp h (by omega) hwt
  have hc0 : over (T - p.2.2.1) l = sumH l := by
    rw [over_since hgo, since_drop (i := 0) (Nat.zero_le _) (fun j hj => by omega) (fun h => by have := hmem _ (hit_mem h); omega)]; rfl
  have hci : ∀ i, i < l.length → over ((l.getD i (0, 0)).1 + p.2.2.1 - p.2.2.1) l = sumH (l.drop (i + 1)) := fun i hi => by
    rw [over_since hgo, since_drop (i := i + 1) (by omega) (fun j hj => by
      by_cases e : j = i
      · subst e; omega
      · have := mayH_lt hgo (i := j) (j := i) (by omega) hi; omega) (fun h => by have := mayH_lt hgo (i := i) (j := i + 1) (by omega) h; omega)]
  refine Meets.intro hm (fn := Tryz.f63) Tryz.func63 rfl (by decide) (Nat.le_of_ble_eq_true rfl) (fun _ => rfl) ?_; intro S hok; (conv => whnf)
  (repeat' ((conv => whnf); first | apply And.intro | exact ⟨by kernel_rfl⟩ | apply DrawN.mk | apply CodeN.step hm rfl | exact trivial | exact rfl | (intro hh; try simp only [bs] at hh))); all_goals (conv => whnf)
  refine CallN.q (M T (by omega)) [] (fun _ _ => ?_)
  rw [hc0]
  (repeat' ((conv => whnf); first | apply And.intro | exact ⟨by kernel_rfl⟩ | apply DrawN.mk | apply CodeN.step hm rfl | exact trivial | exact rfl | (intro hh; try simp only [bs] at hh; try exact absurd hh (by decide)))); all_goals (conv => whnf)
  · (refine RetN.q () [] ?_ ?_ ?_ <;> (repeat' ((conv => whnf) <;> first | exact rfl | exact trivial | apply And.intro | exact Nat.zero_add _)); all_goals ((conv => whnf); try simp only []))
    have := ewait_at (m := m) k hmy (i := 0) (Nat.zero_le _) (.inl rfl) hh
    rw [this]
    show 0 = T - p.2.2.1 + p.2.2.1 - T
    omega
  · have h00 : m < sumH l := by omega
    refine LoopN.intro hm (X := Nat) (fun i => i ≤ l.length ∧ m < sumH (l.drop i)) (fun i => l.length - i)
      (fun i => [(9, .int .i64 fun _ => (i : Int)), (4, .ptr 0 0), (1, .lst HitT fun _ => l), (2, .int .i64 fun _ => T), (3, .int .i64 fun _ => m)])
      (fun _ => [.cells 23 [.int .i64 fun _ => p.1, .int .i64 fun _ => p.2.1, .int .i64 fun _ => p.2.2.1, .int .i64 fun _ => p.2.2.2]]) 0 [0] ⟨rfl, rfl, ?_, ?_⟩ ⟨Nat.zero_le _, h00⟩ (fun i hi => ?_)
    · (repeat' ((conv => whnf) <;> first | exact rfl | exact trivial | apply And.intro | exact Nat.zero_add _))
    · (repeat' ((conv => whnf) <;> first | exact rfl | exact trivial | apply And.intro | exact Nat.zero_add _))
    obtain ⟨hi, hlo⟩ := hi
    have hlt : i < l.length := Nat.lt_of_not_le fun h => by
      rw [List.drop_eq_nil_of_le h] at hlo
      have : m < 0 := hlo
      omega
    have hwa := ewait_at (m := m) k hmy (i := i + 1) hlt (.inr (by rw [Nat.add_sub_cancel]; exact hlo))
    have hla : lastH (T - p.2.2.1) l (i + 1) = (l.getD i (0, 0)).1 := rfl
    rw [hla] at hwa
    have hx' : l.getD (i : Int).toNat HitT.dflt = l.getD i (0, 0) := rfl
    have hmi := hmem _ (hit_mem hlt)
    have hcc := hci i hlt
    generalize l.getD i (0, 0) = y at *
    have e1 : IntKind.i64.wrap (y.1 + p.2.2.1) = y.1 + p.2.2.1 := wr (by omega)
    have e2 : IntKind.i64.wrap (y.1 + p.2.2.1 - T) = y.1 + p.2.2.1 - T := wr (by omega)
    have M2 := M (y.1 + p.2.2.1) (by omega)
    rw [hcc] at M2
    (repeat' ((conv => whnf); first | apply And.intro | exact ⟨by kernel_rfl⟩ | apply DrawN.mk | apply CodeN.step hm rfl | exact trivial | exact rfl | (intro hh; try simp only [bs] at hh))); all_goals (conv => whnf)
    all_goals (try simp only [hx', e1] at hh ⊢)
    all_goals first | (refine Ob.mk ?_; first | omega | (simp only []; omega)) | skip
    all_goals first | (exfalso; omega) | skip
    (refine CallN.q M2 [] (fun _ _ => ?_); (repeat' ((conv => whnf); first | apply And.intro | exact ⟨by kernel_rfl⟩ | apply DrawN.mk | apply CodeN.step hm rfl | exact trivial | exact rfl | (intro hh; try simp only [bs] at hh; try exact absurd hh (by decide)))); all_goals (conv => whnf); all_goals try exact ⟨by decide⟩)
    all_goals (try simp only [hx', e1, e2] at hh ⊢)
    all_goals first | (refine Ob.mk ?_; first | omega | (simp only []; omega)) | skip
    all_goals first | (exfalso; omega) | skip
    all_goals first
      | (have hq : sumH (l.drop (i + 1)) ≤ m := by assumption
         (refine RetN.q () [] ?_ ?_ ?_ <;> (repeat' ((conv => whnf) <;> first | exact rfl | exact trivial | apply And.intro | exact Nat.zero_add _)); all_goals ((conv => whnf); try simp only []))
         all_goals (try simp only [hx', e1, e2])
         exact (hwa hq).symm)
      | skip
    refine ⟨i + 1, [0], ⟨rfl, rfl, ?_, ?_⟩, ⟨hlt, by omega⟩, by omega⟩
    · (repeat' ((conv => whnf) <;> first | exact rfl | exact trivial | apply And.intro | exact Nat.zero_add _))
    · (repeat' ((conv => whnf) <;> first | exact rfl | exact trivial | apply And.intro | exact Nat.zero_add _)); all_goals ((conv => whnf); try simp only [])
      exact wr (by omega)
end Go.Proofs.YtkcifdblaboodaaGreat.Ce
set_option linter.unusedVariables false
set_option linter.unusedSimpArgs false
namespace Go.Proofs.YtkcifdblaboodaaGreat.Ce
open Go Go.RowKit Fw Hi Po
theorem filt_take {q : Hit → Bool} {l : List Hit} {i : Nat} (h : i < l.length) : (l.take (i + 1)).filter q = (l.take i).filter q ++ if q (l.getD i (0, 0)) = true then [l.getD i (0, 0)] else [] := by
  rw [List.take_add_one, List.getElem?_eq_getElem h, List.filter_append, List.getD_eq_getElem?_getD, List.getElem?_eq_getElem h]
  simp only [Option.toList_some, Option.getD_some, List.filter_cons, List.filter_nil]
theorem r13ends (p : Pol) (c : Cell) (k : p.1 = 4) (hl : c.2.2.2.length ≤ 40) : Meets Tryz.prog 33 [polAV p, cellAV c] [] (Y := Unit) (fun _ => True) (fun _ => .int .i64 fun _ => endsC p c) (fun _ => []) := by
  refine Meets.intro hm (fn := Tryz.f33) Tryz.func33 rfl (by decide) (Nat.le_of_ble_eq_true rfl) (fun _ => rfl) ?_; intro S hok; (conv => whnf)
  (repeat' ((conv => whnf); first | apply And.intro | exact ⟨by kernel_rfl⟩ | apply DrawN.mk | apply CodeN.step hm rfl | exact trivial | exact rfl | (intro hh; try simp only [bs] at hh))); all_goals (conv => whnf)
  (refine CallN.q (r13may p c k hl) [] (fun _ _ => ?_); (repeat' ((conv => whnf); first | apply And.intro | exact ⟨by kernel_rfl⟩ | apply DrawN.mk | apply CodeN.step hm rfl | exact trivial | exact rfl | (intro hh; try simp only [bs] at hh; try exact absurd hh (by decide)))); all_goals (conv => whnf); all_goals try exact ⟨by decide⟩)
  · (refine RetN.q () [] ?_ ?_ ?_ <;> (repeat' ((conv => whnf) <;> first | exact rfl | exact trivial | apply And.intro | exact Nat.zero_add _)); all_goals ((conv => whnf); try simp only []))
    unfold endsC
    rw [if_neg (by simp [*])]
  · have h1 : mayC p c = true := by assumption
    have g := (may4 k).1 h1
    have hp := g.pol
    have hT := g.time
    have em : moved p c c.1 = (c.1, 0, [], c.2.2.2) := by
      unfold moved
      rw [if_neg (by omega), if_neg (by omega), since_own g]
    have hmm := moved_may h1 (Int.le_refl _) hT.2
    rw [em] at hmm
    have hwb := wt_bound (p := p) (d := (c.1, 0, [], c.2.2.2)) hp 0
    have hW := hp.window
    (refine CallN.q (r13wait p c.2.2.2 c.1 0 k hmm (Int.le_refl _)) [] (fun _ _ => ?_); (repeat' ((conv => whnf); first | apply And.intro | exact ⟨by kernel_rfl⟩ | apply DrawN.mk | apply CodeN.step hm rfl | exact trivial | exact rfl | (intro hh; try simp only [bs] at hh; try exact absurd hh (by decide)))); all_goals (conv => whnf); all_goals try exact ⟨by decide⟩)
    (refine RetN.q () [] ?_ ?_ ?_ <;> (repeat' ((conv => whnf) <;> first | exact rfl | exact trivial | apply And.intro | exact Nat.zero_add _)); all_goals ((conv => whnf); try simp only []))
    unfold endsC
    rw [if_pos h1, em]
    exact wr (by omega)
set_option maxHeartbeats 4000000 in
set_option maxRecDepth 4000 in
theorem r13ask (p : Pol) (c : Cell) (t w : Int) (k : p.1 = 4) (hl : c.2.2.2.length ≤ 40) : Meets Tryz.prog 25 [polAV p, cellAV c, .int .i64 fun _ => t, .int .i64 fun _ => w] [] (Y := Unit) (fun _ => True) (fun _ => .tup [cellAV (askC p c t w).1, verAV (askC p c t w).2]) (fun _ => []) := by
  by_cases hv : mayC p c = true ∧ timeB t = true ∧ weighs w = true
  · obtain ⟨h1, h2, h3⟩ := hv
    have M1 := r13may p c k hl
    have M2 := ttimeM t
    have M3 := rweighsM w
    rw [h1] at M1
    rw [h2] at M2
    rw [h3] at M3
    have ht : 0 ≤ t ∧ t ≤ 1099511627776 := by simpa [timeB] using h2
    have hw : 1 ≤ w ∧ w ≤ 1048576 := by simpa [weighs] using h3
    have g := (may4 k).1 h1
    have hp := g.pol
    have hct := g.time
    have hL := hp.limit
    have hW := hp.window
    have hmx : (if c.1 > t then c.1 else t) = max t c.1 := by split <;> omega
    have ha := ask4 k h1 h2 h3
    have hmm := moved_may h1 (t := max t c.1) (by omega) (by omega)
    have em : moved p c (max t c.1) = (max t c.1, 0, [], sinceE p c.2.2.2 (max t c.1)) := by unfold moved; rw [if_neg (by omega), if_neg (by omega)]
    rw [em] at hmm ha
    have hT : 0 ≤ max t c.1 ∧ max t c.1 ≤ 1099511627776 := by omega
    have hfd := filt_drop (x := max t c.1 - p.2.2.1) g.go
    generalize hTT : max t c.1 = T at *
    have e1 : IntKind.i64.wrap (T - p.2.2.1) = T - p.2.2.1 := wr (by omega)
    refine Meets.intro hm (fn := Tryz.f25) Tryz.func25 rfl (by decide) (Nat.le_of_ble_eq_true rfl) (fun _ => rfl) ?_; intro S hok; (conv => whnf)
    (repeat' ((conv => whnf); first | apply And.intro | exact ⟨by kernel_rfl⟩ | apply DrawN.mk | apply CodeN.step hm rfl | exact trivial | exact rfl | (intro hh; try simp only [bs] at hh))); all_goals (conv => whnf)
    (refine CallN.q M1 [] (fun _ _ => ?_); (repeat' ((conv => whnf); first | apply And.intro | exact ⟨by kernel_rfl⟩ | apply DrawN.mk | apply CodeN.step hm rfl | exact trivial | exact rfl | (intro hh; try simp only [bs] at hh; try exact absurd hh (by decide)))); all_goals (conv => whnf); all_goals try exact ⟨by decide⟩)
    (refine CallN.q M2 [] (fun _ _ => ?_); (repeat' ((conv => whnf); first | apply And.intro | exact ⟨by kernel_rfl⟩ | apply DrawN.mk | apply CodeN.step hm rfl | exact trivial | exact rfl | (intro hh; try simp only [bs] at hh; try exact absurd hh (by decide)))); all_goals (conv => whnf); all_goals try exact ⟨by decide⟩)
    (refine CallN.q M3 [] (fun _ _ => ?_); (repeat' ((conv => whnf); first | apply And.intro | exact ⟨by kernel_rfl⟩ | apply DrawN.mk | apply CodeN.step hm rfl | exact trivial | exact rfl | (intro hh; try simp only [bs] at hh; try exact absurd hh (by decide)))); all_goals (conv => whnf); all_goals try exact ⟨by decide⟩)
    simp only [hmx]
    refine LoopN.intro hm (X := Nat × List Hit) (fun x => x.1 ≤ c.2.2.2.length ∧ x.2 = (c.2.2.2.take x.1).filter fun h => decide (T - p.2.2.1 < h.1)) (fun x => c.2.2.2.length - x.1)
      (fun x => [(11, .int .i64 fun _ => (x.1 : Int)), (10, .ptr 2 0), (2, .int .i64 fun _ => T), (5, .ptr 1 0), (4, .ptr 0 0), (8, .ptr 3 0), (9, .ptr 4 0), (3, .int .i64 fun _ => w)])
      (fun x => match x.2 with
        | [] => [.cells 23 [.int .i64 fun _ => p.1, .int .i64 fun _ => p.2.1, .int .i64 fun _ => p.2.2.1, .int .i64 fun _ => p.2.2.2], .cells 27 [.int .i64 fun _ => c.1, .int .i64 fun _ => c.2.1, .lst (.int .i64) fun _ => c.2.2.1, .lst HitT fun _ => c.2.2.2], .cells 27 [.int .i64 fun _ => T, .int .i64 fun _ => 0, .snil, .snil], .cells 27 [.int .i64 fun _ => 0, .int .i64 fun _ => 0, .snil, .snil], .cells 32 [.ff, .int .i64 fun _ => 0, .int .i64 fun _ => 0, .int .i64 fun _ => 0]]
        | h :: r => [.cells 23 [.int .i64 fun _ => p.1, .int .i64 fun _ => p.2.1, .int .i64 fun _ => p.2.2.1, .int .i64 fun _ => p.2.2.2], .cells 27 [.int .i64 fun _ => c.1, .int .i64 fun _ => c.2.1, .lst (.int .i64) fun _ => c.2.2.1, .lst HitT fun _ => c.2.2.2], .cells 27 [.int .i64 fun _ => T, .int .i64 fun _ => 0, .snil, .vec 5 2 (fun _ => 0) fun _ => r.length + 1], .cells 27 [.int .i64 fun _ => 0, .int .i64 fun _ => 0, .snil, .snil], .cells 32 [.ff, .int .i64 fun _ => 0, .int .i64 fun _ => 0, .int .i64 fun _ => 0], .vect 52 HitT fun _ => h :: r]) (0, []) [0, 1, 4, 2, 3] ⟨rfl, rfl, ?_, ?_⟩ ⟨Nat.zero_le _, rfl⟩ (fun x hx => ?_)
    · (repeat' ((conv => whnf) <;> first | exact rfl | exact trivial | apply And.intro | exact Nat.zero_add _))
    · (repeat' ((conv => whnf) <;> first | exact rfl | exact trivial | apply And.intro | exact Nat.zero_add _))
    obtain ⟨i, L⟩ := x
    obtain ⟨hi, hLq⟩ := hx
    simp only [] at hi hLq
    have hst := fun h => filt_take (q := fun h => decide (T - p.2.2.1 < h.1)) (l := c.2.2.2) (i := i) h
    rw [← hLq] at hst
    have hLl : L.length ≤ 40 := by
      rw [hLq]
      refine Nat.le_trans (List.length_filter_le _ _) ?_
      rw [List.length_take]; omega
    have hx' : c.2.2.2.getD (i : Int).toNat HitT.dflt = c.2.2.2.getD i (0, 0) := rfl
    generalize c.2.2.2.getD i (0, 0) = y at *
    cases L with
    | nil =>
      (repeat' ((conv => whnf); first | apply And.intro | exact ⟨by kernel_rfl⟩ | apply DrawN.mk | apply CodeN.step hm rfl | exact trivial | exact rfl | (intro hh; try simp only [bs] at hh))); all_goals (conv => whnf)
      all_goals (try simp only [hx', e1] at hh ⊢)
      all_goals first | (refine Ob.mk ?_; first | omega | (simp only []; omega)) | skip
      · refine Ob.mk ?_
        show (1 : Nat) * 16 ≤ _
        decide
      · have hi2 : i < c.2.2.2.length := by omega
        have hs := hst hi2
        rw [if_pos (by simpa using hh)] at hs
        refine ⟨(i + 1, [y]), [0, 1, 2, 3, 4, 6], ⟨rfl, rfl, ?_, ?_⟩, ⟨hi2, by simp only []; exact hs.symm⟩, by simp only []; omega⟩
        · (repeat' ((conv => whnf) <;> first | exact rfl | exact trivial | apply And.intro | exact Nat.zero_add _)); all_goals ((conv => whnf); try simp only [])
          all_goals rfl
        · (repeat' ((conv => whnf) <;> first | exact rfl | exact trivial | apply And.intro | exact Nat.zero_add _)); all_goals ((conv => whnf); try simp only [])
          all_goals exact wr (by omega)
      · have hi2 : i < c.2.2.2.length := by omega
        have hs := hst hi2
        rw [if_neg (by simpa using hh), List.append_nil] at hs
        refine ⟨(i + 1, []), [0, 1, 2, 3, 4], ⟨rfl, rfl, ?_, ?_⟩, ⟨hi2, by simp only []; exact hs.symm⟩, by simp only []; omega⟩
        · (repeat' ((conv => whnf) <;> first | exact rfl | exact trivial | apply And.intro | exact Nat.zero_add _))
        · (repeat' ((conv => whnf) <;> first | exact rfl | exact trivial | apply And.intro | exact Nat.zero_add _)); all_goals ((conv => whnf); try simp only [])
          all_goals exact wr (by omega)
      · have hLe : [] = sinceE p c.2.2.2 T := by
          rw [hLq, show i = c.2.2.2.length by omega, List.take_length]; exact hfd
        rw [← hLe] at ha hmm
        have g2 := (may4 k).1 hmm
        have hmem : ∀ y ∈ ([] : List Hit), 0 ≤ y.2 ∧ y.2 ≤ 1048576 := fun y hy => by have := mayH_mem _ _ g2.go y hy; omega
        have M5 := r13counts p ([]) T hp (by omega) (by decide) hmem
        have eo : sinceE p ([]) T = [] := since_own (d := (T, 0, [], [])) g2
        rw [over_since g2.go, eo] at M5
        have hsb := sumH_bound (m := 1048576) (by omega) hmem
        have hsl : sumH ([]) ≤ p.2.1 := g2.sum
        have enw : IntKind.i64.wrap (sumH ([]) + w) = sumH ([]) + w := wr (by omega)
        have er : IntKind.i64.wrap (p.2.1 - sumH ([])) = p.2.1 - sumH ([]) := wr (by omega)
        have erw : IntKind.i64.wrap (p.2.1 - w) = p.2.1 - w := wr (by omega)
        have erw2 : IntKind.i64.wrap (p.2.1 - (sumH ([]) + w)) = p.2.1 - (sumH ([]) + w) := wr (by omega)
        have hadd : added p (T, 0, [], []) w = (T, 0, [], addH ([]) T w) := by
          unfold added; simp only [if_neg (show ¬ p.1 = 1 by omega), if_neg (show ¬ p.1 = 2 by omega), if_neg (show ¬ p.1 = 3 by omega)]
        by_cases hle : sumH ([] : List Hit) + w ≤ p.2.1
        · rw [if_pos hle, hadd] at ha
          have ham := added_may hmm (fun h => by omega) hw.1 (by
            unfold own worth; simp only [if_neg (show ¬ p.1 = 1 by omega), if_neg (show ¬ (p.1 = 1 ∨ p.1 = 2) by omega), if_neg (show ¬ p.1 = 3 by omega)]; exact hle)
          rw [hadd] at ham
          have M7 := r13wait p (addH [] T w) T 0 k ham (Int.le_refl _)
          have hnew : addH [] T w = [(T, w)] := rfl
          rw [hnew] at M7 ha
          have et : List.take 1 (List.drop 0 (List.take 1 (List.drop 0 [(T, w)]))) = [(T, w)] := rfl
          (refine CallN.q M5 [] (fun _ _ => ?_); (repeat' ((conv => whnf); first | apply And.intro | exact ⟨by kernel_rfl⟩ | apply DrawN.mk | apply CodeN.step hm rfl | exact trivial | exact rfl | (intro hh; try simp only [bs] at hh; try exact absurd hh (by decide)))); all_goals (conv => whnf); all_goals try exact ⟨by decide⟩)
          all_goals (try simp only [enw] at hh ⊢)
          all_goals first | (exfalso; omega) | (exfalso; simp only [enw] at *; omega) | skip
          · refine Ob.mk ?_
            show (1 : Nat) * 16 ≤ _
            decide
          refine CallN.frz 7 ?_ M7.callable
          (conv => whnf)
          refine CallN.intro M7 [] rfl rfl ?_ ?_ (fun _ _ => ?_)
          · (repeat' ((conv => whnf) <;> first | exact rfl | exact trivial | apply And.intro | exact Nat.zero_add _)); all_goals ((conv => whnf); try simp only [])
            all_goals first | exact et | rfl
          · (repeat' ((conv => whnf) <;> first | exact rfl | exact trivial | apply And.intro | exact Nat.zero_add _))
          (repeat' ((conv => whnf); first | apply And.intro | exact ⟨by kernel_rfl⟩ | apply DrawN.mk | apply CodeN.step hm rfl | exact trivial | exact rfl | (intro hh; try simp only [bs] at hh; try exact absurd hh (by decide)))); all_goals (conv => whnf)
          rw [ha]
          (refine RetN.q () [] ?_ ?_ ?_ <;> (repeat' ((conv => whnf) <;> first | exact rfl | exact trivial | apply And.intro | exact Nat.zero_add _)); all_goals ((conv => whnf); try simp only []))
          all_goals first | done | exact decide_eq_true hle | exact erw2 | exact et | rfl
        · rw [if_neg hle] at ha
          have M6 := r13wait p [] T 0 k hmm (Int.le_refl _)
          by_cases hlt : p.2.1 < w
          · rw [if_pos hlt] at ha
            (refine CallN.q M5 [] (fun _ _ => ?_); (repeat' ((conv => whnf); first | apply And.intro | exact ⟨by kernel_rfl⟩ | apply DrawN.mk | apply CodeN.step hm rfl | exact trivial | exact rfl | (intro hh; try simp only [bs] at hh; try exact absurd hh (by decide)))); all_goals (conv => whnf); all_goals try exact ⟨by decide⟩)
            all_goals (try simp only [enw, er] at hh ⊢)
            all_goals first | (exfalso; omega) | (exfalso; simp only [enw] at *; omega) | skip
            (refine CallN.q M6 [] (fun _ _ => ?_); (repeat' ((conv => whnf); first | apply And.intro | exact ⟨by kernel_rfl⟩ | apply DrawN.mk | apply CodeN.step hm rfl | exact trivial | exact rfl | (intro hh; try simp only [bs] at hh; try exact absurd hh (by decide)))); all_goals (conv => whnf); all_goals try exact ⟨by decide⟩)
            rw [ha]
            (refine RetN.q () [] ?_ ?_ ?_ <;> (repeat' ((conv => whnf) <;> first | exact rfl | exact trivial | apply And.intro | exact Nat.zero_add _)); all_goals ((conv => whnf); try simp only []))
            all_goals first | done | exact decide_eq_false hle | exact er | rfl
          · exfalso
            have : sumH ([] : List Hit) = 0 := rfl
            omega
    | cons h0 r =>
      have hLl2 : r.length + 1 ≤ 40 := hLl
      (repeat' ((conv => whnf); first | apply And.intro | exact ⟨by kernel_rfl⟩ | apply DrawN.mk | apply CodeN.step hm rfl | exact trivial | exact rfl | (intro hh; try simp only [bs] at hh))); all_goals (conv => whnf)
      all_goals (try simp only [hx', e1] at hh ⊢)
      all_goals first | (refine Ob.mk ?_; first | omega | (simp only []; omega)) | skip
      · refine Ob.mk ⟨trivial, ?_, ?_⟩
        · show r.length + 1 + 1 ≤ _
          omega
        · show (r.length + 1 + 1) * 16 ≤ _
          omega
      · have hi2 : i < c.2.2.2.length := by omega
        have hs := hst hi2
        rw [if_pos (by simpa using hh)] at hs
        refine ⟨(i + 1, h0 :: (r ++ [y])), [0, 1, 2, 3, 4, 5], ⟨rfl, rfl, ?_, ?_⟩, ⟨hi2, by simp only []; exact hs.symm⟩, by simp only []; omega⟩
        · (repeat' ((conv => whnf) <;> first | exact rfl | exact trivial | apply And.intro | exact Nat.zero_add _)); all_goals ((conv => whnf); try simp only [])
          all_goals simp
        · (repeat' ((conv => whnf) <;> first | exact rfl | exact trivial | apply And.intro | exact Nat.zero_add _)); all_goals ((conv => whnf); try simp only [])
          all_goals exact wr (by omega)
      · have hi2 : i < c.2.2.2.length := by omega
        have hs := hst hi2
        rw [if_neg (by simpa using hh), List.append_nil] at hs
        refine ⟨(i + 1, h0 :: r), [0, 1, 2, 3, 4, 5], ⟨rfl, rfl, ?_, ?_⟩, ⟨hi2, by simp only []; exact hs.symm⟩, by simp only []; omega⟩
        · (repeat' ((conv => whnf) <;> first | exact rfl | exact trivial | apply And.intro | exact Nat.zero_add _))
        · (repeat' ((conv => whnf) <;> first | exact rfl | exact trivial | apply And.intro | exact Nat.zero_add _)); all_goals ((conv => whnf); try simp only [])
          all_goals exact wr (by omega)
      · have hLe : h0 :: r = sinceE p c.2.2.2 T := by
          rw [hLq, show i = c.2.2.2.length by omega, List.take_length]; exact hfd
        rw [← hLe] at ha hmm
        have g2 := (may4 k).1 hmm
        have hmem : ∀ y ∈ (h0 :: r : List Hit), 0 ≤ y.2 ∧ y.2 ≤ 1048576 := fun y hy => by have := mayH_mem _ _ g2.go y hy; omega
        have M5 := r13counts p (h0 :: r) T hp (by omega) (by show r.length + 1 ≤ 100; omega) hmem
        have eo : sinceE p (h0 :: r) T = h0 :: r := since_own (d := (T, 0, [], h0 :: r)) g2
        rw [over_since g2.go, eo] at M5
        have hsb := sumH_bound (m := 1048576) (by omega) hmem
        have hsl : sumH (h0 :: r) ≤ p.2.1 := g2.sum
        have enw : IntKind.i64.wrap (sumH (h0 :: r) + w) = sumH (h0 :: r) + w := wr (by omega)
        have er : IntKind.i64.wrap (p.2.1 - sumH (h0 :: r)) = p.2.1 - sumH (h0 :: r) := wr (by omega)
        have erw : IntKind.i64.wrap (p.2.1 - w) = p.2.1 - w := wr (by omega)
        have erw2 : IntKind.i64.wrap (p.2.1 - (sumH (h0 :: r) + w)) = p.2.1 - (sumH (h0 :: r) + w) := wr (by omega)
        have hadd : added p (T, 0, [], h0 :: r) w = (T, 0, [], addH (h0 :: r) T w) := by
          unfold added; simp only [if_neg (show ¬ p.1 = 1 by omega), if_neg (show ¬ p.1 = 2 by omega), if_neg (show ¬ p.1 = 3 by omega)]
        have hdr : List.take (r.length + 1) (List.drop 0 (h0 :: r)) = h0 :: r := by rw [List.drop_zero]; exact List.take_of_length_le (Nat.le_refl _)
        have ewl : IntKind.i64.wrap (((r.length + 1 : Nat) : Int) - 1) = (r.length : Int) := by rw [wr (by omega)]; omega
        by_cases hle : sumH (h0 :: r) + w ≤ p.2.1
        · rw [if_pos hle, hadd] at ha
          have ham := added_may hmm (fun h => by omega) hw.1 (by
            unfold own worth; simp only [if_neg (show ¬ p.1 = 1 by omega), if_neg (show ¬ (p.1 = 1 ∨ p.1 = 2) by omega), if_neg (show ¬ p.1 = 3 by omega)]; exact hle)
          rw [hadd] at ham
          have M7 := r13wait p (addH (h0 :: r) T w) T 0 k ham (Int.le_refl _)
          by_cases hlast : ((h0 :: r).getD r.length (0, 0)).1 = T
          · have hnew : addH (h0 :: r) T w = (h0 :: r).set r.length (((h0 :: r).getD r.length (0, 0)).1, ((h0 :: r).getD r.length (0, 0)).2 + w) := addH_last (l := h0 :: r) (by simp) hlast
            rw [hnew] at M7 ha
            have hgm := hmem _ (hit_mem (l := h0 :: r) (i := r.length) (Nat.lt_succ_self _))
            have ew : IntKind.i64.wrap (((h0 :: r).getD r.length (0, 0)).2 + w) = ((h0 :: r).getD r.length (0, 0)).2 + w := wr (by omega)
            have et1 : List.take (r.length + 1) (List.drop 0 ((h0 :: r).set r.length (((h0 :: r).getD r.length (0, 0)).1, IntKind.i64.wrap (((h0 :: r).getD r.length (0, 0)).2 + w)))) = (h0 :: r).set r.length (((h0 :: r).getD r.length (0, 0)).1, ((h0 :: r).getD r.length (0, 0)).2 + w) := by
              rw [List.drop_zero, List.take_of_length_le (by simp), ew]
            refine CallN.rest M5 [5] ?_ (fun _ _ => ⟨rfl, rfl⟩) ?_
            · (repeat' ((conv => whnf) <;> first | exact rfl | exact trivial | apply And.intro | exact Nat.zero_add _)); all_goals ((conv => whnf); try simp only [])
              exact hdr
            intro y hy
            (repeat' ((conv => whnf); first | apply And.intro | exact ⟨by kernel_rfl⟩ | apply DrawN.mk | apply CodeN.step hm rfl | exact trivial | exact rfl | (intro hh; try simp only [bs] at hh; try exact absurd hh (by decide)))); all_goals (conv => whnf)
            all_goals (try simp only [enw, ewl, Nat.zero_add, Int.toNat_natCast] at hh ⊢)
            all_goals first | (exfalso; omega) | (exfalso; simp only [enw] at *; omega) | skip
            all_goals first | (exfalso; exact hh hlast) | skip
            all_goals first
              | (refine Ob.mk ?_
                 first | omega | (simp only []; omega))
              | skip
            all_goals first
              | (refine Ob.mk ⟨trivial, ?_, ?_⟩
                 · show r.length + 1 + 1 ≤ _
                   omega
                 · show (r.length + 1 + 1) * 16 ≤ _
                   omega)
              | skip
            refine CallN.frz 5 ?_ M7.callable
            (conv => whnf)
            refine CallN.intro M7 [] rfl rfl ?_ ?_ (fun _ _ => ?_)
            · (repeat' ((conv => whnf) <;> first | exact rfl | exact trivial | apply And.intro | exact Nat.zero_add _)); all_goals ((conv => whnf); try simp only [])
              all_goals exact et1
            · (repeat' ((conv => whnf) <;> first | exact rfl | exact trivial | apply And.intro | exact Nat.zero_add _))
            (repeat' ((conv => whnf); first | apply And.intro | exact ⟨by kernel_rfl⟩ | apply DrawN.mk | apply CodeN.step hm rfl | exact trivial | exact rfl | (intro hh; try simp only [bs] at hh; try exact absurd hh (by decide)))); all_goals (conv => whnf)
            rw [ha]
            (refine RetN.q () [] ?_ ?_ ?_ <;> (repeat' ((conv => whnf) <;> first | exact rfl | exact trivial | apply And.intro | exact Nat.zero_add _)); all_goals ((conv => whnf); try simp only []))
            all_goals first | done | exact decide_eq_true hle | exact erw2 | exact et1 | rfl
          · have hnew : addH (h0 :: r) T w = (h0 :: r) ++ [(T, w)] := addH_new (.inr hlast)
            have et1 : List.take (r.length + 1 + (List.take 1 (List.drop 0 [(T, w)])).length) (List.drop 0 (List.take (r.length + 1) (h0 :: r) ++ List.take 1 (List.drop 0 [(T, w)]))) = (h0 :: r) ++ [(T, w)] := by
              show List.take (r.length + 1 + 1) (List.take (r.length + 1) (h0 :: r) ++ [(T, w)]) = _
              rw [List.take_of_length_le (show (h0 :: r).length ≤ r.length + 1 from Nat.le_refl _), List.take_of_length_le (by simp)]
            rw [hnew] at M7 ha
            refine CallN.rest M5 [5] ?_ (fun _ _ => ⟨rfl, rfl⟩) ?_
            · (repeat' ((conv => whnf) <;> first | exact rfl | exact trivial | apply And.intro | exact Nat.zero_add _)); all_goals ((conv => whnf); try simp only [])
              exact hdr
            intro y hy
            (repeat' ((conv => whnf); first | apply And.intro | exact ⟨by kernel_rfl⟩ | apply DrawN.mk | apply CodeN.step hm rfl | exact trivial | exact rfl | (intro hh; try simp only [bs] at hh; try exact absurd hh (by decide)))); all_goals (conv => whnf)
            all_goals (try simp only [enw, ewl, Nat.zero_add, Int.toNat_natCast] at hh ⊢)
            all_goals first | (exfalso; omega) | (exfalso; simp only [enw] at *; omega) | skip
            all_goals first | (exfalso; exact hlast hh) | skip
            all_goals first
              | (refine Ob.mk ?_
                 first | omega | (simp only []; omega))
              | skip
            all_goals first
              | (refine Ob.mk ⟨trivial, ?_, ?_⟩
                 · show r.length + 1 + 1 ≤ _
                   omega
                 · show (r.length + 1 + 1) * 16 ≤ _
                   omega)
              | skip
            refine CallN.frz 5 ?_ M7.callable
            (conv => whnf)
            refine CallN.intro M7 [] rfl rfl ?_ ?_ (fun _ _ => ?_)
            · (repeat' ((conv => whnf) <;> first | exact rfl | exact trivial | apply And.intro | exact Nat.zero_add _)); all_goals ((conv => whnf); try simp only [])
              all_goals exact et1
            · (repeat' ((conv => whnf) <;> first | exact rfl | exact trivial | apply And.intro | exact Nat.zero_add _))
            (repeat' ((conv => whnf); first | apply And.intro | exact ⟨by kernel_rfl⟩ | apply DrawN.mk | apply CodeN.step hm rfl | exact trivial | exact rfl | (intro hh; try simp only [bs] at hh; try exact absurd hh (by decide)))); all_goals (conv => whnf)
            rw [ha]
            (refine RetN.q () [] ?_ ?_ ?_ <;> (repeat' ((conv => whnf) <;> first | exact rfl | exact trivial | apply And.intro | exact Nat.zero_add _)); all_goals ((conv => whnf); try simp only []))
            all_goals first | done | exact decide_eq_true hle | exact erw2 | exact et1 | rfl
        · rw [if_neg hle] at ha
          have M6 := r13wait p (h0 :: r) T 0 k hmm (Int.le_refl _)
          by_cases hlt : p.2.1 < w
          · rw [if_pos hlt] at ha
            refine CallN.rest M5 [5] ?_ (fun _ _ => ⟨rfl, rfl⟩) ?_
            · (repeat' ((conv => whnf) <;> first | exact rfl | exact trivial | apply And.intro | exact Nat.zero_add _)); all_goals ((conv => whnf); try simp only [])
              exact hdr
            intro y hy
            (repeat' ((conv => whnf); first | apply And.intro | exact ⟨by kernel_rfl⟩ | apply DrawN.mk | apply CodeN.step hm rfl | exact trivial | exact rfl | (intro hh; try simp only [bs] at hh; try exact absurd hh (by decide)))); all_goals (conv => whnf)
            all_goals (try simp only [enw, er] at hh ⊢)
            all_goals first | (exfalso; omega) | (exfalso; simp only [enw] at *; omega) | skip
            refine CallN.frz 5 ?_ M6.callable
            (conv => whnf)
            refine CallN.intro M6 [] rfl rfl ?_ ?_ (fun _ _ => ?_)
            · (repeat' ((conv => whnf) <;> first | exact rfl | exact trivial | apply And.intro | exact Nat.zero_add _)); all_goals ((conv => whnf); try simp only [])
              all_goals exact hdr
            · (repeat' ((conv => whnf) <;> first | exact rfl | exact trivial | apply And.intro | exact Nat.zero_add _))
            (repeat' ((conv => whnf); first | apply And.intro | exact ⟨by kernel_rfl⟩ | apply DrawN.mk | apply CodeN.step hm rfl | exact trivial | exact rfl | (intro hh; try simp only [bs] at hh; try exact absurd hh (by decide)))); all_goals (conv => whnf)
            rw [ha]
            (refine RetN.q () [] ?_ ?_ ?_ <;> (repeat' ((conv => whnf) <;> first | exact rfl | exact trivial | apply And.intro | exact Nat.zero_add _)); all_goals ((conv => whnf); try simp only []))
            all_goals first | done | exact decide_eq_false hle | exact er | exact hdr | rfl
          · rw [if_neg hlt] at ha
            have M8 := r13wait p (h0 :: r) T (p.2.1 - w) k hmm (by omega)
            refine CallN.rest M5 [5] ?_ (fun _ _ => ⟨rfl, rfl⟩) ?_
            · (repeat' ((conv => whnf) <;> first | exact rfl | exact trivial | apply And.intro | exact Nat.zero_add _)); all_goals ((conv => whnf); try simp only [])
              exact hdr
            intro y hy
            (repeat' ((conv => whnf); first | apply And.intro | exact ⟨by kernel_rfl⟩ | apply DrawN.mk | apply CodeN.step hm rfl | exact trivial | exact rfl | (intro hh; try simp only [bs] at hh; try exact absurd hh (by decide)))); all_goals (conv => whnf)
            all_goals (try simp only [enw, er, erw] at hh ⊢)
            all_goals first | (exfalso; omega) | (exfalso; simp only [enw] at *; omega) | skip
            refine CallN.rest M8 [5] ?_ (fun _ _ => ⟨rfl, rfl⟩) ?_
            · (repeat' ((conv => whnf) <;> first | exact rfl | exact trivial | apply And.intro | exact Nat.zero_add _)); all_goals ((conv => whnf); try simp only [])
              all_goals first | exact hdr | rfl
            intro y hy
            (repeat' ((conv => whnf); first | apply And.intro | exact ⟨by kernel_rfl⟩ | apply DrawN.mk | apply CodeN.step hm rfl | exact trivial | exact rfl | (intro hh; try simp only [bs] at hh; try exact absurd hh (by decide)))); all_goals (conv => whnf)
            all_goals (try simp only [enw, er, erw] at hh ⊢)
            refine CallN.frz 5 ?_ M6.callable
            (conv => whnf)
            refine CallN.intro M6 [] rfl rfl ?_ ?_ (fun _ _ => ?_)
            · (repeat' ((conv => whnf) <;> first | exact rfl | exact trivial | apply And.intro | exact Nat.zero_add _)); all_goals ((conv => whnf); try simp only [])
              all_goals exact hdr
            · (repeat' ((conv => whnf) <;> first | exact rfl | exact trivial | apply And.intro | exact Nat.zero_add _))
            (repeat' ((conv => whnf); first | apply And.intro | exact ⟨by kernel_rfl⟩ | apply DrawN.mk | apply CodeN.step hm rfl | exact trivial | exact rfl | (intro hh; try simp only [bs] at hh; try exact absurd hh (by decide)))); all_goals (conv => whnf)
            rw [ha]
            (refine RetN.q () [] ?_ ?_ ?_ <;> (repeat' ((conv => whnf) <;> first | exact rfl | exact trivial | apply And.intro | exact Nat.zero_add _)); all_goals ((conv => whnf); try simp only []))
            all_goals first | done | exact decide_eq_false hle | exact er | exact hdr | rfl
  · rw [ask_bad hv]
    refine Meets.intro hm (fn := Tryz.f25) Tryz.func25 rfl (by decide) (Nat.le_of_ble_eq_true rfl) (fun _ => rfl) ?_; intro S hok; (conv => whnf)
    (repeat' ((conv => whnf); first | apply And.intro | exact ⟨by kernel_rfl⟩ | apply DrawN.mk | apply CodeN.step hm rfl | exact trivial | exact rfl | (intro hh; try simp only [bs] at hh))); all_goals (conv => whnf)
    (refine CallN.q (r13may p c k hl) [] (fun _ _ => ?_); (repeat' ((conv => whnf); first | apply And.intro | exact ⟨by kernel_rfl⟩ | apply DrawN.mk | apply CodeN.step hm rfl | exact trivial | exact rfl | (intro hh; try simp only [bs] at hh; try exact absurd hh (by decide)))); all_goals (conv => whnf); all_goals try exact ⟨by decide⟩)
    all_goals try
      (refine CallN.q (ttimeM t) [] (fun _ _ => ?_); (repeat' ((conv => whnf); first | apply And.intro | exact ⟨by kernel_rfl⟩ | apply DrawN.mk | apply CodeN.step hm rfl | exact trivial | exact rfl | (intro hh; try simp only [bs] at hh; try exact absurd hh (by decide)))); all_goals (conv => whnf); all_goals try exact ⟨by decide⟩)
    all_goals try
      (refine CallN.q (rweighsM w) [] (fun _ _ => ?_); (repeat' ((conv => whnf); first | apply And.intro | exact ⟨by kernel_rfl⟩ | apply DrawN.mk | apply CodeN.step hm rfl | exact trivial | exact rfl | (intro hh; try simp only [bs] at hh; try exact absurd hh (by decide)))); all_goals (conv => whnf); all_goals try exact ⟨by decide⟩)
    all_goals first
      | (exfalso; exact hv ⟨by assumption, by assumption, by assumption⟩)
      | ((refine RetN.q () [] ?_ ?_ ?_ <;> (repeat' ((conv => whnf) <;> first | exact rfl | exact trivial | apply And.intro | exact Nat.zero_add _)); all_goals ((conv => whnf); try simp only []))
         done)
end Go.Proofs.YtkcifdblaboodaaGreat.Ce
set_option linter.unusedVariables false
set_option linter.unusedSimpArgs false
namespace Go.Proofs.YtkcifdblaboodaaGreat.Ce
open Go Go.RowKit Fw Hi Po
/-! ### Sums all around a ring -/
def rotS (g : Int → Int) (B : Nat) (s : Int) : Int := ((List.range B).map fun i : Nat => g ((s + i) % B)).sum
theorem rot_step (g : Int → Int) (B : Nat) (s : Int) : rotS g B (s + 1) = rotS g B s := by
  have h1 : ((List.range (B + 1)).map fun i : Nat => g ((s + i) % B)).sum = g ((s + (0 : Nat)) % B) + rotS g B (s + 1) := by
    rw [List.range_succ_eq_map, List.map_cons, List.sum_cons, List.map_map]
    congr 1
    unfold rotS
    congr 1
    refine List.map_congr_left fun i _ => ?_
    show g ((s + ((i + 1 : Nat) : Int)) % B) = g ((s + 1 + i) % B)
    congr 2; omega
  have h2 : ((List.range (B + 1)).map fun i : Nat => g ((s + i) % B)).sum = rotS g B s + g ((s + (B : Nat)) % B) := by
    rw [List.range_succ, List.map_append, List.sum_append]
    simp [rotS]
  rw [h2, Int.add_emod_right] at h1
  simp only [Int.natCast_zero, Int.add_zero] at h1
  omega
theorem rot_add (g : Int → Int) (B : Nat) (s : Int) : ∀ n : Nat, rotS g B (s + n) = rotS g B s
  | 0 => by rw [Int.natCast_zero, Int.add_zero]
  | n + 1 => by
    rw [show s + ((n + 1 : Nat) : Int) = s + n + 1 by omega, rot_step, rot_add g B s n]
theorem rot_all (g : Int → Int) (B : Nat) (s : Int) : rotS g B s = rotS g B 0 := by
  by_cases h : 0 ≤ s
  · have := rot_add g B 0 s.toNat
    rw [show (0 : Int) + (s.toNat : Int) = s by omega] at this
    exact this
  · have := rot_add g B s (-s).toNat
    rw [show s + ((-s).toNat : Int) = 0 by omega] at this
    exact this.symm
theorem rot_zero (g : Int → Int) (B : Nat) : rotS g B 0 = ((List.range B).map fun i : Nat => g i).sum := by
  unfold rotS
  congr 1
  refine List.map_congr_left fun i hi => ?_
  have := List.mem_range.1 hi
  rw [Int.zero_add, Int.emod_eq_of_lt (by omega) (by omega)]
/-- What was let in in a bucket. -/
def inR (p : Pol) (c : Cell) (b : Int) : Int := if b < 0 ∨ numR p c.1 < b ∨ c.2.2.1 = [] then 0 else c.2.2.1.getD (b % p.2.2.2).toNat 0
theorem in_place {p : Pol} {c : Cell} (k : p.1 = 3) (g : Ring p c) {t b : Int} (ht : c.1 ≤ t) (h1 : b ≤ numR p t) (h2 : numR p t - p.2.2.2 < b) :
    inR p c b = if numR p c.1 < nb p t (b % p.2.2.2).toNat then 0 else c.2.2.1.getD (b % p.2.2.2).toNat 0 := by
  have hB := ring_B g.pol k
  have m1 := Int.emod_nonneg b (show p.2.2.2 ≠ 0 by omega)
  have m2 := Int.emod_lt_of_pos b (show 0 < p.2.2.2 by omega)
  have e := nb_eq (p := p) (t := t) (x := b) (j := (b % p.2.2.2).toNat) hB.1 h1 h2 (by
    rw [Int.toNat_of_nonneg m1, Int.sub_emod, Int.emod_emod, Int.sub_self, Int.zero_emod])
  rw [← e]
  have hn := numR_mono g.pol g.time.1 ht
  have hn0 := numR_pos g.pol g.time.1
  unfold inR
  by_cases hb : numR p c.1 < b
  · rw [if_pos (.inr (.inl hb)), if_pos hb]
  · rw [if_neg hb]
    by_cases h0 : b < 0
    · rw [if_pos (.inl h0)]
      refine (g.early _ ?_).symm
      have e2 : b % p.2.2.2 = b + p.2.2.2 := by
        have := Int.add_emod_right b p.2.2.2
        rw [← this, Int.emod_eq_of_lt (by omega) (by omega)]
      omega
    · by_cases hs : c.2.2.1 = []
      · rw [if_pos (.inr (.inr hs)), hs]; rfl
      · rw [if_neg]
        rintro (h | h | h)
        · exact h0 h
        · exact hb h
        · exact hs h
theorem in_sum {p : Pol} {c : Cell} (k : p.1 = 3) (g : Ring p c) {t : Int} (ht : c.1 ≤ t) : ((List.range p.2.2.2.toNat).map fun i : Nat => inR p c (numR p t - p.2.2.2 + 1 + i)).sum = cnt p c t := by
  have hB := ring_B g.pol k
  unfold cnt
  rw [if_neg (by omega), if_neg (by omega), if_pos k]
  have h := rot_all (fun x => if numR p c.1 < nb p t x.toNat then 0 else c.2.2.1.getD x.toNat 0) p.2.2.2.toNat (numR p t - p.2.2.2 + 1)
  rw [rot_zero] at h
  unfold rotS at h
  rw [show ((p.2.2.2.toNat : Nat) : Int) = p.2.2.2 by omega] at h
  unfold atR
  simp only [Int.toNat_natCast] at h
  rw [← h]
  congr 1
  refine List.map_congr_left fun i hi => ?_
  have := List.mem_range.1 hi
  exact in_place k g ht (by omega) (by omega)
theorem in_bound {p : Pol} {c : Cell} (g : Ring p c) (b : Int) : 0 ≤ inR p c b ∧ inR p c b ≤ 1048576 := by
  have hL := g.pol.limit
  unfold inR
  split
  · omega
  · have := g.nonneg (b % p.2.2.2).toNat
    omega
theorem r12in (p : Pol) (c : Cell) (b : Int) (k : p.1 = 3) (g : Ring p c) (hb : -1099511627776 ≤ b ∧ b ≤ 4398046511104) : Meets Tryz.prog 59 [polAV p, cellAV c, .int .i64 fun _ => b] [] (Y := Unit) (fun _ => True) (fun _ => .int .i64 fun _ => inR p c b) (fun _ => []) := by
  have hB := ring_B g.pol k
  have hl := g.len
  have m1 := Int.emod_nonneg b (show p.2.2.2 ≠ 0 by omega)
  have m2 := Int.emod_lt_of_pos b (show 0 < p.2.2.2 by omega)
  have et : 0 ≤ b → b.tmod p.2.2.2 = b % p.2.2.2 := fun h => Int.tmod_eq_emod_of_nonneg h
  refine Meets.intro hm (fn := Tryz.f59) Tryz.func59 rfl (by decide) (Nat.le_of_ble_eq_true rfl) (fun _ => rfl) ?_; intro S hok; (conv => whnf)
  (repeat' ((conv => whnf); first | apply And.intro | exact ⟨by kernel_rfl⟩ | apply DrawN.mk | apply CodeN.step hm rfl | exact trivial | exact rfl | (intro hh; try simp only [bs] at hh))); all_goals (conv => whnf)
  rotate_left
  · (refine RetN.q () [] ?_ ?_ ?_ <;> (repeat' ((conv => whnf) <;> first | exact rfl | exact trivial | apply And.intro | exact Nat.zero_add _)); all_goals ((conv => whnf); try simp only []))
    unfold inR
    rw [if_pos (.inl hh)]
  (refine CallN.q (r12num p c.1 g.pol k (by have := g.time; omega)) [] (fun _ _ => ?_); (repeat' ((conv => whnf); first | apply And.intro | exact ⟨by kernel_rfl⟩ | apply DrawN.mk | apply CodeN.step hm rfl | exact trivial | exact rfl | (intro hh; try simp only [bs] at hh; try exact absurd hh (by decide)))); all_goals (conv => whnf); all_goals try exact ⟨by decide⟩)
  all_goals first
    | (refine Ob.mk ?_; first | omega | (simp only []; omega))
    | (refine Ob.mk ?_
       have h0 : ¬ b < 0 := by assumption
       have hne : (c.2.2.1.length : Int) ≠ 0 := by assumption
       simp only [et (by omega)]
       rcases hl with h | h
       · rw [h] at hne; exact absurd rfl hne
       · omega)
    | ((refine RetN.q () [] ?_ ?_ ?_ <;> (repeat' ((conv => whnf) <;> first | exact rfl | exact trivial | apply And.intro | exact Nat.zero_add _)); all_goals ((conv => whnf); try simp only []))
       unfold inR
       first
         | (rw [if_pos (.inr (.inl (by omega)))]; done)
         | (rw [if_pos (.inr (.inr (List.eq_nil_of_length_eq_zero (by omega))))]; done)
         | (have h0 : ¬ b < 0 := by assumption
            have h1 : ¬ numR p c.1 < b := by assumption
            have hne : (c.2.2.1.length : Int) ≠ 0 := by assumption
            rw [if_neg (by
              rintro (h | h | h)
              · exact h0 h
              · exact h1 h
              · rw [h] at hne; exact hne rfl)]
            show c.2.2.1.getD _ _ = _
            first
              | rfl
              | (rw [← et (by omega)]; rfl)
              | (rw [Int.tmod_eq_emod_of_nonneg (by omega)]; rfl)))
theorem sum_range_bound {f : Nat → Int} {m : Int} (h : ∀ i, 0 ≤ f i ∧ f i ≤ m) : ∀ n : Nat, 0 ≤ ((List.range n).map f).sum ∧ ((List.range n).map f).sum ≤ m * n
  | 0 => by simp
  | n + 1 => by
    have ih := sum_range_bound h n
    have := h n
    rw [List.range_succ, List.map_append, List.sum_append]
    simp only [List.map_cons, List.map_nil, List.sum_cons, List.sum_nil]
    rw [show m * ((n + 1 : Nat) : Int) = m * n + m by rw [Int.natCast_add, Int.mul_add]; omega]
    omega
theorem r12counts (p : Pol) (c : Cell) (t : Int) (k : p.1 = 3) (g : Ring p c) (ht : c.1 ≤ t ∧ t ≤ 2199023255552) : Meets Tryz.prog 60 [polAV p, cellAV c, .int .i64 fun _ => t] [] (Y := Unit) (fun _ => True) (fun _ => .int .i64 fun _ => cnt p c t) (fun _ => []) := by
  have hp := g.pol
  have hB := ring_B hp k
  have hct := g.time
  have hN := numR_mono hp hct.1 ht.1
  have hN0 := numR_pos hp hct.1
  have hN2 := numR_le hp (t := t) (by omega)
  have hsum := in_sum k g ht.1
  have e1 : IntKind.i64.wrap (numR p t - p.2.2.2) = numR p t - p.2.2.2 := wr (by omega)
  have e2 : IntKind.i64.wrap (numR p t - p.2.2.2 + 1) = numR p t - p.2.2.2 + 1 := wr (by omega)
  have e3 : IntKind.i64.wrap (numR p c.1 - p.2.2.2) = numR p c.1 - p.2.2.2 := wr (by omega)
  have e4 : IntKind.i64.wrap (numR p c.1 - p.2.2.2 + 1) = numR p c.1 - p.2.2.2 + 1 := wr (by omega)
  have e5 : (if numR p c.1 - p.2.2.2 + 1 > numR p t - p.2.2.2 + 1 then numR p c.1 - p.2.2.2 + 1 else numR p t - p.2.2.2 + 1) = numR p t - p.2.2.2 + 1 := by split <;> omega
  have e6 : IntKind.i64.wrap (numR p t - p.2.2.2 + 1 + p.2.2.2) = numR p t + 1 := by rw [wr (by omega)]; omega
  refine Meets.intro hm (fn := Tryz.f60) Tryz.func60 rfl (by decide) (Nat.le_of_ble_eq_true rfl) (fun _ => rfl) ?_; intro S hok; (conv => whnf)
  (repeat' ((conv => whnf); first | apply And.intro | exact ⟨by kernel_rfl⟩ | apply DrawN.mk | apply CodeN.step hm rfl | exact trivial | exact rfl | (intro hh; try simp only [bs] at hh))); all_goals (conv => whnf)
  (refine CallN.q (r12num p t hp k (by omega)) [] (fun _ _ => ?_); (repeat' ((conv => whnf); first | apply And.intro | exact ⟨by kernel_rfl⟩ | apply DrawN.mk | apply CodeN.step hm rfl | exact trivial | exact rfl | (intro hh; try simp only [bs] at hh; try exact absurd hh (by decide)))); all_goals (conv => whnf); all_goals try exact ⟨by decide⟩)
  all_goals (try simp only [e1, e2])
  (refine CallN.q (r12num p c.1 hp k (by omega)) [] (fun _ _ => ?_); (repeat' ((conv => whnf); first | apply And.intro | exact ⟨by kernel_rfl⟩ | apply DrawN.mk | apply CodeN.step hm rfl | exact trivial | exact rfl | (intro hh; try simp only [bs] at hh; try exact absurd hh (by decide)))); all_goals (conv => whnf); all_goals try exact ⟨by decide⟩)
  all_goals (try simp only [e1, e2, e3, e4, e5])
  have hbd := in_bound g
  have hsb := sum_range_bound (f := fun i : Nat => inR p c (numR p t - p.2.2.2 + 1 + i)) (m := 1048576) (fun i => hbd _)
  refine LoopN.intro hm (X := Nat) (fun i => i ≤ p.2.2.2.toNat) (fun i => p.2.2.2.toNat - i)
    (fun i => [(10, .int .i64 fun _ => numR p t - p.2.2.2 + 1 + (i : Int)), (9, .int .i64 fun _ => ((List.range i).map fun i : Nat => inR p c (numR p t - p.2.2.2 + 1 + i)).sum), (8, .int .i64 fun _ => numR p t - p.2.2.2 + 1), (7, .int .i64 fun _ => numR p t), (4, .ptr 1 0), (3, .ptr 0 0)])
    (fun _ => [.cells 23 [.int .i64 fun _ => p.1, .int .i64 fun _ => p.2.1, .int .i64 fun _ => p.2.2.1, .int .i64 fun _ => p.2.2.2], .cells 27 [.int .i64 fun _ => c.1, .int .i64 fun _ => c.2.1, .lst (.int .i64) fun _ => c.2.2.1, .lst HitT fun _ => c.2.2.2]]) 0 [0, 1] ⟨rfl, rfl, ?_, ?_⟩ (Nat.zero_le _) (fun i hi => ?_)
  · (repeat' ((conv => whnf) <;> first | exact rfl | exact trivial | apply And.intro | exact Nat.zero_add _))
  · (repeat' ((conv => whnf) <;> first | exact rfl | exact trivial | apply And.intro | exact Nat.zero_add _)); all_goals ((conv => whnf); try simp only [])
    omega
  have hsi := hsb i
  have hrs : ((List.range (i + 1)).map fun i : Nat => inR p c (numR p t - p.2.2.2 + 1 + i)).sum = ((List.range i).map fun i : Nat => inR p c (numR p t - p.2.2.2 + 1 + i)).sum + inR p c (numR p t - p.2.2.2 + 1 + i) := by
    rw [List.range_succ, List.map_append, List.sum_append]; simp
  have hbi := hbd (numR p t - p.2.2.2 + 1 + i)
  (repeat' ((conv => whnf); first | apply And.intro | exact ⟨by kernel_rfl⟩ | apply DrawN.mk | apply CodeN.step hm rfl | exact trivial | exact rfl | (intro hh; try simp only [bs] at hh))); all_goals (conv => whnf)
  all_goals (try simp only [e6] at hh ⊢)
  all_goals first | (exfalso; omega) | skip
  · (refine CallN.q (r12in p c (numR p t - p.2.2.2 + 1 + i) k g (by omega)) [] (fun _ _ => ?_); (repeat' ((conv => whnf); first | apply And.intro | exact ⟨by kernel_rfl⟩ | apply DrawN.mk | apply CodeN.step hm rfl | exact trivial | exact rfl | (intro hh; try simp only [bs] at hh; try exact absurd hh (by decide)))); all_goals (conv => whnf); all_goals try exact ⟨by decide⟩)
    refine ⟨i + 1, [0, 1], ⟨rfl, rfl, ?_, ?_⟩, by omega, by omega⟩
    · (repeat' ((conv => whnf) <;> first | exact rfl | exact trivial | apply And.intro | exact Nat.zero_add _))
    · (repeat' ((conv => whnf) <;> first | exact rfl | exact trivial | apply And.intro | exact Nat.zero_add _)); all_goals ((conv => whnf); try simp only [])
      · rw [wr (by omega)]; omega
      · rw [hrs]; exact wr (by omega)
  all_goals
    have e : i = p.2.2.2.toNat := by omega
    (refine RetN.q () [] ?_ ?_ ?_ <;> (repeat' ((conv => whnf) <;> first | exact rfl | exact trivial | apply And.intro | exact Nat.zero_add _)); all_goals ((conv => whnf); try simp only []))
    rw [e]; exact hsum
/-- A ring waits. -/
theorem r12wait (p : Pol) (d : Cell) (m : Int) (k : p.1 = 3) (hm0 : 0 ≤ m) (hmy : mayC p d = true) (hl : d.2.2.1.length = p.2.2.2.toNat) : Meets Tryz.prog 61 [polAV p, cellAV d, .int .i64 fun _ => d.1, .int .i64 fun _ => m] [] (Y := Unit) (fun _ => True) (fun _ => .int .i64 fun _ => wt p d m) (fun _ => []) := by
  have g := (may3 k).1 hmy
  have hp := g.pol
  have hB := ring_B hp k
  have hW := hp.window
  have hs := slot_bound hp
  have ht := g.time
  have hwn := ring_window hp k
  have hN0 := numR_pos hp ht.1
  have hN := numR_le hp ht.1
  have hc0 := wN_cnt k g hl (t := d.1) (Int.le_refl _) (i := 0) (by simp)
  have hso : slotOf p = p.2.2.1.tdiv p.2.2.2 := by unfold slotOf; rw [if_pos k]
  have es : IntKind.i64.wrap (p.2.2.1.tdiv p.2.2.2) = slotOf p := by rw [← hso]; exact wr (by omega)
  have hblk := tdiv_block ht.1 hs.1
  have hnd : numR p d.1 = d.1.tdiv (slotOf p) := rfl
  rw [← hnd] at hblk
  have hbeg : ∀ i : Nat, 1 ≤ i → i ≤ p.2.2.2.toNat → numR p (slotOf p * (numR p d.1 + i)) = numR p d.1 + i ∧ d.1 ≤ slotOf p * (numR p d.1 + i) ∧ slotOf p * (numR p d.1 + i) ≤ d.1 + p.2.2.1 := fun i h1 h2 => by
    have e : slotOf p * (numR p d.1 + i) = numR p d.1 * slotOf p + i * slotOf p := by rw [Int.mul_comm, Int.add_mul]
    have h3 : 1 * slotOf p ≤ i * slotOf p := Int.mul_le_mul_of_nonneg_right (by omega) (by omega)
    have h4 : i * slotOf p ≤ p.2.2.2 * slotOf p := Int.mul_le_mul_of_nonneg_right (by omega) (by omega)
    have h5 : p.2.2.2 * slotOf p = p.2.2.1 := by rw [← hwn]; exact Int.mul_comm _ _
    refine ⟨?_, by omega, by omega⟩
    rw [e, ← Int.add_mul]
    exact tdiv_is (Int.mul_nonneg (by omega) (by omega)) hs.1 (Int.le_refl _) (by omega)
  have hci : ∀ i : Nat, 1 ≤ i → i ≤ p.2.2.2.toNat → cnt p d (slotOf p * (numR p d.1 + i)) = wN p d i := fun i h1 h2 => by
    obtain ⟨q1, q2, q3⟩ := hbeg i h1 h2
    exact wN_cnt k g hl q2 q1
  have hw := fun i : Nat => @rwait_at p d m k hmy hl i
  refine Meets.intro hm (fn := Tryz.f61) Tryz.func61 rfl (by decide) (Nat.le_of_ble_eq_true rfl) (fun _ => rfl) ?_; intro S hok; (conv => whnf)
  (repeat' ((conv => whnf); first | apply And.intro | exact ⟨by kernel_rfl⟩ | apply DrawN.mk | apply CodeN.step hm rfl | exact trivial | exact rfl | (intro hh; try simp only [bs] at hh))); all_goals (conv => whnf)
  refine CallN.q (r12counts p d d.1 k g (by omega)) [] (fun _ _ => ?_)
  rw [hc0]
  (repeat' ((conv => whnf); first | apply And.intro | exact ⟨by kernel_rfl⟩ | apply DrawN.mk | apply CodeN.step hm rfl | exact trivial | exact rfl | (intro hh; try simp only [bs] at hh; try exact absurd hh (by decide)))); all_goals (conv => whnf)
  · (refine RetN.q () [] ?_ ?_ ?_ <;> (repeat' ((conv => whnf) <;> first | exact rfl | exact trivial | apply And.intro | exact Nat.zero_add _)); all_goals ((conv => whnf); try simp only []))
    exact (rwait_0 k hm0 hmy hl (by assumption)).symm
  all_goals (try simp only [es])
  · refine Ob.mk ?_
    first | omega | (simp only []; omega)
  have h00 : m < wN p d 0 := by omega
  refine LoopN.intro hm (X := Nat) (fun i => i + 1 ≤ p.2.2.2.toNat ∧ m < wN p d i) (fun i => p.2.2.2.toNat - i)
    (fun i => [(10, .int .i64 fun _ => ((i + 1 : Nat) : Int)), (9, .int .i64 fun _ => slotOf p), (5, .ptr 1 0), (4, .ptr 0 0), (2, .int .i64 fun _ => d.1), (3, .int .i64 fun _ => m)])
    (fun _ => [.cells 23 [.int .i64 fun _ => p.1, .int .i64 fun _ => p.2.1, .int .i64 fun _ => p.2.2.1, .int .i64 fun _ => p.2.2.2], .cells 27 [.int .i64 fun _ => d.1, .int .i64 fun _ => d.2.1, .lst (.int .i64) fun _ => d.2.2.1, .lst HitT fun _ => d.2.2.2]]) 0 [0, 1] ⟨rfl, rfl, ?_, ?_⟩ ⟨by omega, h00⟩ (fun i hi => ?_)
  · (repeat' ((conv => whnf) <;> first | exact rfl | exact trivial | apply And.intro | exact Nat.zero_add _))
  · (repeat' ((conv => whnf) <;> first | exact rfl | exact trivial | apply And.intro | exact Nat.zero_add _))
  obtain ⟨hi, hlo⟩ := hi
  obtain ⟨q1, q2, q3⟩ := hbeg (i + 1) (by omega) hi
  have hcc := hci (i + 1) (by omega) hi
  have hwi := hw i (by omega) hlo
  have hx : (numR p d.1 + 1 + (i : Int)) * slotOf p = slotOf p * (numR p d.1 + ((i + 1 : Nat) : Int)) := by rw [Int.mul_comm]; congr 1; omega
  rw [hx] at hwi
  have e1 : IntKind.i64.wrap (numR p d.1 + ((i + 1 : Nat) : Int)) = numR p d.1 + ((i + 1 : Nat) : Int) := wr (by omega)
  have e2 : IntKind.i64.wrap (slotOf p * (numR p d.1 + ((i + 1 : Nat) : Int))) = slotOf p * (numR p d.1 + ((i + 1 : Nat) : Int)) := wr (by omega)
  have e3 : IntKind.i64.wrap (slotOf p * (numR p d.1 + ((i + 1 : Nat) : Int)) - d.1) = slotOf p * (numR p d.1 + ((i + 1 : Nat) : Int)) - d.1 := wr (by omega)
  have MC := r12counts p d (slotOf p * (numR p d.1 + ((i + 1 : Nat) : Int))) k g (by omega)
  rw [hcc] at MC
  by_cases hib : i + 1 < p.2.2.2.toNat
  · (repeat' ((conv => whnf); first | apply And.intro | exact ⟨by kernel_rfl⟩ | apply DrawN.mk | apply CodeN.step hm rfl | exact trivial | exact rfl | (intro hh; try simp only [bs] at hh))); all_goals (conv => whnf)
    all_goals first | (exfalso; omega) | skip
    (refine CallN.q (r12num p d.1 hp k (by omega)) [] (fun _ _ => ?_); (repeat' ((conv => whnf); first | apply And.intro | exact ⟨by kernel_rfl⟩ | apply DrawN.mk | apply CodeN.step hm rfl | exact trivial | exact rfl | (intro hh; try simp only [bs] at hh; try exact absurd hh (by decide)))); all_goals (conv => whnf); all_goals try exact ⟨by decide⟩)
    all_goals (try simp only [e1, e2, e3] at hh ⊢)
    (refine CallN.q MC [] (fun _ _ => ?_); (repeat' ((conv => whnf); first | apply And.intro | exact ⟨by kernel_rfl⟩ | apply DrawN.mk | apply CodeN.step hm rfl | exact trivial | exact rfl | (intro hh; try simp only [bs] at hh; try exact absurd hh (by decide)))); all_goals (conv => whnf); all_goals try exact ⟨by decide⟩)
    all_goals (try simp only [e1, e2, e3] at hh ⊢)
    · have hq : wN p d (i + 1) ≤ m := by assumption
      (refine RetN.q () [] ?_ ?_ ?_ <;> (repeat' ((conv => whnf) <;> first | exact rfl | exact trivial | apply And.intro | exact Nat.zero_add _)); all_goals ((conv => whnf); try simp only []))
      all_goals (try simp only [e1, e2, e3])
      exact (hwi hq).symm
    · refine ⟨i + 1, [0, 1], ⟨rfl, rfl, ?_, ?_⟩, ⟨by omega, by omega⟩, by omega⟩
      · (repeat' ((conv => whnf) <;> first | exact rfl | exact trivial | apply And.intro | exact Nat.zero_add _))
      · (repeat' ((conv => whnf) <;> first | exact rfl | exact trivial | apply And.intro | exact Nat.zero_add _)); all_goals ((conv => whnf); try simp only [])
        exact wr (by omega)
  · have hiB : i + 1 = p.2.2.2.toNat := by omega
    have hend := rwait_end k hmy hl
    have hB2 : ((i + 1 : Nat) : Int) = p.2.2.2 := by omega
    rw [hB2] at e1 e2 e3 hwi
    rw [← hiB] at hend
    (repeat' ((conv => whnf); first | apply And.intro | exact ⟨by kernel_rfl⟩ | apply DrawN.mk | apply CodeN.step hm rfl | exact trivial | exact rfl | (intro hh; try simp only [bs] at hh))); all_goals (conv => whnf)
    all_goals first | (exfalso; omega) | skip
    (refine CallN.q (r12num p d.1 hp k (by omega)) [] (fun _ _ => ?_); (repeat' ((conv => whnf); first | apply And.intro | exact ⟨by kernel_rfl⟩ | apply DrawN.mk | apply CodeN.step hm rfl | exact trivial | exact rfl | (intro hh; try simp only [bs] at hh; try exact absurd hh (by decide)))); all_goals (conv => whnf); all_goals try exact ⟨by decide⟩)
    all_goals (try simp only [e1, e2, e3] at hh ⊢)
    (refine RetN.q () [] ?_ ?_ ?_ <;> (repeat' ((conv => whnf) <;> first | exact rfl | exact trivial | apply And.intro | exact Nat.zero_add _)); all_goals ((conv => whnf); try simp only []))
    all_goals (try simp only [e1, e2, e3])
    exact (hwi (by rw [hend]; exact hm0)).symm
theorem full_own {p : Pol} {c : Cell} (k : p.1 = 3) (h1 : mayC p c = true) (hl : c.2.2.1.length = p.2.2.2.toNat) : moved p c c.1 = c := by
  have g := (may3 k).1 h1
  have hB := ring_B g.pol k
  obtain ⟨a, l, s, hs⟩ := c
  have h0 := g.level
  have h2 := g.hits
  simp only [] at h0 h2 hl
  subst h0 h2
  unfold moved
  rw [if_neg (by omega), if_pos k]
  have : atR p (a, 0, s, []) a = s := by
    refine list_getD (by rw [atR_len, hl]) fun j hj => ?_
    rw [atR_len] at hj
    have := (nb_le (p := p) (t := a) (j := j) hB.1).1
    rw [atR_getD hj, if_neg (by simp only []; omega)]
  show (a, 0, atR p (a, 0, s, []) a, []) = _
  rw [this]
theorem r12ends (p : Pol) (c : Cell) (k : p.1 = 3) (hl40 : c.2.2.1.length ≤ 40) : Meets Tryz.prog 32 [polAV p, cellAV c] [] (Y := Unit) (fun _ => True) (fun _ => .int .i64 fun _ => endsC p c) (fun _ => []) := by
  by_cases h1 : mayC p c = true
  rotate_left
  · have M1 := r12may p c k hl40
    rw [Bool.eq_false_iff.2 h1] at M1
    refine Meets.intro hm (fn := Tryz.f32) Tryz.func32 rfl (by decide) (Nat.le_of_ble_eq_true rfl) (fun _ => rfl) ?_; intro S hok; (conv => whnf)
    (repeat' ((conv => whnf); first | apply And.intro | exact ⟨by kernel_rfl⟩ | apply DrawN.mk | apply CodeN.step hm rfl | exact trivial | exact rfl | (intro hh; try simp only [bs] at hh))); all_goals (conv => whnf)
    (refine CallN.q M1 [] (fun _ _ => ?_); (repeat' ((conv => whnf); first | apply And.intro | exact ⟨by kernel_rfl⟩ | apply DrawN.mk | apply CodeN.step hm rfl | exact trivial | exact rfl | (intro hh; try simp only [bs] at hh; try exact absurd hh (by decide)))); all_goals (conv => whnf); all_goals try exact ⟨by decide⟩)
    (refine RetN.q () [] ?_ ?_ ?_ <;> (repeat' ((conv => whnf) <;> first | exact rfl | exact trivial | apply And.intro | exact Nat.zero_add _)); all_goals ((conv => whnf); try simp only []))
    unfold endsC
    rw [if_neg h1]
  · have M1 := r12may p c k hl40
    rw [h1] at M1
    have g := (may3 k).1 h1
    have hp := g.pol
    have hB := ring_B hp k
    have hW := hp.window
    have ht := g.time
    rcases g.len with he | he
    · have hc : cnt p c c.1 = 0 := by
        rw [cnt_own h1]; unfold own
        rw [if_neg (by omega), if_pos k, he]; rfl
      have hz : endsC p c = c.1 := by
        unfold endsC
        rw [if_pos h1]
        have hmm := moved_may h1 (Int.le_refl _) ht.2
        have : wt p (moved p c c.1) 0 ≤ 0 := (wt_le hmm (Int.le_refl _) (Int.le_refl _)).2 (by rw [moved_at, Int.add_zero, moved_cnt h1 (Int.le_refl _) (Int.le_refl _), hc]; exact Int.le_refl _)
        have h2 := (wt_bound (p := p) (d := moved p c c.1) hp 0).1
        omega
      have MW : Meets Tryz.prog 61 [polAV p, cellAV c, .int .i64 fun _ => c.1, .int .i64 fun _ => 0] [] (Y := Unit) (fun _ => True) (fun _ => .int .i64 fun _ => 0) (fun _ => []) := by
        refine Meets.intro hm (fn := Tryz.f61) Tryz.func61 rfl (by decide) (Nat.le_of_ble_eq_true rfl) (fun _ => rfl) ?_; intro S hok; (conv => whnf)
        (repeat' ((conv => whnf); first | apply And.intro | exact ⟨by kernel_rfl⟩ | apply DrawN.mk | apply CodeN.step hm rfl | exact trivial | exact rfl | (intro hh; try simp only [bs] at hh))); all_goals (conv => whnf)
        refine CallN.q (r12counts p c c.1 k g (by omega)) [] (fun _ _ => ?_)
        rw [hc]
        (repeat' ((conv => whnf); first | apply And.intro | exact ⟨by kernel_rfl⟩ | apply DrawN.mk | apply CodeN.step hm rfl | exact trivial | exact rfl | (intro hh; try simp only [bs] at hh; try exact absurd hh (by decide)))); all_goals (conv => whnf)
        (refine RetN.q () [] ?_ ?_ ?_ <;> (repeat' ((conv => whnf) <;> first | exact rfl | exact trivial | apply And.intro | exact Nat.zero_add _)); all_goals ((conv => whnf); try simp only []))
      refine Meets.intro hm (fn := Tryz.f32) Tryz.func32 rfl (by decide) (Nat.le_of_ble_eq_true rfl) (fun _ => rfl) ?_; intro S hok; (conv => whnf)
      (repeat' ((conv => whnf); first | apply And.intro | exact ⟨by kernel_rfl⟩ | apply DrawN.mk | apply CodeN.step hm rfl | exact trivial | exact rfl | (intro hh; try simp only [bs] at hh))); all_goals (conv => whnf)
      (refine CallN.q M1 [] (fun _ _ => ?_); (repeat' ((conv => whnf); first | apply And.intro | exact ⟨by kernel_rfl⟩ | apply DrawN.mk | apply CodeN.step hm rfl | exact trivial | exact rfl | (intro hh; try simp only [bs] at hh; try exact absurd hh (by decide)))); all_goals (conv => whnf); all_goals try exact ⟨by decide⟩)
      (refine CallN.q MW [] (fun _ _ => ?_); (repeat' ((conv => whnf); first | apply And.intro | exact ⟨by kernel_rfl⟩ | apply DrawN.mk | apply CodeN.step hm rfl | exact trivial | exact rfl | (intro hh; try simp only [bs] at hh; try exact absurd hh (by decide)))); all_goals (conv => whnf); all_goals try exact ⟨by decide⟩)
      (refine RetN.q () [] ?_ ?_ ?_ <;> (repeat' ((conv => whnf) <;> first | exact rfl | exact trivial | apply And.intro | exact Nat.zero_add _)); all_goals ((conv => whnf); try simp only []))
      rw [hz, wr (by omega)]; omega
    · have hlB : c.2.2.1.length = p.2.2.2.toNat := by omega
      have hwb := wt_bound (p := p) (d := c) hp 0
      have hz : endsC p c = c.1 + wt p c 0 := by
        unfold endsC
        rw [if_pos h1, full_own k h1 hlB]
      refine Meets.intro hm (fn := Tryz.f32) Tryz.func32 rfl (by decide) (Nat.le_of_ble_eq_true rfl) (fun _ => rfl) ?_; intro S hok; (conv => whnf)
      (repeat' ((conv => whnf); first | apply And.intro | exact ⟨by kernel_rfl⟩ | apply DrawN.mk | apply CodeN.step hm rfl | exact trivial | exact rfl | (intro hh; try simp only [bs] at hh))); all_goals (conv => whnf)
      (refine CallN.q M1 [] (fun _ _ => ?_); (repeat' ((conv => whnf); first | apply And.intro | exact ⟨by kernel_rfl⟩ | apply DrawN.mk | apply CodeN.step hm rfl | exact trivial | exact rfl | (intro hh; try simp only [bs] at hh; try exact absurd hh (by decide)))); all_goals (conv => whnf); all_goals try exact ⟨by decide⟩)
      (refine CallN.q (r12wait p c 0 k (Int.le_refl _) h1 hlB) [] (fun _ _ => ?_); (repeat' ((conv => whnf); first | apply And.intro | exact ⟨by kernel_rfl⟩ | apply DrawN.mk | apply CodeN.step hm rfl | exact trivial | exact rfl | (intro hh; try simp only [bs] at hh; try exact absurd hh (by decide)))); all_goals (conv => whnf); all_goals try exact ⟨by decide⟩)
      (refine RetN.q () [] ?_ ?_ ?_ <;> (repeat' ((conv => whnf) <;> first | exact rfl | exact trivial | apply And.intro | exact Nat.zero_add _)); all_goals ((conv => whnf); try simp only []))
      rw [hz]
      exact wr (by omega)
end Go.Proofs.YtkcifdblaboodaaGreat.Ce
set_option linter.unusedVariables false
set_option linter.unusedSimpArgs false
namespace Go.Proofs.YtkcifdblaboodaaGreat.Ce
open Go Go.RowKit Fw Hi Po
set_option maxHeartbeats 4000000 in
set_option maxRecDepth 4000 in
theorem r12ask (p : Pol) (c : Cell) (t w : Int) (k : p.1 = 3) (hl40 : c.2.2.1.length ≤ 40) : Meets Tryz.prog 24 [polAV p, cellAV c, .int .i64 fun _ => t, .int .i64 fun _ => w] [] (Y := Unit) (fun _ => True) (fun _ => .tup [cellAV (askC p c t w).1, verAV (askC p c t w).2]) (fun _ => []) := by
  by_cases hv : mayC p c = true ∧ timeB t = true ∧ weighs w = true
  · obtain ⟨h1, h2, h3⟩ := hv
    have M1 := r12may p c k hl40
    have M2 := ttimeM t
    have M3 := rweighsM w
    rw [h1] at M1
    rw [h2] at M2
    rw [h3] at M3
    have ht : 0 ≤ t ∧ t ≤ 1099511627776 := by simpa [timeB] using h2
    have hw : 1 ≤ w ∧ w ≤ 1048576 := by simpa [weighs] using h3
    have g := (may3 k).1 h1
    have hp := g.pol
    have hct := g.time
    have hL := hp.limit
    have hW := hp.window
    have hB := ring_B hp k
    have hmx : (if c.1 > t then c.1 else t) = max t c.1 := by split <;> omega
    have ha := ask3 k h1 h2 h3
    have hmm := moved_may h1 (t := max t c.1) (by omega) (by omega)
    have em : moved p c (max t c.1) = (max t c.1, 0, atR p c (max t c.1), []) := by unfold moved; rw [if_neg (by omega), if_pos k]
    rw [em] at hmm ha
    have hT : (0 ≤ max t c.1 ∧ max t c.1 ≤ 1099511627776) ∧ c.1 ≤ max t c.1 := by omega
    have hlen : (atR p c (max t c.1)).length = p.2.2.2.toNat := atR_len ..
    have hget := fun j (h : j < p.2.2.2.toNat) => atR_getD (p := p) (c := c) (t := max t c.1) h
    generalize hTT : max t c.1 = T at *
    have hN := numR_mono hp hct.1 hT.2
    have hN0 := numR_pos hp hct.1
    have hN2 := numR_le hp hT.1.1
    have e1 : IntKind.i64.wrap (numR p T - p.2.2.2) = numR p T - p.2.2.2 := wr (by omega)
    have e2 : IntKind.i64.wrap (numR p T - p.2.2.2 + 1) = numR p T - p.2.2.2 + 1 := wr (by omega)
    have e3 : IntKind.i64.wrap (numR p c.1 - p.2.2.2) = numR p c.1 - p.2.2.2 := wr (by omega)
    have e5 : (if numR p T - p.2.2.2 + 1 > 0 then numR p T - p.2.2.2 + 1 else 0) = max 0 (numR p T - p.2.2.2 + 1) := by split <;> omega
    have M4 := r12num p T hp k (by omega)
    have M5 := r12num p c.1 hp k (by omega)
    refine Meets.intro hm (fn := Tryz.f24) Tryz.func24 rfl (by decide) (Nat.le_of_ble_eq_true rfl) (fun _ => rfl) ?_; intro S hok; (conv => whnf)
    (repeat' ((conv => whnf); first | apply And.intro | exact ⟨by kernel_rfl⟩ | apply DrawN.mk | apply CodeN.step hm rfl | exact trivial | exact rfl | (intro hh; try simp only [bs] at hh))); all_goals (conv => whnf)
    (refine CallN.q M1 [] (fun _ _ => ?_); (repeat' ((conv => whnf); first | apply And.intro | exact ⟨by kernel_rfl⟩ | apply DrawN.mk | apply CodeN.step hm rfl | exact trivial | exact rfl | (intro hh; try simp only [bs] at hh; try exact absurd hh (by decide)))); all_goals (conv => whnf); all_goals try exact ⟨by decide⟩)
    (refine CallN.q M2 [] (fun _ _ => ?_); (repeat' ((conv => whnf); first | apply And.intro | exact ⟨by kernel_rfl⟩ | apply DrawN.mk | apply CodeN.step hm rfl | exact trivial | exact rfl | (intro hh; try simp only [bs] at hh; try exact absurd hh (by decide)))); all_goals (conv => whnf); all_goals try exact ⟨by decide⟩)
    (refine CallN.q M3 [] (fun _ _ => ?_); (repeat' ((conv => whnf); first | apply And.intro | exact ⟨by kernel_rfl⟩ | apply DrawN.mk | apply CodeN.step hm rfl | exact trivial | exact rfl | (intro hh; try simp only [bs] at hh; try exact absurd hh (by decide)))); all_goals (conv => whnf); all_goals try exact ⟨by decide⟩)
    simp only [hmx]
    (refine CallN.q M4 [] (fun _ _ => ?_); (repeat' ((conv => whnf); first | apply And.intro | exact ⟨by kernel_rfl⟩ | apply DrawN.mk | apply CodeN.step hm rfl | exact trivial | exact rfl | (intro hh; try simp only [bs] at hh; try exact absurd hh (by decide)))); all_goals (conv => whnf); all_goals try exact ⟨by decide⟩)
    all_goals (try simp only [e1, e2, e3, e5])
    · refine Ob.mk ?_
      have hb : ((Tryz.t3).bytes : Nat) = 8 := rfl
      simp only [hb]; omega
    generalize hb0 : max 0 (numR p T - p.2.2.2 + 1) = b0
    refine LoopN.intro hm (X := Nat × List Int) (fun x => b0 + x.1 ≤ numR p T + 1 ∧ x.2.length = p.2.2.2.toNat ∧ ∀ j, j < p.2.2.2.toNat → x.2.getD j 0 = if nb p T j < b0 + x.1 then (atR p c T).getD j 0 else 0) (fun x => (numR p T + 1 - b0 - x.1).toNat)
      (fun x => [(12, .int .i64 fun _ => b0 + (x.1 : Int)), (11, .ptr 5 0), (10, .int .i64 fun _ => numR p T), (2, .int .i64 fun _ => T), (9, .ptr 3 0), (8, .ptr 2 0), (5, .ptr 1 0), (4, .ptr 0 0), (3, .int .i64 fun _ => w)])
      (fun x => [.cells 23 [.int .i64 fun _ => p.1, .int .i64 fun _ => p.2.1, .int .i64 fun _ => p.2.2.1, .int .i64 fun _ => p.2.2.2], .cells 27 [.int .i64 fun _ => c.1, .int .i64 fun _ => c.2.1, .lst (.int .i64) fun _ => c.2.2.1, .lst HitT fun _ => c.2.2.2], .cells 27 [.int .i64 fun _ => 0, .int .i64 fun _ => 0, .snil, .snil], .cells 32 [.ff, .int .i64 fun _ => 0, .int .i64 fun _ => 0, .int .i64 fun _ => 0], .vect 3 (.int .i64) fun _ => x.2, .cells 27 [.int .i64 fun _ => T, .int .i64 fun _ => 0, .vec 4 1 (fun _ => 0) (fun _ => p.2.2.2.toNat), .snil]]) (0, List.replicate p.2.2.2.toNat 0) [0, 1, 2, 3, 4, 5] ⟨rfl, rfl, ?_, ?_⟩ ⟨by simp only []; omega, by simp, fun j hj => ?_⟩ (fun x hx => ?_)
    · (repeat' ((conv => whnf) <;> first | exact rfl | exact trivial | apply And.intro | exact Nat.zero_add _))
    · (repeat' ((conv => whnf) <;> first | exact rfl | exact trivial | apply And.intro | exact Nat.zero_add _)); all_goals ((conv => whnf); try simp only [])
      omega
    · rw [List.getD_eq_getElem?_getD, List.getElem?_replicate, if_pos hj, Option.getD_some]
      obtain ⟨n1, n2, n3⟩ := nb_le (p := p) (t := T) (j := j) hB.1
      by_cases hq : nb p T j < b0 + ((0 : Nat) : Int)
      · rw [if_pos hq, hget j hj, if_neg (by omega)]
        refine (g.early j ?_).symm
        have e4 := (nb_iff (p := p) (t := T) (x := nb p T j) hB.1 hj n1 n2).1 rfl
        have e6 : nb p T j % p.2.2.2 = nb p T j + p.2.2.2 := by
          have := Int.add_emod_right (nb p T j) p.2.2.2
          rw [← this, Int.emod_eq_of_lt (by omega) (by omega)]
        omega
      · rw [if_neg hq]
    obtain ⟨i, V⟩ := x
    obtain ⟨hi, hVl, hV⟩ := hx
    simp only [] at hi hVl hV
    have ewb : IntKind.i64.wrap (b0 + (i : Int) + 1) = b0 + ((i + 1 : Nat) : Int) := by rw [wr (by omega)]; omega
    have hm1 := Int.emod_nonneg (b0 + (i : Int)) (show p.2.2.2 ≠ 0 by omega)
    have hm2 := Int.emod_lt_of_pos (b0 + (i : Int)) (show 0 < p.2.2.2 by omega)
    have htm : (b0 + (i : Int)).tmod p.2.2.2 = (b0 + (i : Int)) % p.2.2.2 := Int.tmod_eq_emod_of_nonneg (by omega)
    have M6 := r12in p c (b0 + (i : Int)) k g (by omega)
    (repeat' ((conv => whnf); first | apply And.intro | exact ⟨by kernel_rfl⟩ | apply DrawN.mk | apply CodeN.step hm rfl | exact trivial | exact rfl | (intro hh; try simp only [bs] at hh))); all_goals (conv => whnf)
    · (refine CallN.q M5 [] (fun _ _ => ?_); (repeat' ((conv => whnf); first | apply And.intro | exact ⟨by kernel_rfl⟩ | apply DrawN.mk | apply CodeN.step hm rfl | exact trivial | exact rfl | (intro hh; try simp only [bs] at hh; try exact absurd hh (by decide)))); all_goals (conv => whnf); all_goals try exact ⟨by decide⟩)
      all_goals (try simp only [e3] at hh ⊢)
      all_goals first | (exfalso; omega) | skip
      · refine Ob.mk ?_
        first | omega | (simp only []; omega)
      (refine CallN.q M6 [] (fun _ _ => ?_); (repeat' ((conv => whnf); first | apply And.intro | exact ⟨by kernel_rfl⟩ | apply DrawN.mk | apply CodeN.step hm rfl | exact trivial | exact rfl | (intro hh; try simp only [bs] at hh; try exact absurd hh (by decide)))); all_goals (conv => whnf); all_goals try exact ⟨by decide⟩)
      all_goals (try simp only [htm, ewb] at hh ⊢)
      all_goals first | (refine Ob.mk ?_; first | omega | (simp only []; omega)) | skip
      have hb1 : b0 + (i : Int) ≤ numR p T := by assumption
      have hjb : ((b0 + (i : Int)) % p.2.2.2).toNat < p.2.2.2.toNat := by omega
      have hpl := in_place k g hT.2 hb1 (by omega)
      rw [← hget _ hjb] at hpl
      refine ⟨(i + 1, V.set ((b0 + (i : Int)) % p.2.2.2).toNat (inR p c (b0 + (i : Int)))), [0, 1, 2, 3, 4, 5], ⟨rfl, rfl, ?_, ?_⟩, ⟨by simp only []; omega, by simp only [List.length_set]; exact hVl, fun j hj => ?_⟩, by simp only []; omega⟩
      · (repeat' ((conv => whnf) <;> first | exact rfl | exact trivial | apply And.intro | exact Nat.zero_add _)); all_goals ((conv => whnf); try simp only [])
        rw [Nat.zero_add]
      · (repeat' ((conv => whnf) <;> first | exact rfl | exact trivial | apply And.intro | exact Nat.zero_add _))
      · show (V.set ((b0 + (i : Int)) % p.2.2.2).toNat (inR p c (b0 + (i : Int)))).getD j 0 = if nb p T j < b0 + ((i + 1 : Nat) : Int) then (atR p c T).getD j 0 else 0
        rw [Bt.getD_set, hV j hj]
        have hq := nb_iff (p := p) (t := T) (x := b0 + (i : Int)) hB.1 hj hb1 (by omega)
        by_cases e : ((b0 + (i : Int)) % p.2.2.2).toNat = j
        · have e2 := hq.2 e.symm
          rw [if_pos ⟨e, by omega⟩, if_pos (by omega), hpl, e]
        · have e2 : b0 + (i : Int) ≠ nb p T j := fun h => e (hq.1 h).symm
          rw [if_neg (fun h => e h.1)]
          by_cases h4 : nb p T j < b0 + (i : Int)
          · rw [if_pos h4, if_pos (by omega)]
          · rw [if_neg h4, if_neg (by omega)]
    · have hVe : V = atR p c T := list_getD (by rw [hVl, hlen]) fun j hj => by
        have := (nb_le (p := p) (t := T) (j := j) hB.1).1
        rw [hV j (by omega), if_pos (by omega)]
      subst hVe
      clear hV hVl M5 M6 hget hb0
      have g2 := (may3 k).1 hmm
      have hsum : cnt p (T, 0, atR p c T, []) T = (atR p c T).sum := by
        have := cnt_own hmm
        unfold own at this
        rw [if_neg (by omega), if_pos k] at this
        exact this
      generalize atR p c T = l at *
      have hvv : ∀ x ∈ l, 0 ≤ x ∧ x ≤ 1048576 := fun x hx => ⟨(g2.val x hx).1, Int.le_trans (g2.val x hx).2 hL.2⟩
      have hsm := sum_bound hvv (by omega)
      have hsl : l.sum ≤ p.2.1 := g2.sum
      have MC := r12counts p (T, 0, l, []) T k g2 ⟨Int.le_refl _, by omega⟩
      rw [hsum] at MC
      have enw : IntKind.i64.wrap (l.sum + w) = l.sum + w := wr (by omega)
      have er : IntKind.i64.wrap (p.2.1 - l.sum) = p.2.1 - l.sum := wr (by omega)
      have erw : IntKind.i64.wrap (p.2.1 - w) = p.2.1 - w := wr (by omega)
      have erw2 : IntKind.i64.wrap (p.2.1 - (l.sum + w)) = p.2.1 - (l.sum + w) := wr (by omega)
      have hdr : List.take p.2.2.2.toNat (List.drop 0 l) = l := by rw [List.drop_zero]; exact List.take_of_length_le (Nat.le_of_eq hlen)
      have hnp := numR_pos hp hT.1.1
      have htm2 : (numR p T).tmod p.2.2.2 = numR p T % p.2.2.2 := Int.tmod_eq_emod_of_nonneg hnp
      have hpl := place_lt hB.1 (numR p T)
      have hem1 := Int.emod_nonneg (numR p T) (show p.2.2.2 ≠ 0 by omega)
      by_cases hle : l.sum + w ≤ p.2.1
      · rw [if_pos hle] at ha
        have hgl := g2.nonneg (numR p T % p.2.2.2).toNat
        have hgw : IntKind.i64.wrap (l.getD (numR p T % p.2.2.2).toNat 0 + w) = l.getD (numR p T % p.2.2.2).toNat 0 + w := wr (by simp only [] at hgl; omega)
        have hadd : added p (T, 0, l, []) w = (T, 0, l.set (numR p T % p.2.2.2).toNat (l.getD (numR p T % p.2.2.2).toNat 0 + w), []) := by
          unfold added; simp only [if_neg (show ¬ p.1 = 1 by omega), if_neg (show ¬ p.1 = 2 by omega), if_pos k]
        have ham := added_may hmm (fun _ => hlen) hw.1 (by
          unfold own worth; simp only [if_neg (show ¬ p.1 = 1 by omega), if_neg (show ¬ (p.1 = 1 ∨ p.1 = 2) by omega), if_pos k]; exact hle)
        rw [hadd] at ha ham
        have hlen3 : (l.set (numR p T % p.2.2.2).toNat (l.getD (numR p T % p.2.2.2).toNat 0 + w)).length = p.2.2.2.toNat := by rw [List.length_set]; exact hlen
        have M7 := r12wait p _ 0 k (Int.le_refl _) ham hlen3
        have hset : List.take p.2.2.2.toNat (List.drop 0 (l.set (0 + ((numR p T).tmod p.2.2.2).toNat) (IntKind.i64.wrap (l.getD (0 + ((numR p T).tmod p.2.2.2).toNat) 0 + w)))) = l.set (numR p T % p.2.2.2).toNat (l.getD (numR p T % p.2.2.2).toNat 0 + w) := by
          rw [Nat.zero_add, htm2, hgw, List.drop_zero]
          exact List.take_of_length_le (Nat.le_of_eq hlen3)
        refine CallN.rest MC [4] ?_ (fun _ _ => ⟨rfl, rfl⟩) ?_
        · (repeat' ((conv => whnf) <;> first | exact rfl | exact trivial | apply And.intro | exact Nat.zero_add _)); all_goals ((conv => whnf); try simp only [])
          exact hdr
        intro y hy
        (repeat' ((conv => whnf); first | apply And.intro | exact ⟨by kernel_rfl⟩ | apply DrawN.mk | apply CodeN.step hm rfl | exact trivial | exact rfl | (intro hh; try simp only [bs] at hh; try exact absurd hh (by decide)))); all_goals (conv => whnf)
        all_goals (try simp only [enw] at hh ⊢)
        all_goals first | (exfalso; omega) | (exfalso; simp only [enw] at *; omega) | skip
        all_goals first | (refine Ob.mk ?_; first | omega | (simp only [htm2]; omega)) | skip
        refine CallN.frz 4 ?_ M7.callable
        (conv => whnf)
        refine CallN.intro M7 [] rfl rfl ?_ ?_ (fun _ _ => ?_)
        · (repeat' ((conv => whnf) <;> first | exact rfl | exact trivial | apply And.intro | exact Nat.zero_add _)); all_goals ((conv => whnf); try simp only [])
          all_goals exact hset
        · (repeat' ((conv => whnf) <;> first | exact rfl | exact trivial | apply And.intro | exact Nat.zero_add _))
        (repeat' ((conv => whnf); first | apply And.intro | exact ⟨by kernel_rfl⟩ | apply DrawN.mk | apply CodeN.step hm rfl | exact trivial | exact rfl | (intro hh; try simp only [bs] at hh; try exact absurd hh (by decide)))); all_goals (conv => whnf)
        rw [ha]
        (refine RetN.q () [] ?_ ?_ ?_ <;> (repeat' ((conv => whnf) <;> first | exact rfl | exact trivial | apply And.intro | exact Nat.zero_add _)); all_goals ((conv => whnf); try simp only []))
        all_goals first | done | exact decide_eq_true hle | exact erw2 | exact hset | rfl
      · rw [if_neg hle] at ha
        have M6 := r12wait p (T, 0, l, []) 0 k (Int.le_refl _) hmm hlen
        by_cases hlt : p.2.1 < w
        · rw [if_pos hlt] at ha
          refine CallN.rest MC [4] ?_ (fun _ _ => ⟨rfl, rfl⟩) ?_
          · (repeat' ((conv => whnf) <;> first | exact rfl | exact trivial | apply And.intro | exact Nat.zero_add _)); all_goals ((conv => whnf); try simp only [])
            exact hdr
          intro y hy
          (repeat' ((conv => whnf); first | apply And.intro | exact ⟨by kernel_rfl⟩ | apply DrawN.mk | apply CodeN.step hm rfl | exact trivial | exact rfl | (intro hh; try simp only [bs] at hh; try exact absurd hh (by decide)))); all_goals (conv => whnf)
          all_goals (try simp only [enw, er] at hh ⊢)
          all_goals first | (exfalso; omega) | (exfalso; simp only [enw] at *; omega) | skip
          refine CallN.frz 4 ?_ M6.callable
          (conv => whnf)
          refine CallN.intro M6 [] rfl rfl ?_ ?_ (fun _ _ => ?_)
          · (repeat' ((conv => whnf) <;> first | exact rfl | exact trivial | apply And.intro | exact Nat.zero_add _)); all_goals ((conv => whnf); try simp only [])
            all_goals exact hdr
          · (repeat' ((conv => whnf) <;> first | exact rfl | exact trivial | apply And.intro | exact Nat.zero_add _))
          (repeat' ((conv => whnf); first | apply And.intro | exact ⟨by kernel_rfl⟩ | apply DrawN.mk | apply CodeN.step hm rfl | exact trivial | exact rfl | (intro hh; try simp only [bs] at hh; try exact absurd hh (by decide)))); all_goals (conv => whnf)
          rw [ha]
          (refine RetN.q () [] ?_ ?_ ?_ <;> (repeat' ((conv => whnf) <;> first | exact rfl | exact trivial | apply And.intro | exact Nat.zero_add _)); all_goals ((conv => whnf); try simp only []))
          all_goals first | done | exact decide_eq_false hle | exact er | exact hdr | rfl
        · rw [if_neg hlt] at ha
          have M8 := r12wait p (T, 0, l, []) (p.2.1 - w) k (by omega) hmm hlen
          refine CallN.rest MC [4] ?_ (fun _ _ => ⟨rfl, rfl⟩) ?_
          · (repeat' ((conv => whnf) <;> first | exact rfl | exact trivial | apply And.intro | exact Nat.zero_add _)); all_goals ((conv => whnf); try simp only [])
            exact hdr
          intro y hy
          (repeat' ((conv => whnf); first | apply And.intro | exact ⟨by kernel_rfl⟩ | apply DrawN.mk | apply CodeN.step hm rfl | exact trivial | exact rfl | (intro hh; try simp only [bs] at hh; try exact absurd hh (by decide)))); all_goals (conv => whnf)
          all_goals (try simp only [enw, er, erw] at hh ⊢)
          all_goals first | (exfalso; omega) | (exfalso; simp only [enw] at *; omega) | skip
          refine CallN.rest M8 [4] ?_ (fun _ _ => ⟨rfl, rfl⟩) ?_
          · (repeat' ((conv => whnf) <;> first | exact rfl | exact trivial | apply And.intro | exact Nat.zero_add _)); all_goals ((conv => whnf); try simp only [])
            all_goals first | exact hdr | rfl
          intro y hy
          (repeat' ((conv => whnf); first | apply And.intro | exact ⟨by kernel_rfl⟩ | apply DrawN.mk | apply CodeN.step hm rfl | exact trivial | exact rfl | (intro hh; try simp only [bs] at hh; try exact absurd hh (by decide)))); all_goals (conv => whnf)
          all_goals (try simp only [enw, er, erw] at hh ⊢)
          refine CallN.frz 4 ?_ M6.callable
          (conv => whnf)
          refine CallN.intro M6 [] rfl rfl ?_ ?_ (fun _ _ => ?_)
          · (repeat' ((conv => whnf) <;> first | exact rfl | exact trivial | apply And.intro | exact Nat.zero_add _)); all_goals ((conv => whnf); try simp only [])
            all_goals exact hdr
          · (repeat' ((conv => whnf) <;> first | exact rfl | exact trivial | apply And.intro | exact Nat.zero_add _))
          (repeat' ((conv => whnf); first | apply And.intro | exact ⟨by kernel_rfl⟩ | apply DrawN.mk | apply CodeN.step hm rfl | exact trivial | exact rfl | (intro hh; try simp only [bs] at hh; try exact absurd hh (by decide)))); all_goals (conv => whnf)
          rw [ha]
          (refine RetN.q () [] ?_ ?_ ?_ <;> (repeat' ((conv => whnf) <;> first | exact rfl | exact trivial | apply And.intro | exact Nat.zero_add _)); all_goals ((conv => whnf); try simp only []))
          all_goals first | done | exact decide_eq_false hle | exact er | exact hdr | rfl
  · rw [ask_bad hv]
    refine Meets.intro hm (fn := Tryz.f24) Tryz.func24 rfl (by decide) (Nat.le_of_ble_eq_true rfl) (fun _ => rfl) ?_; intro S hok; (conv => whnf)
    (repeat' ((conv => whnf); first | apply And.intro | exact ⟨by kernel_rfl⟩ | apply DrawN.mk | apply CodeN.step hm rfl | exact trivial | exact rfl | (intro hh; try simp only [bs] at hh))); all_goals (conv => whnf)
    (refine CallN.q (r12may p c k hl40) [] (fun _ _ => ?_); (repeat' ((conv => whnf); first | apply And.intro | exact ⟨by kernel_rfl⟩ | apply DrawN.mk | apply CodeN.step hm rfl | exact trivial | exact rfl | (intro hh; try simp only [bs] at hh; try exact absurd hh (by decide)))); all_goals (conv => whnf); all_goals try exact ⟨by decide⟩)
    all_goals try
      (refine CallN.q (ttimeM t) [] (fun _ _ => ?_); (repeat' ((conv => whnf); first | apply And.intro | exact ⟨by kernel_rfl⟩ | apply DrawN.mk | apply CodeN.step hm rfl | exact trivial | exact rfl | (intro hh; try simp only [bs] at hh; try exact absurd hh (by decide)))); all_goals (conv => whnf); all_goals try exact ⟨by decide⟩)
    all_goals try
      (refine CallN.q (rweighsM w) [] (fun _ _ => ?_); (repeat' ((conv => whnf); first | apply And.intro | exact ⟨by kernel_rfl⟩ | apply DrawN.mk | apply CodeN.step hm rfl | exact trivial | exact rfl | (intro hh; try simp only [bs] at hh; try exact absurd hh (by decide)))); all_goals (conv => whnf); all_goals try exact ⟨by decide⟩)
    all_goals first
      | (exfalso; exact hv ⟨by assumption, by assumption, by assumption⟩)
      | ((refine RetN.q () [] ?_ ?_ ?_ <;> (repeat' ((conv => whnf) <;> first | exact rfl | exact trivial | apply And.intro | exact Nat.zero_add _)); all_goals ((conv => whnf); try simp only []))
         done)
end Go.Proofs.YtkcifdblaboodaaGreat.Ce
set_option linter.unusedVariables false
set_option linter.unusedSimpArgs false
namespace Go.Proofs.YtkcifdblaboodaaGreat.Ce
open Go Go.RowKit Fw Hi Po
theorem r14ask (p : Pol) (c : Cell) (t w : Int) (hc : -9223372036854775808 ≤ c.2.1 ∧ c.2.1 ≤ 9223372036854775807) (h1 : c.2.2.1.length ≤ 40) (h2 : c.2.2.2.length ≤ 40) : Meets Tryz.prog 8 [polAV p, cellAV c, .int .i64 fun _ => t, .int .i64 fun _ => w] [] (Y := Unit) (fun _ => True) (fun _ => .tup [cellAV (askC p c t w).1, verAV (askC p c t w).2]) (fun _ => []) := by
  by_cases k1 : p.1 = 1
  · refine Meets.intro hm (fn := Tryz.f8) Tryz.func8 rfl (by decide) (Nat.le_of_ble_eq_true rfl) (fun _ => rfl) ?_; intro S hok; (conv => whnf)
    (repeat' ((conv => whnf); first | apply And.intro | exact ⟨by kernel_rfl⟩ | apply DrawN.mk | apply CodeN.step hm rfl | exact trivial | exact rfl | (intro hh; try simp only [bs] at hh))); all_goals (conv => whnf)
    all_goals first | (exfalso; omega) | skip
    (refine CallN.q (r10ask p c t w k1 hc) [] (fun _ _ => ?_); (repeat' ((conv => whnf); first | apply And.intro | exact ⟨by kernel_rfl⟩ | apply DrawN.mk | apply CodeN.step hm rfl | exact trivial | exact rfl | (intro hh; try simp only [bs] at hh; try exact absurd hh (by decide)))); all_goals (conv => whnf); all_goals try exact ⟨by decide⟩)
    (refine RetN.q () [] ?_ ?_ ?_ <;> (repeat' ((conv => whnf) <;> first | exact rfl | exact trivial | apply And.intro | exact Nat.zero_add _)); all_goals ((conv => whnf); try simp only []))
  by_cases k2 : p.1 = 2
  · refine Meets.intro hm (fn := Tryz.f8) Tryz.func8 rfl (by decide) (Nat.le_of_ble_eq_true rfl) (fun _ => rfl) ?_; intro S hok; (conv => whnf)
    (repeat' ((conv => whnf); first | apply And.intro | exact ⟨by kernel_rfl⟩ | apply DrawN.mk | apply CodeN.step hm rfl | exact trivial | exact rfl | (intro hh; try simp only [bs] at hh))); all_goals (conv => whnf)
    all_goals first | (exfalso; omega) | skip
    (refine CallN.q (r11ask p c t w k2) [] (fun _ _ => ?_); (repeat' ((conv => whnf); first | apply And.intro | exact ⟨by kernel_rfl⟩ | apply DrawN.mk | apply CodeN.step hm rfl | exact trivial | exact rfl | (intro hh; try simp only [bs] at hh; try exact absurd hh (by decide)))); all_goals (conv => whnf); all_goals try exact ⟨by decide⟩)
    (refine RetN.q () [] ?_ ?_ ?_ <;> (repeat' ((conv => whnf) <;> first | exact rfl | exact trivial | apply And.intro | exact Nat.zero_add _)); all_goals ((conv => whnf); try simp only []))
  by_cases k3 : p.1 = 3
  · refine Meets.intro hm (fn := Tryz.f8) Tryz.func8 rfl (by decide) (Nat.le_of_ble_eq_true rfl) (fun _ => rfl) ?_; intro S hok; (conv => whnf)
    (repeat' ((conv => whnf); first | apply And.intro | exact ⟨by kernel_rfl⟩ | apply DrawN.mk | apply CodeN.step hm rfl | exact trivial | exact rfl | (intro hh; try simp only [bs] at hh))); all_goals (conv => whnf)
    all_goals first | (exfalso; omega) | skip
    (refine CallN.q (r12ask p c t w k3 h1) [] (fun _ _ => ?_); (repeat' ((conv => whnf); first | apply And.intro | exact ⟨by kernel_rfl⟩ | apply DrawN.mk | apply CodeN.step hm rfl | exact trivial | exact rfl | (intro hh; try simp only [bs] at hh; try exact absurd hh (by decide)))); all_goals (conv => whnf); all_goals try exact ⟨by decide⟩)
    (refine RetN.q () [] ?_ ?_ ?_ <;> (repeat' ((conv => whnf) <;> first | exact rfl | exact trivial | apply And.intro | exact Nat.zero_add _)); all_goals ((conv => whnf); try simp only []))
  by_cases k4 : p.1 = 4
  · refine Meets.intro hm (fn := Tryz.f8) Tryz.func8 rfl (by decide) (Nat.le_of_ble_eq_true rfl) (fun _ => rfl) ?_; intro S hok; (conv => whnf)
    (repeat' ((conv => whnf); first | apply And.intro | exact ⟨by kernel_rfl⟩ | apply DrawN.mk | apply CodeN.step hm rfl | exact trivial | exact rfl | (intro hh; try simp only [bs] at hh))); all_goals (conv => whnf)
    all_goals first | (exfalso; omega) | skip
    (refine CallN.q (r13ask p c t w k4 h2) [] (fun _ _ => ?_); (repeat' ((conv => whnf); first | apply And.intro | exact ⟨by kernel_rfl⟩ | apply DrawN.mk | apply CodeN.step hm rfl | exact trivial | exact rfl | (intro hh; try simp only [bs] at hh; try exact absurd hh (by decide)))); all_goals (conv => whnf); all_goals try exact ⟨by decide⟩)
    (refine RetN.q () [] ?_ ?_ ?_ <;> (repeat' ((conv => whnf) <;> first | exact rfl | exact trivial | apply And.intro | exact Nat.zero_add _)); all_goals ((conv => whnf); try simp only []))
  have hno : ¬ PolOk p := fun hp => by have := kind_of hp; omega
  have ha := ask_not hno c t w
  refine Meets.intro hm (fn := Tryz.f8) Tryz.func8 rfl (by decide) (Nat.le_of_ble_eq_true rfl) (fun _ => rfl) ?_; intro S hok; (conv => whnf)
  (repeat' ((conv => whnf); first | apply And.intro | exact ⟨by kernel_rfl⟩ | apply DrawN.mk | apply CodeN.step hm rfl | exact trivial | exact rfl | (intro hh; try simp only [bs] at hh))); all_goals (conv => whnf)
  all_goals first | (exfalso; omega) | skip
  rw [ha]
  (refine RetN.q () [] ?_ ?_ ?_ <;> (repeat' ((conv => whnf) <;> first | exact rfl | exact trivial | apply And.intro | exact Nat.zero_add _)); all_goals ((conv => whnf); try simp only []))
theorem ends_not {p : Pol} (hp : ¬ PolOk p) (c : Cell) : endsC p c = 0 := by
  unfold endsC
  rw [if_neg (fun h => hp (may_pol h).1)]
theorem r14ends (p : Pol) (c : Cell) (hc : -9223372036854775808 ≤ c.2.1 ∧ c.2.1 ≤ 9223372036854775807) (h1 : c.2.2.1.length ≤ 40) (h2 : c.2.2.2.length ≤ 40) : Meets Tryz.prog 13 [polAV p, cellAV c] [] (Y := Unit) (fun _ => True) (fun _ => .int .i64 fun _ => endsC p c) (fun _ => []) := by
  by_cases k1 : p.1 = 1
  · refine Meets.intro hm (fn := Tryz.f13) Tryz.func13 rfl (by decide) (Nat.le_of_ble_eq_true rfl) (fun _ => rfl) ?_; intro S hok; (conv => whnf)
    (repeat' ((conv => whnf); first | apply And.intro | exact ⟨by kernel_rfl⟩ | apply DrawN.mk | apply CodeN.step hm rfl | exact trivial | exact rfl | (intro hh; try simp only [bs] at hh))); all_goals (conv => whnf)
    all_goals first | (exfalso; omega) | skip
    (refine CallN.q (r10ends p c k1 hc) [] (fun _ _ => ?_); (repeat' ((conv => whnf); first | apply And.intro | exact ⟨by kernel_rfl⟩ | apply DrawN.mk | apply CodeN.step hm rfl | exact trivial | exact rfl | (intro hh; try simp only [bs] at hh; try exact absurd hh (by decide)))); all_goals (conv => whnf); all_goals try exact ⟨by decide⟩)
    (refine RetN.q () [] ?_ ?_ ?_ <;> (repeat' ((conv => whnf) <;> first | exact rfl | exact trivial | apply And.intro | exact Nat.zero_add _)); all_goals ((conv => whnf); try simp only []))
  by_cases k2 : p.1 = 2
  · refine Meets.intro hm (fn := Tryz.f13) Tryz.func13 rfl (by decide) (Nat.le_of_ble_eq_true rfl) (fun _ => rfl) ?_; intro S hok; (conv => whnf)
    (repeat' ((conv => whnf); first | apply And.intro | exact ⟨by kernel_rfl⟩ | apply DrawN.mk | apply CodeN.step hm rfl | exact trivial | exact rfl | (intro hh; try simp only [bs] at hh))); all_goals (conv => whnf)
    all_goals first | (exfalso; omega) | skip
    (refine CallN.q (r11ends p c k2) [] (fun _ _ => ?_); (repeat' ((conv => whnf); first | apply And.intro | exact ⟨by kernel_rfl⟩ | apply DrawN.mk | apply CodeN.step hm rfl | exact trivial | exact rfl | (intro hh; try simp only [bs] at hh; try exact absurd hh (by decide)))); all_goals (conv => whnf); all_goals try exact ⟨by decide⟩)
    (refine RetN.q () [] ?_ ?_ ?_ <;> (repeat' ((conv => whnf) <;> first | exact rfl | exact trivial | apply And.intro | exact Nat.zero_add _)); all_goals ((conv => whnf); try simp only []))
  by_cases k3 : p.1 = 3
  · refine Meets.intro hm (fn := Tryz.f13) Tryz.func13 rfl (by decide) (Nat.le_of_ble_eq_true rfl) (fun _ => rfl) ?_; intro S hok; (conv => whnf)
    (repeat' ((conv => whnf); first | apply And.intro | exact ⟨by kernel_rfl⟩ | apply DrawN.mk | apply CodeN.step hm rfl | exact trivial | exact rfl | (intro hh; try simp only [bs] at hh))); all_goals (conv => whnf)
    all_goals first | (exfalso; omega) | skip
    (refine CallN.q (r12ends p c k3 h1) [] (fun _ _ => ?_); (repeat' ((conv => whnf); first | apply And.intro | exact ⟨by kernel_rfl⟩ | apply DrawN.mk | apply CodeN.step hm rfl | exact trivial | exact rfl | (intro hh; try simp only [bs] at hh; try exact absurd hh (by decide)))); all_goals (conv => whnf); all_goals try exact ⟨by decide⟩)
    (refine RetN.q () [] ?_ ?_ ?_ <;> (repeat' ((conv => whnf) <;> first | exact rfl | exact trivial | apply And.intro | exact Nat.zero_add _)); all_goals ((conv => whnf); try simp only []))
  by_cases k4 : p.1 = 4
  · refine Meets.intro hm (fn := Tryz.f13) Tryz.func13 rfl (by decide) (Nat.le_of_ble_eq_true rfl) (fun _ => rfl) ?_; intro S hok; (conv => whnf)
    (repeat' ((conv => whnf); first | apply And.intro | exact ⟨by kernel_rfl⟩ | apply DrawN.mk | apply CodeN.step hm rfl | exact trivial | exact rfl | (intro hh; try simp only [bs] at hh))); all_goals (conv => whnf)
    all_goals first | (exfalso; omega) | skip
    (refine CallN.q (r13ends p c k4 h2) [] (fun _ _ => ?_); (repeat' ((conv => whnf); first | apply And.intro | exact ⟨by kernel_rfl⟩ | apply DrawN.mk | apply CodeN.step hm rfl | exact trivial | exact rfl | (intro hh; try simp only [bs] at hh; try exact absurd hh (by decide)))); all_goals (conv => whnf); all_goals try exact ⟨by decide⟩)
    (refine RetN.q () [] ?_ ?_ ?_ <;> (repeat' ((conv => whnf) <;> first | exact rfl | exact trivial | apply And.intro | exact Nat.zero_add _)); all_goals ((conv => whnf); try simp only []))
  have hno : ¬ PolOk p := fun hp => by have := kind_of hp; omega
  have ha := ends_not hno c
  refine Meets.intro hm (fn := Tryz.f13) Tryz.func13 rfl (by decide) (Nat.le_of_ble_eq_true rfl) (fun _ => rfl) ?_; intro S hok; (conv => whnf)
  (repeat' ((conv => whnf); first | apply And.intro | exact ⟨by kernel_rfl⟩ | apply DrawN.mk | apply CodeN.step hm rfl | exact trivial | exact rfl | (intro hh; try simp only [bs] at hh))); all_goals (conv => whnf)
  all_goals first | (exfalso; omega) | skip
  rw [ha]
  (refine RetN.q () [] ?_ ?_ ?_ <;> (repeat' ((conv => whnf) <;> first | exact rfl | exact trivial | apply And.intro | exact Nat.zero_add _)); all_goals ((conv => whnf); try simp only []))
theorem r14neutral (p : Pol) (c : Cell) (t : Int) (hc : -9223372036854775808 ≤ c.2.1 ∧ c.2.1 ≤ 9223372036854775807) (h1 : c.2.2.1.length ≤ 40) (h2 : c.2.2.2.length ≤ 40) : Meets Tryz.prog 15 [polAV p, cellAV c, .int .i64 fun _ => t] [] (Y := Unit) (fun _ => True) (fun _ => .bool fun _ => neutralC p c t) (fun _ => []) := by
  refine Meets.intro hm (fn := Tryz.f15) Tryz.func15 rfl (by decide) (Nat.le_of_ble_eq_true rfl) (fun _ => rfl) ?_; intro S hok; (conv => whnf)
  (repeat' ((conv => whnf); first | apply And.intro | exact ⟨by kernel_rfl⟩ | apply DrawN.mk | apply CodeN.step hm rfl | exact trivial | exact rfl | (intro hh; try simp only [bs] at hh))); all_goals (conv => whnf)
  (refine CallN.q (r14may p c hc h1 h2) [] (fun _ _ => ?_); (repeat' ((conv => whnf); first | apply And.intro | exact ⟨by kernel_rfl⟩ | apply DrawN.mk | apply CodeN.step hm rfl | exact trivial | exact rfl | (intro hh; try simp only [bs] at hh; try exact absurd hh (by decide)))); all_goals (conv => whnf); all_goals try exact ⟨by decide⟩)
  all_goals try
    (refine CallN.q (r14ends p c hc h1 h2) [] (fun _ _ => ?_); (repeat' ((conv => whnf); first | apply And.intro | exact ⟨by kernel_rfl⟩ | apply DrawN.mk | apply CodeN.step hm rfl | exact trivial | exact rfl | (intro hh; try simp only [bs] at hh; try exact absurd hh (by decide)))); all_goals (conv => whnf); all_goals try exact ⟨by decide⟩)
  all_goals
    (refine RetN.q () [] ?_ ?_ ?_ <;> (repeat' ((conv => whnf) <;> first | exact rfl | exact trivial | apply And.intro | exact Nat.zero_add _)); all_goals ((conv => whnf); try simp only []))
    unfold neutralC
    simp [*]
theorem ask_few {p : Pol} {c : Cell} (h1 : c.2.2.1.length ≤ 40) (h2 : c.2.2.2.length ≤ 40) (t w : Int) : (askC p c t w).1.2.2.1.length ≤ 40 ∧ (askC p c t w).1.2.2.2.length ≤ 40 := by
  by_cases hv : mayC p c = true ∧ timeB t = true ∧ weighs w = true
  · obtain ⟨q1, q2, q3⟩ := hv
    obtain ⟨hp, hc0, hc1⟩ := may_pol q1
    have ht := timeB_iff.1 q2
    have hm := moved_may q1 (t := max t c.1) (by omega) (by omega)
    have hk : mayC p (askC p c t w).1 = true := by
      rw [ask_ok q1 q2 q3]
      by_cases h : own p (moved p c (max t c.1)) + worth p w ≤ worth p p.2.1
      · rw [if_pos h]; exact added_may hm (moved_full p c _) (weighs_iff.1 q3).1 h
      · rw [if_neg h]; exact hm
    have := may_packs hk
    exact ⟨Nat.le_trans this.slen (by decide), Nat.le_trans this.hlen (by decide)⟩
  · rw [ask_bad hv]; exact ⟨h1, h2⟩
set_option maxHeartbeats 4000000 in
set_option maxRecDepth 4000 in
theorem asksLawM (p : Pol) (c : Cell) (n : Int × Int) (hc : -9223372036854775808 ≤ c.2.1 ∧ c.2.1 ≤ 9223372036854775807) : Meets Tryz.prog 3 [polAV p, cellAV c, .agg [.int .i64 fun _ => n.1, .int .i64 fun _ => n.2]] [] (Y := Unit) (fun _ => True) (fun _ => .tt) (fun _ => []) := by
  by_cases hf : fewB c = true
  rotate_left
  · have MF := fewM c
    rw [Bool.eq_false_iff.2 hf] at MF
    refine Meets.intro hm (fn := Tryz.f3) Tryz.func3 rfl (by decide) (Nat.le_of_ble_eq_true rfl) (fun _ => rfl) ?_; intro S hok; (conv => whnf)
    (repeat' ((conv => whnf); first | apply And.intro | exact ⟨by kernel_rfl⟩ | apply DrawN.mk | apply CodeN.step hm rfl | exact trivial | exact rfl | (intro hh; try simp only [bs] at hh))); all_goals (conv => whnf)
    (refine CallN.q MF [] (fun _ _ => ?_); (repeat' ((conv => whnf); first | apply And.intro | exact ⟨by kernel_rfl⟩ | apply DrawN.mk | apply CodeN.step hm rfl | exact trivial | exact rfl | (intro hh; try simp only [bs] at hh; try exact absurd hh (by decide)))); all_goals (conv => whnf); all_goals try exact ⟨by decide⟩)
    (refine CallN.q liveM [] (fun _ _ => ?_); (repeat' ((conv => whnf); first | apply And.intro | exact ⟨by kernel_rfl⟩ | apply DrawN.mk | apply CodeN.step hm rfl | exact trivial | exact rfl | (intro hh; try simp only [bs] at hh; try exact absurd hh (by decide)))); all_goals (conv => whnf); all_goals try exact ⟨by decide⟩)
    (refine RetN.q () [] ?_ ?_ ?_ <;> (repeat' ((conv => whnf) <;> first | exact rfl | exact trivial | apply And.intro | exact Nat.zero_add _)); all_goals ((conv => whnf); try simp only []))
  · have MF := fewM c
    rw [hf] at MF
    obtain ⟨h40, h41⟩ := few_len hf
    have hl := ask_few (p := p) h40 h41 n.1 n.2
    have A := caskM p c n.1 n.2 hc
    have B := r14ask p c n.1 n.2 hc h40 h41
    have D := csameM (askC p c n.1 n.2).1 (askC p c n.1 n.2).1 (by omega) (by omega) (by omega) (by omega)
    rw [decide_eq_true rfl] at D
    generalize askC p c n.1 n.2 = a at *
    obtain ⟨a, u⟩ := a
    simp only [] at D
    refine Meets.intro hm (fn := Tryz.f3) Tryz.func3 rfl (by decide) (Nat.le_of_ble_eq_true rfl) (fun _ => rfl) ?_; intro S hok; (conv => whnf)
    (repeat' ((conv => whnf); first | apply And.intro | exact ⟨by kernel_rfl⟩ | apply DrawN.mk | apply CodeN.step hm rfl | exact trivial | exact rfl | (intro hh; try simp only [bs] at hh))); all_goals (conv => whnf)
    all_goals first | (exact Ob.mk (by decide)) | skip
    (refine CallN.q MF [] (fun _ _ => ?_); (repeat' ((conv => whnf); first | apply And.intro | exact ⟨by kernel_rfl⟩ | apply DrawN.mk | apply CodeN.step hm rfl | exact trivial | exact rfl | (intro hh; try simp only [bs] at hh; try exact absurd hh (by decide)))); all_goals (conv => whnf); all_goals try exact ⟨by decide⟩)
    all_goals first | (exact Ob.mk (by decide)) | skip
    (refine CallN.q A [] (fun _ _ => ?_); (repeat' ((conv => whnf); first | apply And.intro | exact ⟨by kernel_rfl⟩ | apply DrawN.mk | apply CodeN.step hm rfl | exact trivial | exact rfl | (intro hh; try simp only [bs] at hh; try exact absurd hh (by decide)))); all_goals (conv => whnf); all_goals try exact ⟨by decide⟩)
    all_goals first | (exact Ob.mk (by decide)) | skip
    (refine CallN.q B [] (fun _ _ => ?_); (repeat' ((conv => whnf); first | apply And.intro | exact ⟨by kernel_rfl⟩ | apply DrawN.mk | apply CodeN.step hm rfl | exact trivial | exact rfl | (intro hh; try simp only [bs] at hh; try exact absurd hh (by decide)))); all_goals (conv => whnf); all_goals try exact ⟨by decide⟩)
    (refine CallN.q D [] (fun _ _ => ?_); (repeat' ((conv => whnf); first | apply And.intro | exact ⟨by kernel_rfl⟩ | apply DrawN.mk | apply CodeN.step hm rfl | exact trivial | exact rfl | (intro hh; try simp only [bs] at hh; try exact absurd hh (by decide)))); all_goals (conv => whnf); all_goals try exact ⟨by decide⟩)
    all_goals first | (exfalso; exact (eqD_no VerT rfl _ _).1 hh rfl) | skip
    (refine CallN.q (cmayM p c hc) [] (fun _ _ => ?_); (repeat' ((conv => whnf); first | apply And.intro | exact ⟨by kernel_rfl⟩ | apply DrawN.mk | apply CodeN.step hm rfl | exact trivial | exact rfl | (intro hh; try simp only [bs] at hh; try exact absurd hh (by decide)))); all_goals (conv => whnf); all_goals try exact ⟨by decide⟩)
    (refine CallN.q (r14may p c hc h40 h41) [] (fun _ _ => ?_); (repeat' ((conv => whnf); first | apply And.intro | exact ⟨by kernel_rfl⟩ | apply DrawN.mk | apply CodeN.step hm rfl | exact trivial | exact rfl | (intro hh; try simp only [bs] at hh; try exact absurd hh (by decide)))); all_goals (conv => whnf); all_goals try exact ⟨by decide⟩)
    all_goals first | (exfalso; exact hh rfl) | (exfalso; simp at hh; done) | skip
    (refine CallN.q (cendsM p c hc) [] (fun _ _ => ?_); (repeat' ((conv => whnf); first | apply And.intro | exact ⟨by kernel_rfl⟩ | apply DrawN.mk | apply CodeN.step hm rfl | exact trivial | exact rfl | (intro hh; try simp only [bs] at hh; try exact absurd hh (by decide)))); all_goals (conv => whnf); all_goals try exact ⟨by decide⟩)
    (refine CallN.q (r14ends p c hc h40 h41) [] (fun _ _ => ?_); (repeat' ((conv => whnf); first | apply And.intro | exact ⟨by kernel_rfl⟩ | apply DrawN.mk | apply CodeN.step hm rfl | exact trivial | exact rfl | (intro hh; try simp only [bs] at hh; try exact absurd hh (by decide)))); all_goals (conv => whnf); all_goals try exact ⟨by decide⟩)
    all_goals first | (exfalso; exact hh rfl) | (exfalso; simp at hh; done) | skip
    (refine CallN.q (cneutralM p c n.1 hc) [] (fun _ _ => ?_); (repeat' ((conv => whnf); first | apply And.intro | exact ⟨by kernel_rfl⟩ | apply DrawN.mk | apply CodeN.step hm rfl | exact trivial | exact rfl | (intro hh; try simp only [bs] at hh; try exact absurd hh (by decide)))); all_goals (conv => whnf); all_goals try exact ⟨by decide⟩)
    all_goals first | (exact Ob.mk (by decide)) | skip
    (refine CallN.q (r14neutral p c n.1 hc h40 h41) [] (fun _ _ => ?_); (repeat' ((conv => whnf); first | apply And.intro | exact ⟨by kernel_rfl⟩ | apply DrawN.mk | apply CodeN.step hm rfl | exact trivial | exact rfl | (intro hh; try simp only [bs] at hh; try exact absurd hh (by decide)))); all_goals (conv => whnf); all_goals try exact ⟨by decide⟩)
    all_goals first | (exfalso; exact hh rfl) | (exfalso; simp at hh; done) | skip
    (refine CallN.q liveM [] (fun _ _ => ?_); (repeat' ((conv => whnf); first | apply And.intro | exact ⟨by kernel_rfl⟩ | apply DrawN.mk | apply CodeN.step hm rfl | exact trivial | exact rfl | (intro hh; try simp only [bs] at hh; try exact absurd hh (by decide)))); all_goals (conv => whnf); all_goals try exact ⟨by decide⟩)
    (refine RetN.q () [] ?_ ?_ ?_ <;> (repeat' ((conv => whnf) <;> first | exact rfl | exact trivial | apply And.intro | exact Nat.zero_add _)); all_goals ((conv => whnf); try simp only []))
end Go.Proofs.YtkcifdblaboodaaGreat.Ce
set_option linter.unusedVariables false
set_option linter.unusedSimpArgs false
namespace Go.Proofs.YtkcifdblaboodaaGreat.Fw
open Go Go.RowKit Go.ChangeShapes

/-- All that is there rests. -/
def gW (W : World) : Gh := { n := 0, Φ := fun b => W.heap[b]?, B := fun _ => 0, V := fun _ => none, L := fun _ => 0, k := 0 }
theorem sim_gW (W : World) : Sim (gW W) [] W := by
  refine ⟨rfl, fun b o h => h, fun i => trivial, fun i j b hi => ?_, fun i b hi => ?_⟩
  · simp [getE, Chunk.blk] at hi
  · simp [getE, Chunk.blk] at hi

/-- Numbers of their kinds, lengths that a machine bears. -/
def wfD : (t : Ty) → t.den → Prop
  | .int k, n => k.min ≤ n ∧ n ≤ k.max
  | .bool, _ => True
  | .str, s => List.length s ≤ maxLen
  | .list e, xs => List.length xs ≤ maxLen ∧ ∀ x, x ∈ (xs : List e.den) → wfD e x
  | .pair a b, x => wfD a x.1 ∧ wfD b x.2

theorem cells_at {w : World} {base : Nat} {a : Addr} {n : Nat} {cs : List Value} (h : w.cells? base a n = some cs) : cs.length = n ∧ ∀ (j : Nat) (u : Value), cs[j]? = some u → w.cell? (a.add j) = some u := by
  unfold World.cells? at h
  split at h
  · rename_i hb
    have key : ∀ (l : List Nat) (cs : List Value), l.mapM (fun i => w.cell? (a.add i)) = some cs → cs.length = l.length ∧ ∀ (j : Nat) (u : Value) (i : Nat), cs[j]? = some u → l[j]? = some i → w.cell? (a.add i) = some u := by
      intro l
      induction l with
      | nil => intro cs h; simp at h; subst h; simp
      | cons i l ih =>
        intro cs h
        simp only [List.mapM_cons, Option.bind_eq_bind, Option.bind_eq_some_iff, Option.pure_def, Option.some.injEq] at h
        obtain ⟨u, h1, r, h2, rfl⟩ := h
        obtain ⟨h3, h4⟩ := ih r h2
        refine ⟨by simp [h3], fun j v i' hj hi => ?_⟩
        cases j with
        | zero => simp at hj hi; subst hj hi; exact h1
        | succ j => exact h4 j v i' (by simpa using hj) (by simpa using hi)
    obtain ⟨h1, h2⟩ := key _ _ h
    refine ⟨by simpa using h1, fun j u hj => h2 j u j hj ?_⟩
    have := (List.getElem?_eq_some_iff.1 hj).1
    rw [List.getElem?_range (by rw [h1] at this; simpa using this)]
  · cases h
theorem cell_at_gW {W : World} {a : Addr} {u : Value} (h : W.cell? a = some u) : ∃ cells T fr, a.spot = none ∧ (gW W).Φ a.block = some (.cells cells T fr) ∧ cells[a.off]? = some u := by
  unfold World.cell? at h
  split at h
  · rename_i c T fr hc
    split at h
    · cases h
    · rename_i hs
      exact ⟨c, T, fr, by simpa using hs, hc, h⟩
  · cases h
theorem list_of {α : Type} {p : Nat → α → Prop} : ∀ n : Nat, (∀ i, i < n → ∃ x, p i x) → ∃ xs : List α, xs.length = n ∧ ∀ (i : Nat) (x : α), xs[i]? = some x → p i x
  | 0, _ => ⟨[], rfl, by simp⟩
  | n + 1, h => by
    obtain ⟨xs, h1, h2⟩ := list_of n (fun i hi => h i (by omega))
    obtain ⟨x, hx⟩ := h n (by omega)
    refine ⟨xs ++ [x], by simp [h1], fun i y hy => ?_⟩
    rw [List.getElem?_append] at hy
    split at hy
    · exact h2 i y hy
    · rename_i hi
      have : i - xs.length = 0 := by
        have := (List.getElem?_eq_some_iff.1 hy).1
        simp at this; omega
      rw [this] at hy
      simp at hy
      subst hy
      have : i = n := by omega
      subst this; exact hx

section
variable {H : Type} {enc' : TypeId × Value → H} {P : Program} {W : World} {base : Nat} {sp : Nat → Bool} {held : Bool}

/-- What reads, reads as data. -/
theorem trod_data (K : Kids P (· < P.types.size)) : ∀ (d : Nat) (t : Nat) (ty : Ty), t < P.types.size → tyOf P d t = some ty → ∀ (fuel : Nat) (cs : List Value) (x : DataW H × List MemPlace), DataW.trod enc' P W base sp held fuel t cs = some x →
    ∃ a : ty.den, RL (gW W) (enc ty (fun _ => a) []) cs ∧ wfD ty a
  | 0, _, _, _, h => by simp [tyOf] at h
  | d + 1, t, ty, hlt, h => by
    intro fuel cs x hx
    simp only [tyOf] at h
    split at h
    · rename_i k ht
      cases h
      obtain ⟨n, rfl, _, hw⟩ := DataW.trod_int (tund_und ht) hx
      simp only [Lit.wf, Bool.and_eq_true, decide_eq_true_eq] at hw
      exact ⟨n, ⟨.int k (fun _ => n), trivial⟩, hw⟩
    · rename_i ht
      cases h
      obtain ⟨b, rfl, _⟩ := DataW.trod_bool (tund_und ht) hx
      exact ⟨b, ⟨.bool (fun _ => b), trivial⟩, trivial⟩
    · rename_i ht
      cases h
      obtain ⟨s, rfl, _, hs⟩ := DataW.trod_string (tund_und ht) hx
      refine ⟨s.data.toList, ⟨?_, trivial⟩, ?_⟩
      · have := R.str (g := gW W) (fun _ => s.data.toList)
        simpa using this
      · show s.data.toList.length ≤ maxLen
        rw [Array.length_toList]; exact hs
    · rename_i e ht
      split at h <;> try cases h
      rename_i y hy
      have hye : y = y := rfl
      have hte := K.slice hlt (tund_und ht)
      rcases DataW.trod_slice (tund_und ht) hx with ⟨rfl, _⟩ | ⟨a, len, cap, elems, rest, n, _, rfl, _, _, hlc, hcm, hlen, hel, _⟩
      · refine ⟨([] : List y.den), ⟨?_, trivial⟩, ?_⟩
        · exact R.lst y (fun _ => []) none 0 (fun _ _ => .nilIface) (Nat.le_refl _) (by simp) (fun i x j z hx => by simp at hx) (fun i x j z hx => by simp at hx)
        · refine ⟨?_, fun x hx => ?_⟩
          · show ([] : List y.den).length ≤ maxLen
            simp
          · cases hx
      · have hl63 : maxLen = 9223372036854775807 := by decide
        have each : ∀ i, i < len → ∃ p : y.den × List Value, W.cells? base (a.add (i * P.cellsOf e)) (P.cellsOf e) = some p.2 ∧ RL (gW W) (enc y (fun _ => p.1) []) p.2 ∧ wfD y p.1 := by
          intro i hi
          have h1 := hel i hi
          rw [List.getElem?_eq_getElem (by omega)] at h1
          obtain ⟨cs', h2, h3⟩ := Option.bind_eq_some_iff.1 h1
          obtain ⟨b, h4, h5⟩ := trod_data K d e y hte hy n cs' _ h3
          exact ⟨(b, cs'), h2, h4, h5⟩
        obtain ⟨ps, hps, hp⟩ := list_of len each
        have hsz : ∀ (i : Nat) (p : y.den × List Value), ps[i]? = some p → P.cellsOf e = y.size := by
          intro i p hi
          obtain ⟨h1, h2, _⟩ := hp i p hi
          have := h2.length
          rw [enc_length, (cells_at h1).1] at this
          exact this.symm
        refine ⟨ps.map (·.1), ⟨?_, trivial⟩, ?_, ?_⟩
        · have hlm : (ps.map (·.1)).length = len := by simp [hps]
          have := R.lst (g := gW W) y (fun _ => ps.map (·.1)) (some a) cap (fun i j => ((ps[i]?.map (·.2)).getD [])[j]?.getD .nilIface) (by simp only [hlm]; exact hlc) (by simp only [hlm]; omega) ?_ ?_
          · simp only [hlm] at this; exact this
          · intro i x j z hx hz
            simp only [List.getElem?_map] at hx
            cases hq : ps[i]? with
            | none => rw [hq] at hx; cases hx
            | some p =>
              rw [hq] at hx
              simp only [Option.map_some, Option.some.injEq] at hx
              subst hx
              obtain ⟨h1, h2, _⟩ := hp i p hq
              obtain ⟨u, hu, _⟩ := h2.get hz
              have hc := (cells_at h1).2 j u hu
              obtain ⟨cells, T, fr, hs, hΦ, hcell⟩ := cell_at_gW hc
              have hsp : a.spot = none ∨ (i * P.cellsOf e = 0 ∧ j = 0) := by
                by_cases h0 : i * P.cellsOf e = 0 ∧ j = 0
                · exact .inr h0
                · left
                  by_cases h00 : i * P.cellsOf e + j = 0
                  · exact (h0 ⟨by omega, by omega⟩).elim
                  · -- the cells of the first one have the same spot
                    have h0i : 0 < len := by have := (List.getElem?_eq_some_iff.1 hq).1; omega
                    obtain ⟨p0, hp0⟩ : ∃ p0, ps[0]? = some p0 := ⟨ps[0]'(by omega), List.getElem?_eq_getElem (by omega)⟩
                    obtain ⟨g1, g2, _⟩ := hp 0 p0 hp0
                    have hy0 : (enc y (fun _ => p0.1) [])[0]? ≠ none := by
                      have := enc_length y (fun _ => p0.1)
                      have h0 := Ty.size_pos y
                      intro hn
                      rw [List.getElem?_eq_none_iff] at hn
                      omega
                    cases hz0 : (enc y (fun _ => p0.1) [])[0]? with
                    | none => exact (hy0 hz0).elim
                    | some z0 =>
                      obtain ⟨u0, hu0, _⟩ := g2.get hz0
                      have hc0 := (cells_at g1).2 0 u0 hu0
                      obtain ⟨_, _, _, hs0, _⟩ := cell_at_gW hc0
                      simpa [Addr.add] using hs0
              have hsp' : a.spot = none := by
                rcases hsp with h | ⟨h0, hj0⟩
                · exact h
                · subst hj0
                  rw [h0] at hs
                  simpa [Addr.add] using hs
              have e1 : (a.add (i * P.cellsOf e)).add j = ⟨a.block, a.off + (i * P.cellsOf e + j), none⟩ := by
                rw [add_none hsp', add_none rfl]; simp [Nat.add_assoc]
              rw [e1] at hΦ hcell
              refine ⟨a.block, a.off, cells, T, fr, by cases a; simp at hsp' ⊢; exact hsp', hΦ, ?_⟩
              rw [hsz i p hq] at hcell
              simp only [Option.map_some, Option.getD_some, hu]
              exact hcell
          · intro i x j z hx hz
            simp only [List.getElem?_map] at hx
            cases hq : ps[i]? with
            | none => rw [hq] at hx; cases hx
            | some p =>
              rw [hq] at hx
              simp only [Option.map_some, Option.some.injEq] at hx
              subst hx
              obtain ⟨h1, h2, _⟩ := hp i p hq
              obtain ⟨u, hu, hr⟩ := h2.get hz
              simp only [hq, Option.map_some, Option.getD_some, hu]
              exact hr
        · show (ps.map (·.1)).length ≤ maxLen
          rw [List.length_map]; omega
        · intro x hx
          obtain ⟨p, hp1, rfl⟩ := List.mem_map.1 hx
          obtain ⟨i, hi⟩ := List.mem_iff_getElem?.1 hp1
          exact (hp i p hi).2.2
    · rename_i fs ht
      obtain ⟨xs, n, _, _, hcl, hxl, hf⟩ := DataW.trod_struct (tund_und ht) hx
      obtain ⟨hft, hsum, hoff⟩ := K.struct hlt (tund_und ht)
      have go : ∀ (l : List Field) (k : Nat) (ty : Ty), tyFs (tyOf P d) l = some ty → (∀ f ∈ l, f.type < P.types.size) → (∀ (j : Nat) f, l[j]? = some f → f.offset = k + ((l.take j).map fun f => P.cellsOf f.type).sum) →
          (∀ f ∈ l, ∃ z, DataW.trod enc' P W base sp held n f.type ((cs.drop f.offset).take (P.cellsOf f.type)) = some z) → (cs.drop k).length = (l.map fun f => P.cellsOf f.type).sum →
          ∃ a : ty.den, RL (gW W) (enc ty (fun _ => a) []) (cs.drop k) ∧ wfD ty a := by
        intro l
        induction l with
        | nil => intro k ty h; simp [tyFs] at h
        | cons f r ih =>
          intro k ty h ht ho hz hl
          obtain ⟨z, hz0⟩ := hz f (List.mem_cons_self ..)
          have ho0 : f.offset = k := by simpa using ho 0 f rfl
          rw [ho0] at hz0
          have htf := ht f (List.mem_cons_self ..)
          cases r with
          | nil =>
            simp only [tyFs] at h
            obtain ⟨a, h1, h2⟩ := trod_data K d f.type ty htf h n _ _ hz0
            refine ⟨a, ?_, h2⟩
            simp only [List.map_cons, List.map_nil, List.sum_cons, List.sum_nil, Nat.add_zero] at hl
            rwa [List.take_of_length_le (by omega)] at h1
          | cons f2 r2 =>
            simp only [tyFs] at h
            split at h <;> try cases h
            rename_i ta tb hta htb
            obtain ⟨a, h1, h2⟩ := trod_data K d f.type ta htf hta n _ _ hz0
            obtain ⟨b, h3, h4⟩ := ih (k + P.cellsOf f.type) tb htb (fun q hq => ht q (List.mem_cons_of_mem _ hq)) (fun j q hq => by
              have := ho (j + 1) q (by simpa using hq)
              simp only [List.take_succ_cons, List.map_cons, List.sum_cons] at this
              omega) (fun q hq => hz q (List.mem_cons_of_mem _ hq)) (by
              simp only [List.map_cons, List.sum_cons, List.length_drop] at hl ⊢
              omega)
            refine ⟨(a, b), ?_, h2, h4⟩
            simp only [enc]
            rw [enc_append ta]
            have := h1.append h3
            rw [← List.drop_drop] at this
            rwa [List.take_append_drop] at this
      have := go fs.toList 0 ty h hft (fun j f hj => by simpa using hoff j f hj) (fun f hfm => by
        obtain ⟨i, hi⟩ := List.mem_iff_getElem?.1 hfm
        have hi' : fs[i]? = some f := by simpa using hi
        have h1 := hf i f hi'
        have hil := (List.getElem?_eq_some_iff.1 hi).1
        rw [List.getElem?_eq_getElem (by simp at hil; omega)] at h1
        exact ⟨_, h1⟩) (by simpa [hcl] using hsum)
      simpa using this
    · rename_i n e ht
      split at h <;> try cases h
      rename_i y hy
      obtain ⟨xs, m, _, _, hcl, hxl, hf⟩ := DataW.trod_array (tund_und ht) hx
      obtain ⟨hte, hsz⟩ := K.array hlt (tund_und ht)
      rw [hsz] at hcl
      have go : ∀ (n k : Nat) (ty : Ty), tyRep n y = some ty → (∀ i, i < n → ∃ z, DataW.trod enc' P W base sp held m e ((cs.drop ((k + i) * P.cellsOf e)).take (P.cellsOf e)) = some z) → (cs.drop (k * P.cellsOf e)).length = n * P.cellsOf e →
          ∃ a : ty.den, RL (gW W) (enc ty (fun _ => a) []) (cs.drop (k * P.cellsOf e)) ∧ wfD ty a := by
        intro n
        induction n with
        | zero => intro k ty h; simp [tyRep] at h
        | succ n ih =>
          intro k ty h hz hl
          obtain ⟨z, hz0⟩ := hz 0 (by omega)
          rw [Nat.add_zero] at hz0
          obtain ⟨a, h1, h2⟩ := trod_data K d e y hte hy m _ _ hz0
          cases n with
          | zero =>
            simp only [tyRep, Option.some.injEq] at h
            subst h
            rw [List.take_of_length_le (by omega)] at h1
            exact ⟨a, h1, h2⟩
          | succ n =>
            simp only [tyRep] at h
            split at h <;> try cases h
            rename_i tz htz
            obtain ⟨b, h3, h4⟩ := ih (k + 1) tz htz (fun i hi => by have := hz (i + 1) (by omega); rwa [show k + 1 + i = k + (i + 1) by omega]) (by
              rw [List.length_drop] at hl ⊢
              rw [Nat.add_mul, Nat.one_mul] at hl ⊢
              omega)
            refine ⟨(a, b), ?_, h2, h4⟩
            simp only [enc]
            rw [enc_append y]
            have := h1.append h3
            rw [Nat.add_mul, Nat.one_mul, ← List.drop_drop] at this
            rwa [List.take_append_drop] at this
      have := go n 0 ty h (fun i hi => by
        have h1 := hf i hi
        rw [List.getElem?_eq_getElem (by omega)] at h1
        exact ⟨_, by rw [Nat.zero_add]; exact h1⟩) (by simpa using hcl)
      simpa using this
    · cases h
end
end Go.Proofs.YtkcifdblaboodaaGreat.Fw
set_option linter.unusedVariables false
set_option linter.unusedSimpArgs false
namespace Go.Proofs.YtkcifdblaboodaaGreat.Fw
open Go Go.RowKit Go.ChangeShapes Go.WideShapes

theorem wf_i64 {n : Int} (h : wfD (.int .i64) n) : -9223372036854775808 ≤ n ∧ n ≤ 9223372036854775807 := h
theorem wf_u64 {n : Int} (h : wfD (.int .u64) n) : 0 ≤ n ∧ n ≤ 18446744073709551615 := h
def leafB : TypeDesc → Bool
  | .int _ => true | .bool => true | .string => true | .slice _ => true | _ => false
section
variable {H : Type} {enc' : TypeId × Value → H} {P : Program} {W : World} {base : Nat} {sp : Nat → Bool} {held : Bool}

theorem arg_leaf (K : Kids P (· < P.types.size)) {b0 : Nat} {t : Nat} {ty : Ty} {d : TypeDesc} (hd : tund P t = some d) (hb : leafB d = true) (hlt : t < P.types.size) (hty : tyOf P 6 t = some ty) {v : Value} {x : DataW H} {ps : List MemPlace}
    (hval : Value.okWide P W .any b0 t v) (h : DataW.Trod enc' P W base sp held t v x ps) : ∃ a : ty.den, RL (gW W) (enc ty (fun _ => a) []) [v] ∧ wfD ty a := by
  obtain ⟨fuel, hf⟩ := h
  obtain ⟨a, h1, h2⟩ := trod_data K 6 t ty hlt hty fuel _ _ hf
  refine ⟨a, ?_, h2⟩
  have hc : v.cells.toList = [v] := by
    have hu := tund_und hd
    cases v <;> first | rfl | skip
    cases d <;> first | (cases hb; done) | (simp [Value.okWide, hu, Cell.okWide, Cell.ok] at hval)
  rwa [hc] at h1
def aggB : TypeDesc → Bool
  | .struct _ => true | .array _ _ => true | _ => false
theorem arg_struct (K : Kids P (· < P.types.size)) {b0 : Nat} {t : Nat} {ty : Ty} {d : TypeDesc} (hd : tund P t = some d) (hb : aggB d = true) (hlt : t < P.types.size) (hty : tyOf P 6 t = some ty) {v : Value} {x : DataW H} {ps : List MemPlace}
    (hval : Value.okWide P W .any b0 t v) (h : DataW.Trod enc' P W base sp held t v x ps) : ∃ a : ty.den, R (gW W) (.agg (enc ty (fun _ => a) [])) v ∧ wfD ty a := by
  obtain ⟨fuel, hf⟩ := h
  obtain ⟨a, h1, h2⟩ := trod_data K 6 t ty hlt hty fuel _ _ hf
  have hu := tund_und hd
  have hv : ∃ cs, v = .agg cs := by
    cases d <;> first | (cases hb; done) | skip
    all_goals
      simp only [Value.okWide, hu] at hval
      obtain ⟨cs, rfl, _⟩ := hval
      exact ⟨cs, rfl⟩
  obtain ⟨cs, rfl⟩ := hv
  refine ⟨a, ?_, h2⟩
  have := R.mkAgg h1
  simpa [Value.cells] using this

theorem law_run {f : FuncId} {args : List AV} {vals : List Value} {Y : Type} {Q : Y → Prop} {res : Y → AV} {out : Y → List Chunk} (hm : Meets P f args [] Q res out) (hres : ∀ y, Q y → res y = .tt) (hr : RL (gW W) args vals) :
    Calls P f vals.toArray W fun e W' => e = .returned (.bool true) ∧ Below W.heap.size W W' := by
  refine (hm.h (gW W) W vals (sim_gW W) hr).mono ?_
  rintro e W' ⟨y, c, g', hq, rfl, h1, h2, h3⟩
  rw [hres y hq] at h1
  rw [h1.tt_iff]
  refine ⟨rfl, h3.os, h3.tape, h3.output, h3.size, fun b hb => h3.keep b hb ?_⟩
  rintro ⟨i, hi⟩
  simp [getE, Chunk.blk] at hi

theorem trodAll_stays (hl : laidOutB P = true) {W' : World} (hb : Below W.heap.size W W') : ∀ {ts : List TypeId} {vs : List Value} {ds : List (DataW H)} {ps : List MemPlace} (sp' : Nat → Bool), (∀ t ∈ ts, P.readableRec t = true ∧ t < P.types.size) →
    DataW.TrodAll enc' P W 0 (fun _ => true) true ts vs ds ps → (∀ p ∈ ps, p.block < W.heap.size) → (∀ p ∈ ps, sp' p.block = true) → DataW.TrodAll enc' P W' 0 sp' true ts vs ds ps
  | [], [], [], ps, sp', _, h, _, _ => h
  | t :: ts, v :: vs, d :: ds, ps, sp', ht, h, hlt, hsp => by
    obtain ⟨p, q, h1, h2, rfl⟩ := h
    obtain ⟨hr, hrow⟩ := ht t (List.mem_cons_self ..)
    refine ⟨p, q, WideElems.Trod_stays hl hr hrow h1 (fun x hx => hb.same (hlt x (List.mem_append_left _ hx))) (fun x hx => hsp x (List.mem_append_left _ hx)), ?_, rfl⟩
    exact trodAll_stays hl hb sp' (fun t ht' => ht t (List.mem_cons_of_mem _ ht')) h2 (fun x hx => hlt x (List.mem_append_right _ hx)) (fun x hx => hsp x (List.mem_append_right _ hx))
  | [], _ :: _, _, _, _, _, h, _, _ => h.elim
  | [], [], _ :: _, _, _, _, h, _, _ => h.elim
  | _ :: _, [], _, _, _, _, h, _, _ => h.elim
  | _ :: _, _ :: _, [], _, _, _, h, _, _ => h.elim

theorem law_post {f : Func} {s : ChangeSpec} {W' : World} {args : Array Value} {ds gs : List (DataW H)} {before : List MemPlace} (hl : laidOutB P = true) {tb : TypeId}
    (hW : DataW.Whole enc' P f.params.toList s.vars false W args.toList ds gs before) (hv : s.vars = []) (hfn : s.fn H (ds ++ gs) = { results := [.lit (.bool true)], args := ds })
    (hres : f.resultTypes = #[tb]) (htb : P.underlying tb = some .bool) (ht : ∀ t ∈ f.params.toList, P.readableRec t = true ∧ t < P.types.size) (hb : Below W.heap.size W W') :
    s.post enc' P f false true false false W args (.bool true) W' := by
  have hlt := hW.lt
  have hW' := hW
  obtain ⟨p, q, hA, hV, hpq, hfz, hnd⟩ := hW'
  rw [hv] at hV
  have hgq : gs = [] ∧ q = [] := by
    cases gs with
    | nil => exact ⟨rfl, hV⟩
    | cons g r => exact hV.elim
  obtain ⟨rfl, rfl⟩ := hgq
  rw [List.append_nil] at hpq
  subst hpq
  have hold : ∀ p ∈ before, (fun b => decide (b < W.heap.size)) p.block = true := fun p hp => by simpa using hlt p hp
  have hargs : ∀ sp : Nat → Bool, (∀ p ∈ before, sp p.block = true) → DataW.TrodAll enc' P W' 0 sp true f.params.toList args.toList ds before := fun sp hsp => trodAll_stays hl hb sp ht hA hlt hsp
  have hresT : ∀ (b : Nat) (sp : Nat → Bool) (hd : Bool), DataW.TrodAll enc' P W' b sp hd f.resultTypes.toList ((Value.bool true).resultList f.resultTypes.size) [.lit (.bool true)] [] := by
    intro b sp hd
    rw [hres]
    exact trodAll_mk1 (shut_bool htb true)
  refine ⟨ds, [], before, [], before, [], hW, ?_, ?_, ?_, World.keptBut_mono (fun p hp => ⟨hp, ?_⟩) (hb.frame (· ∈ before)), fun h => by cases h⟩
  · rw [hfn]; exact hresT _ _ _
  · rw [hfn]; exact hargs _ hold
  · rw [hfn, hv]; rfl
  · exact .inr (by simpa using hp)
end
end Go.Proofs.YtkcifdblaboodaaGreat.Fw
set_option linter.unusedVariables false
set_option linter.unusedSimpArgs false
namespace Go.Proofs.YtkcifdblaboodaaGreat.RCellAsks
open Go Go.ChangeShapes Go.WideShapes Go.ChangeAt Go.RowKit Fw
theorem own : ownKnob Tryz.prog.godebug = none := by kernel_rfl
theorem laidOut : laidOutB Tryz.prog = true := by kernel_rfl
theorem mapsOk : mapsRowed Tryz.prog = true := by kernel_rfl
theorem kids : Kids Tryz.prog (· < Tryz.prog.types.size) := kids_rows laidOut mapsOk
theorem readable : ∀ t ∈ Tryz.f3.params.toList, Tryz.prog.readableRec t = true ∧ t < Tryz.prog.types.size := by
  have h : (Tryz.f3.params.toList.all fun t => Tryz.prog.readableRec t && decide (t < Tryz.prog.types.size)) = true := by kernel_rfl
  intro t ht
  have := List.all_eq_true.1 h t ht
  rw [Bool.and_eq_true, decide_eq_true_eq] at this
  exact this
set_option maxRecDepth 100000 in
theorem lifted (os : Os) (started : os.Started) (H : Type) (enc : TypeId × Value → H) :
    ReturnsInHanded {} Tryz.checked os 3 .any (Rows.cellAsksSpec.pre6 enc Tryz.prog Tryz.f3 Rows.cellAsksRow.domain false) (Rows.cellAsksSpec.post enc Tryz.prog Tryz.f3 false true false false) := by
  refine returnsInHanded_of_change (C := Tryz.checked) own started (by kernel_rfl) Tryz.func3
    (ChangeSpec.witness6 (enc := enc) (C := Tryz.checked) false ⟨#[], #[.agg #[.int .i64 0, .int .i64 0, .int .i64 0, .int .i64 0], .agg #[.int .i64 0, .int .i64 0, .slice none 0 0, .slice none 0 0], .agg #[.int .i64 0, .int .i64 0]], []⟩ 8 (by kernel_rfl) (by kernel_rfl) (by kernel_rfl) (by kernel_rfl)) ?_
  intro W base args ds gs before hval0 hW hcnd _
  have hval : ∀ (j : Nat) t v, Tryz.f3.params[j]? = some t → args[j]? = some v → Value.okWide Tryz.prog W .any base t v := hval0
  have hW' : DataW.Whole enc Tryz.prog Tryz.f3.params.toList Rows.cellAsksSpec.vars false W args.toList ds gs before := hW
  obtain ⟨p, q, hA0, hV, _, _, _⟩ := hW'
  have hA : DataW.TrodAll enc Tryz.prog W 0 (fun _ => true) true Tryz.f3.params.toList args.toList ds p := hA0
  rw [Tryz.params3] at hA hval
  obtain ⟨v0, v1, v2, d0, d1, d2, p0, p1, p2, rfl, rfl, rfl, h0, h1, h2⟩ := trodAll_three hA
  obtain ⟨rfl, rfl⟩ := trodVars_none hV
  obtain ⟨a0, r0, w0⟩ := arg_struct (ty := Hi.PolT) kids rfl rfl (of_decide_eq_true (by kernel_rfl)) (by kernel_rfl) (hval 0 _ v0 rfl rfl) h0
  obtain ⟨a1, r1, w1⟩ := arg_struct (ty := Ce.CellT) kids rfl rfl (of_decide_eq_true (by kernel_rfl)) (by kernel_rfl) (hval 1 _ v1 rfl rfl) h1
  obtain ⟨a2, r2, w2⟩ := arg_struct (ty := Ce.ArrT) kids rfl rfl (of_decide_eq_true (by kernel_rfl)) (by kernel_rfl) (hval 2 _ v2 rfl rfl) h2
  refine (law_run (vals := [v0, v1, v2]) (Ce.asksLawM a0 a1 a2 w1.2.1) (fun _ _ => rfl) ⟨r0, r1, r2, trivial⟩).mono ?_
  rintro e W' ⟨rfl, hb⟩
  exact ⟨_, rfl, law_post laidOut hW rfl rfl (by rfl) Tryz.underlying4 readable hb⟩

theorem holds : Rows.CellAsksSaid :=
  OpenClaim.holds_of_wide 3 Tryz.f3 rfl rfl rfl rfl rfl rfl rfl ⟨rfl, rfl, rfl, rfl, rfl⟩ rfl rfl rfl rfl rfl (by kernel_rfl) Tryz.func3 (by kernel_rfl)
    (of_decide_eq_true (by kernel_rfl)) (by unfold Func.isWrapper; first | (rw [if_pos (by decide +kernel)]; kernel_rfl) | (rw [if_neg (by decide +kernel)]; exact ⟨rfl, rfl⟩))
    (fun os started H enc _ => lifted os started H enc)
end Go.Proofs.YtkcifdblaboodaaGreat.RCellAsks
#print axioms Go.Proofs.YtkcifdblaboodaaGreat.RCellAsks.holds
