/- The law CellPacks holds at every input that its statement lets in; part 5 of its proof. -/
import Derived.Test.YtkcifdblaboodaaGreatMCellPacks3
import Derived.ProofKit
import Derived.OpenShut
import Derived.JoinedCond
import Derived.Test.YtkcifdblaboodaaGreatRows
set_option linter.unusedVariables false
set_option linter.unusedSimpArgs false
namespace Go.Proofs.YtkcifdblaboodaaGreat.Ce
open Go Go.RowKit Fw Hi
theorem timeB_iff {t : Int} : timeB t = true ↔ 0 ≤ t ∧ t ≤ 1099511627776 := by simp [timeB]
theorem weighs_iff {w : Int} : weighs w = true ↔ 1 ≤ w ∧ w ≤ 1048576 := by simp [weighs]
/-- A cell that is asked: as it was, moved, or moved and added to. -/
theorem ask_cases {p : Pol} {c : Cell} (hm : mayC p c = true) {t w : Int} (ht : c.1 ≤ t) :
    (askC p c t w = (c, zeroV) ∧ ¬ (timeB t = true ∧ weighs w = true)) ∨
    ((timeB t = true ∧ weighs w = true) ∧ cnt p c t + worth p w ≤ worth p p.2.1 ∧ askC p c t w = (added p (moved p c t) w, true, (worth p p.2.1 - (cnt p c t + worth p w)).tdiv (worth p 1), 0, wt p (added p (moved p c t) w) 0)) ∨
    ((timeB t = true ∧ weighs w = true) ∧ ¬ cnt p c t + worth p w ≤ worth p p.2.1 ∧ askC p c t w = (moved p c t, false, (worth p p.2.1 - cnt p c t).tdiv (worth p 1), (if p.2.1 < w then 2199023255552 else wt p (moved p c t) (worth p p.2.1 - worth p w)), wt p (moved p c t) 0)) := by
  by_cases h : timeB t = true ∧ weighs w = true
  · have e : cnt p (moved p c t) t = cnt p c t := moved_cnt hm ht (Int.le_refl _)
    by_cases h2 : cnt p c t + worth p w ≤ worth p p.2.1
    · right; left
      refine ⟨h, h2, ?_⟩
      unfold askC
      rw [hm, h.1, h.2, Int.max_eq_left ht]
      simp only [Bool.and_self, if_true, moved_at, e, if_pos h2]
    · right; right
      refine ⟨h, h2, ?_⟩
      unfold askC
      rw [hm, h.1, h.2, Int.max_eq_left ht]
      simp only [Bool.and_self, if_true, moved_at, e, if_neg h2]
  · left
    refine ⟨?_, h⟩
    unfold askC
    rw [if_neg]
    rw [hm, Bool.true_and, Bool.and_eq_true]
    exact h
theorem ask_no {p : Pol} {c : Cell} (hm : mayC p c = true) {t w : Int} (ht : c.1 ≤ t) (hb : timeB t = true) (hw : weighs w = true) (hn : worth p p.2.1 < cnt p c t + worth p w) :
    askC p c t w = (moved p c t, false, (worth p p.2.1 - cnt p c t).tdiv (worth p 1), (if p.2.1 < w then 2199023255552 else wt p (moved p c t) (worth p p.2.1 - worth p w)), wt p (moved p c t) 0) := by
  rcases ask_cases hm (w := w) ht with ⟨e, h⟩ | ⟨_, h, e⟩ | ⟨_, h, e⟩
  · exact absurd ⟨hb, hw⟩ h
  · omega
  · exact e
theorem ask_may {p : Pol} {c : Cell} (hm : mayC p c = true) {t w : Int} (ht : c.1 ≤ t) : mayC p (askC p c t w).1 = true ∧ c.1 ≤ (askC p c t w).1.1 ∧ (askC p c t w).1.1 ≤ t := by
  rcases ask_cases hm (w := w) ht with ⟨e, h⟩ | ⟨⟨h1, h2⟩, h3, e⟩ | ⟨⟨h1, h2⟩, h3, e⟩
  · rw [e]; exact ⟨hm, Int.le_refl _, ht⟩
  · rw [e]
    have ht1 := timeB_iff.1 h1
    have hm2 := moved_may hm ht ht1.2
    refine ⟨added_may hm2 (moved_full p c t) (weighs_iff.1 h2).1 ?_, ?_, ?_⟩
    · rw [← cnt_own hm2, moved_at, moved_cnt hm ht (Int.le_refl _)]; exact h3
    · simp only [added_at, moved_at]; exact ht
    · simp only [added_at, moved_at]; exact Int.le_refl _
  · rw [e]
    have ht1 := timeB_iff.1 h1
    exact ⟨moved_may hm ht ht1.2, by simp only [moved_at]; exact ht, by simp only [moved_at]; exact Int.le_refl _⟩
theorem ends_le {p : Pol} {c : Cell} (hm : mayC p c = true) : endsC p c ≤ c.1 + p.2.2.1 := by
  unfold endsC
  rw [hm, if_pos rfl]
  have := (wt_bound (p := p) (d := moved p c c.1) (may_pol hm).1 0).2
  omega
theorem worth_lin (p : Pol) (w : Int) : worth p w = w * worth p 1 := by
  unfold worth
  split
  · rw [Int.one_mul]
  · rw [Int.mul_one]
theorem worth_one {p : Pol} (hp : PolOk p) : 1 ≤ worth p 1 := (worth_bound hp (by omega)).1
/-- Two asks of too much, one at a later time. -/
theorem goes_over {p : Pol} {c : Cell} (hm : mayC p c = true) {t1 t2 : Int} (h1 : c.1 ≤ t1) (h2 : t1 ≤ t2) (h3 : t2 ≤ 1099511627776) (hL : p.2.1 + 1 ≤ 1048576) :
    (askC p c t1 (p.2.1 + 1)).2.1 = false ∧ (askC p c t1 (p.2.1 + 1)).2.2.1 ≤ (askC p c t2 (p.2.1 + 1)).2.2.1 ∧ (askC p c t2 (p.2.1 + 1)).2.2.2.2 ≤ (askC p c t1 (p.2.1 + 1)).2.2.2.2 ∧ (askC p c t2 (p.2.1 + 1)).2.2.1 ≤ p.2.1 ∧ 0 ≤ (askC p c t2 (p.2.1 + 1)).2.2.2.2 ∧ (askC p c t2 (p.2.1 + 1)).2.2.2.2 ≤ 1048576 := by
  obtain ⟨hp, h0, h00⟩ := may_pol hm
  have hl := hp.limit
  have hw : weighs (p.2.1 + 1) = true := weighs_iff.2 ⟨by omega, hL⟩
  have hb1 : timeB t1 = true := timeB_iff.2 ⟨by omega, by omega⟩
  have hb2 : timeB t2 = true := timeB_iff.2 ⟨by omega, by omega⟩
  have hw1 := worth_one hp
  have hwl : worth p (p.2.1 + 1) = worth p p.2.1 + worth p 1 := by
    rw [worth_lin p (p.2.1 + 1), worth_lin p p.2.1, Int.add_mul, Int.one_mul]
  have n1 := cnt_nonneg hm t1
  have n2 := cnt_nonneg hm t2
  have n3 := cnt_anti hm h1 h2
  have n4 : cnt p c t1 ≤ worth p p.2.1 := by
    have hm2 := moved_may hm h1 (by omega)
    have := (own_le hm2).2
    rw [← cnt_own hm2, moved_at, moved_cnt hm h1 (Int.le_refl _)] at this
    exact this
  have e1 := ask_no hm h1 hb1 hw (by omega)
  have e2 := ask_no hm (Int.le_trans h1 h2) hb2 hw (by omega)
  have m1 := moved_may hm h1 (by omega)
  have m2 := moved_may hm (Int.le_trans h1 h2) (by omega)
  have b1 := wt_bound (p := p) (d := moved p c t1) hp 0
  have b2 := wt_bound (p := p) (d := moved p c t2) hp 0
  have hwd := hp.window
  rw [e1, e2]
  refine ⟨rfl, tdiv_mono (by omega) (by omega) hw1, ?_, ?_, b2.1, by simp only []; omega⟩
  · show wt p (moved p c t2) 0 ≤ wt p (moved p c t1) 0
    rw [wt_le m2 (Int.le_refl _) b1.1, moved_at, moved_cnt hm (Int.le_trans h1 h2) (by omega)]
    have q := (wt_le m1 (m := 0) (Int.le_refl _) b1.1).1 (Int.le_refl _)
    rw [moved_at, moved_cnt hm h1 (by omega)] at q
    exact Int.le_trans (cnt_anti hm (by omega) (by omega)) q
  · show (worth p p.2.1 - cnt p c t2).tdiv (worth p 1) ≤ p.2.1
    have h5 := tdiv_mono (a := worth p p.2.1 - cnt p c t2) (b := worth p p.2.1) (s := worth p 1) (by omega) (by omega) hw1
    rw [worth_lin p p.2.1, Int.mul_tdiv_cancel _ (by omega)] at h5
    rw [worth_lin p p.2.1]
    exact h5
/-- Moved twice, or at once. -/
theorem moved_moved {p : Pol} {c : Cell} (hm : mayC p c = true) {t t' : Int} (h1 : c.1 ≤ t) (h2 : t ≤ t') : moved p (moved p c t) t' = moved p c t' := by
  obtain ⟨hp, h0, _⟩ := may_pol hm
  have hc := moved_cnt hm h1 h2
  rcases kind_of hp with k | k | k | k
  · unfold moved at hc ⊢
    simp only [if_pos (show p.1 = 1 ∨ p.1 = 2 from .inl k)] at hc ⊢
    rw [hc]
  · unfold moved at hc ⊢
    simp only [if_pos (show p.1 = 1 ∨ p.1 = 2 from .inr k)] at hc ⊢
    rw [hc]
  · unfold moved
    simp only [if_neg (show ¬ (p.1 = 1 ∨ p.1 = 2) by omega), if_pos k]
    have hB := ring_B hp k
    have n1 := numR_mono hp h0 h1
    have n2 := numR_mono hp (by omega : 0 ≤ t) h2
    congr 2
    unfold atR
    refine congrArg (fun l => (l, ([] : List Hit))) (List.map_congr_left ?_)
    intro j hj
    have hj : j < p.2.2.2.toNat := List.mem_range.1 hj
    show (if numR p t < nb p t' j then 0 else (atR p c t).getD j 0) = _
    rw [atR_getD hj]
    by_cases g : numR p t < nb p t' j
    · rw [if_pos g, if_pos (by omega)]
    · rw [if_neg g, ← nb_same hB.1 n2 (by omega)]
  · unfold moved
    simp only [if_neg (show ¬ (p.1 = 1 ∨ p.1 = 2) by omega), if_neg (show ¬ p.1 = 3 by omega)]
    rw [since_since h2]
/-- What is told of a cell is told of it moved. -/
theorem ask_moved {p : Pol} {c : Cell} (hm : mayC p c = true) {t t' w : Int} (h1 : c.1 ≤ t) (h2 : t ≤ t') (h3 : t ≤ 1099511627776) : (askC p (moved p c t) t' w).2 = (askC p c t' w).2 := by
  have hm2 := moved_may hm h1 h3
  unfold askC
  rw [hm, hm2, moved_at, Int.max_eq_left h2, Int.max_eq_left (Int.le_trans h1 h2), moved_moved hm h1 h2]
  split
  · split <;> rfl
  · rfl
end Go.Proofs.YtkcifdblaboodaaGreat.Ce
set_option linter.unusedVariables false
set_option linter.unusedSimpArgs false
namespace Go.Proofs.YtkcifdblaboodaaGreat.Ce
open Go Go.RowKit Fw Hi
abbrev ArrT : Ty := .pair (.int .i64) (.int .i64)
theorem new_may {p : Pol} (hp : PolOk p) {t : Int} (h : 0 ≤ t ∧ t ≤ 1099511627776) : mayC p (t, 0, [], []) = true := by
  have hL := hp.limit
  have hW := hp.window
  have hLW : 0 ≤ p.2.1 * p.2.2.1 := Int.mul_nonneg (by omega) (by omega)
  rcases kind_of hp with k | k | k | k
  · exact (may1 k).2 ⟨hp, h, by simp, hLW, rfl, rfl⟩
  · exact (may2 k).2 ⟨hp, h, by simp, by simp only []; omega, rfl, rfl⟩
  · exact (may3 k).2 ⟨hp, h, rfl, rfl, .inl rfl, by simp, by simp; omega, fun j _ => rfl⟩
  · exact (may4 k).2 ⟨hp, h, rfl, rfl, rfl, by show (0 : Int) ≤ _; omega⟩
theorem new_cnt (p : Pol) (t : Int) : cnt p (t, 0, [], []) t = 0 := by
  unfold cnt
  split
  · show max 0 (0 - p.2.1 * (t - t)) = 0
    rw [Int.sub_self, Int.mul_zero]; decide
  · split
    · split <;> rfl
    · split
      · have e : atR p (t, 0, [], []) t = List.replicate p.2.2.2.toNat 0 := by
          unfold atR
          apply List.ext_getElem (by simp)
          intro i h1 h2
          simp
        rw [e]; simp
      · rfl
theorem zero_moved {p : Pol} {c : Cell} (hm : mayC p c = true) {t : Int} (h1 : c.1 ≤ t) (h2 : t ≤ 1099511627776) (h : cnt p c t = 0) : moved p c t = moved p (t, 0, [], []) t := by
  obtain ⟨hp, h0, _⟩ := may_pol hm
  have hn := new_cnt p t
  rcases kind_of hp with k | k | k | k
  · unfold moved
    rw [if_pos (.inl k), if_pos (.inl k), h, hn]
  · unfold moved
    rw [if_pos (.inr k), if_pos (.inr k), h, hn]
  · have hB := ring_B hp k
    have hm2 := (may3 k).1 (moved_may hm h1 h2)
    have e : ∀ d : Cell, moved p d t = (t, 0, atR p d t, []) := fun d => by
      unfold moved
      rw [if_neg (by omega), if_pos k]
    rw [e] at hm2
    rw [e, e]
    have hs : (atR p c t).sum = 0 := by
      unfold cnt at h
      rw [if_neg (by omega), if_neg (by omega), if_pos k] at h
      exact h
    have hz : atR p c t = atR p (t, 0, [], []) t := by
      apply Bt.getD_ext (by rw [atR_len, atR_len])
      intro j hj
      rw [atR_len] at hj
      rw [atR_getD (c := (t, 0, [], [])) hj]
      have hx : (atR p c t).getD j 0 = 0 := by
        have hv : ∀ x ∈ atR p c t, 0 ≤ x := fun x hx => (hm2.val x hx).1
        have hmem : (atR p c t).getD j 0 ∈ atR p c t := by
          rw [List.getD_eq_getElem?_getD, List.getElem?_eq_getElem (by rw [atR_len]; exact hj)]
          exact List.getElem_mem _
        have := sum_mem hv hmem
        have := hv _ hmem
        omega
      rw [hx]
      split <;> rfl
    rw [hz]
  · have e : ∀ d : Cell, moved p d t = (t, 0, [], sinceE p d.2.2.2 t) := fun d => by
      unfold moved
      rw [if_neg (by omega), if_neg (by omega)]
    have hm2 := (may4 k).1 (moved_may hm h1 h2)
    rw [e] at hm2
    have hs : sumH (sinceE p c.2.2.2 t) = 0 := by
      unfold cnt at h
      rw [if_neg (by omega), if_neg (by omega), if_neg (by omega)] at h
      exact h
    have hl := mayH_num _ _ hm2.go
    have hl0 : sinceE p c.2.2.2 t = [] := List.eq_nil_of_length_eq_zero (by simp only [] at hl; omega)
    rw [e, e, hl0]; rfl
theorem neutral_new {p : Pol} {c : Cell} (hm : mayC p c = true) {t : Int} (h1 : c.1 ≤ t) (h2 : t ≤ 1099511627776) (h : cnt p c t = 0) {w : Int} (hw : weighs w = true) : askC p c t w = askC p (t, 0, [], []) t w := by
  obtain ⟨hp, h0, _⟩ := may_pol hm
  have hb : timeB t = true := timeB_iff.2 ⟨by omega, h2⟩
  have hn := new_may hp (t := t) ⟨by omega, h2⟩
  unfold askC
  rw [hm, hn, hb, hw, Int.max_eq_left h1, Int.max_self, zero_moved hm h1 h2 h]
  rfl
theorem neutral_whole {p : Pol} {c : Cell} (hm : mayC p c = true) {t : Int} (h1 : c.1 ≤ t) (h2 : t ≤ 1099511627776) : neutralC p c t = (askC p c t p.2.1).2.1 := by
  obtain ⟨hp, h0, _⟩ := may_pol hm
  have hl := hp.limit
  have hn := cnt_nonneg hm t
  have hq := neutral_iff hm h1
  rw [Bool.eq_iff_iff, hq]
  rcases ask_cases hm (w := p.2.1) h1 with ⟨e, h⟩ | ⟨_, h, e⟩ | ⟨_, h, e⟩
  · exact absurd ⟨timeB_iff.2 ⟨by omega, h2⟩, weighs_iff.2 hl⟩ h
  · rw [e]; simp only [iff_true]; omega
  · rw [e]; simp only [Bool.false_eq_true, iff_false]; omega
theorem new_neutral {p : Pol} (hp : PolOk p) {t : Int} (h : 0 ≤ t ∧ t ≤ 1099511627776) : neutralC p (t, 0, [], []) t = true := (neutral_iff (new_may hp h) (Int.le_refl _)).2 (new_cnt p t)
/-! ### Kinds that tell the same -/
structure Pair (p q : Pol) : Prop where
  p1 : p.1 ≠ 1
  q1 : q.1 ≠ 1
  limit : p.2.1 = q.2.1
  window : p.2.2.1 = q.2.2.1
  ok : PolOk p ↔ PolOk q
  counts : PolOk p → ∀ (h : List Hit) (t : Int), (∀ x ∈ h, 0 ≤ x.1 ∧ x.1 ≤ t) → Hi.counts p h t = Hi.counts q h t
theorem Pair.worth {p q : Pol} (P : Pair p q) (w : Int) : worth p w = worth q w := by
  unfold Hi.worth; rw [if_neg P.p1, if_neg P.q1]
theorem Pair.ask {p q : Pol} (P : Pair p q) {c d : Cell} {h : List Hit} (rp : Rel p c h) (rq : Rel q d h) {t w : Int} (hc : c.1 ≤ t) (hd : d.1 ≤ t) (ht : t ≤ 1099511627776) : Hi.ask p h t w = Hi.ask q h t w := by
  have fp := rp.fit.later hc ht
  have fq := rq.fit.later hd ht
  have h0 := fp.pos
  have e : ∀ l : List Hit, (∀ x ∈ l, 0 ≤ x.1 ∧ x.1 ≤ t) → ∀ k : Nat, Hi.counts p l (t + k) = Hi.counts q l (t + k) := fun l hl k => P.counts fp.pol l _ fun x hx => by have := hl x hx; omega
  have ew : ∀ l : List Hit, (∀ x ∈ l, 0 ≤ x.1 ∧ x.1 ≤ t) → ∀ m, Hi.wait p l t m = Hi.wait q l t m := fun l hl m => by
    unfold Hi.wait
    rw [waitFrom_G, waitFrom_G, P.window]
    exact waitG_congr (e l hl) _ _
  have e0 : ∀ l : List Hit, (∀ x ∈ l, 0 ≤ x.1 ∧ x.1 ≤ t) → Hi.counts p l t = Hi.counts q l t := fun l hl => by have := e l hl 0; rwa [Int.natCast_zero, Int.add_zero] at this
  have hh := fp.hits.tick
  have hs : ∀ x ∈ h ++ [(t, w)], 0 ≤ x.1 ∧ x.1 ≤ t := fun x hx => by
    rcases List.mem_append.1 hx with hx | hx
    · exact hh x hx
    · simp at hx; subst hx; exact ⟨h0, Int.le_refl _⟩
  unfold Hi.ask
  rw [fp.fits, fq.fits, P.limit]
  simp only [P.worth, e0 h hh, ew h hh]
  by_cases hk : Hi.counts q h t + Hi.worth q w ≤ Hi.worth q q.2.1
  · simp only [if_pos hk, e0 _ hs, ew _ hs]
  · simp only [if_neg hk, e0 _ hh, ew _ hh]
theorem pair_fixed (L W : Int) : Pair (2, L, W, 0) (3, L, W, 1) where
  p1 := by simp
  q1 := by simp
  limit := rfl
  window := rfl
  ok := ⟨fun h => ⟨by simp, h.limit, h.window, fun _ => ⟨by simp, by simp, Int.tmod_one _⟩, fun h => absurd rfl h, fun h => absurd h (by simp)⟩, fun h => ⟨by simp, h.limit, h.window, fun h => absurd h (by simp), fun _ => rfl, fun h => absurd h (by simp)⟩⟩
  counts := fun hp h t hx => by
    have hW := hp.window
    simp only [] at hW
    unfold Hi.counts
    rw [if_neg (show ¬ (_ : Int) = 1 by simp), if_neg (show ¬ (_ : Int) = 1 by simp)]
    refine those_congr h fun x hx' => ?_
    have hb := hx x hx'
    have e1 : slotOf (2, L, W, 0) = W := rfl
    have e2 : slotOf (3, L, W, 1) = W := Int.tdiv_one _
    have hmn := tdiv_mono (s := W) hb.1 hb.2 hW.1
    show decide (x.1.tdiv (slotOf (2, L, W, 0)) = t.tdiv (slotOf (2, L, W, 0))) = decide (t.tdiv (slotOf (3, L, W, 1)) - 1 < x.1.tdiv (slotOf (3, L, W, 1)))
    rw [e1, e2, decide_eq_decide]
    omega
theorem pair_exact (L W : Int) (hL : L ≤ 16) (hW : W ≤ 16) : Pair (4, L, W, 0) (3, L, W, W) where
  p1 := by simp
  q1 := by simp
  limit := rfl
  window := rfl
  ok := ⟨fun h => ⟨by simp, h.limit, h.window, fun _ => ⟨h.window.1, hW, Int.tmod_self⟩, fun h => absurd rfl h, fun h => absurd h (by simp)⟩, fun h => ⟨by simp, h.limit, h.window, fun h => absurd h (by simp), fun _ => rfl, fun _ => hL⟩⟩
  counts := fun hp h t hx => by
    have hW := hp.window
    simp only [] at hW
    unfold Hi.counts
    rw [if_neg (show ¬ (_ : Int) = 1 by simp), if_neg (show ¬ (_ : Int) = 1 by simp)]
    refine those_congr h fun x hx' => ?_
    have e2 : slotOf (3, L, W, W) = 1 := Int.tdiv_self (a := W) (by omega)
    show decide (t - W < x.1) = decide (t.tdiv (slotOf (3, L, W, W)) - W < x.1.tdiv (slotOf (3, L, W, W)))
    rw [e2, Int.tdiv_one, Int.tdiv_one]
/-- Two cells that were asked the same. -/
def Twin (p q : Pol) (c d : Cell) (t : Int) (i : Nat) : Prop := PolOk p → ∃ h : List Hit, h.length ≤ i ∧ Rel p c h ∧ Rel q d h ∧ c.1 ≤ t ∧ d.1 ≤ t
theorem Twin.new {p q : Pol} (P : Pair p q) : Twin p q (0, 0, [], []) (0, 0, [], []) 0 0 := fun hp => ⟨[], Nat.le_refl _, Rel.nil hp, Rel.nil (P.ok.1 hp), Int.le_refl _, Int.le_refl _⟩
theorem ask_not {p : Pol} (hp : ¬ PolOk p) (c : Cell) (t w : Int) : askC p c t w = (c, zeroV) := by
  unfold askC
  rw [if_neg]
  intro h
  rw [Bool.and_eq_true, Bool.and_eq_true] at h
  exact hp (may_pol h.1.1).1
theorem ask_nope {p : Pol} {c : Cell} {t w : Int} (hw : weighs w = false) : askC p c t w = (c, zeroV) := by
  unfold askC
  rw [hw, Bool.and_false]; rfl
theorem ask_grow (p : Pol) (h : List Hit) (t w : Int) : (Hi.ask p h t w).1.length ≤ h.length + 1 := by
  unfold Hi.ask
  split
  · simp only []
    split
    · simp
    · omega
  · simp
theorem Twin.step {p q : Pol} (P : Pair p q) {c d : Cell} {t t' : Int} {i : Nat} (T : Twin p q c d t i) (w : Int) (h1 : t ≤ t') (h2 : t' ≤ 1099511627776) (hi : i ≤ 63) :
    (askC p c t' w).2 = (askC q d t' w).2 ∧ Twin p q (askC p c t' w).1 (askC q d t' w).1 t' (i + 1) := by
  by_cases hp : PolOk p
  · obtain ⟨h, hl, rp, rq, hc, hd⟩ := T hp
    by_cases hw : weighs w = true
    · obtain ⟨a1, a2, a3⟩ := ask_same rp (t := t') (w := w) (by omega) h2 hw (by omega)
      obtain ⟨b1, b2, b3⟩ := ask_same rq (t := t') (w := w) (by omega) h2 hw (by omega)
      have e := P.ask rp rq (t := t') (w := w) (by omega) (by omega) h2
      refine ⟨by rw [a1, b1, e], fun _ => ⟨(Hi.ask p h t' w).1, by have := ask_grow p h t' w; omega, a2, by rw [e]; exact b2, by omega, by omega⟩⟩
    · rw [ask_nope (Bool.eq_false_iff.2 hw), ask_nope (Bool.eq_false_iff.2 hw)]
      exact ⟨rfl, fun _ => ⟨h, by omega, rp, rq, Int.le_trans hc h1, Int.le_trans hd h1⟩⟩
  · rw [ask_not hp, ask_not (fun hq => hp (P.ok.2 hq))]
    exact ⟨rfl, fun hp' => absurd hp' hp⟩
/-- A cell as may be, or a new one of no policy. -/
def Cl1 (p : Pol) (c : Cell) (t : Int) : Prop := (mayC p c = true ∧ c.1 ≤ t) ∨ (¬ PolOk p ∧ c = (0, 0, [], []))
theorem Cl1.new (p : Pol) : Cl1 p (0, 0, [], []) 0 := by
  by_cases h : PolOk p
  · exact .inl ⟨new_may h (by decide), Int.le_refl _⟩
  · exact .inr ⟨h, rfl⟩
theorem Cl1.level {p : Pol} {c : Cell} {t : Int} (h : Cl1 p c t) : -9223372036854775808 ≤ c.2.1 ∧ c.2.1 ≤ 9223372036854775807 := by
  rcases h with h | h
  · exact may_level h.1
  · rw [h.2]; decide
theorem Cl1.step {p : Pol} {c : Cell} {t t' : Int} (h : Cl1 p c t) (w : Int) (ht : t ≤ t') : Cl1 p (askC p c t' w).1 t' := by
  rcases h with h | h
  · have := ask_may h.1 (t := t') (w := w) (by omega)
    exact .inl ⟨this.1, this.2.2⟩
  · rw [ask_not h.1]; exact .inr h
end Go.Proofs.YtkcifdblaboodaaGreat.Ce
set_option linter.unusedVariables false
set_option linter.unusedSimpArgs false
namespace Go.Proofs.YtkcifdblaboodaaGreat.Fw
open Go Go.RowKit
theorem CodeN.le {P : Program} {N : Nat} {M : List Bool} {S : Sc} {c : Code} {env env' : Env} {E E' : List Chunk} {K : Ex → Env → List Chunk → Prop} (π : List Nat) (hle : Le M π env E env' E') (h : CodeN P N S M c env' E' K) : CodeN P N S M c env E K where
  h := fun r g a w hr hM hI hN => h.h r (g.ren π) a w hr hM (hI.ren hM hle) hN
/-- A first statement, what is so behind it, and the rest. -/
theorem CodeN.mid {P : Program} {N : Nat} {M : List Bool} {S : Sc} {c a b : Code} {env : Env} {E : List Chunk} {K : Ex → Env → List Chunk → Prop} (hm : P.follows .mixedOrders = true) {X : Type} (inv : X → Prop) (st : X → Env) (ch : X → List Chunk)
    (hc : c = .seq a b)
    (first : sCode P N S M a env E fun e env' E' => match e with
      | .normal => ∃ x, ∃ π, Le M π env' E' (st x) (ch x) ∧ inv x
      | .ret => K .ret env' E' | .exit n => K (.exit n) env' E')
    (rest : ∀ x, inv x → fEnv (st x) fun env => fEE (ch x) fun E => CodeN P N S M b env E K) : CodeN P N S M c env E K := by
  subst hc
  refine ⟨fun r g a' w hr hM h hN => ?_⟩
  obtain ⟨hr1, hr2⟩ := noDraw_and hr rfl
  refine wpIn_seq (Go.wpIn_mono (sCode_ok hm hM a r hr1 h hN first) ?_)
  rintro e a' w' ⟨e', g', env', E', rfl, h1, h2, h4⟩
  cases e' with
  | normal =>
    obtain ⟨x, π, hle, hi⟩ := h4
    have hk := rest x hi
    rw [fEnv_eq, fEE_eq] at hk
    exact hk.h r (g'.ren π) a' w' hr2 hM (h1.ren hM hle) h2
  | ret => exact ⟨.ret, g', env', E', rfl, h1, h2, h4⟩
  | exit n => exact ⟨.exit n, g', env', E', rfl, h1, h2, h4⟩
end Go.Proofs.YtkcifdblaboodaaGreat.Fw
set_option linter.unusedVariables false
set_option linter.unusedSimpArgs false
namespace Go.Proofs.YtkcifdblaboodaaGreat.Ce
open Go Go.RowKit Fw Hi Po
theorem ttimeM (t : Int) : Meets Tryz.prog 53 [.int .i64 fun _ => t] [] (Y := Unit) (fun _ => True) (fun _ => .bool fun _ => timeB t) (fun _ => []) := by
  refine Meets.intro hm (fn := Tryz.f53) Tryz.func53 rfl (by decide) (Nat.le_of_ble_eq_true rfl) (fun _ => rfl) ?_; intro S hok; (conv => whnf)
  (repeat' ((conv => whnf); first | apply And.intro | exact ⟨by kernel_rfl⟩ | apply DrawN.mk | apply CodeN.step hm rfl | exact trivial | exact rfl | (intro hh; try simp only [bs] at hh))); all_goals (conv => whnf)
  all_goals
    (refine RetN.q () [] ?_ ?_ ?_ <;> (repeat' ((conv => whnf) <;> first | exact rfl | exact trivial | apply And.intro | exact Nat.zero_add _)); all_goals ((conv => whnf); try simp only []))
    simp [timeB, *]
theorem not_may {p : Pol} (hp : ¬ PolOk p) (c : Cell) : mayC p c = false := Bool.eq_false_iff.2 fun h => hp (may_pol h).1
theorem time_false {p : Pol} {c : Cell} (h : timeB c.1 = false) : mayC p c = false := Bool.eq_false_iff.2 fun hm => by
  have := may_pol hm
  rw [timeB_iff.2 ⟨this.2.1, this.2.2⟩] at h
  cases h
theorem chkM (p : Pol) : Meets Tryz.prog 64 [polAV p] [] (Y := Unit) (fun _ => True) (fun _ => .int .i64 fun _ => if PolOk p then 0 else 1) (fun _ => []) := rcheckM p
theorem r10may (p : Pol) (c : Cell) (k : p.1 = 1) (hc : -9223372036854775808 ≤ c.2.1 ∧ c.2.1 ≤ 9223372036854775807) : Meets Tryz.prog 26 [polAV p, cellAV c] [] (Y := Unit) (fun _ => True) (fun _ => .bool fun _ => mayC p c) (fun _ => []) := by
  have MC := rcheckM p
  by_cases hp : PolOk p
  rotate_left
  · rw [if_neg hp] at MC
    have hf := not_may hp c
    refine Meets.intro hm (fn := Tryz.f26) Tryz.func26 rfl (by decide) (Nat.le_of_ble_eq_true rfl) (fun _ => rfl) ?_; intro S hok; (conv => whnf)
    (repeat' ((conv => whnf); first | apply And.intro | exact ⟨by kernel_rfl⟩ | apply DrawN.mk | apply CodeN.step hm rfl | exact trivial | exact rfl | (intro hh; try simp only [bs] at hh))); all_goals (conv => whnf)
    (refine CallN.q MC [] (fun _ _ => ?_); (repeat' ((conv => whnf); first | apply And.intro | exact ⟨by kernel_rfl⟩ | apply DrawN.mk | apply CodeN.step hm rfl | exact trivial | exact rfl | (intro hh; try simp only [bs] at hh; try exact absurd hh (by decide)))); all_goals (conv => whnf); all_goals try exact ⟨by decide⟩)
    all_goals
      (refine RetN.q () [] ?_ ?_ ?_ <;> (repeat' ((conv => whnf) <;> first | exact rfl | exact trivial | apply And.intro | exact Nat.zero_add _)); all_goals ((conv => whnf); try simp only []))
      exact hf
  · rw [if_pos hp] at MC
    have hL := hp.limit
    have hW := hp.window
    have hLW : p.2.1 * p.2.2.1 ≤ 1048576 * 1048576 := Int.mul_le_mul hL.2 hW.2 (by omega) (by omega)
    have hLW0 : 0 ≤ p.2.1 * p.2.2.1 := Int.mul_nonneg (by omega) (by omega)
    have e1 : IntKind.i64.wrap (p.2.1 * p.2.2.1) = p.2.1 * p.2.2.1 := wr (by omega)
    have hk : mayC p c = true ↔ timeB c.1 = true ∧ 0 ≤ c.2.1 ∧ c.2.1 ≤ p.2.1 * p.2.2.1 ∧ (c.2.2.1.length : Int) = 0 ∧ (c.2.2.2.length : Int) = 0 := by
      rw [may1 k, timeB_iff]
      constructor
      · rintro ⟨_, h1, h2, h3, h4, h5⟩
        exact ⟨h1, h2, h3, by rw [h4]; rfl, by rw [h5]; rfl⟩
      · rintro ⟨h1, h2, h3, h4, h5⟩
        exact ⟨hp, h1, h2, h3, List.eq_nil_of_length_eq_zero (by omega), List.eq_nil_of_length_eq_zero (by omega)⟩
    refine Meets.intro hm (fn := Tryz.f26) Tryz.func26 rfl (by decide) (Nat.le_of_ble_eq_true rfl) (fun _ => rfl) ?_; intro S hok; (conv => whnf)
    (repeat' ((conv => whnf); first | apply And.intro | exact ⟨by kernel_rfl⟩ | apply DrawN.mk | apply CodeN.step hm rfl | exact trivial | exact rfl | (intro hh; try simp only [bs] at hh))); all_goals (conv => whnf)
    (refine CallN.q MC [] (fun _ _ => ?_); (repeat' ((conv => whnf); first | apply And.intro | exact ⟨by kernel_rfl⟩ | apply DrawN.mk | apply CodeN.step hm rfl | exact trivial | exact rfl | (intro hh; try simp only [bs] at hh; try exact absurd hh (by decide)))); all_goals (conv => whnf); all_goals try exact ⟨by decide⟩)
    all_goals (try simp only [e1] at hh ⊢)
    rotate_left
    · exfalso; exact hh k
    (refine CallN.q (ttimeM c.1) [] (fun _ _ => ?_); (repeat' ((conv => whnf); first | apply And.intro | exact ⟨by kernel_rfl⟩ | apply DrawN.mk | apply CodeN.step hm rfl | exact trivial | exact rfl | (intro hh; try simp only [bs] at hh; try exact absurd hh (by decide)))); all_goals (conv => whnf); all_goals try exact ⟨by decide⟩)
    all_goals (try simp only [e1] at hh ⊢)
    all_goals
      (refine RetN.q () [] ?_ ?_ ?_ <;> (repeat' ((conv => whnf) <;> first | exact rfl | exact trivial | apply And.intro | exact Nat.zero_add _)); all_goals ((conv => whnf); try simp only []))
    all_goals first
      | (rw [Bool.eq_iff_iff, hk, beq_iff_eq]; exact ⟨fun h => ⟨by assumption, by omega, by omega, by omega, h⟩, fun h => h.2.2.2.2⟩)
      | (refine Bool.eq_false_iff.2 fun hm => ?_
         have hm' := hk.1 hm
         first
           | omega
           | (rw [hm'.1] at hh; cases hh))
theorem r11may (p : Pol) (c : Cell) (k : p.1 = 2) : Meets Tryz.prog 27 [polAV p, cellAV c] [] (Y := Unit) (fun _ => True) (fun _ => .bool fun _ => mayC p c) (fun _ => []) := by
  have MC := rcheckM p
  by_cases hp : PolOk p
  rotate_left
  · rw [if_neg hp] at MC
    have hf := not_may hp c
    refine Meets.intro hm (fn := Tryz.f27) Tryz.func27 rfl (by decide) (Nat.le_of_ble_eq_true rfl) (fun _ => rfl) ?_; intro S hok; (conv => whnf)
    (repeat' ((conv => whnf); first | apply And.intro | exact ⟨by kernel_rfl⟩ | apply DrawN.mk | apply CodeN.step hm rfl | exact trivial | exact rfl | (intro hh; try simp only [bs] at hh))); all_goals (conv => whnf)
    (refine CallN.q MC [] (fun _ _ => ?_); (repeat' ((conv => whnf); first | apply And.intro | exact ⟨by kernel_rfl⟩ | apply DrawN.mk | apply CodeN.step hm rfl | exact trivial | exact rfl | (intro hh; try simp only [bs] at hh; try exact absurd hh (by decide)))); all_goals (conv => whnf); all_goals try exact ⟨by decide⟩)
    all_goals
      (refine RetN.q () [] ?_ ?_ ?_ <;> (repeat' ((conv => whnf) <;> first | exact rfl | exact trivial | apply And.intro | exact Nat.zero_add _)); all_goals ((conv => whnf); try simp only []))
      exact hf
  · rw [if_pos hp] at MC
    have e1 : True := trivial
    have hk : mayC p c = true ↔ timeB c.1 = true ∧ 0 ≤ c.2.1 ∧ c.2.1 ≤ p.2.1 ∧ (c.2.2.1.length : Int) = 0 ∧ (c.2.2.2.length : Int) = 0 := by
      rw [may2 k, timeB_iff]
      constructor
      · rintro ⟨_, h1, h2, h3, h4, h5⟩
        exact ⟨h1, h2, h3, by rw [h4]; rfl, by rw [h5]; rfl⟩
      · rintro ⟨h1, h2, h3, h4, h5⟩
        exact ⟨hp, h1, h2, h3, List.eq_nil_of_length_eq_zero (by omega), List.eq_nil_of_length_eq_zero (by omega)⟩
    refine Meets.intro hm (fn := Tryz.f27) Tryz.func27 rfl (by decide) (Nat.le_of_ble_eq_true rfl) (fun _ => rfl) ?_; intro S hok; (conv => whnf)
    (repeat' ((conv => whnf); first | apply And.intro | exact ⟨by kernel_rfl⟩ | apply DrawN.mk | apply CodeN.step hm rfl | exact trivial | exact rfl | (intro hh; try simp only [bs] at hh))); all_goals (conv => whnf)
    (refine CallN.q MC [] (fun _ _ => ?_); (repeat' ((conv => whnf); first | apply And.intro | exact ⟨by kernel_rfl⟩ | apply DrawN.mk | apply CodeN.step hm rfl | exact trivial | exact rfl | (intro hh; try simp only [bs] at hh; try exact absurd hh (by decide)))); all_goals (conv => whnf); all_goals try exact ⟨by decide⟩)
    rotate_left
    · exfalso; exact hh k
    (refine CallN.q (ttimeM c.1) [] (fun _ _ => ?_); (repeat' ((conv => whnf); first | apply And.intro | exact ⟨by kernel_rfl⟩ | apply DrawN.mk | apply CodeN.step hm rfl | exact trivial | exact rfl | (intro hh; try simp only [bs] at hh; try exact absurd hh (by decide)))); all_goals (conv => whnf); all_goals try exact ⟨by decide⟩)
    all_goals
      (refine RetN.q () [] ?_ ?_ ?_ <;> (repeat' ((conv => whnf) <;> first | exact rfl | exact trivial | apply And.intro | exact Nat.zero_add _)); all_goals ((conv => whnf); try simp only []))
    all_goals first
      | (rw [Bool.eq_iff_iff, hk, beq_iff_eq]; exact ⟨fun h => ⟨by assumption, by omega, by omega, by omega, h⟩, fun h => h.2.2.2.2⟩)
      | (refine Bool.eq_false_iff.2 fun hm => ?_
         have hm' := hk.1 hm
         first
           | omega
           | (rw [hm'.1] at hh; cases hh))
theorem r13may (p : Pol) (c : Cell) (k : p.1 = 4) (hl : c.2.2.2.length ≤ 40) : Meets Tryz.prog 29 [polAV p, cellAV c] [] (Y := Unit) (fun _ => True) (fun _ => .bool fun _ => mayC p c) (fun _ => []) := by
  have MC := rcheckM p
  by_cases hp : PolOk p
  rotate_left
  · rw [if_neg hp] at MC
    have hf := not_may hp c
    refine Meets.intro hm (fn := Tryz.f29) Tryz.func29 rfl (by decide) (Nat.le_of_ble_eq_true rfl) (fun _ => rfl) ?_; intro S hok; (conv => whnf)
    (repeat' ((conv => whnf); first | apply And.intro | exact ⟨by kernel_rfl⟩ | apply DrawN.mk | apply CodeN.step hm rfl | exact trivial | exact rfl | (intro hh; try simp only [bs] at hh))); all_goals (conv => whnf)
    (refine CallN.q MC [] (fun _ _ => ?_); (repeat' ((conv => whnf); first | apply And.intro | exact ⟨by kernel_rfl⟩ | apply DrawN.mk | apply CodeN.step hm rfl | exact trivial | exact rfl | (intro hh; try simp only [bs] at hh; try exact absurd hh (by decide)))); all_goals (conv => whnf); all_goals try exact ⟨by decide⟩)
    all_goals
      (refine RetN.q () [] ?_ ?_ ?_ <;> (repeat' ((conv => whnf) <;> first | exact rfl | exact trivial | apply And.intro | exact Nat.zero_add _)); all_goals ((conv => whnf); try simp only []))
      exact hf
  · rw [if_pos hp] at MC
    have hL := hp.limit
    have hW := hp.window
    have htb : timeB c.1 = true ↔ 0 ≤ c.1 ∧ c.1 ≤ 1099511627776 := timeB_iff
    refine Meets.intro hm (fn := Tryz.f29) Tryz.func29 rfl (by decide) (Nat.le_of_ble_eq_true rfl) (fun _ => rfl) ?_; intro S hok; (conv => whnf)
    (repeat' ((conv => whnf); first | apply And.intro | exact ⟨by kernel_rfl⟩ | apply DrawN.mk | apply CodeN.step hm rfl | exact trivial | exact rfl | (intro hh; try simp only [bs] at hh))); all_goals (conv => whnf)
    (refine CallN.q MC [] (fun _ _ => ?_); (repeat' ((conv => whnf); first | apply And.intro | exact ⟨by kernel_rfl⟩ | apply DrawN.mk | apply CodeN.step hm rfl | exact trivial | exact rfl | (intro hh; try simp only [bs] at hh; try exact absurd hh (by decide)))); all_goals (conv => whnf); all_goals try exact ⟨by decide⟩)
    all_goals first | (exfalso; exact hh k) | skip
    all_goals
      (refine CallN.q (ttimeM c.1) [] (fun _ _ => ?_); (repeat' ((conv => whnf); first | apply And.intro | exact ⟨by kernel_rfl⟩ | apply DrawN.mk | apply CodeN.step hm rfl | exact trivial | exact rfl | (intro hh; try simp only [bs] at hh; try exact absurd hh (by decide)))); all_goals (conv => whnf); all_goals try exact ⟨by decide⟩)
    all_goals first
      | ((refine RetN.q () [] ?_ ?_ ?_ <;> (repeat' ((conv => whnf) <;> first | exact rfl | exact trivial | apply And.intro | exact Nat.zero_add _)); all_goals ((conv => whnf); try simp only []))
         have hf := may_no4 (p := p) (c := c) k (by
           rintro ⟨h1, h2, h3, h4⟩
           first
             | omega
             | (rw [h1] at hh; cases hh))
         first | exact hf | exact hf.symm)
      | skip
    have ht : timeB c.1 = true := by assumption
    have ht2 := htb.1 ht
    have ew : IntKind.i64.wrap (c.1 - p.2.2.1) = c.1 - p.2.2.1 := wr (by omega)
    have hlv : c.2.1 = 0 := by assumption
    have hsl : (c.2.2.1.length : Int) = 0 := hh
    generalize hl0 : max (-1) (c.1 - p.2.2.1) = l0
    refine LoopN.intro hm (X := Nat) (fun i => i ≤ c.2.2.2.length ∧ mayHGo c.1 p.2.1 l0 c.2.2.2 = mayHGo c.1 p.2.1 (lastH l0 c.2.2.2 i) (c.2.2.2.drop i) ∧ l0 ≤ lastH l0 c.2.2.2 i ∧ 0 ≤ sumH (c.2.2.2.take i) ∧ sumH (c.2.2.2.take i) ≤ 1048576 * (i : Int)) (fun i => c.2.2.2.length - i)
      (fun i => [(6, .int .i64 fun _ => (i : Int)), (5, .int .i64 fun _ => sumH (c.2.2.2.take i)), (3, .ptr 1 0), (2, .ptr 0 0)])
      (fun i => [.cells 23 [.int .i64 fun _ => p.1, .int .i64 fun _ => p.2.1, .int .i64 fun _ => p.2.2.1, .int .i64 fun _ => p.2.2.2], .cells 27 [.int .i64 fun _ => c.1, .int .i64 fun _ => c.2.1, .lst (.int .i64) fun _ => c.2.2.1, .lst HitT fun _ => c.2.2.2]]) 0 [0, 1] ⟨rfl, rfl, ?_, ?_⟩ ⟨Nat.zero_le _, rfl, Int.le_refl _, Int.le_refl _, Int.le_refl _⟩ (fun i hi => ?_)
    · (repeat' ((conv => whnf) <;> first | exact rfl | exact trivial | apply And.intro | exact Nat.zero_add _))
    · (repeat' ((conv => whnf) <;> first | exact rfl | exact trivial | apply And.intro | exact Nat.zero_add _))
    obtain ⟨hi, hgo, hb1, hb3, hb4⟩ := hi
    have hstep := fun h => mayH_step (a := c.1) (L := p.2.1) (last0 := l0) (l := c.2.2.2) (i := i) h
    have hst := fun h => sumH_take (l := c.2.2.2) (i := i) h
    have hl1 : lastH l0 c.2.2.2 (i + 1) = (c.2.2.2.getD i (0, 0)).1 := rfl
    have hlp : 0 < i → lastH l0 c.2.2.2 i = (c.2.2.2.getD (i - 1) (0, 0)).1 := fun h0 => by
      obtain ⟨j, rfl⟩ : ∃ j, i = j + 1 := ⟨i - 1, by omega⟩
      rfl
    have hlz : i = 0 → lastH l0 c.2.2.2 i = l0 := fun h0 => by subst h0; rfl
    have wm : 0 < i → IntKind.i64.wrap ((i : Int) - 1) = ((i - 1 : Nat) : Int) := fun h0 => by rw [wr (by omega)]; omega
    have hx' : c.2.2.2.getD (i : Int).toNat HitT.dflt = c.2.2.2.getD i (0, 0) := rfl
    generalize hx : c.2.2.2.getD i (0, 0) = x at *
    by_cases h0 : 0 < i
    · have wm2 := wm h0
      have hy' : c.2.2.2.getD (((i - 1 : Nat) : Int)).toNat HitT.dflt = c.2.2.2.getD (i - 1) (0, 0) := rfl
      have hlp2 := hlp h0
      generalize c.2.2.2.getD (i - 1) (0, 0) = y at hy' hlp2
      (repeat' ((conv => whnf); first | apply And.intro | exact ⟨by kernel_rfl⟩ | apply DrawN.mk | apply CodeN.step hm rfl | exact trivial | exact rfl | (intro hh; try simp only [bs] at hh))); all_goals (conv => whnf)
      all_goals (try simp only [hx', wm2, hy', ew] at hh ⊢)
      all_goals (try simp only [hx', ew] at hh ⊢)
      all_goals first
        | (refine Ob.mk ?_; first | omega | (simp only []; omega))
        | (exfalso; omega)
        | ((refine RetN.q () [] ?_ ?_ ?_ <;> (repeat' ((conv => whnf) <;> first | exact rfl | exact trivial | apply And.intro | exact Nat.zero_add _)); all_goals ((conv => whnf); try simp only []))
           have hf := may_no4 (p := p) (c := c) k (by
             rintro ⟨_, _, _, h4, _⟩
             rw [hl0, hgo, hstep (by omega)] at h4
             simp only [Bool.and_eq_true, decide_eq_true_eq] at h4
             omega)
           first | exact hf | exact hf.symm)
        | (have e : i = c.2.2.2.length := by omega
           (refine RetN.q () [] ?_ ?_ ?_ <;> (repeat' ((conv => whnf) <;> first | exact rfl | exact trivial | apply And.intro | exact Nat.zero_add _)); all_goals ((conv => whnf); try simp only []))
           have hg1 : mayHGo c.1 p.2.1 (max (-1) (c.1 - p.2.2.1)) c.2.2.2 = true := by rw [hl0, hgo, e, List.drop_length]; rfl
           rw [Bool.eq_iff_iff, may4 k, decide_eq_true_eq]
           rw [e, List.take_length]
           constructor
           · intro h
             exact ⟨hp, ht2, hlv, List.length_eq_zero_iff.1 (by omega), hg1, h⟩
           · intro g
             exact g.sum)
        | (have hi2 : i < c.2.2.2.length := by omega
           have q3 := hstep hi2
           have hh2 := hst hi2
           simp only [hx', wm2, hy', ew] at *
           rw [decide_eq_true (by omega), decide_eq_true (by omega), decide_eq_true (by omega), decide_eq_true (by omega), Bool.and_self, Bool.and_self, Bool.and_self, Bool.true_and] at q3
           refine ⟨i + 1, [0, 1], ⟨rfl, rfl, ?_, ?_⟩, ⟨hi2, hgo.trans q3, by omega, by omega, by omega⟩, by omega⟩
           · (repeat' ((conv => whnf) <;> first | exact rfl | exact trivial | apply And.intro | exact Nat.zero_add _))
           · (repeat' ((conv => whnf) <;> first | exact rfl | exact trivial | apply And.intro | exact Nat.zero_add _)); all_goals ((conv => whnf); try simp only [])
             · exact wr (by omega)
             · rw [hh2]
               exact wr (by omega))
    · have hlz2 := hlz (by omega)
      (repeat' ((conv => whnf); first | apply And.intro | exact ⟨by kernel_rfl⟩ | apply DrawN.mk | apply CodeN.step hm rfl | exact trivial | exact rfl | (intro hh; try simp only [bs] at hh))); all_goals (conv => whnf)
      all_goals (try simp only [hx', wm2, hy', ew] at hh ⊢)
      all_goals (try simp only [hx', ew] at hh ⊢)
      all_goals first
        | (refine Ob.mk ?_; first | omega | (simp only []; omega))
        | (exfalso; omega)
        | ((refine RetN.q () [] ?_ ?_ ?_ <;> (repeat' ((conv => whnf) <;> first | exact rfl | exact trivial | apply And.intro | exact Nat.zero_add _)); all_goals ((conv => whnf); try simp only []))
           have hf := may_no4 (p := p) (c := c) k (by
             rintro ⟨_, _, _, h4, _⟩
             rw [hl0, hgo, hstep (by omega)] at h4
             simp only [Bool.and_eq_true, decide_eq_true_eq] at h4
             omega)
           first | exact hf | exact hf.symm)
        | (have e : i = c.2.2.2.length := by omega
           (refine RetN.q () [] ?_ ?_ ?_ <;> (repeat' ((conv => whnf) <;> first | exact rfl | exact trivial | apply And.intro | exact Nat.zero_add _)); all_goals ((conv => whnf); try simp only []))
           have hg1 : mayHGo c.1 p.2.1 (max (-1) (c.1 - p.2.2.1)) c.2.2.2 = true := by rw [hl0, hgo, e, List.drop_length]; rfl
           rw [Bool.eq_iff_iff, may4 k, decide_eq_true_eq]
           rw [e, List.take_length]
           constructor
           · intro h
             exact ⟨hp, ht2, hlv, List.length_eq_zero_iff.1 (by omega), hg1, h⟩
           · intro g
             exact g.sum)
        | (have hi2 : i < c.2.2.2.length := by omega
           have q3 := hstep hi2
           have hh2 := hst hi2
           simp only [hx', ew] at *
           rw [decide_eq_true (by omega), decide_eq_true (by omega), decide_eq_true (by omega), decide_eq_true (by omega), Bool.and_self, Bool.and_self, Bool.and_self, Bool.true_and] at q3
           refine ⟨i + 1, [0, 1], ⟨rfl, rfl, ?_, ?_⟩, ⟨hi2, hgo.trans q3, by omega, by omega, by omega⟩, by omega⟩
           · (repeat' ((conv => whnf) <;> first | exact rfl | exact trivial | apply And.intro | exact Nat.zero_add _))
           · (repeat' ((conv => whnf) <;> first | exact rfl | exact trivial | apply And.intro | exact Nat.zero_add _)); all_goals ((conv => whnf); try simp only [])
             · exact wr (by omega)
             · rw [hh2]
               exact wr (by omega))
end Go.Proofs.YtkcifdblaboodaaGreat.Ce
set_option linter.unusedVariables false
set_option linter.unusedSimpArgs false
namespace Go.Proofs.YtkcifdblaboodaaGreat.Ce
open Go Go.RowKit Fw Hi Po
theorem r12num (p : Pol) (t : Int) (hp : PolOk p) (k : p.1 = 3) (ht : 0 ≤ t ∧ t ≤ 2199023255552) : Meets Tryz.prog 58 [polAV p, .int .i64 fun _ => t] [] (Y := Unit) (fun _ => True) (fun _ => .int .i64 fun _ => numR p t) (fun _ => []) := by
  have hB := ring_B hp k
  have hW := hp.window
  have hs := slot_bound hp
  have es : slotOf p = p.2.2.1.tdiv p.2.2.2 := by unfold slotOf; rw [if_pos k]
  have e1 : IntKind.i64.wrap (p.2.2.1.tdiv p.2.2.2) = slotOf p := by rw [← es]; exact wr (by omega)
  have hn := numR_pos hp ht.1
  have hn2 := numR_le hp ht.1
  have e2 : IntKind.i64.wrap (t.tdiv (slotOf p)) = numR p t := wr (by unfold numR at hn hn2; omega)
  refine Meets.intro hm (fn := Tryz.f58) Tryz.func58 rfl (by decide) (Nat.le_of_ble_eq_true rfl) (fun _ => rfl) ?_; intro S hok; (conv => whnf)
  (repeat' ((conv => whnf); first | apply And.intro | exact ⟨by kernel_rfl⟩ | apply DrawN.mk | apply CodeN.step hm rfl | exact trivial | exact rfl | (intro hh; try simp only [bs] at hh))); all_goals (conv => whnf)
  all_goals (try simp only [e1, e2] at hh ⊢)
  all_goals first | (refine Ob.mk ?_; first | omega | (simp only []; omega)) | skip
  (refine RetN.q () [] ?_ ?_ ?_ <;> (repeat' ((conv => whnf) <;> first | exact rfl | exact trivial | apply And.intro | exact Nat.zero_add _)); all_goals ((conv => whnf); try simp only []))
  all_goals (try simp only [e1, e2])
theorem r12may (p : Pol) (c : Cell) (k : p.1 = 3) (hl : c.2.2.1.length ≤ 40) : Meets Tryz.prog 28 [polAV p, cellAV c] [] (Y := Unit) (fun _ => True) (fun _ => .bool fun _ => mayC p c) (fun _ => []) := by
  have MC := rcheckM p
  by_cases hp : PolOk p
  rotate_left
  · rw [if_neg hp] at MC
    have hf := not_may hp c
    refine Meets.intro hm (fn := Tryz.f28) Tryz.func28 rfl (by decide) (Nat.le_of_ble_eq_true rfl) (fun _ => rfl) ?_; intro S hok; (conv => whnf)
    (repeat' ((conv => whnf); first | apply And.intro | exact ⟨by kernel_rfl⟩ | apply DrawN.mk | apply CodeN.step hm rfl | exact trivial | exact rfl | (intro hh; try simp only [bs] at hh))); all_goals (conv => whnf)
    (refine CallN.q MC [] (fun _ _ => ?_); (repeat' ((conv => whnf); first | apply And.intro | exact ⟨by kernel_rfl⟩ | apply DrawN.mk | apply CodeN.step hm rfl | exact trivial | exact rfl | (intro hh; try simp only [bs] at hh; try exact absurd hh (by decide)))); all_goals (conv => whnf); all_goals try exact ⟨by decide⟩)
    all_goals
      (refine RetN.q () [] ?_ ?_ ?_ <;> (repeat' ((conv => whnf) <;> first | exact rfl | exact trivial | apply And.intro | exact Nat.zero_add _)); all_goals ((conv => whnf); try simp only []))
      exact hf
  · rw [if_pos hp] at MC
    have hL := hp.limit
    have hW := hp.window
    have hB := ring_B hp k
    have htb : timeB c.1 = true ↔ 0 ≤ c.1 ∧ c.1 ≤ 1099511627776 := timeB_iff
    refine Meets.intro hm (fn := Tryz.f28) Tryz.func28 rfl (by decide) (Nat.le_of_ble_eq_true rfl) (fun _ => rfl) ?_; intro S hok; (conv => whnf)
    (repeat' ((conv => whnf); first | apply And.intro | exact ⟨by kernel_rfl⟩ | apply DrawN.mk | apply CodeN.step hm rfl | exact trivial | exact rfl | (intro hh; try simp only [bs] at hh))); all_goals (conv => whnf)
    (refine CallN.q MC [] (fun _ _ => ?_); (repeat' ((conv => whnf); first | apply And.intro | exact ⟨by kernel_rfl⟩ | apply DrawN.mk | apply CodeN.step hm rfl | exact trivial | exact rfl | (intro hh; try simp only [bs] at hh; try exact absurd hh (by decide)))); all_goals (conv => whnf); all_goals try exact ⟨by decide⟩)
    all_goals first | (exfalso; exact hh k) | skip
    all_goals
      (refine CallN.q (ttimeM c.1) [] (fun _ _ => ?_); (repeat' ((conv => whnf); first | apply And.intro | exact ⟨by kernel_rfl⟩ | apply DrawN.mk | apply CodeN.step hm rfl | exact trivial | exact rfl | (intro hh; try simp only [bs] at hh; try exact absurd hh (by decide)))); all_goals (conv => whnf); all_goals try exact ⟨by decide⟩)
    all_goals first
      | ((refine RetN.q () [] ?_ ?_ ?_ <;> (repeat' ((conv => whnf) <;> first | exact rfl | exact trivial | apply And.intro | exact Nat.zero_add _)); all_goals ((conv => whnf); try simp only []))
         have hf := may_no3 (p := p) (c := c) k (by
           rintro ⟨h1, h2, h3, h4⟩
           first
             | omega
             | (rw [h1] at hh; cases hh))
         first | exact hf | exact hf.symm)
      | skip
    all_goals
      have ht : timeB c.1 = true := by assumption
      have ht2 := htb.1 ht
      have hlv : c.2.1 = 0 := by assumption
      have hhl : c.2.2.2 = [] := List.length_eq_zero_iff.1 (by omega)
      have hln : c.2.2.1 = [] ∨ (c.2.2.1.length : Int) = p.2.2.2 := by first | exact .inl (List.length_eq_zero_iff.1 (by omega)) | exact .inr (by omega)
      refine LoopN.intro hm (X := Nat) (fun i => i ≤ c.2.2.1.length ∧ (∀ j : Nat, j < i → (0 ≤ c.2.2.1.getD j 0 ∧ c.2.2.1.getD j 0 ≤ p.2.1) ∧ (0 < c.2.2.1.getD j 0 → (j : Int) ≤ numR p c.1))) (fun i => c.2.2.1.length - i)
        (fun i => [(6, .int .i64 fun _ => (i : Int)), (5, .int .i64 fun _ => (c.2.2.1.take i).sum), (3, .ptr 1 0), (2, .ptr 0 0)])
        (fun i => [.cells 23 [.int .i64 fun _ => p.1, .int .i64 fun _ => p.2.1, .int .i64 fun _ => p.2.2.1, .int .i64 fun _ => p.2.2.2], .cells 27 [.int .i64 fun _ => c.1, .int .i64 fun _ => c.2.1, .lst (.int .i64) fun _ => c.2.2.1, .lst HitT fun _ => c.2.2.2]]) 0 [0, 1] ⟨rfl, rfl, ?_, ?_⟩ ⟨Nat.zero_le _, fun j hj => absurd hj (Nat.not_lt_zero _)⟩ (fun i hi => ?_)
      · (repeat' ((conv => whnf) <;> first | exact rfl | exact trivial | apply And.intro | exact Nat.zero_add _))
      · (repeat' ((conv => whnf) <;> first | exact rfl | exact trivial | apply And.intro | exact Nat.zero_add _))
      obtain ⟨hi, hv⟩ := hi
      have hsb := Ce.sum_bound (m := 1048576) (l := c.2.2.1.take i) (fun x hx => by
        obtain ⟨j, hj⟩ := List.mem_iff_getElem?.1 hx
        rw [List.getElem?_take] at hj
        split at hj
        · rename_i hji
          have := hv j hji
          rw [List.getD_eq_getElem?_getD, hj] at this
          exact ⟨this.1.1, by have := this.1.2; simp only [Option.getD_some] at this; omega⟩
        · cases hj) (by omega)
      rw [List.length_take] at hsb
      have hst := fun h => Ce.sum_take (l := c.2.2.1) (i := i) h
      have hx' : c.2.2.1.getD (i : Int).toNat (Ty.int .i64).dflt = c.2.2.1.getD i 0 := rfl
      have hR : ∀ x, c.2.2.1.getD i 0 = x → i < c.2.2.1.length → mayC p c = true → (0 ≤ x ∧ x ≤ p.2.1) ∧ (0 < x → (i : Int) ≤ numR p c.1) := fun x hx hi2 hm1 => by
        have g := (may3 k).1 hm1
        have h1 := g.nonneg i
        rw [hx] at h1
        refine ⟨h1, fun h0 => ?_⟩
        by_cases hq : (i : Int) ≤ numR p c.1
        · exact hq
        · have := g.early i (by omega)
          omega
      have hv2 : ∀ x, c.2.2.1.getD i 0 = x → (0 ≤ x ∧ x ≤ p.2.1) → (0 < x → (i : Int) ≤ numR p c.1) → ∀ j : Nat, j < i + 1 → (0 ≤ c.2.2.1.getD j 0 ∧ c.2.2.1.getD j 0 ≤ p.2.1) ∧ (0 < c.2.2.1.getD j 0 → (j : Int) ≤ numR p c.1) := fun x hx h1 h2 j hj => by
        by_cases e : j = i
        · subst e; rw [hx]; exact ⟨h1, h2⟩
        · exact hv j (by omega)
      generalize hx : c.2.2.1.getD i 0 = x at *
      (repeat' ((conv => whnf); first | apply And.intro | exact ⟨by kernel_rfl⟩ | apply DrawN.mk | apply CodeN.step hm rfl | exact trivial | exact rfl | (intro hh; try simp only [bs] at hh))); all_goals (conv => whnf)
      all_goals (try simp only [hx'] at *)
      all_goals first | (refine Ob.mk ?_; first | omega | (simp only []; omega)) | skip
      all_goals first
        | ((refine CallN.q (r12num p c.1 hp k (by omega)) [] (fun _ _ => ?_); (repeat' ((conv => whnf); first | apply And.intro | exact ⟨by kernel_rfl⟩ | apply DrawN.mk | apply CodeN.step hm rfl | exact trivial | exact rfl | (intro hh; try simp only [bs] at hh; try exact absurd hh (by decide)))); all_goals (conv => whnf); all_goals try exact ⟨by decide⟩))
        | skip
      all_goals first | (refine Ob.mk ?_; first | omega | (simp only []; omega)) | skip
      all_goals (try simp only [hx'] at *)
      all_goals first
        | ((refine RetN.q () [] ?_ ?_ ?_ <;> (repeat' ((conv => whnf) <;> first | exact rfl | exact trivial | apply And.intro | exact Nat.zero_add _)); all_goals ((conv => whnf); try simp only []))
           first
             | (refine Bool.eq_false_iff.2 fun hm1 => ?_
                have := hR x rfl (by omega) hm1
                omega)
             | (refine (Bool.eq_false_iff.2 fun hm1 => ?_).symm
                have := hR x rfl (by omega) hm1
                omega)
             | (have e : i = c.2.2.1.length := by omega
                rw [Bool.eq_iff_iff, may3 k, decide_eq_true_eq, e, List.take_length]
                rw [e] at hv
                constructor
                · intro h
                  refine ⟨hp, ht2, hlv, hhl, hln, fun y hy => ?_, h, fun j hj => ?_⟩
                  · obtain ⟨j, hj⟩ := List.mem_iff_getElem?.1 hy
                    have hj2 := (List.getElem?_eq_some_iff.1 hj).1
                    have := (hv j hj2).1
                    rw [List.getD_eq_getElem?_getD, hj] at this
                    exact this
                  · by_cases hj2 : j < c.2.2.1.length
                    · have := hv j hj2
                      omega
                    · rw [List.getD_eq_getElem?_getD, List.getElem?_eq_none (by omega)]; rfl
                · intro g
                  exact g.sum))
        | (have hi2 : i < c.2.2.1.length := by omega
           have hh2 := hst hi2
           refine ⟨i + 1, [0, 1], ⟨rfl, rfl, ?_, ?_⟩, ⟨hi2, hv2 x rfl (by omega) (by omega)⟩, by omega⟩
           · (repeat' ((conv => whnf) <;> first | exact rfl | exact trivial | apply And.intro | exact Nat.zero_add _))
           · (repeat' ((conv => whnf) <;> first | exact rfl | exact trivial | apply And.intro | exact Nat.zero_add _)); all_goals ((conv => whnf); try simp only [])
             · exact wr (by omega)
             · rw [hh2]
               first
                 | exact wr (by omega)
                 | (show IntKind.i64.wrap ((c.2.2.1.take i).sum + c.2.2.1.getD i 0) = _
                    rw [hx]
                    exact wr (by omega)))
        | skip
theorem r14may (p : Pol) (c : Cell) (hc : -9223372036854775808 ≤ c.2.1 ∧ c.2.1 ≤ 9223372036854775807) (h1 : c.2.2.1.length ≤ 40) (h2 : c.2.2.2.length ≤ 40) : Meets Tryz.prog 11 [polAV p, cellAV c] [] (Y := Unit) (fun _ => True) (fun _ => .bool fun _ => mayC p c) (fun _ => []) := by
  by_cases k1 : p.1 = 1
  · refine Meets.intro hm (fn := Tryz.f11) Tryz.func11 rfl (by decide) (Nat.le_of_ble_eq_true rfl) (fun _ => rfl) ?_; intro S hok; (conv => whnf)
    (repeat' ((conv => whnf); first | apply And.intro | exact ⟨by kernel_rfl⟩ | apply DrawN.mk | apply CodeN.step hm rfl | exact trivial | exact rfl | (intro hh; try simp only [bs] at hh))); all_goals (conv => whnf)
    all_goals first | (exfalso; omega) | skip
    (refine CallN.q (r10may p c k1 hc) [] (fun _ _ => ?_); (repeat' ((conv => whnf); first | apply And.intro | exact ⟨by kernel_rfl⟩ | apply DrawN.mk | apply CodeN.step hm rfl | exact trivial | exact rfl | (intro hh; try simp only [bs] at hh; try exact absurd hh (by decide)))); all_goals (conv => whnf); all_goals try exact ⟨by decide⟩)
    (refine RetN.q () [] ?_ ?_ ?_ <;> (repeat' ((conv => whnf) <;> first | exact rfl | exact trivial | apply And.intro | exact Nat.zero_add _)); all_goals ((conv => whnf); try simp only []))
  by_cases k2 : p.1 = 2
  · refine Meets.intro hm (fn := Tryz.f11) Tryz.func11 rfl (by decide) (Nat.le_of_ble_eq_true rfl) (fun _ => rfl) ?_; intro S hok; (conv => whnf)
    (repeat' ((conv => whnf); first | apply And.intro | exact ⟨by kernel_rfl⟩ | apply DrawN.mk | apply CodeN.step hm rfl | exact trivial | exact rfl | (intro hh; try simp only [bs] at hh))); all_goals (conv => whnf)
    all_goals first | (exfalso; omega) | skip
    (refine CallN.q (r11may p c k2) [] (fun _ _ => ?_); (repeat' ((conv => whnf); first | apply And.intro | exact ⟨by kernel_rfl⟩ | apply DrawN.mk | apply CodeN.step hm rfl | exact trivial | exact rfl | (intro hh; try simp only [bs] at hh; try exact absurd hh (by decide)))); all_goals (conv => whnf); all_goals try exact ⟨by decide⟩)
    (refine RetN.q () [] ?_ ?_ ?_ <;> (repeat' ((conv => whnf) <;> first | exact rfl | exact trivial | apply And.intro | exact Nat.zero_add _)); all_goals ((conv => whnf); try simp only []))
  by_cases k3 : p.1 = 3
  · refine Meets.intro hm (fn := Tryz.f11) Tryz.func11 rfl (by decide) (Nat.le_of_ble_eq_true rfl) (fun _ => rfl) ?_; intro S hok; (conv => whnf)
    (repeat' ((conv => whnf); first | apply And.intro | exact ⟨by kernel_rfl⟩ | apply DrawN.mk | apply CodeN.step hm rfl | exact trivial | exact rfl | (intro hh; try simp only [bs] at hh))); all_goals (conv => whnf)
    all_goals first | (exfalso; omega) | skip
    (refine CallN.q (r12may p c k3 h1) [] (fun _ _ => ?_); (repeat' ((conv => whnf); first | apply And.intro | exact ⟨by kernel_rfl⟩ | apply DrawN.mk | apply CodeN.step hm rfl | exact trivial | exact rfl | (intro hh; try simp only [bs] at hh; try exact absurd hh (by decide)))); all_goals (conv => whnf); all_goals try exact ⟨by decide⟩)
    (refine RetN.q () [] ?_ ?_ ?_ <;> (repeat' ((conv => whnf) <;> first | exact rfl | exact trivial | apply And.intro | exact Nat.zero_add _)); all_goals ((conv => whnf); try simp only []))
  by_cases k4 : p.1 = 4
  · refine Meets.intro hm (fn := Tryz.f11) Tryz.func11 rfl (by decide) (Nat.le_of_ble_eq_true rfl) (fun _ => rfl) ?_; intro S hok; (conv => whnf)
    (repeat' ((conv => whnf); first | apply And.intro | exact ⟨by kernel_rfl⟩ | apply DrawN.mk | apply CodeN.step hm rfl | exact trivial | exact rfl | (intro hh; try simp only [bs] at hh))); all_goals (conv => whnf)
    all_goals first | (exfalso; omega) | skip
    (refine CallN.q (r13may p c k4 h2) [] (fun _ _ => ?_); (repeat' ((conv => whnf); first | apply And.intro | exact ⟨by kernel_rfl⟩ | apply DrawN.mk | apply CodeN.step hm rfl | exact trivial | exact rfl | (intro hh; try simp only [bs] at hh; try exact absurd hh (by decide)))); all_goals (conv => whnf); all_goals try exact ⟨by decide⟩)
    (refine RetN.q () [] ?_ ?_ ?_ <;> (repeat' ((conv => whnf) <;> first | exact rfl | exact trivial | apply And.intro | exact Nat.zero_add _)); all_goals ((conv => whnf); try simp only []))
  have hmf : mayC p c = false := not_may (fun hp => by have := kind_of hp; omega) c
  refine Meets.intro hm (fn := Tryz.f11) Tryz.func11 rfl (by decide) (Nat.le_of_ble_eq_true rfl) (fun _ => rfl) ?_; intro S hok; (conv => whnf)
  (repeat' ((conv => whnf); first | apply And.intro | exact ⟨by kernel_rfl⟩ | apply DrawN.mk | apply CodeN.step hm rfl | exact trivial | exact rfl | (intro hh; try simp only [bs] at hh))); all_goals (conv => whnf)
  all_goals first | (exfalso; omega) | skip
  (refine RetN.q () [] ?_ ?_ ?_ <;> (repeat' ((conv => whnf) <;> first | exact rfl | exact trivial | apply And.intro | exact Nat.zero_add _)); all_goals ((conv => whnf); try simp only []))
  exact hmf
theorem few_len {c : Cell} (h : fewB c = true) : c.2.2.1.length ≤ 40 ∧ c.2.2.2.length ≤ 40 := by
  unfold fewB at h
  rw [Bool.and_eq_true, decide_eq_true_eq, decide_eq_true_eq] at h
  omega
end Go.Proofs.YtkcifdblaboodaaGreat.Ce
set_option linter.unusedVariables false
set_option linter.unusedSimpArgs false
namespace Go.Proofs.YtkcifdblaboodaaGreat.Bt
open Go Go.RowKit Fw Hi Po
theorem fld_succ (N a w : Nat) : fld N a (w + 1) = 2 * fld N (a + 1) w + N / 2 ^ a % 2 := by
  unfold fld
  rw [show N / 2 ^ (a + 1) = N / 2 ^ a / 2 by rw [Nat.pow_succ, Nat.div_div_eq_div_mul]]
  generalize N / 2 ^ a = x
  rw [Nat.pow_succ, Nat.mul_comm (2 ^ w) 2, Nat.mod_mul]
  omega
theorem mod_succ (v i : Nat) : v % 2 ^ (i + 1) = v % 2 ^ i + (v / 2 ^ i % 2) * 2 ^ i := by
  rw [Nat.pow_succ, Nat.mod_mul, Nat.mul_comm (2 ^ i)]
theorem pack_zero : ∀ {ws vs : List Int} (w : Int), ws.length = vs.length → packN (ws ++ [w]) (vs ++ [0]) = packN ws vs
  | [], [], w, _ => by simp [packN]
  | [], v :: vs, w, h => by simp at h
  | w' :: ws, [], w, h => by simp at h
  | w' :: ws, v :: vs, w, h => by
    have ih := pack_zero (ws := ws) (vs := vs) w (by simpa using h)
    rw [List.cons_append, List.cons_append, packN, ih, packN]
theorem flds_app : ∀ (ws : List Int) (w : Int) (N : Nat), ∃ x, flds (ws ++ [w]) N = flds ws N ++ [x]
  | [], w, N => ⟨_, rfl⟩
  | w' :: ws, w, N => by
    obtain ⟨x, hx⟩ := flds_app ws w (N / 2 ^ w'.toNat)
    exact ⟨x, by rw [List.cons_append, flds, hx, flds, List.cons_append]⟩
theorem bit_word (N i : Nat) : (N / 2 ^ (64 * (i / 64)) % 2 ^ 64) / 2 ^ (i % 64) &&& 1 = N / 2 ^ i % 2 := by
  have h := fld_word N (i / 64) (i % 64) 1 (by have := Nat.mod_lt i (show 0 < 64 by decide); omega)
  rw [show 64 * (i / 64) + i % 64 = i by omega] at h
  exact h
theorem rbitM (k N i : Nat) (h : i < 64 * k) (hk : k ≤ 1000) : Meets Tryz.prog 75 [.lst (.int .u64) fun _ => wordsOf k N, .int .i64 fun _ => (i : Int)] [] (Y := Unit) (fun _ => True) (fun _ => .int .u64 fun _ => ((N / 2 ^ i % 2 : Nat) : Int)) (fun _ => []) := by
  have hwl := words_len k N
  have ei0 : (i : Int).tdiv 64 = ((i / 64 : Nat) : Int) := by rw [Int.tdiv_eq_ediv_of_nonneg (by omega)]; omega
  have el : (i : Int).tmod 64 = ((i % 64 : Nat) : Int) := by rw [Int.tmod_eq_emod_of_nonneg (by omega)]; omega
  have ei : IntKind.i64.wrap ((i / 64 : Nat) : Int) = ((i / 64 : Nat) : Int) := wr (by omega)
  have eu : IntKind.u64.wrap ((i % 64 : Nat) : Int) = ((i % 64 : Nat) : Int) := wrap_nat (Nat.lt_trans (Nat.mod_lt i (by decide)) (by decide))
  have hg : (wordsOf k N).getD (i / 64) (Ty.int .u64).dflt = ((N / 2 ^ (64 * (i / 64)) % 2 ^ 64 : Nat) : Int) := words_at (by omega)
  have hlo : i % 64 < 64 := Nat.mod_lt _ (by decide)
  have hx : N / 2 ^ (64 * (i / 64)) % 2 ^ 64 < 2 ^ 64 := Nat.mod_lt _ (by decide)
  refine Meets.intro hm (fn := Tryz.f75) Tryz.func75 rfl (by decide) (Nat.le_of_ble_eq_true rfl) (fun _ => rfl) ?_; intro S hok; (conv => whnf)
  (repeat' ((conv => whnf); first | apply And.intro | exact ⟨by kernel_rfl⟩ | apply DrawN.mk | apply CodeN.step hm rfl | exact trivial | exact rfl | (intro hh; try simp only [bs] at hh))); all_goals (conv => whnf)
  · exact Ob.mk (by decide)
  · refine Ob.mk ?_
    simp only [ei0, ei, hwl]; omega
  · exact Ob.mk (by decide)
  · refine Ob.mk ?_
    simp only [el, eu]; omega
  (refine RetN.q () [] ?_ ?_ ?_ <;> (repeat' ((conv => whnf) <;> first | exact rfl | exact trivial | apply And.intro | exact Nat.zero_add _)); all_goals ((conv => whnf); try simp only []))
  simp only [ei0, el, ei, eu, Int.toNat_natCast, hg]
  rw [shr2 _ _ (by omega)]
  refine Eq.trans (and_int _ 1 (Nat.lt_of_le_of_lt (Nat.div_le_self _ _) hx) (by decide)) ?_
  rw [bit_word]
theorem rthereM (w : List Int) (a n : Nat) (h : a + n ≤ 64 * w.length) (hn : n ≤ 64) (hl : w.length ≤ 1000) : Meets Tryz.prog 74 [.lst (.int .u64) fun _ => w, .int .i64 fun _ => (a : Int), .int .i64 fun _ => (n : Int)] [] (Y := Unit) (fun _ => True) (fun _ => .tt) (fun _ => []) := by
  have e0 : IntKind.i64.wrap (64 * (w.length : Int)) = 64 * (w.length : Int) := wr (by omega)
  have e2 : IntKind.i64.wrap (64 * (w.length : Int) - a) = 64 * (w.length : Int) - a := wr (by omega)
  refine Meets.intro hm (fn := Tryz.f74) Tryz.func74 rfl (by decide) (Nat.le_of_ble_eq_true rfl) (fun _ => rfl) ?_; intro S hok; (conv => whnf)
  (repeat' ((conv => whnf); first | apply And.intro | exact ⟨by kernel_rfl⟩ | apply DrawN.mk | apply CodeN.step hm rfl | exact trivial | exact rfl | (intro hh; try simp only [bs] at hh))); all_goals (conv => whnf)
  all_goals (try rw [e0] at hh)
  all_goals first
    | (exfalso; omega)
    | skip
  (refine RetN.q () [] ?_ ?_ ?_ <;> (repeat' ((conv => whnf) <;> first | exact rfl | exact trivial | apply And.intro | exact Nat.zero_add _)); all_goals ((conv => whnf); try simp only []))
  refine decide_eq_true ?_
  rw [e0, e2]
  omega
theorem rgetM (k N a n : Nat) (h : a + n ≤ 64 * k) (hn : n ≤ 64) (hk : k ≤ 1000) : Meets Tryz.prog 40 [.lst (.int .u64) fun _ => wordsOf k N, .int .i64 fun _ => (a : Int), .int .i64 fun _ => (n : Int)] [] (Y := Unit) (fun _ => True) (fun _ => .tup [.int .u64 fun _ => (fld N a n : Int), .tt]) (fun _ => []) := by
  have e1 : IntKind.i64.wrap ((n : Int) - 1) = (n : Int) - 1 := wr (by omega)
  refine Meets.intro hm (fn := Tryz.f40) Tryz.func40 rfl (by decide) (Nat.le_of_ble_eq_true rfl) (fun _ => rfl) ?_; intro S hok; (conv => whnf)
  (repeat' ((conv => whnf); first | apply And.intro | exact ⟨by kernel_rfl⟩ | apply DrawN.mk | apply CodeN.step hm rfl | exact trivial | exact rfl | (intro hh; try simp only [bs] at hh))); all_goals (conv => whnf)
  (refine CallN.q (rthereM (wordsOf k N) a n (by rw [words_len]; exact h) hn (by rw [words_len]; exact hk)) [] (fun _ _ => ?_); (repeat' ((conv => whnf); first | apply And.intro | exact ⟨by kernel_rfl⟩ | apply DrawN.mk | apply CodeN.step hm rfl | exact trivial | exact rfl | (intro hh; try simp only [bs] at hh; try exact absurd hh (by decide)))); all_goals (conv => whnf); all_goals try exact ⟨by decide⟩)
  all_goals (try simp only [e1])
  refine LoopN.intro hm (X := Nat) (fun j => j ≤ n) (fun j => j)
    (fun j => [(9, .int .i64 fun _ => (j : Int) - 1), (8, .int .u64 fun _ => (fld N (a + j) (n - j) : Int)), (0, .lst (.int .u64) fun _ => wordsOf k N), (1, .int .i64 fun _ => (a : Int))]) (fun _ => []) n [] ⟨rfl, rfl, ?_, ?_⟩ (Nat.le_refl _) (fun j hj => ?_)
  · (repeat' ((conv => whnf) <;> first | exact rfl | exact trivial | apply And.intro | exact Nat.zero_add _))
  · (repeat' ((conv => whnf) <;> first | exact rfl | exact trivial | apply And.intro | exact Nat.zero_add _)); all_goals ((conv => whnf); try simp only [])
    rw [Nat.sub_self]
    show (0 : Int) = ((N / 2 ^ (a + n) % 2 ^ 0 : Nat) : Int)
    rw [Nat.pow_zero, Nat.mod_one]; rfl
  by_cases h0 : j = 0
  · subst h0
    (repeat' ((conv => whnf); first | apply And.intro | exact ⟨by kernel_rfl⟩ | apply DrawN.mk | apply CodeN.step hm rfl | exact trivial | exact rfl | (intro hh; try simp only [bs] at hh))); all_goals (conv => whnf)
    all_goals first | (exfalso; omega) | skip
    (refine RetN.q () [] ?_ ?_ ?_ <;> (repeat' ((conv => whnf) <;> first | exact rfl | exact trivial | apply And.intro | exact Nat.zero_add _)); all_goals ((conv => whnf); try simp only []))
  · obtain ⟨i, rfl⟩ : ∃ i, j = i + 1 := ⟨j - 1, by omega⟩
    have ei : IntKind.i64.wrap ((a : Int) + (((i + 1 : Nat) : Int) - 1)) = ((a + i : Nat) : Int) := by rw [wr (by omega)]; omega
    have hb := Nat.mod_lt (N / 2 ^ (a + (i + 1))) (Nat.two_pow_pos (n - (i + 1)))
    have hfs := fld_succ N (a + i) (n - (i + 1))
    rw [show n - (i + 1) + 1 = n - i by omega, show a + i + 1 = a + (i + 1) by omega] at hfs
    have hp : 2 ^ (n - (i + 1)) ≤ 2 ^ 63 := Nat.pow_le_pow_right (by decide) (by omega)
    have hf : fld N (a + (i + 1)) (n - (i + 1)) < 2 ^ 63 := Nat.lt_of_lt_of_le hb hp
    have hbit : N / 2 ^ (a + i) % 2 < 2 := Nat.mod_lt _ (by decide)
    have ew1 : IntKind.u64.wrap (2 * ((fld N (a + (i + 1)) (n - (i + 1)) : Nat) : Int)) = ((2 * fld N (a + (i + 1)) (n - (i + 1)) : Nat) : Int) := by
      have := wrap_nat (x := 2 * fld N (a + (i + 1)) (n - (i + 1))) (by omega)
      rw [← this]; refine congrArg _ ?_; omega
    have ew2 : IntKind.u64.wrap (((2 * fld N (a + (i + 1)) (n - (i + 1)) : Nat) : Int) + ((N / 2 ^ (a + i) % 2 : Nat) : Int)) = ((fld N (a + i) (n - i) : Nat) : Int) := by
      have := wrap_nat (x := fld N (a + i) (n - i)) (by omega)
      rw [← this, hfs]; refine congrArg _ ?_; omega
    (repeat' ((conv => whnf); first | apply And.intro | exact ⟨by kernel_rfl⟩ | apply DrawN.mk | apply CodeN.step hm rfl | exact trivial | exact rfl | (intro hh; try simp only [bs] at hh))); all_goals (conv => whnf)
    all_goals first | (exfalso; omega) | skip
    all_goals (try simp only [ei, ew1])
    (refine CallN.q (rbitM k N (a + i) (by omega) hk) [] (fun _ _ => ?_); (repeat' ((conv => whnf); first | apply And.intro | exact ⟨by kernel_rfl⟩ | apply DrawN.mk | apply CodeN.step hm rfl | exact trivial | exact rfl | (intro hh; try simp only [bs] at hh; try exact absurd hh (by decide)))); all_goals (conv => whnf); all_goals try exact ⟨by decide⟩)
    refine ⟨i, [], ⟨rfl, rfl, ?_, ?_⟩, by omega, by omega⟩
    · (repeat' ((conv => whnf) <;> first | exact rfl | exact trivial | apply And.intro | exact Nat.zero_add _))
    · (repeat' ((conv => whnf) <;> first | exact rfl | exact trivial | apply And.intro | exact Nat.zero_add _)); all_goals ((conv => whnf); try simp only [])
      · rw [wr (by omega)]; omega
      · exact ew2
theorem rsetM (k N a n v : Nat) (hN : N < 2 ^ a) (hv : v < 2 ^ n) (h : a + n ≤ 64 * k) (hn : n ≤ 64) (hl : k ≤ 1000) : Meets Tryz.prog 71 [.lst (.int .u64) fun _ => wordsOf k N, .int .i64 fun _ => (a : Int), .int .i64 fun _ => (n : Int), .int .u64 fun _ => (v : Int)] [] (Y := Unit) (fun _ => True) (fun _ => .tup [.lst (.int .u64) fun _ => wordsOf k (N + v * 2 ^ a), .tt]) (fun _ => []) := by
  refine Meets.intro hm (fn := Tryz.f71) Tryz.func71 rfl (by decide) (Nat.le_of_ble_eq_true rfl) (fun _ => rfl) ?_; intro S hok; (conv => whnf)
  (repeat' ((conv => whnf); first | apply And.intro | exact ⟨by kernel_rfl⟩ | apply DrawN.mk | apply CodeN.step hm rfl | exact trivial | exact rfl | (intro hh; try simp only [bs] at hh))); all_goals (conv => whnf)
  (refine CallN.q (rthereM (wordsOf k N) a n (by rw [words_len]; exact h) hn (by rw [words_len]; exact hl)) [] (fun _ _ => ?_); (repeat' ((conv => whnf); first | apply And.intro | exact ⟨by kernel_rfl⟩ | apply DrawN.mk | apply CodeN.step hm rfl | exact trivial | exact rfl | (intro hh; try simp only [bs] at hh; try exact absurd hh (by decide)))); all_goals (conv => whnf); all_goals try exact ⟨by decide⟩)
  · refine Ob.mk ⟨rfl, ?_, ?_⟩
    · show 0 + (wordsOf k N).length ≤ _
      rw [words_len]; omega
    · show (0 + (wordsOf k N).length) * 8 ≤ _
      rw [words_len]; omega
  refine LoopN.intro hm (X := Nat) (fun i => i ≤ n) (fun i => n - i)
    (fun i => [(11, .int .i64 fun _ => (i : Int)), (10, .vec 0 1 (fun _ => 0) fun _ => k), (1, .int .i64 fun _ => (a : Int)), (2, .int .i64 fun _ => (n : Int)), (3, .int .u64 fun _ => (v : Int))])
    (fun i => [.vect 47 (.int .u64) fun _ => wordsOf k (N + (v % 2 ^ i) * 2 ^ a)]) 0 [0] ⟨rfl, rfl, ?_, ?_⟩ (Nat.zero_le _) (fun i hi => ?_)
  · (repeat' ((conv => whnf) <;> first | exact rfl | exact trivial | apply And.intro | exact Nat.zero_add _)); all_goals ((conv => whnf); try simp only [])
    rw [Nat.pow_zero, Nat.mod_one, Nat.zero_mul, Nat.add_zero]; rfl
  · (repeat' ((conv => whnf) <;> first | exact rfl | exact trivial | apply And.intro | exact Nat.zero_add _)); all_goals ((conv => whnf); try simp only [])
    all_goals (try rw [words_len]; omega)
  by_cases h0 : i < n
  · have hvi : v % 2 ^ i < 2 ^ i := Nat.mod_lt _ (Nat.two_pow_pos _)
    have hM : N + v % 2 ^ i * 2 ^ a < 2 ^ (a + i) := by
      have h1 : (v % 2 ^ i + 1) * 2 ^ a ≤ 2 ^ i * 2 ^ a := Nat.mul_le_mul_right _ hvi
      rw [Nat.add_mul, Nat.one_mul] at h1
      rw [Nat.pow_add, Nat.mul_comm (2 ^ a)]
      omega
    have hnext : N + v % 2 ^ (i + 1) * 2 ^ a = N + v % 2 ^ i * 2 ^ a + (v / 2 ^ i % 2) * 2 ^ (a + i) := by
      rw [mod_succ, Nat.add_mul, Nat.mul_assoc, ← Nat.pow_add, Nat.add_comm i a, Nat.add_assoc]
    generalize N + v % 2 ^ i * 2 ^ a = M at *
    have hbit : v / 2 ^ i % 2 < 2 := Nat.mod_lt _ (by decide)
    have hb : v / 2 ^ i < 2 ^ 64 := Nat.lt_of_le_of_lt (Nat.div_le_self _ _) (Nat.lt_of_lt_of_le hv (Nat.pow_le_pow_right (by decide) hn))
    have hwl := words_len k M
    have ea : IntKind.i64.wrap ((a : Int) + (i : Int)) = ((a + i : Nat) : Int) := by rw [wr (by omega)]; omega
    have ei0 : (((a + i : Nat) : Int)).tdiv 64 = (((a + i) / 64 : Nat) : Int) := by rw [Int.tdiv_eq_ediv_of_nonneg (by omega)]; omega
    have el : (((a + i : Nat) : Int)).tmod 64 = (((a + i) % 64 : Nat) : Int) := by rw [Int.tmod_eq_emod_of_nonneg (by omega)]; omega
    have ei : IntKind.i64.wrap (((a + i) / 64 : Nat) : Int) = (((a + i) / 64 : Nat) : Int) := wr (by omega)
    have hlo : (a + i) % 64 < 64 := Nat.mod_lt _ (by decide)
    have eu : IntKind.u64.wrap (((a + i) % 64 : Nat) : Int) = (((a + i) % 64 : Nat) : Int) := wrap_nat (Nat.lt_trans hlo (by decide))
    have eui : IntKind.u64.wrap (i : Int) = (i : Int) := wrap_nat (x := i) (by omega)
    have hg : (wordsOf k M).getD ((a + i) / 64) (Ty.int .u64).dflt = ((M / 2 ^ (64 * ((a + i) / 64)) % 2 ^ 64 : Nat) : Int) := words_at (by omega)
    have hpl : 2 ^ ((a + i) % 64) < 2 ^ 64 := Nat.pow_lt_pow_right (by decide) hlo
    have eone : IntKind.u64.wrap (1 * 2 ^ min ((a + i) % 64) IntKind.u64.bits) = ((2 ^ ((a + i) % 64) : Nat) : Int) := by
      have h5 := shl2 1 ((a + i) % 64) (by omega)
      rw [Nat.one_mul, Nat.mod_eq_of_lt hpl] at h5
      exact h5
    have ebit : IntKind.u64.wrap (BitVec.ofInt IntKind.u64.bits ((v : Int).fdiv (2 ^ min i IntKind.u64.bits)) &&& BitVec.ofInt IntKind.u64.bits 1).toNat = ((v / 2 ^ i % 2 : Nat) : Int) := by
      rw [shr2 _ _ (by omega)]
      refine Eq.trans (and_int _ 1 hb (by decide)) ?_
      rw [Nat.and_one_is_mod]
    have hq : (a + i) / 64 < k := by omega
    have hai : 64 * ((a + i) / 64) + (a + i) % 64 = a + i := by omega
    have hX := fun n hn => set_low (N := M) (i := (a + i) / 64) (low := (a + i) % 64) (n := n) (wd := 1) (by rw [hai]; exact hM) hn hlo (by decide)
    rw [hai] at hX
    have hX0 := hX 0 (by decide)
    have hX1 := hX 1 (by decide)
    have e21 : (2 ^ 1 - 1) * 2 ^ ((a + i) % 64) % 2 ^ 64 = 2 ^ ((a + i) % 64) := by rw [show 2 ^ 1 - 1 = 1 by decide, Nat.one_mul, Nat.mod_eq_of_lt hpl]
    rw [e21, Nat.zero_mul, Nat.zero_mod, Nat.or_zero] at hX0
    rw [e21, Nat.one_mul] at hX1
    have hs0 := set_one (k := k) (N := M) (a := a + i) (n := 1) (v := 0) hM (X := ((andn (M / 2 ^ (64 * ((a + i) / 64)) % 2 ^ 64) (2 ^ ((a + i) % 64)) : Nat) : Int)) (by decide) (by omega) (by decide) (by omega) (by decide) (congrArg Nat.cast hX0)
    have hs1 := set_one (k := k) (N := M) (a := a + i) (n := 1) (v := 1) hM (X := ((andn (M / 2 ^ (64 * ((a + i) / 64)) % 2 ^ 64) (2 ^ ((a + i) % 64)) ||| 2 ^ ((a + i) % 64) : Nat) : Int)) (by decide) (by omega) (by decide) (by omega) (by decide) (by rw [Nat.one_mul]; exact congrArg Nat.cast hX1)
    (repeat' ((conv => whnf); first | apply And.intro | exact ⟨by kernel_rfl⟩ | apply DrawN.mk | apply CodeN.step hm rfl | exact trivial | exact rfl | (intro hh; try simp only [bs] at hh))); all_goals (conv => whnf)
    all_goals first | (exfalso; omega) | skip
    all_goals first | (refine Ob.mk ?_; first | decide | omega | (simp only [ea, ei0, el, ei, eu, eui]; omega)) | skip
    · simp only [eui, Int.toNat_natCast, ebit] at hh
      have hb1 : v / 2 ^ i % 2 = 1 := by omega
      refine ⟨i + 1, [0], ⟨rfl, rfl, ?_, ?_⟩, h0, by omega⟩
      · (repeat' ((conv => whnf) <;> first | exact rfl | exact trivial | apply And.intro | exact Nat.zero_add _)); all_goals ((conv => whnf); try simp only [])
        rw [hnext, hb1]
        simp only [Nat.zero_add, ea, ei0, ei, el, eu, Int.toNat_natCast, hg, eone, andn_int]
        have hgs : ((wordsOf k M).set ((a + i) / 64) ((andn (M / 2 ^ (64 * ((a + i) / 64)) % 2 ^ 64) (2 ^ ((a + i) % 64)) : Nat) : Int)).getD ((a + i) / 64) (Ty.int .u64).dflt = ((andn (M / 2 ^ (64 * ((a + i) / 64)) % 2 ^ 64) (2 ^ ((a + i) % 64)) : Nat) : Int) := by
          show (List.set _ _ _).getD _ 0 = _
          rw [getD_set, if_pos ⟨rfl, by omega⟩]
        rw [hgs, or_int _ _ (andn_lt _ _) hpl, List.set_set]
        exact hs1
      · (repeat' ((conv => whnf) <;> first | exact rfl | exact trivial | apply And.intro | exact Nat.zero_add _)); all_goals ((conv => whnf); try simp only [])
        exact wr (by omega)
    · simp only [eui, Int.toNat_natCast, ebit] at hh
      have hb0 : v / 2 ^ i % 2 = 0 := by omega
      refine ⟨i + 1, [0], ⟨rfl, rfl, ?_, ?_⟩, h0, by omega⟩
      · (repeat' ((conv => whnf) <;> first | exact rfl | exact trivial | apply And.intro | exact Nat.zero_add _)); all_goals ((conv => whnf); try simp only [])
        rw [hnext, hb0]
        simp only [Nat.zero_add, ea, ei0, ei, el, eu, Int.toNat_natCast, hg, eone, andn_int]
        exact hs0
      · (repeat' ((conv => whnf) <;> first | exact rfl | exact trivial | apply And.intro | exact Nat.zero_add _)); all_goals ((conv => whnf); try simp only [])
        exact wr (by omega)
  · (repeat' ((conv => whnf); first | apply And.intro | exact ⟨by kernel_rfl⟩ | apply DrawN.mk | apply CodeN.step hm rfl | exact trivial | exact rfl | (intro hh; try simp only [bs] at hh))); all_goals (conv => whnf)
    all_goals first | (exfalso; omega) | skip
    have e : i = n := by omega
    (refine RetN.frz 0 ?_; (conv => whnf))
    (refine RetN.q () [] ?_ ?_ ?_ <;> (repeat' ((conv => whnf) <;> first | exact rfl | exact trivial | apply And.intro | exact Nat.zero_add _)); all_goals ((conv => whnf); try simp only []))
    rw [e, List.drop_zero, Nat.mod_eq_of_lt hv]
    exact List.take_of_length_le (by rw [words_len]; exact Nat.le_refl _)
theorem rsizeM (l : List Int) (h : ∀ x ∈ l, 0 ≤ x ∧ x ≤ 64) (hl : l.length ≤ 100) : Meets Tryz.prog 70 [.lst (.int .i64) fun _ => l] [] (Y := Unit) (fun _ => True) (fun _ => .int .i64 fun _ => l.sum) (fun _ => []) := by
  refine Meets.intro hm (fn := Tryz.f70) Tryz.func70 rfl (by decide) (Nat.le_of_ble_eq_true rfl) (fun _ => rfl) ?_; intro S hok; (conv => whnf)
  (repeat' ((conv => whnf); first | apply And.intro | exact ⟨by kernel_rfl⟩ | apply DrawN.mk | apply CodeN.step hm rfl | exact trivial | exact rfl | (intro hh; try simp only [bs] at hh))); all_goals (conv => whnf)
  · exfalso; omega
  refine LoopN.intro hm (X := Nat) (fun i => i ≤ l.length) (fun i => l.length - i)
    (fun i => [(4, .int .i64 fun _ => (i : Int)), (3, .int .i64 fun _ => (l.take i).sum), (0, .lst (.int .i64) fun _ => l)]) (fun _ => []) 0 [] ⟨rfl, rfl, ?_, ?_⟩ (Nat.zero_le _) (fun i hi => ?_)
  · (repeat' ((conv => whnf) <;> first | exact rfl | exact trivial | apply And.intro | exact Nat.zero_add _))
  · (repeat' ((conv => whnf) <;> first | exact rfl | exact trivial | apply And.intro | exact Nat.zero_add _))
  have hb := Ce.sum_bound (m := 64) (l := l.take i) (fun x hx => h x (List.mem_of_mem_take hx)) (by omega)
  rw [List.length_take] at hb
  have hx := fun hi : i < l.length => h (l.getD i 0) (by rw [List.getD_eq_getElem?_getD, List.getElem?_eq_getElem hi]; exact List.getElem_mem hi)
  have hst := fun h => Ce.sum_take (l := l) (i := i) h
  have hg : l.getD (i : Int).toNat (Ty.int .i64).dflt = l.getD i 0 := rfl
  generalize l.getD i 0 = x at *
  (repeat' ((conv => whnf); first | apply And.intro | exact ⟨by kernel_rfl⟩ | apply DrawN.mk | apply CodeN.step hm rfl | exact trivial | exact rfl | (intro hh; try simp only [bs] at hh))); all_goals (conv => whnf)
  all_goals (try simp only [hg] at hh ⊢)
  all_goals first
    | (refine Ob.mk ?_; first | omega | (simp only []; omega))
    | (exfalso
       have hq := hx (by omega)
       simp only [hg] at *
       omega)
    | (have hi2 : i < l.length := by omega
       have hq := hx hi2
       have hs := hst hi2
       refine ⟨i + 1, [], ⟨rfl, rfl, ?_, ?_⟩, hi2, by omega⟩
       · (repeat' ((conv => whnf) <;> first | exact rfl | exact trivial | apply And.intro | exact Nat.zero_add _))
       · (repeat' ((conv => whnf) <;> first | exact rfl | exact trivial | apply And.intro | exact Nat.zero_add _)); all_goals ((conv => whnf); try simp only [])
         · exact wr (by omega)
         · rw [hs]; exact wr (by omega))
    | (have e : i = l.length := by omega
       (refine RetN.q () [] ?_ ?_ ?_ <;> (repeat' ((conv => whnf) <;> first | exact rfl | exact trivial | apply And.intro | exact Nat.zero_add _)); all_goals ((conv => whnf); try simp only []))
       rw [e, List.take_length])
end Go.Proofs.YtkcifdblaboodaaGreat.Bt
set_option linter.unusedVariables false
set_option linter.unusedSimpArgs false
namespace Go.Proofs.YtkcifdblaboodaaGreat.Bt
open Go Go.RowKit Fw Hi Po
theorem rpackM (ws vs : List Int) (h : Fit ws vs) (hl : ws.length ≤ 100) : Meets Tryz.prog 36 [.lst (.int .i64) fun _ => ws, .lst (.int .u64) fun _ => vs] [] (Y := Unit) (fun _ => True) (fun _ => .tup [.lst (.int .u64) fun _ => wordsOf ((ws.sum.toNat + 63) / 64) (packN ws vs), .tt]) (fun _ => []) := by
  have hsb := Ce.sum_bound (m := 64) h.2.1 (by omega)
  have e2 : IntKind.i64.wrap (ws.sum + 63) = ws.sum + 63 := wr (by omega)
  have e3 : IntKind.i64.wrap ((ws.sum + 63).tdiv 64) = (((ws.sum.toNat + 63) / 64 : Nat) : Int) := by
    rw [Int.tdiv_eq_ediv_of_nonneg (by omega), wr (by omega)]; omega
  generalize hK : (ws.sum.toNat + 63) / 64 = K at *
  have hb : ((Tryz.t47).bytes : Nat) = 8 := rfl
  have hlen := h.1
  refine Meets.intro hm (fn := Tryz.f36) Tryz.func36 rfl (by decide) (Nat.le_of_ble_eq_true rfl) (fun _ => rfl) ?_; intro S hok; (conv => whnf)
  (repeat' ((conv => whnf); first | apply And.intro | exact ⟨by kernel_rfl⟩ | apply DrawN.mk | apply CodeN.step hm rfl | exact trivial | exact rfl | (intro hh; try simp only [bs] at hh))); all_goals (conv => whnf)
  (refine CallN.q (rsizeM ws h.2.1 hl) [] (fun _ _ => ?_); (repeat' ((conv => whnf); first | apply And.intro | exact ⟨by kernel_rfl⟩ | apply DrawN.mk | apply CodeN.step hm rfl | exact trivial | exact rfl | (intro hh; try simp only [bs] at hh; try exact absurd hh (by decide)))); all_goals (conv => whnf); all_goals try exact ⟨by decide⟩)
  all_goals (try simp only [e2, e3, Int.toNat_natCast] at hh ⊢)
  all_goals first | (exfalso; omega) | skip
  all_goals first | (exact Ob.mk (by decide)) | (refine Ob.mk ?_; rw [hb]; omega) | (refine Ob.mk ?_; omega) | skip
  refine loop_frz 0 ?_
  (conv => whnf)
  refine LoopN.intro hm (X := Nat) (fun i => i ≤ ws.length) (fun i => ws.length - i)
    (fun i => [(9, .int .i64 fun _ => (i : Int)), (8, .int .i64 fun _ => (ws.take i).sum), (7, .lst (.int .u64) fun _ => wordsOf K (packN (ws.take i) (vs.take i))), (0, .lst (.int .i64) fun _ => ws), (1, .lst (.int .u64) fun _ => vs)]) (fun _ => []) 0 [] ⟨rfl, rfl, ?_, ?_⟩ (Nat.zero_le _) (fun i hi => ?_)
  · (repeat' ((conv => whnf) <;> first | exact rfl | exact trivial | apply And.intro | exact Nat.zero_add _))
  · (repeat' ((conv => whnf) <;> first | exact rfl | exact trivial | apply And.intro | exact Nat.zero_add _)); all_goals ((conv => whnf); try simp only [])
    rw [List.drop_zero, List.take_of_length_le (by simp)]
    refine getD_ext (by rw [words_len]; simp) fun j hj => ?_
    rw [List.length_replicate] at hj
    rw [words_at hj]
    simp [packN, List.getD_eq_getElem?_getD, hj]
  have hwi := fun hi : i < ws.length => h.2.1 (ws.getD i 0) (by rw [List.getD_eq_getElem?_getD, List.getElem?_eq_getElem hi]; exact List.getElem_mem hi)
  have hvi := h.2.2 i
  have hpl := packN_lt h i hi
  have hst := fun hi => Ce.sum_take (l := ws) (i := i) hi
  have hpt := fun hi => packN_take (i := i) h.1 hi fun w hw => (h.2.1 w hw).1
  have hsi : 0 ≤ (ws.take i).sum := Ce.sum_nonneg fun x hx => (h.2.1 x (List.mem_of_mem_take hx)).1
  have hsd : (ws.take i).sum + (ws.drop i).sum = ws.sum := by rw [← List.sum_append, List.take_append_drop]
  have hsd2 : 0 ≤ (ws.drop (i + 1)).sum := Ce.sum_nonneg fun x hx => (h.2.1 x (List.mem_of_mem_drop hx)).1
  by_cases hi2 : i < ws.length
  · have h1 := hwi hi2
    have h2 := hvi hi2
    have h3 := hst hi2
    have h4 := hpt hi2
    have hd : (ws.drop i).sum = ws.getD i 0 + (ws.drop (i + 1)).sum := by
      rw [List.drop_eq_getElem_cons hi2, List.sum_cons, List.getD_eq_getElem?_getD, List.getElem?_eq_getElem hi2]; rfl
    have eg1 : ws.getD (i : Int).toNat (Ty.int .i64).dflt = ((ws.getD i 0).toNat : Int) := by
      show ws.getD i 0 = _
      omega
    have eg2 : vs.getD (i : Int).toNat (Ty.int .u64).dflt = ((vs.getD i 0).toNat : Int) := by
      show vs.getD i 0 = _
      omega
    have eg3 : ws.getD i (Ty.int .i64).dflt = ((ws.getD i 0).toNat : Int) := eg1
    have eg4 : vs.getD i (Ty.int .u64).dflt = ((vs.getD i 0).toNat : Int) := eg2
    have ewu : IntKind.u64.wrap (((ws.getD i 0).toNat : Nat) : Int) = (((ws.getD i 0).toNat : Nat) : Int) := wrap_nat (by omega)
    have M := rsetM K (packN (ws.take i) (vs.take i)) (ws.take i).sum.toNat (ws.getD i 0).toNat (vs.getD i 0).toNat hpl h2.2 (by omega) (by omega) (by omega)
    rw [← h4] at M
    have et : (((ws.take i).sum.toNat : Nat) : Int) = (ws.take i).sum := by omega
    rw [et] at M
    have ez : (ws.getD i 0).toNat ≤ 64 → (((vs.getD i 0).toNat : Nat) : Int).fdiv (2 ^ min (ws.getD i 0).toNat IntKind.u64.bits) = 0 := fun hq => by
      rw [shr2 _ _ hq, Nat.div_eq_of_lt h2.2]; rfl
    have ez := ez (by omega)
    (repeat' ((conv => whnf); first | apply And.intro | exact ⟨by kernel_rfl⟩ | apply DrawN.mk | apply CodeN.step hm rfl | exact trivial | exact rfl | (intro hh; try simp only [bs] at hh))); all_goals (conv => whnf)
    all_goals (try simp only [eg1, eg2, eg3, eg4, ewu, Int.toNat_natCast, ez] at hh ⊢)
    all_goals first | (refine Ob.mk ?_; first | omega | (simp only [eg1, ewu]; omega)) | (exfalso; omega) | (exfalso; exact hh rfl) | skip
    all_goals
      (refine CallN.q M [] (fun _ _ => ?_); (repeat' ((conv => whnf); first | apply And.intro | exact ⟨by kernel_rfl⟩ | apply DrawN.mk | apply CodeN.step hm rfl | exact trivial | exact rfl | (intro hh; try simp only [bs] at hh; try exact absurd hh (by decide)))); all_goals (conv => whnf); all_goals try exact ⟨by decide⟩)
    all_goals first | (refine Ob.mk ?_; first | omega | (simp only []; omega)) | skip
    all_goals
      refine ⟨i + 1, [], ⟨rfl, rfl, ?_, ?_⟩, hi2, by omega⟩
    all_goals first | ((repeat' ((conv => whnf) <;> first | exact rfl | exact trivial | apply And.intro | exact Nat.zero_add _)); done) | skip
    all_goals
      (repeat' ((conv => whnf) <;> first | exact rfl | exact trivial | apply And.intro | exact Nat.zero_add _)); all_goals ((conv => whnf); try simp only [])
    all_goals (try simp only [eg1, eg3])
    all_goals first | exact wr (by omega) | (rw [h3, wr (by omega)]; omega) | skip
  · (repeat' ((conv => whnf); first | apply And.intro | exact ⟨by kernel_rfl⟩ | apply DrawN.mk | apply CodeN.step hm rfl | exact trivial | exact rfl | (intro hh; try simp only [bs] at hh))); all_goals (conv => whnf)
    all_goals first | (exfalso; omega) | skip
    have e : i = ws.length := by omega
    (refine RetN.q () [] ?_ ?_ ?_ <;> (repeat' ((conv => whnf) <;> first | exact rfl | exact trivial | apply And.intro | exact Nat.zero_add _)); all_goals ((conv => whnf); try simp only []))
    rw [e, List.take_length, hlen, List.take_length]
theorem times_snoc (l : List Int) (n : Nat) : times l (n + 1) = times l n ++ l := by simp [times, List.replicate_succ']
def widths14 : List Int := [41, 41] ++ times [21] 16 ++ [5] ++ times [41, 5] 16
theorem rwidthsM : Meets Tryz.prog 37 [] [] (Y := Unit) (fun _ => True) (fun _ => .lst (.int .i64) fun _ => widths14) (fun _ => []) := by
  refine Meets.intro hm (fn := Tryz.f37) Tryz.func37 rfl (by decide) (Nat.le_of_ble_eq_true rfl) (fun _ => rfl) ?_; intro S hok; (conv => whnf)
  (repeat' ((conv => whnf); first | apply And.intro | exact ⟨by kernel_rfl⟩ | apply DrawN.mk | apply CodeN.step hm rfl | exact trivial | exact rfl | (intro hh; try simp only [bs] at hh))); all_goals (conv => whnf)
  all_goals first | (exact Ob.mk (by decide)) | skip
  refine LoopN.intro hm (X := Nat) (fun i => i ≤ 16) (fun i => 16 - i)
    (fun i => [(2, .int .i64 fun _ => (i : Int)), (1, .vec 0 1 (fun _ => 0) fun _ => 2 + i)]) (fun i => [.vect 3 (.int .i64) fun _ => [41, 41] ++ times [21] i]) 0 [0] ⟨rfl, rfl, ?_, ?_⟩ (Nat.zero_le _) (fun i hi => ?_)
  · (repeat' ((conv => whnf) <;> first | exact rfl | exact trivial | apply And.intro | exact Nat.zero_add _))
  · (repeat' ((conv => whnf) <;> first | exact rfl | exact trivial | apply And.intro | exact Nat.zero_add _))
  have hll : ([41, 41] ++ times [21] i : List Int).length = 2 + i := by simp [times]; omega
  have hts := times_snoc [21] i
  by_cases h0 : i < 16
  · (repeat' ((conv => whnf); first | apply And.intro | exact ⟨by kernel_rfl⟩ | apply DrawN.mk | apply CodeN.step hm rfl | exact trivial | exact rfl | (intro hh; try simp only [bs] at hh))); all_goals (conv => whnf)
    all_goals first | (exfalso; omega) | skip
    · refine Ob.mk ⟨rfl, ?_, ?_⟩
      · show 2 + i + 1 ≤ _
        omega
      · show (2 + i + 1) * 8 ≤ _
        omega
    · refine ⟨i + 1, [0], ⟨rfl, rfl, ?_, ?_⟩, h0, by omega⟩
      · (repeat' ((conv => whnf) <;> first | exact rfl | exact trivial | apply And.intro | exact Nat.zero_add _)); all_goals ((conv => whnf); try simp only [])
        rw [List.take_of_length_le (by omega), hts, List.append_assoc]
        rfl
      · (repeat' ((conv => whnf) <;> first | exact rfl | exact trivial | apply And.intro | exact Nat.zero_add _)); all_goals ((conv => whnf); try simp only [])
        exact wr (by omega)
  · have e : i = 16 := by omega
    subst e
    (repeat' ((conv => whnf); first | apply And.intro | exact ⟨by kernel_rfl⟩ | apply DrawN.mk | apply CodeN.step hm rfl | exact trivial | exact rfl | (intro hh; try simp only [bs] at hh))); all_goals (conv => whnf)
    all_goals first | (exfalso; omega) | skip
    all_goals first | (exact Ob.mk (by decide)) | skip
    refine LoopN.intro hm (X := Nat) (fun i => i ≤ 16) (fun i => 16 - i)
      (fun i => [(3, .int .i64 fun _ => (i : Int)), (1, .vec 0 1 (fun _ => 0) fun _ => 19 + 2 * i)]) (fun i => [.vect 3 (.int .i64) fun _ => [41, 41] ++ times [21] 16 ++ [5] ++ times [41, 5] i]) 0 [0] ⟨rfl, rfl, ?_, ?_⟩ (Nat.zero_le _) (fun i hi => ?_)
    · (repeat' ((conv => whnf) <;> first | exact rfl | exact trivial | apply And.intro | exact Nat.zero_add _))
    · (repeat' ((conv => whnf) <;> first | exact rfl | exact trivial | apply And.intro | exact Nat.zero_add _))
    clear hll hts h0
    have hll : ([41, 41] ++ times [21] 16 ++ [5] ++ times [41, 5] i : List Int).length = 19 + 2 * i := by
      rw [List.length_append, show ([41, 41] ++ times [21] 16 ++ [5] : List Int).length = 19 by decide]
      simp [times]; omega
    have hts := times_snoc [41, 5] i
    by_cases h0 : i < 16
    · (repeat' ((conv => whnf); first | apply And.intro | exact ⟨by kernel_rfl⟩ | apply DrawN.mk | apply CodeN.step hm rfl | exact trivial | exact rfl | (intro hh; try simp only [bs] at hh))); all_goals (conv => whnf)
      all_goals first | (exfalso; omega) | skip
      · refine Ob.mk ⟨rfl, ?_, ?_⟩
        · show 19 + 2 * i + 2 ≤ _
          omega
        · show (19 + 2 * i + 2) * 8 ≤ _
          omega
      · refine ⟨i + 1, [0], ⟨rfl, rfl, ?_, ?_⟩, h0, by omega⟩
        · (repeat' ((conv => whnf) <;> first | exact rfl | exact trivial | apply And.intro | exact Nat.zero_add _)); all_goals ((conv => whnf); try simp only [])
          rw [List.take_of_length_le (by omega), hts, ← List.append_assoc]
          rfl
        · (repeat' ((conv => whnf) <;> first | exact rfl | exact trivial | apply And.intro | exact Nat.zero_add _)); all_goals ((conv => whnf); try simp only [])
          all_goals first | exact wr (by omega) | skip
    · have e : i = 16 := by omega
      subst e
      (repeat' ((conv => whnf); first | apply And.intro | exact ⟨by kernel_rfl⟩ | apply DrawN.mk | apply CodeN.step hm rfl | exact trivial | exact rfl | (intro hh; try simp only [bs] at hh))); all_goals (conv => whnf)
      all_goals first | (exfalso; omega) | skip
      (refine RetN.frz 0 ?_; (conv => whnf))
      (refine RetN.q () [] ?_ ?_ ?_ <;> (repeat' ((conv => whnf) <;> first | exact rfl | exact trivial | apply And.intro | exact Nat.zero_add _)); all_goals ((conv => whnf); try simp only []))
end Go.Proofs.YtkcifdblaboodaaGreat.Bt
set_option linter.unusedVariables false
set_option linter.unusedSimpArgs false
namespace Go.Proofs.YtkcifdblaboodaaGreat.Ce
open Go Go.RowKit Fw Hi Po Bt
/-- What is packed of a cell, without what fills up. -/
def vals14 (c : Cell) : List Int := [c.1, c.2.1] ++ padS c.2.2.1 ++ [(c.2.2.2.length : Int)] ++ hitsV (padH c.2.2.2)
theorem vals_14 (c : Cell) : vals c = vals14 c ++ [0] := rfl
theorem widths_14 : widthsL = widths14 ++ [57] := rfl
theorem Fit.front {ws vs : List Int} {w v : Int} (h : Fit (ws ++ [w]) (vs ++ [v])) : Fit ws vs := by
  have hl : ws.length = vs.length := by have := h.1; simpa using this
  refine ⟨hl, fun x hx => h.2.1 x (List.mem_append_left _ hx), fun i hi => ?_⟩
  have := h.2.2 i (by rw [List.length_append]; omega)
  rwa [getD_app, getD_app, if_pos (by omega), if_pos hi] at this
theorem fit_14 {c : Cell} (h : Packs c) : Fit widths14 (vals14 c) := Fit.front (w := 57) (v := 0) (by
  have := vals_fit h
  rwa [vals_14, widths_14] at this)
theorem pack_14 {c : Cell} (h : Packs c) : packN widths14 (vals14 c) = packC c := by
  have := pack_zero (ws := widths14) (vs := vals14 c) 57 (fit_14 h).1
  unfold packC
  rw [vals_14, widths_14, this]
theorem padS_take {l : List Int} {i : Nat} (h : l.length ≤ 16) (hi : i < 16) : (padS l).take (i + 1) = (padS l).take i ++ [l.getD i 0] := by
  have hl := padS_len h
  rw [List.take_add_one, List.getElem?_eq_getElem (by omega)]
  congr 1
  have : (padS l).getD i 0 = l.getD i 0 := by
    rw [padS, getD_app]
    split
    · rfl
    · rw [List.getD_eq_getElem?_getD, List.getElem?_replicate, List.getD_eq_getElem?_getD, List.getElem?_eq_none (by omega)]
      split <;> rfl
  rw [List.getD_eq_getElem?_getD, List.getElem?_eq_getElem (by omega)] at this
  simp only [Option.getD_some] at this
  rw [this]; rfl
theorem padH_take {l : List Hit} {i : Nat} (h : l.length ≤ 16) (hi : i < 16) : (padH l).take (i + 1) = (padH l).take i ++ [l.getD i (0, 0)] := by
  have hl := padH_len h
  rw [List.take_add_one, List.getElem?_eq_getElem (by omega)]
  congr 1
  have := padH_at (l := l) (i := i)
  rw [List.getD_eq_getElem?_getD, List.getElem?_eq_getElem (by omega)] at this
  simp only [Option.getD_some] at this
  rw [this]; rfl
theorem hitsV_app : ∀ a b : List Hit, hitsV (a ++ b) = hitsV a ++ hitsV b
  | [], _ => rfl
  | h :: r, b => by rw [List.cons_append, hitsV, hitsV_app r b, hitsV]; rfl
theorem r14pack_no (p : Pol) (c : Cell) (hc : -9223372036854775808 ≤ c.2.1 ∧ c.2.1 ≤ 9223372036854775807) (h1 : c.2.2.1.length ≤ 40) (h2 : c.2.2.2.length ≤ 40) (h : mayC p c = false) : Meets Tryz.prog 17 [polAV p, cellAV c] [] (Y := Unit) (fun _ => True) (fun _ => .tup [.snil, .ff]) (fun _ => []) := by
  have MM := r14may p c hc h1 h2
  rw [h] at MM
  refine Meets.intro hm (fn := Tryz.f17) Tryz.func17 rfl (by decide) (Nat.le_of_ble_eq_true rfl) (fun _ => rfl) ?_; intro S hok; (conv => whnf)
  (repeat' ((conv => whnf); first | apply And.intro | exact ⟨by kernel_rfl⟩ | apply DrawN.mk | apply CodeN.step hm rfl | exact trivial | exact rfl | (intro hh; try simp only [bs] at hh))); all_goals (conv => whnf)
  (refine CallN.q MM [] (fun _ _ => ?_); (repeat' ((conv => whnf); first | apply And.intro | exact ⟨by kernel_rfl⟩ | apply DrawN.mk | apply CodeN.step hm rfl | exact trivial | exact rfl | (intro hh; try simp only [bs] at hh; try exact absurd hh (by decide)))); all_goals (conv => whnf); all_goals try exact ⟨by decide⟩)
  (refine RetN.q () [] ?_ ?_ ?_ <;> (repeat' ((conv => whnf) <;> first | exact rfl | exact trivial | apply And.intro | exact Nat.zero_add _)); all_goals ((conv => whnf); try simp only []))
set_option maxHeartbeats 4000000 in
theorem r14pack (p : Pol) (c : Cell) (h : mayC p c = true) : Meets Tryz.prog 17 [polAV p, cellAV c] [] (Y := Unit) (fun _ => True) (fun _ => .tup [.lst (.int .u64) fun _ => wordsOf 19 (packC c), .tt]) (fun _ => []) := by
  have hk := may_packs h
  have hsl := hk.slen
  have hhl := hk.hlen
  have MM := r14may p c (may_level h) (by omega) (by omega)
  rw [h] at MM
  have MP := rpackM widths14 (vals14 c) (fit_14 hk) (by decide)
  rw [pack_14 hk, show (widths14.sum.toNat + 63) / 64 = 19 by decide] at MP
  have hat := hk.at_
  have hlv := hk.level
  have eu1 : IntKind.u64.wrap c.1 = c.1 := by rw [IntKind.wrap_u64]; omega
  have eu2 : IntKind.u64.wrap c.2.1 = c.2.1 := by rw [IntKind.wrap_u64]; omega
  refine Meets.intro hm (fn := Tryz.f17) Tryz.func17 rfl (by decide) (Nat.le_of_ble_eq_true rfl) (fun _ => rfl) ?_; intro S hok; (conv => whnf)
  (repeat' ((conv => whnf); first | apply And.intro | exact ⟨by kernel_rfl⟩ | apply DrawN.mk | apply CodeN.step hm rfl | exact trivial | exact rfl | (intro hh; try simp only [bs] at hh))); all_goals (conv => whnf)
  (refine CallN.q MM [] (fun _ _ => ?_); (repeat' ((conv => whnf); first | apply And.intro | exact ⟨by kernel_rfl⟩ | apply DrawN.mk | apply CodeN.step hm rfl | exact trivial | exact rfl | (intro hh; try simp only [bs] at hh; try exact absurd hh (by decide)))); all_goals (conv => whnf); all_goals try exact ⟨by decide⟩)
  refine LoopN.intro hm (X := Nat) (fun i => i ≤ 16) (fun i => 16 - i)
    (fun i => [(7, .int .i64 fun _ => (i : Int)), (6, .vec 1 1 (fun _ => 0) fun _ => 2 + i), (3, .ptr 0 0)])
    (fun i => [.cells 27 [.int .i64 fun _ => c.1, .int .i64 fun _ => c.2.1, .lst (.int .i64) fun _ => c.2.2.1, .lst HitT fun _ => c.2.2.2], .vect 47 (.int .u64) fun _ => [c.1, c.2.1] ++ (padS c.2.2.1).take i]) 0 [1, 2] ⟨rfl, rfl, ?_, ?_⟩ (Nat.zero_le _) (fun i hi => ?_)
  · (repeat' ((conv => whnf) <;> first | exact rfl | exact trivial | apply And.intro | exact Nat.zero_add _)); all_goals ((conv => whnf); try simp only [])
    rw [eu1, eu2]; rfl
  · (repeat' ((conv => whnf) <;> first | exact rfl | exact trivial | apply And.intro | exact Nat.zero_add _))
  have hpl := padS_len hk.slen
  have hll : ([c.1, c.2.1] ++ (padS c.2.2.1).take i : List Int).length = 2 + i := by simp; omega
  have hgi : c.2.2.1.getD (i : Int).toNat (Ty.int .i64).dflt = c.2.2.1.getD i 0 := rfl
  have hgb : 0 ≤ c.2.2.1.getD i 0 ∧ c.2.2.1.getD i 0 ≤ 1048576 := by
    by_cases h : i < c.2.2.1.length
    · exact hk.sums _ (by rw [List.getD_eq_getElem?_getD, List.getElem?_eq_getElem h]; exact List.getElem_mem h)
    · rw [List.getD_eq_getElem?_getD, List.getElem?_eq_none (by omega)]; decide
  have eux : IntKind.u64.wrap (c.2.2.1.getD i 0) = c.2.2.1.getD i 0 := by rw [IntKind.wrap_u64]; omega
  have hg0 : ¬ i < c.2.2.1.length → c.2.2.1.getD i 0 = 0 := fun h => by rw [List.getD_eq_getElem?_getD, List.getElem?_eq_none (by omega)]; rfl
  have hpt := fun h => padS_take (l := c.2.2.1) (i := i) hk.slen h
  generalize c.2.2.1.getD i 0 = x at *
  by_cases h0 : i < 16
  · have hpt := hpt h0
    (repeat' ((conv => whnf); first | apply And.intro | exact ⟨by kernel_rfl⟩ | apply DrawN.mk | apply CodeN.step hm rfl | exact trivial | exact rfl | (intro hh; try simp only [bs] at hh))); all_goals (conv => whnf)
    all_goals first | (exfalso; omega) | skip
    all_goals first | (refine Ob.mk ?_; first | omega | (simp only []; omega)) | skip
    all_goals (try simp only [hgi, eux])
    all_goals first
      | (refine Ob.mk ⟨trivial, ?_, ?_⟩
         · show 2 + i + 1 ≤ _
           omega
         · show (2 + i + 1) * 8 ≤ _
           omega)
      | skip
    all_goals
      refine ⟨i + 1, [0, 1], ⟨rfl, rfl, ?_, ?_⟩, h0, by omega⟩
    · (repeat' ((conv => whnf) <;> first | exact rfl | exact trivial | apply And.intro | exact Nat.zero_add _)); all_goals ((conv => whnf); try simp only [])
      rw [List.take_of_length_le (by omega), hpt, ← List.append_assoc]; rfl
    · (repeat' ((conv => whnf) <;> first | exact rfl | exact trivial | apply And.intro | exact Nat.zero_add _)); all_goals ((conv => whnf); try simp only [])
      exact wr (by omega)
    · (repeat' ((conv => whnf) <;> first | exact rfl | exact trivial | apply And.intro | exact Nat.zero_add _)); all_goals ((conv => whnf); try simp only [])
      rw [List.take_of_length_le (by omega), hpt, hg0 (by omega), ← List.append_assoc]; rfl
    · (repeat' ((conv => whnf) <;> first | exact rfl | exact trivial | apply And.intro | exact Nat.zero_add _)); all_goals ((conv => whnf); try simp only [])
      exact wr (by omega)
  · have e : i = 16 := by omega
    subst e
    have en : IntKind.u64.wrap (c.2.2.2.length : Int) = (c.2.2.2.length : Int) := by rw [IntKind.wrap_u64]; omega
    have ep : (padS c.2.2.1).take 16 = padS c.2.2.1 := List.take_of_length_le (by omega)
    (repeat' ((conv => whnf); first | apply And.intro | exact ⟨by kernel_rfl⟩ | apply DrawN.mk | apply CodeN.step hm rfl | exact trivial | exact rfl | (intro hh; try simp only [bs] at hh))); all_goals (conv => whnf)
    all_goals first | (exfalso; omega) | skip
    · refine Ob.mk ⟨rfl, ?_, ?_⟩
      · show 2 + 16 + 1 ≤ _
        decide
      · show (2 + 16 + 1) * 8 ≤ _
        decide
    clear hgi hgb eux hg0 hpt
    refine LoopN.intro hm (X := Nat) (fun i => i ≤ 16) (fun i => 16 - i)
      (fun i => [(9, .int .i64 fun _ => (i : Int)), (6, .vec 1 1 (fun _ => 0) fun _ => 19 + 2 * i), (3, .ptr 0 0)])
      (fun i => [.cells 27 [.int .i64 fun _ => c.1, .int .i64 fun _ => c.2.1, .lst (.int .i64) fun _ => c.2.2.1, .lst HitT fun _ => c.2.2.2], .vect 47 (.int .u64) fun _ => [c.1, c.2.1] ++ padS c.2.2.1 ++ [(c.2.2.2.length : Int)] ++ hitsV ((padH c.2.2.2).take i)]) 0 [0, 1] ⟨rfl, rfl, ?_, ?_⟩ (Nat.zero_le _) (fun i hi => ?_)
    · (repeat' ((conv => whnf) <;> first | exact rfl | exact trivial | apply And.intro | exact Nat.zero_add _)); all_goals ((conv => whnf); try simp only [])
      rw [en, List.take_of_length_le (by omega), ep]
      exact (List.append_nil _).symm
    · (repeat' ((conv => whnf) <;> first | exact rfl | exact trivial | apply And.intro | exact Nat.zero_add _))
    have hhp := padH_len hk.hlen
    have hhv := hitsV_len ((padH c.2.2.2).take i)
    rw [List.length_take, hhp] at hhv
    have hll : ([c.1, c.2.1] ++ padS c.2.2.1 ++ [(c.2.2.2.length : Int)] ++ hitsV ((padH c.2.2.2).take i) : List Int).length = 19 + 2 * i := by
      simp only [List.length_append, List.length_cons, List.length_nil, hpl, hhv]; omega
    have hgi : c.2.2.2.getD (i : Int).toNat HitT.dflt = c.2.2.2.getD i (0, 0) := rfl
    have hgb : (0 ≤ (c.2.2.2.getD i (0, 0)).1 ∧ (c.2.2.2.getD i (0, 0)).1 ≤ 1099511627776) ∧ 0 ≤ (c.2.2.2.getD i (0, 0)).2 ∧ (c.2.2.2.getD i (0, 0)).2 ≤ 16 := by
      by_cases h : i < c.2.2.2.length
      · exact hk.hits _ (hit_mem h)
      · rw [List.getD_eq_getElem?_getD, List.getElem?_eq_none (by omega)]; decide
    have eux1 : IntKind.u64.wrap (c.2.2.2.getD i (0, 0)).1 = (c.2.2.2.getD i (0, 0)).1 := by rw [IntKind.wrap_u64]; omega
    have eux2 : IntKind.u64.wrap (c.2.2.2.getD i (0, 0)).2 = (c.2.2.2.getD i (0, 0)).2 := by rw [IntKind.wrap_u64]; omega
    have hg0 : ¬ i < c.2.2.2.length → c.2.2.2.getD i (0, 0) = (0, 0) := fun h => by rw [List.getD_eq_getElem?_getD, List.getElem?_eq_none (by omega)]; rfl
    have hpt := fun h => padH_take (l := c.2.2.2) (i := i) hk.hlen h
    generalize c.2.2.2.getD i (0, 0) = x at *
    by_cases h0 : i < 16
    · have hpt := hpt h0
      (repeat' ((conv => whnf); first | apply And.intro | exact ⟨by kernel_rfl⟩ | apply DrawN.mk | apply CodeN.step hm rfl | exact trivial | exact rfl | (intro hh; try simp only [bs] at hh))); all_goals (conv => whnf)
      all_goals first | (exfalso; omega) | skip
      all_goals first | (refine Ob.mk ?_; first | omega | (simp only []; omega)) | skip
      all_goals (try simp only [hgi, eux1, eux2])
      all_goals first
        | (refine Ob.mk ⟨trivial, ?_, ?_⟩
           · show 19 + 2 * i + 2 ≤ _
             omega
           · show (19 + 2 * i + 2) * 8 ≤ _
             omega)
        | skip
      all_goals
        refine ⟨i + 1, [0, 1], ⟨rfl, rfl, ?_, ?_⟩, h0, by omega⟩
      · (repeat' ((conv => whnf) <;> first | exact rfl | exact trivial | apply And.intro | exact Nat.zero_add _)); all_goals ((conv => whnf); try simp only [])
        rw [List.take_of_length_le (by omega), hpt, hitsV_app, ← List.append_assoc]; rfl
      · (repeat' ((conv => whnf) <;> first | exact rfl | exact trivial | apply And.intro | exact Nat.zero_add _)); all_goals ((conv => whnf); try simp only [])
        exact wr (by omega)
      · (repeat' ((conv => whnf) <;> first | exact rfl | exact trivial | apply And.intro | exact Nat.zero_add _)); all_goals ((conv => whnf); try simp only [])
        rw [List.take_of_length_le (by omega), hpt, hg0 (by omega), hitsV_app, ← List.append_assoc]; rfl
      · (repeat' ((conv => whnf) <;> first | exact rfl | exact trivial | apply And.intro | exact Nat.zero_add _)); all_goals ((conv => whnf); try simp only [])
        exact wr (by omega)
    · have e : i = 16 := by omega
      subst e
      have ep2 : (padH c.2.2.2).take 16 = padH c.2.2.2 := List.take_of_length_le (by omega)
      (repeat' ((conv => whnf); first | apply And.intro | exact ⟨by kernel_rfl⟩ | apply DrawN.mk | apply CodeN.step hm rfl | exact trivial | exact rfl | (intro hh; try simp only [bs] at hh))); all_goals (conv => whnf)
      all_goals first | (exfalso; omega) | skip
      (refine CallN.q rwidthsM [] (fun _ _ => ?_); (repeat' ((conv => whnf); first | apply And.intro | exact ⟨by kernel_rfl⟩ | apply DrawN.mk | apply CodeN.step hm rfl | exact trivial | exact rfl | (intro hh; try simp only [bs] at hh; try exact absurd hh (by decide)))); all_goals (conv => whnf); all_goals try exact ⟨by decide⟩)
      have et : List.take (19 + 2 * 16) (List.drop 0 ([c.1, c.2.1] ++ padS c.2.2.1 ++ [(c.2.2.2.length : Int)] ++ hitsV ((padH c.2.2.2).take 16))) = vals14 c := by
        rw [List.drop_zero, List.take_of_length_le (by omega), ep2]; rfl
      refine CallN.frz 1 ?_ MP.callable
      (conv => whnf)
      refine CallN.intro MP [] rfl rfl ?_ ?_ (fun _ _ => ?_)
      · (repeat' ((conv => whnf) <;> first | exact rfl | exact trivial | apply And.intro | exact Nat.zero_add _)); all_goals ((conv => whnf); try simp only [])
        exact et
      · (repeat' ((conv => whnf) <;> first | exact rfl | exact trivial | apply And.intro | exact Nat.zero_add _))
      (repeat' ((conv => whnf); first | apply And.intro | exact ⟨by kernel_rfl⟩ | apply DrawN.mk | apply CodeN.step hm rfl | exact trivial | exact rfl | (intro hh; try simp only [bs] at hh; try exact absurd hh (by decide)))); all_goals (conv => whnf)
      have hwl := words_len 19 (packC c)
      refine LoopN.intro hm (X := Unit) (fun _ => True) (fun _ => 0)
        (fun _ => [(12, .tt), (11, .lst (.int .u64) fun _ => wordsOf 19 (packC c))]) (fun _ => []) () [] ⟨rfl, rfl, ?_, ?_⟩ trivial (fun _ _ => ?_)
      · (repeat' ((conv => whnf) <;> first | exact rfl | exact trivial | apply And.intro | exact Nat.zero_add _))
      · (repeat' ((conv => whnf) <;> first | exact rfl | exact trivial | apply And.intro | exact Nat.zero_add _))
      (repeat' ((conv => whnf); first | apply And.intro | exact ⟨by kernel_rfl⟩ | apply DrawN.mk | apply CodeN.step hm rfl | exact trivial | exact rfl | (intro hh; try simp only [bs] at hh))); all_goals (conv => whnf)
      all_goals first | (exfalso; omega) | skip
      (refine RetN.q () [] ?_ ?_ ?_ <;> (repeat' ((conv => whnf) <;> first | exact rfl | exact trivial | apply And.intro | exact Nat.zero_add _)); all_goals ((conv => whnf); try simp only []))
theorem flds_small {ws : List Int} {N : Nat} (h : ∀ x ∈ ws, 0 ≤ x ∧ x ≤ 57) : ∀ i, 0 ≤ (flds ws N).getD i 0 ∧ (flds ws N).getD i 0 < 144115188075855872 := fun i => by
  have hfit := fit_flds (ws := ws) (N := N) fun x hx => by have := h x hx; omega
  by_cases hi : i < ws.length
  · have h1 := hfit.2.2 i hi
    have h2 := h (ws.getD i 0) (by rw [List.getD_eq_getElem?_getD, List.getElem?_eq_getElem hi]; exact List.getElem_mem _)
    have h3 : 2 ^ (ws.getD i 0).toNat ≤ 2 ^ 57 := Nat.pow_le_pow_right (by decide) (by omega)
    omega
  · rw [List.getD_eq_getElem?_getD, List.getElem?_eq_none (by rw [flds_len]; omega)]; decide
theorem cellOf_app {p : Pol} {d : List Int} {x : Int} (h : d.length = 51) : cellOf p (d ++ [x]) = cellOf p d := by
  have e : ∀ i, i < 51 → (d ++ [x]).getD i 0 = d.getD i 0 := fun i hi => by rw [getD_app, if_pos (by omega)]
  unfold cellOf
  rw [e 0 (by decide), e 1 (by decide), e 18 (by decide)]
  congr 3
  · by_cases k : p.1 = 3
    · rw [if_pos k, if_pos k]
      refine List.map_congr_left fun i hi => ?_
      have := List.mem_range.1 hi
      exact e _ (by omega)
    · rw [if_neg k, if_neg k]
  · refine List.map_congr_left fun i hi => ?_
    have := List.mem_range.1 hi
    rw [e _ (by omega), e _ (by omega)]
theorem r14unpack_no (p : Pol) (w : List Int) (h19 : w.length ≠ 19) : Meets Tryz.prog 19 [polAV p, .lst (.int .u64) fun _ => w] [] (Y := Unit) (fun _ => True) (fun _ => .tup [cellAV (0, 0, [], []), .ff]) (fun _ => []) := by
  refine Meets.intro hm (fn := Tryz.f19) Tryz.func19 rfl (by decide) (Nat.le_of_ble_eq_true rfl) (fun _ => rfl) ?_; intro S hok; (conv => whnf)
  (repeat' ((conv => whnf); first | apply And.intro | exact ⟨by kernel_rfl⟩ | apply DrawN.mk | apply CodeN.step hm rfl | exact trivial | exact rfl | (intro hh; try simp only [bs] at hh))); all_goals (conv => whnf)
  · (refine RetN.q () [] ?_ ?_ ?_ <;> (repeat' ((conv => whnf) <;> first | exact rfl | exact trivial | apply And.intro | exact Nat.zero_add _)); all_goals ((conv => whnf); try simp only []))
  · exfalso; omega
set_option maxHeartbeats 4000000 in
theorem r14unpack (p : Pol) (w : List Int) (hw : Wd w) (h19 : w.length = 19) : Meets Tryz.prog 19 [polAV p, .lst (.int .u64) fun _ => w] [] (Y := Unit) (fun _ => True) (fun _ => .tup [cellAV (unpackC p w).1, .bool fun _ => (unpackC p w).2]) (fun _ => []) := by
  have hwn := words_num hw
  rw [h19] at hwn
  have MG := fun a n h h2 => rgetM 19 (numOf w) a n h h2 (by decide)
  rw [hwn] at MG
  have hft := fun i (hi : i < widths14.length) => flds_take (ws := widths14) (i := i) (N := numOf w) hi (by decide)
  have hwx : ∀ x ∈ widths14, 0 ≤ x ∧ x ≤ 57 := by decide
  have hsum : ∀ i, i ≤ widths14.length → 0 ≤ (widths14.take i).sum ∧ (widths14.take i).sum ≤ 1159 := by decide
  have h51 : widths14.length = 51 := by decide
  refine Meets.intro hm (fn := Tryz.f19) Tryz.func19 rfl (by decide) (Nat.le_of_ble_eq_true rfl) (fun _ => rfl) ?_; intro S hok; (conv => whnf)
  (repeat' ((conv => whnf); first | apply And.intro | exact ⟨by kernel_rfl⟩ | apply DrawN.mk | apply CodeN.step hm rfl | exact trivial | exact rfl | (intro hh; try simp only [bs] at hh))); all_goals (conv => whnf)
  · exfalso; omega
  (refine CallN.q rwidthsM [] (fun _ _ => ?_); (repeat' ((conv => whnf); first | apply And.intro | exact ⟨by kernel_rfl⟩ | apply DrawN.mk | apply CodeN.step hm rfl | exact trivial | exact rfl | (intro hh; try simp only [bs] at hh; try exact absurd hh (by decide)))); all_goals (conv => whnf); all_goals try exact ⟨by decide⟩)
  refine LoopN.intro hm (X := Nat) (fun i => i ≤ 51) (fun i => 51 - i)
    (fun i => [(9, .int .i64 fun _ => (i : Int)), (8, .int .i64 fun _ => (widths14.take i).sum), (7, match i with | 0 => .snil | k + 1 => .vec 2 1 (fun _ => 0) fun _ => k + 1), (6, .lst (.int .i64) fun _ => widths14), (4, .ptr 1 0), (2, .ptr 0 0), (1, .lst (.int .u64) fun _ => w)])
    (fun i => match i with | 0 => [.cells 23 [.int .i64 fun _ => p.1, .int .i64 fun _ => p.2.1, .int .i64 fun _ => p.2.2.1, .int .i64 fun _ => p.2.2.2], .cells 27 [.int .i64 fun _ => 0, .int .i64 fun _ => 0, .snil, .snil]] | k + 1 => [.cells 23 [.int .i64 fun _ => p.1, .int .i64 fun _ => p.2.1, .int .i64 fun _ => p.2.2.1, .int .i64 fun _ => p.2.2.2], .cells 27 [.int .i64 fun _ => 0, .int .i64 fun _ => 0, .snil, .snil], .vect 47 (.int .u64) fun _ => flds (widths14.take (k + 1)) (numOf w)]) 0 [0, 1] ⟨rfl, rfl, ?_, ?_⟩ (Nat.zero_le _) (fun i hi => ?_)
  · (repeat' ((conv => whnf) <;> first | exact rfl | exact trivial | apply And.intro | exact Nat.zero_add _))
  · (repeat' ((conv => whnf) <;> first | exact rfl | exact trivial | apply And.intro | exact Nat.zero_add _))
  have hsi := hsum i (by omega)
  have hwi : i < 51 → 0 ≤ widths14.getD i 0 ∧ widths14.getD i 0 ≤ 57 := fun hi2 => hwx _ (by rw [List.getD_eq_getElem?_getD, List.getElem?_eq_getElem (by omega)]; exact List.getElem_mem _)
  have hst := fun hi => Ce.sum_take (l := widths14) (i := i) hi
  have hft := hft i
  have eg : i < 51 → widths14.getD (i : Int).toNat (Ty.int .i64).dflt = ((widths14.getD i 0).toNat : Int) := fun hi2 => by
    show widths14.getD i 0 = _
    have := hwi hi2
    omega
  have et : (((widths14.take i).sum.toNat : Nat) : Int) = (widths14.take i).sum := by omega
  have MG2 := fun hi2 : i < 51 => MG (widths14.take i).sum.toNat (widths14.getD i 0).toNat (by have := hwi hi2; omega) (by have := hwi hi2; omega)
  rw [et] at MG2
  by_cases h0 : i < 51
  · have eg := eg h0
    have h1 := hwi h0
    have h3 := hst (by omega)
    have hft := hft (by omega)
    have MG2 := MG2 h0
    cases i with
    | zero =>
      (repeat' ((conv => whnf); first | apply And.intro | exact ⟨by kernel_rfl⟩ | apply DrawN.mk | apply CodeN.step hm rfl | exact trivial | exact rfl | (intro hh; try simp only [bs] at hh))); all_goals (conv => whnf)
      all_goals first | (exfalso; omega) | skip
      all_goals (try simp only [eg])
      all_goals first | (refine Ob.mk ?_; first | omega | (simp only [h51]; omega)) | skip
      (refine CallN.q MG2 [] (fun _ _ => ?_); (repeat' ((conv => whnf); first | apply And.intro | exact ⟨by kernel_rfl⟩ | apply DrawN.mk | apply CodeN.step hm rfl | exact trivial | exact rfl | (intro hh; try simp only [bs] at hh; try exact absurd hh (by decide)))); all_goals (conv => whnf); all_goals try exact ⟨by decide⟩)
      all_goals (try simp only [eg])
      all_goals first | (refine Ob.mk ?_; first | omega | (simp only [h51]; omega)) | skip
      · refine Ob.mk ?_
        show (1 : Nat) * 8 ≤ _
        decide
      refine ⟨1, [0, 1, 3], ⟨rfl, rfl, ?_, ?_⟩, by omega, by omega⟩
      · (repeat' ((conv => whnf) <;> first | exact rfl | exact trivial | apply And.intro | exact Nat.zero_add _)); all_goals ((conv => whnf); try simp only [])
        exact hft.symm
      · (repeat' ((conv => whnf) <;> first | exact rfl | exact trivial | apply And.intro | exact Nat.zero_add _)); all_goals ((conv => whnf); try simp only [])
        all_goals first
          | exact wr (by omega)
          | (have : (List.take 1 widths14).sum = _ := h3
             rw [this, wr (by omega)]; omega)
          | skip
    | succ i =>
      (repeat' ((conv => whnf); first | apply And.intro | exact ⟨by kernel_rfl⟩ | apply DrawN.mk | apply CodeN.step hm rfl | exact trivial | exact rfl | (intro hh; try simp only [bs] at hh))); all_goals (conv => whnf)
      all_goals first | (exfalso; omega) | skip
      all_goals (try simp only [eg])
      all_goals first | (refine Ob.mk ?_; first | omega | (simp only [h51]; omega)) | skip
      (refine CallN.q MG2 [] (fun _ _ => ?_); (repeat' ((conv => whnf); first | apply And.intro | exact ⟨by kernel_rfl⟩ | apply DrawN.mk | apply CodeN.step hm rfl | exact trivial | exact rfl | (intro hh; try simp only [bs] at hh; try exact absurd hh (by decide)))); all_goals (conv => whnf); all_goals try exact ⟨by decide⟩)
      all_goals (try simp only [eg])
      all_goals first | (refine Ob.mk ?_; first | omega | (simp only [h51]; omega)) | skip
      · refine Ob.mk ⟨trivial, ?_, ?_⟩
        · show i + 1 + 1 ≤ _
          omega
        · show (i + 1 + 1) * 8 ≤ _
          omega
      refine ⟨i + 2, [0, 1, 2], ⟨rfl, rfl, ?_, ?_⟩, by omega, by omega⟩
      · (repeat' ((conv => whnf) <;> first | exact rfl | exact trivial | apply And.intro | exact Nat.zero_add _)); all_goals ((conv => whnf); try simp only [])
        rw [List.take_of_length_le (by rw [flds_len, List.length_take]; omega)]
        exact hft.symm
      · (repeat' ((conv => whnf) <;> first | exact rfl | exact trivial | apply And.intro | exact Nat.zero_add _)); all_goals ((conv => whnf); try simp only [])
        all_goals first
          | exact wr (by omega)
          | (have : (List.take (i + 2) widths14).sum = _ := h3
             rw [this, wr (by omega)]; omega)
          | skip
  · have e : i = 51 := by omega
    subst e
    clear hft MG2 eg hst hwi hsi et MG
    have hdl : (flds (List.take (50 + 1) widths14) (numOf w)).length = 51 := by rw [flds_len]; decide
    have hdb := flds_small (N := numOf w) (ws := widths14) (by decide)
    obtain ⟨xl, hxl⟩ := flds_app widths14 57 (numOf w)
    have hU : unpackC p w = if mayC p (cellOf p (flds (List.take (50 + 1) widths14) (numOf w))) = true ∧ wordsOf 19 (packC (cellOf p (flds (List.take (50 + 1) widths14) (numOf w)))) = w then (cellOf p (flds (List.take (50 + 1) widths14) (numOf w)), true) else ((0, 0, [], []), false) := by
      unfold unpackC
      have e : flds widthsL (numOf w) = flds (List.take (50 + 1) widths14) (numOf w) ++ [xl] := hxl
      simp only [h19, true_and]
      rw [e, cellOf_app hdl]
    change ∀ i, 0 ≤ (flds (List.take (50 + 1) widths14) (numOf w)).getD i 0 ∧ (flds (List.take (50 + 1) widths14) (numOf w)).getD i 0 < 144115188075855872 at hdb
    generalize hd : flds (List.take (50 + 1) widths14) (numOf w) = d at *
    have hwrap : ∀ i, IntKind.i64.wrap (d.getD i 0) = d.getD i 0 := fun i => wr (by have := hdb i; omega)
    have g0 : IntKind.i64.wrap (d.getD (0 + (0 : Int).toNat) (Ty.int .u64).dflt) = d.getD 0 0 := hwrap 0
    have g1 : IntKind.i64.wrap (d.getD (0 + (1 : Int).toNat) (Ty.int .u64).dflt) = d.getD 1 0 := hwrap 1
    have g18 : IntKind.i64.wrap (d.getD (0 + (18 : Int).toNat) (Ty.int .u64).dflt) = d.getD 18 0 := hwrap 18
    (repeat' ((conv => whnf); first | apply And.intro | exact ⟨by kernel_rfl⟩ | apply DrawN.mk | exact trivial | exact rfl | (intro hh; try simp only [bs] at hh))); all_goals (conv => whnf)
    all_goals first | (exfalso; omega) | skip
    all_goals first | (exact Ob.mk (by decide)) | skip
    all_goals first | ((apply CodeN.step hm rfl; (repeat' ((conv => whnf); first | apply And.intro | exact ⟨by kernel_rfl⟩ | apply DrawN.mk | exact trivial | exact rfl | (intro hh; try simp only [bs] at hh))); all_goals (conv => whnf))) | skip
    all_goals first | (exfalso; omega) | skip
    all_goals first | (exact Ob.mk (by decide)) | skip
    all_goals first | ((apply CodeN.step hm rfl; (repeat' ((conv => whnf); first | apply And.intro | exact ⟨by kernel_rfl⟩ | apply DrawN.mk | exact trivial | exact rfl | (intro hh; try simp only [bs] at hh))); all_goals (conv => whnf))) | skip
    all_goals first | (exfalso; omega) | skip
    all_goals first | (exact Ob.mk (by decide)) | skip
    all_goals (try simp only [hd, g0, g1])
    generalize hn1 : (min (max p.2.2.2 0) 16).toNat = n1
    have hcs : (if p.1 = 3 then (List.range (min (max p.2.2.2 0) 16).toNat).map (fun i => d.getD (2 + i) 0) else []) = sumsO d (if p.1 = 3 then n1 else 0) := by
      rw [hn1]
      by_cases k : p.1 = 3
      · rw [if_pos k, if_pos k]; rfl
      · rw [if_neg k, if_neg k]; rfl
    refine CodeN.mid hm (X := Nat) (fun n => n = if p.1 = 3 then n1 else 0) (fun _ => [(12, .ptr 3 0), (7, .vec 2 1 (fun _ => 0) fun _ => 51), (4, .ptr 1 0), (2, .ptr 0 0), (1, .lst (.int .u64) fun _ => w)])
      (fun n => match n with
        | 0 => [.cells 23 [.int .i64 fun _ => p.1, .int .i64 fun _ => p.2.1, .int .i64 fun _ => p.2.2.1, .int .i64 fun _ => p.2.2.2], .cells 27 [.int .i64 fun _ => 0, .int .i64 fun _ => 0, .snil, .snil], .vect 47 (.int .u64) fun _ => d, .cells 27 [.int .i64 fun _ => d.getD 0 0, .int .i64 fun _ => d.getD 1 0, .snil, .snil]]
        | k + 1 => [.cells 23 [.int .i64 fun _ => p.1, .int .i64 fun _ => p.2.1, .int .i64 fun _ => p.2.2.1, .int .i64 fun _ => p.2.2.2], .cells 27 [.int .i64 fun _ => 0, .int .i64 fun _ => 0, .snil, .snil], .vect 47 (.int .u64) fun _ => d, .cells 27 [.int .i64 fun _ => d.getD 0 0, .int .i64 fun _ => d.getD 1 0, .vec 4 1 (fun _ => 0) fun _ => k + 1, .snil], .vect 3 (.int .i64) fun _ => sumsO d (k + 1)]) rfl ?_ (fun n hn => ?_)
    · (repeat' ((conv => whnf); first | apply And.intro | exact ⟨by kernel_rfl⟩ | apply DrawN.mk | apply CodeN.step hm rfl | exact trivial | exact rfl | (intro hh; try simp only [bs] at hh))); all_goals (conv => whnf)
      rotate_left
      · have k : ¬ p.1 = 3 := by assumption
        refine ⟨0, [0, 1, 2, 3], ⟨rfl, rfl, ?_, ?_⟩, (if_neg k).symm⟩
        · (repeat' ((conv => whnf) <;> first | exact rfl | exact trivial | apply And.intro | exact Nat.zero_add _))
        · (repeat' ((conv => whnf) <;> first | exact rfl | exact trivial | apply And.intro | exact Nat.zero_add _))
      have k : p.1 = 3 := by assumption
      refine LoopN.intro hm (X := Nat) (fun i => i ≤ n1) (fun i => n1 - i)
        (fun i => [(13, .int .i64 fun _ => (i : Int)), (12, .ptr 3 0), (7, .vec 2 1 (fun _ => 0) fun _ => 51), (4, .ptr 1 0), (2, .ptr 0 0), (1, .lst (.int .u64) fun _ => w)])
        (fun i => match i with
          | 0 => [.cells 23 [.int .i64 fun _ => p.1, .int .i64 fun _ => p.2.1, .int .i64 fun _ => p.2.2.1, .int .i64 fun _ => p.2.2.2], .cells 27 [.int .i64 fun _ => 0, .int .i64 fun _ => 0, .snil, .snil], .vect 47 (.int .u64) fun _ => d, .cells 27 [.int .i64 fun _ => d.getD 0 0, .int .i64 fun _ => d.getD 1 0, .snil, .snil]]
          | k + 1 => [.cells 23 [.int .i64 fun _ => p.1, .int .i64 fun _ => p.2.1, .int .i64 fun _ => p.2.2.1, .int .i64 fun _ => p.2.2.2], .cells 27 [.int .i64 fun _ => 0, .int .i64 fun _ => 0, .snil, .snil], .vect 47 (.int .u64) fun _ => d, .cells 27 [.int .i64 fun _ => d.getD 0 0, .int .i64 fun _ => d.getD 1 0, .vec 4 1 (fun _ => 0) fun _ => k + 1, .snil], .vect 3 (.int .i64) fun _ => sumsO d (k + 1)]) 0 [0, 1, 2, 3] ⟨rfl, rfl, ?_, ?_⟩ (Nat.zero_le _) (fun i hi => ?_)
      · (repeat' ((conv => whnf) <;> first | exact rfl | exact trivial | apply And.intro | exact Nat.zero_add _))
      · (repeat' ((conv => whnf) <;> first | exact rfl | exact trivial | apply And.intro | exact Nat.zero_add _))
      have ew2 : i ≤ 16 → IntKind.i64.wrap (2 + (i : Int)) = 2 + (i : Int) := fun h => wr (by omega)
      have ew2 := ew2 (by omega)
      have g5 : IntKind.i64.wrap (d.getD (0 + (2 + (i : Int)).toNat) (Ty.int .u64).dflt) = d.getD (2 + i) 0 := by
        rw [show 0 + (2 + (i : Int)).toNat = 2 + i by omega]; exact hwrap (2 + i)
      have hsucc := sumsO_succ d i
      by_cases h0 : i < n1
      · cases i with
        | zero =>
          (repeat' ((conv => whnf); first | apply And.intro | exact ⟨by kernel_rfl⟩ | apply DrawN.mk | apply CodeN.step hm rfl | exact trivial | exact rfl | (intro hh; try simp only [bs] at hh))); all_goals (conv => whnf)
          all_goals first | (exfalso; omega) | skip
          all_goals (try simp only [ew2, g5])
          all_goals first | (refine Ob.mk ?_; first | decide | omega | (simp only []; omega)) | skip
          · refine Ob.mk ?_
            show (1 : Nat) * 8 ≤ _
            decide
          refine ⟨1, [0, 1, 2, 3, 5], ⟨rfl, rfl, ?_, ?_⟩, h0, by omega⟩
          · (repeat' ((conv => whnf) <;> first | exact rfl | exact trivial | apply And.intro | exact Nat.zero_add _))
          · (repeat' ((conv => whnf) <;> first | exact rfl | exact trivial | apply And.intro | exact Nat.zero_add _))
        | succ i =>
          (repeat' ((conv => whnf); first | apply And.intro | exact ⟨by kernel_rfl⟩ | apply DrawN.mk | apply CodeN.step hm rfl | exact trivial | exact rfl | (intro hh; try simp only [bs] at hh))); all_goals (conv => whnf)
          all_goals first | (exfalso; omega) | skip
          all_goals (try simp only [ew2, g5])
          all_goals first | (refine Ob.mk ?_; first | decide | omega | (simp only []; omega)) | skip
          · refine Ob.mk ⟨trivial, ?_, ?_⟩
            · show i + 1 + 1 ≤ _
              omega
            · show (i + 1 + 1) * 8 ≤ _
              omega
          refine ⟨i + 2, [0, 1, 2, 3, 4], ⟨rfl, rfl, ?_, ?_⟩, h0, by omega⟩
          · (repeat' ((conv => whnf) <;> first | exact rfl | exact trivial | apply And.intro | exact Nat.zero_add _)); all_goals ((conv => whnf); try simp only [])
            rw [List.take_of_length_le (by rw [sumsO_len]; exact Nat.le_refl _)]
            exact hsucc.symm
          · (repeat' ((conv => whnf) <;> first | exact rfl | exact trivial | apply And.intro | exact Nat.zero_add _)); all_goals ((conv => whnf); try simp only [])
            exact wr (by omega)
      · have e0 : n1 = i := by omega
        cases i with
        | zero =>
          (repeat' ((conv => whnf); first | apply And.intro | exact ⟨by kernel_rfl⟩ | apply DrawN.mk | apply CodeN.step hm rfl | exact trivial | exact rfl | (intro hh; try simp only [bs] at hh))); all_goals (conv => whnf)
          all_goals first | (exfalso; omega) | skip
          all_goals
            refine ⟨0, [0, 1, 2, 3], ⟨rfl, rfl, ?_, ?_⟩, by rw [if_pos k, e0]⟩
          all_goals
            (repeat' ((conv => whnf) <;> first | exact rfl | exact trivial | apply And.intro | exact Nat.zero_add _))
        | succ i =>
          (repeat' ((conv => whnf); first | apply And.intro | exact ⟨by kernel_rfl⟩ | apply DrawN.mk | apply CodeN.step hm rfl | exact trivial | exact rfl | (intro hh; try simp only [bs] at hh))); all_goals (conv => whnf)
          all_goals first | (exfalso; omega) | skip
          all_goals
            refine ⟨i + 1, [0, 1, 2, 3, 4], ⟨rfl, rfl, ?_, ?_⟩, by rw [if_pos k, e0]⟩
          all_goals
            (repeat' ((conv => whnf) <;> first | exact rfl | exact trivial | apply And.intro | exact Nat.zero_add _))
    · rw [← hn] at hcs
      have hnl : n ≤ 16 := by rw [hn]; split <;> omega
      clear hn hn1
      cases n with
      | zero =>
        (repeat' ((conv => whnf); first | apply And.intro | exact ⟨by kernel_rfl⟩ | apply DrawN.mk | apply CodeN.step hm rfl | exact trivial | exact rfl | (intro hh; try simp only [bs] at hh))); all_goals (conv => whnf)
        all_goals first | (exact Ob.mk (by decide)) | skip
        generalize hn2 : (min (d.getD 18 0) 16).toNat = n2
        have h18 := hdb 18
        have hcell : cellOf p d = (d.getD 0 0, d.getD 1 0, [], hitsO d n2) := by
          unfold cellOf hitsO
          rw [hcs, hn2]
          try rfl
        rw [hcell] at hU
        have huy : mayC p (d.getD 0 0, d.getD 1 0, [], hitsO d n2) = true → wordsOf 19 (packC (d.getD 0 0, d.getD 1 0, [], hitsO d n2)) = w → unpackC p w = ((d.getD 0 0, d.getD 1 0, [], hitsO d n2), true) := fun h1 h2 => hU.trans (if_pos ⟨h1, h2⟩)
        have hun : ¬ (mayC p (d.getD 0 0, d.getD 1 0, [], hitsO d n2) = true ∧ wordsOf 19 (packC (d.getD 0 0, d.getD 1 0, [], hitsO d n2)) = w) → unpackC p w = ((0, 0, [], []), false) := fun h => hU.trans (if_neg h)
        have hlev : -9223372036854775808 ≤ d.getD 1 0 ∧ d.getD 1 0 ≤ 9223372036854775807 := by have := hdb 1; omega
        refine LoopN.intro hm (X := Nat) (fun i => i ≤ n2) (fun i => n2 - i)
          (fun i => [(14, .int .i64 fun _ => (i : Int)), (12, .ptr 3 0), (7, .vec 2 1 (fun _ => 0) fun _ => 51), (4, .ptr 1 0), (2, .ptr 0 0), (1, .lst (.int .u64) fun _ => w)])
          (fun i => match i with
            | 0 => [.cells 23 [.int .i64 fun _ => p.1, .int .i64 fun _ => p.2.1, .int .i64 fun _ => p.2.2.1, .int .i64 fun _ => p.2.2.2], .cells 27 [.int .i64 fun _ => 0, .int .i64 fun _ => 0, .snil, .snil], .vect 47 (.int .u64) fun _ => d, .cells 27 [.int .i64 fun _ => d.getD 0 0, .int .i64 fun _ => d.getD 1 0, .snil, .snil]]
            | k + 1 => [.cells 23 [.int .i64 fun _ => p.1, .int .i64 fun _ => p.2.1, .int .i64 fun _ => p.2.2.1, .int .i64 fun _ => p.2.2.2], .cells 27 [.int .i64 fun _ => 0, .int .i64 fun _ => 0, .snil, .snil], .vect 47 (.int .u64) fun _ => d, .cells 27 [.int .i64 fun _ => d.getD 0 0, .int .i64 fun _ => d.getD 1 0, .snil, .vec 4 2 (fun _ => 0) fun _ => k + 1], .vect 52 HitT fun _ => hitsO d (k + 1)]) 0 [0, 1, 2, 3] ⟨rfl, rfl, ?_, ?_⟩ (Nat.zero_le _) (fun i hi => ?_)
        · (repeat' ((conv => whnf) <;> first | exact rfl | exact trivial | apply And.intro | exact Nat.zero_add _)); all_goals ((conv => whnf); try simp only [])
          all_goals exact rfl
        · (repeat' ((conv => whnf) <;> first | exact rfl | exact trivial | apply And.intro | exact Nat.zero_add _))
        have w2 : IntKind.i64.wrap (2 * (i : Int)) = 2 * i := wr (by omega)
        have w3 : IntKind.i64.wrap (19 + 2 * (i : Int)) = 19 + 2 * i := wr (by omega)
        have w4 : IntKind.i64.wrap (20 + 2 * (i : Int)) = 20 + 2 * i := wr (by omega)
        have g3 : IntKind.i64.wrap (d.getD (0 + (19 + 2 * (i : Int)).toNat) (Ty.int .u64).dflt) = d.getD (19 + 2 * i) 0 := by
          rw [show 0 + (19 + 2 * (i : Int)).toNat = 19 + 2 * i by omega]; exact hwrap _
        have g4 : IntKind.i64.wrap (d.getD (0 + (20 + 2 * (i : Int)).toNat) (Ty.int .u64).dflt) = d.getD (20 + 2 * i) 0 := by
          rw [show 0 + (20 + 2 * (i : Int)).toNat = 20 + 2 * i by omega]; exact hwrap _
        have hsucc := hitsO_succ d i
        by_cases h0 : i < n2
        · cases i with
          | zero =>
            (repeat' ((conv => whnf); first | apply And.intro | exact ⟨by kernel_rfl⟩ | apply DrawN.mk | apply CodeN.step hm rfl | exact trivial | exact rfl | (intro hh; try simp only [bs] at hh))); all_goals (conv => whnf)
            all_goals (try simp only [w2, w3, w4, g3, g4, g18] at hh ⊢)
            all_goals first | (exfalso; omega) | (exfalso; simp only [g18] at *; omega) | skip
            all_goals first | (refine Ob.mk ?_; first | decide | omega | (simp only []; omega)) | skip
            · refine Ob.mk ?_
              show (1 : Nat) * 16 ≤ _
              decide
            refine ⟨1, [0, 1, 2, 3, 5], ⟨rfl, rfl, ?_, ?_⟩, h0, by omega⟩
            · (repeat' ((conv => whnf) <;> first | exact rfl | exact trivial | apply And.intro | exact Nat.zero_add _))
            · (repeat' ((conv => whnf) <;> first | exact rfl | exact trivial | apply And.intro | exact Nat.zero_add _))
          | succ i =>
            (repeat' ((conv => whnf); first | apply And.intro | exact ⟨by kernel_rfl⟩ | apply DrawN.mk | apply CodeN.step hm rfl | exact trivial | exact rfl | (intro hh; try simp only [bs] at hh))); all_goals (conv => whnf)
            all_goals (try simp only [w2, w3, w4, g3, g4, g18] at hh ⊢)
            all_goals first | (exfalso; omega) | (exfalso; simp only [g18] at *; omega) | skip
            all_goals first | (refine Ob.mk ?_; first | decide | omega | (simp only []; omega)) | skip
            · refine Ob.mk ⟨trivial, ?_, ?_⟩
              · show i + 1 + 1 ≤ _
                omega
              · show (i + 1 + 1) * 16 ≤ _
                omega
            refine ⟨i + 2, [0, 1, 2, 3, 4], ⟨rfl, rfl, ?_, ?_⟩, h0, by omega⟩
            · (repeat' ((conv => whnf) <;> first | exact rfl | exact trivial | apply And.intro | exact Nat.zero_add _)); all_goals ((conv => whnf); try simp only [])
              rw [List.take_of_length_le (by rw [hitsO_len]; exact Nat.le_refl _)]
              exact hsucc.symm
            · (repeat' ((conv => whnf) <;> first | exact rfl | exact trivial | apply And.intro | exact Nat.zero_add _)); all_goals ((conv => whnf); try simp only [])
              exact wr (by omega)
        · have e0 : n2 = i := by omega
          subst e0
          cases n2 with
          | zero =>
            (repeat' ((conv => whnf); first | apply And.intro | exact ⟨by kernel_rfl⟩ | apply DrawN.mk | apply CodeN.step hm rfl | exact trivial | exact rfl | (intro hh; try simp only [bs] at hh))); all_goals (conv => whnf)
            all_goals (try simp only [g18] at hh ⊢)
            all_goals first | (exfalso; omega) | (exfalso; simp only [g18] at *; omega) | skip
            all_goals first | (refine Ob.mk ?_; first | decide | omega | (simp only []; omega)) | skip
            by_cases hm2 : mayC p (d.getD 0 0, d.getD 1 0, [], hitsO d 0) = true
            · have MP := r14pack p _ hm2
              have MQ := usameM (wordsOf 19 (packC (d.getD 0 0, d.getD 1 0, [], hitsO d 0))) w (by rw [words_len]; decide) (by omega)
              (refine CallN.q MP [] (fun _ _ => ?_); (repeat' ((conv => whnf); first | apply And.intro | exact ⟨by kernel_rfl⟩ | apply DrawN.mk | apply CodeN.step hm rfl | exact trivial | exact rfl | (intro hh; try simp only [bs] at hh; try exact absurd hh (by decide)))); all_goals (conv => whnf); all_goals try exact ⟨by decide⟩)
              (refine CallN.q MQ [] (fun _ _ => ?_); (repeat' ((conv => whnf); first | apply And.intro | exact ⟨by kernel_rfl⟩ | apply DrawN.mk | apply CodeN.step hm rfl | exact trivial | exact rfl | (intro hh; try simp only [bs] at hh; try exact absurd hh (by decide)))); all_goals (conv => whnf); all_goals try exact ⟨by decide⟩)
              · rw [hun (fun h => hh h.2)]
                (refine RetN.q () [] ?_ ?_ ?_ <;> (repeat' ((conv => whnf) <;> first | exact rfl | exact trivial | apply And.intro | exact Nat.zero_add _)); all_goals ((conv => whnf); try simp only []))
              · rw [huy hm2 hh]
                (refine RetN.q () [] ?_ ?_ ?_ <;> (repeat' ((conv => whnf) <;> first | exact rfl | exact trivial | apply And.intro | exact Nat.zero_add _)); all_goals ((conv => whnf); try simp only []))
            · have MP := r14pack_no p _ hlev (by simp) (by simp only [hitsO_len]; omega) (Bool.eq_false_iff.2 hm2)
              (refine CallN.q MP [] (fun _ _ => ?_); (repeat' ((conv => whnf); first | apply And.intro | exact ⟨by kernel_rfl⟩ | apply DrawN.mk | apply CodeN.step hm rfl | exact trivial | exact rfl | (intro hh; try simp only [bs] at hh; try exact absurd hh (by decide)))); all_goals (conv => whnf); all_goals try exact ⟨by decide⟩)
              rw [hun (fun h => hm2 h.1)]
              (refine RetN.q () [] ?_ ?_ ?_ <;> (repeat' ((conv => whnf) <;> first | exact rfl | exact trivial | apply And.intro | exact Nat.zero_add _)); all_goals ((conv => whnf); try simp only []))
          | succ i =>
            (repeat' ((conv => whnf); first | apply And.intro | exact ⟨by kernel_rfl⟩ | apply DrawN.mk | apply CodeN.step hm rfl | exact trivial | exact rfl | (intro hh; try simp only [bs] at hh))); all_goals (conv => whnf)
            all_goals (try simp only [g18] at hh ⊢)
            all_goals first | (exfalso; omega) | (exfalso; simp only [g18] at *; omega) | skip
            all_goals first | (refine Ob.mk ?_; first | decide | omega | (simp only []; omega)) | skip
            all_goals
              have et : List.take (i + 1) (List.drop 0 (hitsO d (i + 1))) = hitsO d (i + 1) := by
                rw [List.drop_zero]; exact List.take_of_length_le (by rw [hitsO_len]; exact Nat.le_refl _)
            all_goals
              by_cases hm2 : mayC p (d.getD 0 0, d.getD 1 0, [], hitsO d (i + 1)) = true
              · have MP := r14pack p _ hm2
                have MQ := usameM (wordsOf 19 (packC (d.getD 0 0, d.getD 1 0, [], hitsO d (i + 1)))) w (by rw [words_len]; decide) (by omega)
                refine CallN.frz 4 ?_ MP.callable
                (conv => whnf)
                refine CallN.intro MP [] rfl rfl ?_ ?_ (fun _ _ => ?_)
                · (repeat' ((conv => whnf) <;> first | exact rfl | exact trivial | apply And.intro | exact Nat.zero_add _)); all_goals ((conv => whnf); try simp only [])
                  exact et
                · (repeat' ((conv => whnf) <;> first | exact rfl | exact trivial | apply And.intro | exact Nat.zero_add _))
                (repeat' ((conv => whnf); first | apply And.intro | exact ⟨by kernel_rfl⟩ | apply DrawN.mk | apply CodeN.step hm rfl | exact trivial | exact rfl | (intro hh; try simp only [bs] at hh; try exact absurd hh (by decide)))); all_goals (conv => whnf)
                (refine CallN.q MQ [] (fun _ _ => ?_); (repeat' ((conv => whnf); first | apply And.intro | exact ⟨by kernel_rfl⟩ | apply DrawN.mk | apply CodeN.step hm rfl | exact trivial | exact rfl | (intro hh; try simp only [bs] at hh; try exact absurd hh (by decide)))); all_goals (conv => whnf); all_goals try exact ⟨by decide⟩)
                · rw [hun (fun h => hh h.2)]
                  (refine RetN.q () [] ?_ ?_ ?_ <;> (repeat' ((conv => whnf) <;> first | exact rfl | exact trivial | apply And.intro | exact Nat.zero_add _)); all_goals ((conv => whnf); try simp only []))
                · rw [huy hm2 hh]
                  (refine RetN.q () [] ?_ ?_ ?_ <;> (repeat' ((conv => whnf) <;> first | exact rfl | exact trivial | apply And.intro | exact Nat.zero_add _)); all_goals ((conv => whnf); try simp only []))
                  all_goals exact et
              · have MP := r14pack_no p _ hlev (by simp) (by simp only [hitsO_len]; omega) (Bool.eq_false_iff.2 hm2)
                refine CallN.frz 4 ?_ MP.callable
                (conv => whnf)
                refine CallN.intro MP [] rfl rfl ?_ ?_ (fun _ _ => ?_)
                · (repeat' ((conv => whnf) <;> first | exact rfl | exact trivial | apply And.intro | exact Nat.zero_add _)); all_goals ((conv => whnf); try simp only [])
                  exact et
                · (repeat' ((conv => whnf) <;> first | exact rfl | exact trivial | apply And.intro | exact Nat.zero_add _))
                (repeat' ((conv => whnf); first | apply And.intro | exact ⟨by kernel_rfl⟩ | apply DrawN.mk | apply CodeN.step hm rfl | exact trivial | exact rfl | (intro hh; try simp only [bs] at hh; try exact absurd hh (by decide)))); all_goals (conv => whnf)
                rw [hun (fun h => hm2 h.1)]
                (refine RetN.q () [] ?_ ?_ ?_ <;> (repeat' ((conv => whnf) <;> first | exact rfl | exact trivial | apply And.intro | exact Nat.zero_add _)); all_goals ((conv => whnf); try simp only []))
      | succ i =>
        have het : List.take (i + 1) (List.drop 0 (sumsO d (i + 1))) = sumsO d (i + 1) := by
          rw [List.drop_zero]; exact List.take_of_length_le (by rw [sumsO_len]; exact Nat.le_refl _)
        (repeat' ((conv => whnf); first | apply And.intro | exact ⟨by kernel_rfl⟩ | apply DrawN.mk | apply CodeN.step hm rfl | exact trivial | exact rfl | (intro hh; try simp only [bs] at hh))); all_goals (conv => whnf)
        all_goals first | (exact Ob.mk (by decide)) | skip
        refine loop_frz 4 ?_
        (conv => whnf)
        generalize i + 1 = n3 at *
        generalize hn2 : (min (d.getD 18 0) 16).toNat = n2
        have h18 := hdb 18
        have hcell : cellOf p d = (d.getD 0 0, d.getD 1 0, sumsO d n3, hitsO d n2) := by
          unfold cellOf hitsO
          rw [hcs, hn2]
          try rfl
        rw [hcell] at hU
        have huy : mayC p (d.getD 0 0, d.getD 1 0, sumsO d n3, hitsO d n2) = true → wordsOf 19 (packC (d.getD 0 0, d.getD 1 0, sumsO d n3, hitsO d n2)) = w → unpackC p w = ((d.getD 0 0, d.getD 1 0, sumsO d n3, hitsO d n2), true) := fun h1 h2 => hU.trans (if_pos ⟨h1, h2⟩)
        have hun : ¬ (mayC p (d.getD 0 0, d.getD 1 0, sumsO d n3, hitsO d n2) = true ∧ wordsOf 19 (packC (d.getD 0 0, d.getD 1 0, sumsO d n3, hitsO d n2)) = w) → unpackC p w = ((0, 0, [], []), false) := fun h => hU.trans (if_neg h)
        have hlev : -9223372036854775808 ≤ d.getD 1 0 ∧ d.getD 1 0 ≤ 9223372036854775807 := by have := hdb 1; omega
        refine LoopN.intro hm (X := Nat) (fun i => i ≤ n2) (fun i => n2 - i)
          (fun i => [(14, .int .i64 fun _ => (i : Int)), (12, .ptr 3 0), (7, .vec 2 1 (fun _ => 0) fun _ => 51), (4, .ptr 1 0), (2, .ptr 0 0), (1, .lst (.int .u64) fun _ => w)])
          (fun i => match i with
            | 0 => [.cells 23 [.int .i64 fun _ => p.1, .int .i64 fun _ => p.2.1, .int .i64 fun _ => p.2.2.1, .int .i64 fun _ => p.2.2.2], .cells 27 [.int .i64 fun _ => 0, .int .i64 fun _ => 0, .snil, .snil], .vect 47 (.int .u64) fun _ => d, .cells 27 [.int .i64 fun _ => d.getD 0 0, .int .i64 fun _ => d.getD 1 0, .lst (.int .i64) fun _ => sumsO d n3, .snil]]
            | k + 1 => [.cells 23 [.int .i64 fun _ => p.1, .int .i64 fun _ => p.2.1, .int .i64 fun _ => p.2.2.1, .int .i64 fun _ => p.2.2.2], .cells 27 [.int .i64 fun _ => 0, .int .i64 fun _ => 0, .snil, .snil], .vect 47 (.int .u64) fun _ => d, .cells 27 [.int .i64 fun _ => d.getD 0 0, .int .i64 fun _ => d.getD 1 0, .lst (.int .i64) fun _ => sumsO d n3, .vec 4 2 (fun _ => 0) fun _ => k + 1], .vect 52 HitT fun _ => hitsO d (k + 1)]) 0 [0, 1, 2, 3] ⟨rfl, rfl, ?_, ?_⟩ (Nat.zero_le _) (fun i hi => ?_)
        · (repeat' ((conv => whnf) <;> first | exact rfl | exact trivial | apply And.intro | exact Nat.zero_add _)); all_goals ((conv => whnf); try simp only [])
          all_goals exact het
        · (repeat' ((conv => whnf) <;> first | exact rfl | exact trivial | apply And.intro | exact Nat.zero_add _))
        have w2 : IntKind.i64.wrap (2 * (i : Int)) = 2 * i := wr (by omega)
        have w3 : IntKind.i64.wrap (19 + 2 * (i : Int)) = 19 + 2 * i := wr (by omega)
        have w4 : IntKind.i64.wrap (20 + 2 * (i : Int)) = 20 + 2 * i := wr (by omega)
        have g3 : IntKind.i64.wrap (d.getD (0 + (19 + 2 * (i : Int)).toNat) (Ty.int .u64).dflt) = d.getD (19 + 2 * i) 0 := by
          rw [show 0 + (19 + 2 * (i : Int)).toNat = 19 + 2 * i by omega]; exact hwrap _
        have g4 : IntKind.i64.wrap (d.getD (0 + (20 + 2 * (i : Int)).toNat) (Ty.int .u64).dflt) = d.getD (20 + 2 * i) 0 := by
          rw [show 0 + (20 + 2 * (i : Int)).toNat = 20 + 2 * i by omega]; exact hwrap _
        have hsucc := hitsO_succ d i
        by_cases h0 : i < n2
        · cases i with
          | zero =>
            (repeat' ((conv => whnf); first | apply And.intro | exact ⟨by kernel_rfl⟩ | apply DrawN.mk | apply CodeN.step hm rfl | exact trivial | exact rfl | (intro hh; try simp only [bs] at hh))); all_goals (conv => whnf)
            all_goals (try simp only [w2, w3, w4, g3, g4, g18] at hh ⊢)
            all_goals first | (exfalso; omega) | (exfalso; simp only [g18] at *; omega) | skip
            all_goals first | (refine Ob.mk ?_; first | decide | omega | (simp only []; omega)) | skip
            · refine Ob.mk ?_
              show (1 : Nat) * 16 ≤ _
              decide
            refine ⟨1, [0, 1, 2, 3, 5], ⟨rfl, rfl, ?_, ?_⟩, h0, by omega⟩
            · (repeat' ((conv => whnf) <;> first | exact rfl | exact trivial | apply And.intro | exact Nat.zero_add _))
            · (repeat' ((conv => whnf) <;> first | exact rfl | exact trivial | apply And.intro | exact Nat.zero_add _))
          | succ i =>
            (repeat' ((conv => whnf); first | apply And.intro | exact ⟨by kernel_rfl⟩ | apply DrawN.mk | apply CodeN.step hm rfl | exact trivial | exact rfl | (intro hh; try simp only [bs] at hh))); all_goals (conv => whnf)
            all_goals (try simp only [w2, w3, w4, g3, g4, g18] at hh ⊢)
            all_goals first | (exfalso; omega) | (exfalso; simp only [g18] at *; omega) | skip
            all_goals first | (refine Ob.mk ?_; first | decide | omega | (simp only []; omega)) | skip
            · refine Ob.mk ⟨trivial, ?_, ?_⟩
              · show i + 1 + 1 ≤ _
                omega
              · show (i + 1 + 1) * 16 ≤ _
                omega
            refine ⟨i + 2, [0, 1, 2, 3, 4], ⟨rfl, rfl, ?_, ?_⟩, h0, by omega⟩
            · (repeat' ((conv => whnf) <;> first | exact rfl | exact trivial | apply And.intro | exact Nat.zero_add _)); all_goals ((conv => whnf); try simp only [])
              rw [List.take_of_length_le (by rw [hitsO_len]; exact Nat.le_refl _)]
              exact hsucc.symm
            · (repeat' ((conv => whnf) <;> first | exact rfl | exact trivial | apply And.intro | exact Nat.zero_add _)); all_goals ((conv => whnf); try simp only [])
              exact wr (by omega)
        · have e0 : n2 = i := by omega
          subst e0
          cases n2 with
          | zero =>
            (repeat' ((conv => whnf); first | apply And.intro | exact ⟨by kernel_rfl⟩ | apply DrawN.mk | apply CodeN.step hm rfl | exact trivial | exact rfl | (intro hh; try simp only [bs] at hh))); all_goals (conv => whnf)
            all_goals (try simp only [g18] at hh ⊢)
            all_goals first | (exfalso; omega) | (exfalso; simp only [g18] at *; omega) | skip
            all_goals first | (refine Ob.mk ?_; first | decide | omega | (simp only []; omega)) | skip
            by_cases hm2 : mayC p (d.getD 0 0, d.getD 1 0, sumsO d n3, hitsO d 0) = true
            · have MP := r14pack p _ hm2
              have MQ := usameM (wordsOf 19 (packC (d.getD 0 0, d.getD 1 0, sumsO d n3, hitsO d 0))) w (by rw [words_len]; decide) (by omega)
              (refine CallN.q MP [] (fun _ _ => ?_); (repeat' ((conv => whnf); first | apply And.intro | exact ⟨by kernel_rfl⟩ | apply DrawN.mk | apply CodeN.step hm rfl | exact trivial | exact rfl | (intro hh; try simp only [bs] at hh; try exact absurd hh (by decide)))); all_goals (conv => whnf); all_goals try exact ⟨by decide⟩)
              (refine CallN.q MQ [] (fun _ _ => ?_); (repeat' ((conv => whnf); first | apply And.intro | exact ⟨by kernel_rfl⟩ | apply DrawN.mk | apply CodeN.step hm rfl | exact trivial | exact rfl | (intro hh; try simp only [bs] at hh; try exact absurd hh (by decide)))); all_goals (conv => whnf); all_goals try exact ⟨by decide⟩)
              · rw [hun (fun h => hh h.2)]
                (refine RetN.q () [] ?_ ?_ ?_ <;> (repeat' ((conv => whnf) <;> first | exact rfl | exact trivial | apply And.intro | exact Nat.zero_add _)); all_goals ((conv => whnf); try simp only []))
              · rw [huy hm2 hh]
                (refine RetN.q () [] ?_ ?_ ?_ <;> (repeat' ((conv => whnf) <;> first | exact rfl | exact trivial | apply And.intro | exact Nat.zero_add _)); all_goals ((conv => whnf); try simp only []))
            · have MP := r14pack_no p _ hlev (by simp only [sumsO_len]; omega) (by simp only [hitsO_len]; omega) (Bool.eq_false_iff.2 hm2)
              (refine CallN.q MP [] (fun _ _ => ?_); (repeat' ((conv => whnf); first | apply And.intro | exact ⟨by kernel_rfl⟩ | apply DrawN.mk | apply CodeN.step hm rfl | exact trivial | exact rfl | (intro hh; try simp only [bs] at hh; try exact absurd hh (by decide)))); all_goals (conv => whnf); all_goals try exact ⟨by decide⟩)
              rw [hun (fun h => hm2 h.1)]
              (refine RetN.q () [] ?_ ?_ ?_ <;> (repeat' ((conv => whnf) <;> first | exact rfl | exact trivial | apply And.intro | exact Nat.zero_add _)); all_goals ((conv => whnf); try simp only []))
          | succ i =>
            (repeat' ((conv => whnf); first | apply And.intro | exact ⟨by kernel_rfl⟩ | apply DrawN.mk | apply CodeN.step hm rfl | exact trivial | exact rfl | (intro hh; try simp only [bs] at hh))); all_goals (conv => whnf)
            all_goals (try simp only [g18] at hh ⊢)
            all_goals first | (exfalso; omega) | (exfalso; simp only [g18] at *; omega) | skip
            all_goals first | (refine Ob.mk ?_; first | decide | omega | (simp only []; omega)) | skip
            all_goals
              have et : List.take (i + 1) (List.drop 0 (hitsO d (i + 1))) = hitsO d (i + 1) := by
                rw [List.drop_zero]; exact List.take_of_length_le (by rw [hitsO_len]; exact Nat.le_refl _)
            all_goals
              by_cases hm2 : mayC p (d.getD 0 0, d.getD 1 0, sumsO d n3, hitsO d (i + 1)) = true
              · have MP := r14pack p _ hm2
                have MQ := usameM (wordsOf 19 (packC (d.getD 0 0, d.getD 1 0, sumsO d n3, hitsO d (i + 1)))) w (by rw [words_len]; decide) (by omega)
                refine CallN.frz 4 ?_ MP.callable
                (conv => whnf)
                refine CallN.intro MP [] rfl rfl ?_ ?_ (fun _ _ => ?_)
                · (repeat' ((conv => whnf) <;> first | exact rfl | exact trivial | apply And.intro | exact Nat.zero_add _)); all_goals ((conv => whnf); try simp only [])
                  exact et
                · (repeat' ((conv => whnf) <;> first | exact rfl | exact trivial | apply And.intro | exact Nat.zero_add _))
                (repeat' ((conv => whnf); first | apply And.intro | exact ⟨by kernel_rfl⟩ | apply DrawN.mk | apply CodeN.step hm rfl | exact trivial | exact rfl | (intro hh; try simp only [bs] at hh; try exact absurd hh (by decide)))); all_goals (conv => whnf)
                (refine CallN.q MQ [] (fun _ _ => ?_); (repeat' ((conv => whnf); first | apply And.intro | exact ⟨by kernel_rfl⟩ | apply DrawN.mk | apply CodeN.step hm rfl | exact trivial | exact rfl | (intro hh; try simp only [bs] at hh; try exact absurd hh (by decide)))); all_goals (conv => whnf); all_goals try exact ⟨by decide⟩)
                · rw [hun (fun h => hh h.2)]
                  (refine RetN.q () [] ?_ ?_ ?_ <;> (repeat' ((conv => whnf) <;> first | exact rfl | exact trivial | apply And.intro | exact Nat.zero_add _)); all_goals ((conv => whnf); try simp only []))
                · rw [huy hm2 hh]
                  (refine RetN.q () [] ?_ ?_ ?_ <;> (repeat' ((conv => whnf) <;> first | exact rfl | exact trivial | apply And.intro | exact Nat.zero_add _)); all_goals ((conv => whnf); try simp only []))
                  all_goals exact et
              · have MP := r14pack_no p _ hlev (by simp only [sumsO_len]; omega) (by simp only [hitsO_len]; omega) (Bool.eq_false_iff.2 hm2)
                refine CallN.frz 4 ?_ MP.callable
                (conv => whnf)
                refine CallN.intro MP [] rfl rfl ?_ ?_ (fun _ _ => ?_)
                · (repeat' ((conv => whnf) <;> first | exact rfl | exact trivial | apply And.intro | exact Nat.zero_add _)); all_goals ((conv => whnf); try simp only [])
                  exact et
                · (repeat' ((conv => whnf) <;> first | exact rfl | exact trivial | apply And.intro | exact Nat.zero_add _))
                (repeat' ((conv => whnf); first | apply And.intro | exact ⟨by kernel_rfl⟩ | apply DrawN.mk | apply CodeN.step hm rfl | exact trivial | exact rfl | (intro hh; try simp only [bs] at hh; try exact absurd hh (by decide)))); all_goals (conv => whnf)
                rw [hun (fun h => hm2 h.1)]
                (refine RetN.q () [] ?_ ?_ ?_ <;> (repeat' ((conv => whnf) <;> first | exact rfl | exact trivial | apply And.intro | exact Nat.zero_add _)); all_goals ((conv => whnf); try simp only []))
theorem r14packG (p : Pol) (c : Cell) (hc : -9223372036854775808 ≤ c.2.1 ∧ c.2.1 ≤ 9223372036854775807) (h1 : c.2.2.1.length ≤ 40) (h2 : c.2.2.2.length ≤ 40) : Meets Tryz.prog 17 [polAV p, cellAV c] [] (Y := Unit) (fun _ => True) (fun _ => .tup [.lst (.int .u64) fun _ => packL p c, .bool fun _ => mayC p c]) (fun _ => []) := by
  unfold packL
  by_cases h : mayC p c = true
  · rw [h]
    exact (r14pack p c h).le [] rfl rfl (fun _ _ => ⟨(), trivial, by (repeat' ((conv => whnf) <;> first | exact rfl | exact trivial | apply And.intro | exact Nat.zero_add _)), by (repeat' ((conv => whnf) <;> first | exact rfl | exact trivial | apply And.intro | exact Nat.zero_add _))⟩)
  · rw [Bool.eq_false_iff.2 h]
    exact (r14pack_no p c hc h1 h2 (Bool.eq_false_iff.2 h)).le [] rfl rfl (fun _ _ => ⟨(), trivial, by (repeat' ((conv => whnf) <;> first | exact rfl | exact trivial | apply And.intro | exact Nat.zero_add _)), by (repeat' ((conv => whnf) <;> first | exact rfl | exact trivial | apply And.intro | exact Nat.zero_add _))⟩)
theorem r14unpackG (p : Pol) (w : List Int) (hw : Wd w) : Meets Tryz.prog 19 [polAV p, .lst (.int .u64) fun _ => w] [] (Y := Unit) (fun _ => True) (fun _ => .tup [cellAV (unpackC p w).1, .bool fun _ => (unpackC p w).2]) (fun _ => []) := by
  by_cases h19 : w.length = 19
  · exact r14unpack p w hw h19
  · have eU : unpackC p w = ((0, 0, [], []), false) := if_neg fun h => h19 h.1
    rw [eU]
    exact (r14unpack_no p w h19).le [] rfl rfl (fun _ _ => ⟨(), trivial, by (repeat' ((conv => whnf) <;> first | exact rfl | exact trivial | apply And.intro | exact Nat.zero_add _)), by (repeat' ((conv => whnf) <;> first | exact rfl | exact trivial | apply And.intro | exact Nat.zero_add _))⟩)
theorem packL_len (p : Pol) (c : Cell) : (packL p c).length ≤ 19 := by
  unfold packL
  split
  · rw [words_len]; exact Nat.le_refl _
  · decide
theorem unpack_few (p : Pol) (w : List Int) : (unpackC p w).1.2.2.1.length ≤ 16 ∧ (unpackC p w).1.2.2.2.length ≤ 16 := by
  by_cases h : (unpackC p w).2 = true
  · have := may_packs (unpack_back h).1
    exact ⟨this.slen, this.hlen⟩
  · unfold unpackC at h ⊢
    split
    · rename_i hh
      rw [if_pos hh] at h
      exact absurd rfl h
    · decide
set_option maxHeartbeats 4000000 in
set_option maxRecDepth 4000 in
theorem packsLawM (p : Pol) (c : Cell) (w : List Int) (hc : -9223372036854775808 ≤ c.2.1 ∧ c.2.1 ≤ 9223372036854775807) (hw : Wd w) : Meets Tryz.prog 4 [polAV p, cellAV c, .lst (.int .u64) fun _ => w] [] (Y := Unit) (fun _ => True) (fun _ => .tt) (fun _ => []) := by
  refine Meets.intro hm (fn := Tryz.f4) Tryz.func4 rfl (by decide) (Nat.le_of_ble_eq_true rfl) (fun _ => rfl) ?_; intro S hok; (conv => whnf)
  (repeat' ((conv => whnf); first | apply And.intro | exact ⟨by kernel_rfl⟩ | apply DrawN.mk | apply CodeN.step hm rfl | exact trivial | exact rfl | (intro hh; try simp only [bs] at hh))); all_goals (conv => whnf)
  (refine CallN.q (fewM c) [] (fun _ _ => ?_); (repeat' ((conv => whnf); first | apply And.intro | exact ⟨by kernel_rfl⟩ | apply DrawN.mk | apply CodeN.step hm rfl | exact trivial | exact rfl | (intro hh; try simp only [bs] at hh; try exact absurd hh (by decide)))); all_goals (conv => whnf); all_goals try exact ⟨by decide⟩)
  · (refine CallN.q liveM [] (fun _ _ => ?_); (repeat' ((conv => whnf); first | apply And.intro | exact ⟨by kernel_rfl⟩ | apply DrawN.mk | apply CodeN.step hm rfl | exact trivial | exact rfl | (intro hh; try simp only [bs] at hh; try exact absurd hh (by decide)))); all_goals (conv => whnf); all_goals try exact ⟨by decide⟩)
    (refine RetN.q () [] ?_ ?_ ?_ <;> (repeat' ((conv => whnf) <;> first | exact rfl | exact trivial | apply And.intro | exact Nat.zero_add _)); all_goals ((conv => whnf); try simp only []))
  rotate_left
  · (refine CallN.q liveM [] (fun _ _ => ?_); (repeat' ((conv => whnf); first | apply And.intro | exact ⟨by kernel_rfl⟩ | apply DrawN.mk | apply CodeN.step hm rfl | exact trivial | exact rfl | (intro hh; try simp only [bs] at hh; try exact absurd hh (by decide)))); all_goals (conv => whnf); all_goals try exact ⟨by decide⟩)
    (refine RetN.q () [] ?_ ?_ ?_ <;> (repeat' ((conv => whnf) <;> first | exact rfl | exact trivial | apply And.intro | exact Nat.zero_add _)); all_goals ((conv => whnf); try simp only []))
  obtain ⟨h40, h41⟩ := few_len (by assumption)
  have hpl := packL_len p c
  have hul := unpack_few p w
  have S1 := usameM (packL p c) (packL p c) (by omega) (by omega)
  rw [decide_eq_true rfl] at S1
  have S2 := csameM (unpackC p w).1 (unpackC p w).1 (by omega) (by omega) (by omega) (by omega)
  rw [decide_eq_true rfl] at S2
  (refine CallN.q (cpackG p c hc) [] (fun _ _ => ?_); (repeat' ((conv => whnf); first | apply And.intro | exact ⟨by kernel_rfl⟩ | apply DrawN.mk | apply CodeN.step hm rfl | exact trivial | exact rfl | (intro hh; try simp only [bs] at hh; try exact absurd hh (by decide)))); all_goals (conv => whnf); all_goals try exact ⟨by decide⟩)
  (refine CallN.q (r14packG p c hc h40 h41) [] (fun _ _ => ?_); (repeat' ((conv => whnf); first | apply And.intro | exact ⟨by kernel_rfl⟩ | apply DrawN.mk | apply CodeN.step hm rfl | exact trivial | exact rfl | (intro hh; try simp only [bs] at hh; try exact absurd hh (by decide)))); all_goals (conv => whnf); all_goals try exact ⟨by decide⟩)
  (refine CallN.q (cunpackM p w hw (by omega)) [] (fun _ _ => ?_); (repeat' ((conv => whnf); first | apply And.intro | exact ⟨by kernel_rfl⟩ | apply DrawN.mk | apply CodeN.step hm rfl | exact trivial | exact rfl | (intro hh; try simp only [bs] at hh; try exact absurd hh (by decide)))); all_goals (conv => whnf); all_goals try exact ⟨by decide⟩)
  (refine CallN.q (r14unpackG p w hw) [] (fun _ _ => ?_); (repeat' ((conv => whnf); first | apply And.intro | exact ⟨by kernel_rfl⟩ | apply DrawN.mk | apply CodeN.step hm rfl | exact trivial | exact rfl | (intro hh; try simp only [bs] at hh; try exact absurd hh (by decide)))); all_goals (conv => whnf); all_goals try exact ⟨by decide⟩)
  (refine CallN.q S1 [] (fun _ _ => ?_); (repeat' ((conv => whnf); first | apply And.intro | exact ⟨by kernel_rfl⟩ | apply DrawN.mk | apply CodeN.step hm rfl | exact trivial | exact rfl | (intro hh; try simp only [bs] at hh; try exact absurd hh (by decide)))); all_goals (conv => whnf); all_goals try exact ⟨by decide⟩)
  all_goals first | (exfalso; exact hh rfl) | (exfalso; simp at hh; done) | skip
  (refine CallN.q S2 [] (fun _ _ => ?_); (repeat' ((conv => whnf); first | apply And.intro | exact ⟨by kernel_rfl⟩ | apply DrawN.mk | apply CodeN.step hm rfl | exact trivial | exact rfl | (intro hh; try simp only [bs] at hh; try exact absurd hh (by decide)))); all_goals (conv => whnf); all_goals try exact ⟨by decide⟩)
  all_goals first | (exfalso; exact hh rfl) | (exfalso; simp at hh; done) | skip
  (refine CallN.q liveM [] (fun _ _ => ?_); (repeat' ((conv => whnf); first | apply And.intro | exact ⟨by kernel_rfl⟩ | apply DrawN.mk | apply CodeN.step hm rfl | exact trivial | exact rfl | (intro hh; try simp only [bs] at hh; try exact absurd hh (by decide)))); all_goals (conv => whnf); all_goals try exact ⟨by decide⟩)
  (refine RetN.q () [] ?_ ?_ ?_ <;> (repeat' ((conv => whnf) <;> first | exact rfl | exact trivial | apply And.intro | exact Nat.zero_add _)); all_goals ((conv => whnf); try simp only []))
end Go.Proofs.YtkcifdblaboodaaGreat.Ce
set_option linter.unusedVariables false
set_option linter.unusedSimpArgs false
namespace Go.Proofs.YtkcifdblaboodaaGreat.Fw
open Go Go.RowKit Go.ChangeShapes

/-- All that is there rests. -/
def gW (W : World) : Gh := { n := 0, Φ := fun b => W.heap[b]?, B := fun _ => 0, V := fun _ => none, L := fun _ => 0, k := 0 }
theorem sim_gW (W : World) : Sim (gW W) [] W := by
  refine ⟨rfl, fun b o h => h, fun i => trivial, fun i j b hi => ?_, fun i b hi => ?_⟩
  · simp [getE, Chunk.blk] at hi
  · simp [getE, Chunk.blk] at hi

/-- Numbers of their kinds, lengths that a machine bears. -/
def wfD : (t : Ty) → t.den → Prop
  | .int k, n => k.min ≤ n ∧ n ≤ k.max
  | .bool, _ => True
  | .str, s => List.length s ≤ maxLen
  | .list e, xs => List.length xs ≤ maxLen ∧ ∀ x, x ∈ (xs : List e.den) → wfD e x
  | .pair a b, x => wfD a x.1 ∧ wfD b x.2

theorem cells_at {w : World} {base : Nat} {a : Addr} {n : Nat} {cs : List Value} (h : w.cells? base a n = some cs) : cs.length = n ∧ ∀ (j : Nat) (u : Value), cs[j]? = some u → w.cell? (a.add j) = some u := by
  unfold World.cells? at h
  split at h
  · rename_i hb
    have key : ∀ (l : List Nat) (cs : List Value), l.mapM (fun i => w.cell? (a.add i)) = some cs → cs.length = l.length ∧ ∀ (j : Nat) (u : Value) (i : Nat), cs[j]? = some u → l[j]? = some i → w.cell? (a.add i) = some u := by
      intro l
      induction l with
      | nil => intro cs h; simp at h; subst h; simp
      | cons i l ih =>
        intro cs h
        simp only [List.mapM_cons, Option.bind_eq_bind, Option.bind_eq_some_iff, Option.pure_def, Option.some.injEq] at h
        obtain ⟨u, h1, r, h2, rfl⟩ := h
        obtain ⟨h3, h4⟩ := ih r h2
        refine ⟨by simp [h3], fun j v i' hj hi => ?_⟩
        cases j with
        | zero => simp at hj hi; subst hj hi; exact h1
        | succ j => exact h4 j v i' (by simpa using hj) (by simpa using hi)
    obtain ⟨h1, h2⟩ := key _ _ h
    refine ⟨by simpa using h1, fun j u hj => h2 j u j hj ?_⟩
    have := (List.getElem?_eq_some_iff.1 hj).1
    rw [List.getElem?_range (by rw [h1] at this; simpa using this)]
  · cases h
theorem cell_at_gW {W : World} {a : Addr} {u : Value} (h : W.cell? a = some u) : ∃ cells T fr, a.spot = none ∧ (gW W).Φ a.block = some (.cells cells T fr) ∧ cells[a.off]? = some u := by
  unfold World.cell? at h
  split at h
  · rename_i c T fr hc
    split at h
    · cases h
    · rename_i hs
      exact ⟨c, T, fr, by simpa using hs, hc, h⟩
  · cases h
theorem list_of {α : Type} {p : Nat → α → Prop} : ∀ n : Nat, (∀ i, i < n → ∃ x, p i x) → ∃ xs : List α, xs.length = n ∧ ∀ (i : Nat) (x : α), xs[i]? = some x → p i x
  | 0, _ => ⟨[], rfl, by simp⟩
  | n + 1, h => by
    obtain ⟨xs, h1, h2⟩ := list_of n (fun i hi => h i (by omega))
    obtain ⟨x, hx⟩ := h n (by omega)
    refine ⟨xs ++ [x], by simp [h1], fun i y hy => ?_⟩
    rw [List.getElem?_append] at hy
    split at hy
    · exact h2 i y hy
    · rename_i hi
      have : i - xs.length = 0 := by
        have := (List.getElem?_eq_some_iff.1 hy).1
        simp at this; omega
      rw [this] at hy
      simp at hy
      subst hy
      have : i = n := by omega
      subst this; exact hx

section
variable {H : Type} {enc' : TypeId × Value → H} {P : Program} {W : World} {base : Nat} {sp : Nat → Bool} {held : Bool}

/-- What reads, reads as data. -/
theorem trod_data (K : Kids P (· < P.types.size)) : ∀ (d : Nat) (t : Nat) (ty : Ty), t < P.types.size → tyOf P d t = some ty → ∀ (fuel : Nat) (cs : List Value) (x : DataW H × List MemPlace), DataW.trod enc' P W base sp held fuel t cs = some x →
    ∃ a : ty.den, RL (gW W) (enc ty (fun _ => a) []) cs ∧ wfD ty a
  | 0, _, _, _, h => by simp [tyOf] at h
  | d + 1, t, ty, hlt, h => by
    intro fuel cs x hx
    simp only [tyOf] at h
    split at h
    · rename_i k ht
      cases h
      obtain ⟨n, rfl, _, hw⟩ := DataW.trod_int (tund_und ht) hx
      simp only [Lit.wf, Bool.and_eq_true, decide_eq_true_eq] at hw
      exact ⟨n, ⟨.int k (fun _ => n), trivial⟩, hw⟩
    · rename_i ht
      cases h
      obtain ⟨b, rfl, _⟩ := DataW.trod_bool (tund_und ht) hx
      exact ⟨b, ⟨.bool (fun _ => b), trivial⟩, trivial⟩
    · rename_i ht
      cases h
      obtain ⟨s, rfl, _, hs⟩ := DataW.trod_string (tund_und ht) hx
      refine ⟨s.data.toList, ⟨?_, trivial⟩, ?_⟩
      · have := R.str (g := gW W) (fun _ => s.data.toList)
        simpa using this
      · show s.data.toList.length ≤ maxLen
        rw [Array.length_toList]; exact hs
    · rename_i e ht
      split at h <;> try cases h
      rename_i y hy
      have hye : y = y := rfl
      have hte := K.slice hlt (tund_und ht)
      rcases DataW.trod_slice (tund_und ht) hx with ⟨rfl, _⟩ | ⟨a, len, cap, elems, rest, n, _, rfl, _, _, hlc, hcm, hlen, hel, _⟩
      · refine ⟨([] : List y.den), ⟨?_, trivial⟩, ?_⟩
        · exact R.lst y (fun _ => []) none 0 (fun _ _ => .nilIface) (Nat.le_refl _) (by simp) (fun i x j z hx => by simp at hx) (fun i x j z hx => by simp at hx)
        · refine ⟨?_, fun x hx => ?_⟩
          · show ([] : List y.den).length ≤ maxLen
            simp
          · cases hx
      · have hl63 : maxLen = 9223372036854775807 := by decide
        have each : ∀ i, i < len → ∃ p : y.den × List Value, W.cells? base (a.add (i * P.cellsOf e)) (P.cellsOf e) = some p.2 ∧ RL (gW W) (enc y (fun _ => p.1) []) p.2 ∧ wfD y p.1 := by
          intro i hi
          have h1 := hel i hi
          rw [List.getElem?_eq_getElem (by omega)] at h1
          obtain ⟨cs', h2, h3⟩ := Option.bind_eq_some_iff.1 h1
          obtain ⟨b, h4, h5⟩ := trod_data K d e y hte hy n cs' _ h3
          exact ⟨(b, cs'), h2, h4, h5⟩
        obtain ⟨ps, hps, hp⟩ := list_of len each
        have hsz : ∀ (i : Nat) (p : y.den × List Value), ps[i]? = some p → P.cellsOf e = y.size := by
          intro i p hi
          obtain ⟨h1, h2, _⟩ := hp i p hi
          have := h2.length
          rw [enc_length, (cells_at h1).1] at this
          exact this.symm
        refine ⟨ps.map (·.1), ⟨?_, trivial⟩, ?_, ?_⟩
        · have hlm : (ps.map (·.1)).length = len := by simp [hps]
          have := R.lst (g := gW W) y (fun _ => ps.map (·.1)) (some a) cap (fun i j => ((ps[i]?.map (·.2)).getD [])[j]?.getD .nilIface) (by simp only [hlm]; exact hlc) (by simp only [hlm]; omega) ?_ ?_
          · simp only [hlm] at this; exact this
          · intro i x j z hx hz
            simp only [List.getElem?_map] at hx
            cases hq : ps[i]? with
            | none => rw [hq] at hx; cases hx
            | some p =>
              rw [hq] at hx
              simp only [Option.map_some, Option.some.injEq] at hx
              subst hx
              obtain ⟨h1, h2, _⟩ := hp i p hq
              obtain ⟨u, hu, _⟩ := h2.get hz
              have hc := (cells_at h1).2 j u hu
              obtain ⟨cells, T, fr, hs, hΦ, hcell⟩ := cell_at_gW hc
              have hsp : a.spot = none ∨ (i * P.cellsOf e = 0 ∧ j = 0) := by
                by_cases h0 : i * P.cellsOf e = 0 ∧ j = 0
                · exact .inr h0
                · left
                  by_cases h00 : i * P.cellsOf e + j = 0
                  · exact (h0 ⟨by omega, by omega⟩).elim
                  · -- the cells of the first one have the same spot
                    have h0i : 0 < len := by have := (List.getElem?_eq_some_iff.1 hq).1; omega
                    obtain ⟨p0, hp0⟩ : ∃ p0, ps[0]? = some p0 := ⟨ps[0]'(by omega), List.getElem?_eq_getElem (by omega)⟩
                    obtain ⟨g1, g2, _⟩ := hp 0 p0 hp0
                    have hy0 : (enc y (fun _ => p0.1) [])[0]? ≠ none := by
                      have := enc_length y (fun _ => p0.1)
                      have h0 := Ty.size_pos y
                      intro hn
                      rw [List.getElem?_eq_none_iff] at hn
                      omega
                    cases hz0 : (enc y (fun _ => p0.1) [])[0]? with
                    | none => exact (hy0 hz0).elim
                    | some z0 =>
                      obtain ⟨u0, hu0, _⟩ := g2.get hz0
                      have hc0 := (cells_at g1).2 0 u0 hu0
                      obtain ⟨_, _, _, hs0, _⟩ := cell_at_gW hc0
                      simpa [Addr.add] using hs0
              have hsp' : a.spot = none := by
                rcases hsp with h | ⟨h0, hj0⟩
                · exact h
                · subst hj0
                  rw [h0] at hs
                  simpa [Addr.add] using hs
              have e1 : (a.add (i * P.cellsOf e)).add j = ⟨a.block, a.off + (i * P.cellsOf e + j), none⟩ := by
                rw [add_none hsp', add_none rfl]; simp [Nat.add_assoc]
              rw [e1] at hΦ hcell
              refine ⟨a.block, a.off, cells, T, fr, by cases a; simp at hsp' ⊢; exact hsp', hΦ, ?_⟩
              rw [hsz i p hq] at hcell
              simp only [Option.map_some, Option.getD_some, hu]
              exact hcell
          · intro i x j z hx hz
            simp only [List.getElem?_map] at hx
            cases hq : ps[i]? with
            | none => rw [hq] at hx; cases hx
            | some p =>
              rw [hq] at hx
              simp only [Option.map_some, Option.some.injEq] at hx
              subst hx
              obtain ⟨h1, h2, _⟩ := hp i p hq
              obtain ⟨u, hu, hr⟩ := h2.get hz
              simp only [hq, Option.map_some, Option.getD_some, hu]
              exact hr
        · show (ps.map (·.1)).length ≤ maxLen
          rw [List.length_map]; omega
        · intro x hx
          obtain ⟨p, hp1, rfl⟩ := List.mem_map.1 hx
          obtain ⟨i, hi⟩ := List.mem_iff_getElem?.1 hp1
          exact (hp i p hi).2.2
    · rename_i fs ht
      obtain ⟨xs, n, _, _, hcl, hxl, hf⟩ := DataW.trod_struct (tund_und ht) hx
      obtain ⟨hft, hsum, hoff⟩ := K.struct hlt (tund_und ht)
      have go : ∀ (l : List Field) (k : Nat) (ty : Ty), tyFs (tyOf P d) l = some ty → (∀ f ∈ l, f.type < P.types.size) → (∀ (j : Nat) f, l[j]? = some f → f.offset = k + ((l.take j).map fun f => P.cellsOf f.type).sum) →
          (∀ f ∈ l, ∃ z, DataW.trod enc' P W base sp held n f.type ((cs.drop f.offset).take (P.cellsOf f.type)) = some z) → (cs.drop k).length = (l.map fun f => P.cellsOf f.type).sum →
          ∃ a : ty.den, RL (gW W) (enc ty (fun _ => a) []) (cs.drop k) ∧ wfD ty a := by
        intro l
        induction l with
        | nil => intro k ty h; simp [tyFs] at h
        | cons f r ih =>
          intro k ty h ht ho hz hl
          obtain ⟨z, hz0⟩ := hz f (List.mem_cons_self ..)
          have ho0 : f.offset = k := by simpa using ho 0 f rfl
          rw [ho0] at hz0
          have htf := ht f (List.mem_cons_self ..)
          cases r with
          | nil =>
            simp only [tyFs] at h
            obtain ⟨a, h1, h2⟩ := trod_data K d f.type ty htf h n _ _ hz0
            refine ⟨a, ?_, h2⟩
            simp only [List.map_cons, List.map_nil, List.sum_cons, List.sum_nil, Nat.add_zero] at hl
            rwa [List.take_of_length_le (by omega)] at h1
          | cons f2 r2 =>
            simp only [tyFs] at h
            split at h <;> try cases h
            rename_i ta tb hta htb
            obtain ⟨a, h1, h2⟩ := trod_data K d f.type ta htf hta n _ _ hz0
            obtain ⟨b, h3, h4⟩ := ih (k + P.cellsOf f.type) tb htb (fun q hq => ht q (List.mem_cons_of_mem _ hq)) (fun j q hq => by
              have := ho (j + 1) q (by simpa using hq)
              simp only [List.take_succ_cons, List.map_cons, List.sum_cons] at this
              omega) (fun q hq => hz q (List.mem_cons_of_mem _ hq)) (by
              simp only [List.map_cons, List.sum_cons, List.length_drop] at hl ⊢
              omega)
            refine ⟨(a, b), ?_, h2, h4⟩
            simp only [enc]
            rw [enc_append ta]
            have := h1.append h3
            rw [← List.drop_drop] at this
            rwa [List.take_append_drop] at this
      have := go fs.toList 0 ty h hft (fun j f hj => by simpa using hoff j f hj) (fun f hfm => by
        obtain ⟨i, hi⟩ := List.mem_iff_getElem?.1 hfm
        have hi' : fs[i]? = some f := by simpa using hi
        have h1 := hf i f hi'
        have hil := (List.getElem?_eq_some_iff.1 hi).1
        rw [List.getElem?_eq_getElem (by simp at hil; omega)] at h1
        exact ⟨_, h1⟩) (by simpa [hcl] using hsum)
      simpa using this
    · rename_i n e ht
      split at h <;> try cases h
      rename_i y hy
      obtain ⟨xs, m, _, _, hcl, hxl, hf⟩ := DataW.trod_array (tund_und ht) hx
      obtain ⟨hte, hsz⟩ := K.array hlt (tund_und ht)
      rw [hsz] at hcl
      have go : ∀ (n k : Nat) (ty : Ty), tyRep n y = some ty → (∀ i, i < n → ∃ z, DataW.trod enc' P W base sp held m e ((cs.drop ((k + i) * P.cellsOf e)).take (P.cellsOf e)) = some z) → (cs.drop (k * P.cellsOf e)).length = n * P.cellsOf e →
          ∃ a : ty.den, RL (gW W) (enc ty (fun _ => a) []) (cs.drop (k * P.cellsOf e)) ∧ wfD ty a := by
        intro n
        induction n with
        | zero => intro k ty h; simp [tyRep] at h
        | succ n ih =>
          intro k ty h hz hl
          obtain ⟨z, hz0⟩ := hz 0 (by omega)
          rw [Nat.add_zero] at hz0
          obtain ⟨a, h1, h2⟩ := trod_data K d e y hte hy m _ _ hz0
          cases n with
          | zero =>
            simp only [tyRep, Option.some.injEq] at h
            subst h
            rw [List.take_of_length_le (by omega)] at h1
            exact ⟨a, h1, h2⟩
          | succ n =>
            simp only [tyRep] at h
            split at h <;> try cases h
            rename_i tz htz
            obtain ⟨b, h3, h4⟩ := ih (k + 1) tz htz (fun i hi => by have := hz (i + 1) (by omega); rwa [show k + 1 + i = k + (i + 1) by omega]) (by
              rw [List.length_drop] at hl ⊢
              rw [Nat.add_mul, Nat.one_mul] at hl ⊢
              omega)
            refine ⟨(a, b), ?_, h2, h4⟩
            simp only [enc]
            rw [enc_append y]
            have := h1.append h3
            rw [Nat.add_mul, Nat.one_mul, ← List.drop_drop] at this
            rwa [List.take_append_drop] at this
      have := go n 0 ty h (fun i hi => by
        have h1 := hf i hi
        rw [List.getElem?_eq_getElem (by omega)] at h1
        exact ⟨_, by rw [Nat.zero_add]; exact h1⟩) (by simpa using hcl)
      simpa using this
    · cases h
end
end Go.Proofs.YtkcifdblaboodaaGreat.Fw
set_option linter.unusedVariables false
set_option linter.unusedSimpArgs false
namespace Go.Proofs.YtkcifdblaboodaaGreat.Fw
open Go Go.RowKit Go.ChangeShapes Go.WideShapes

theorem wf_i64 {n : Int} (h : wfD (.int .i64) n) : -9223372036854775808 ≤ n ∧ n ≤ 9223372036854775807 := h
theorem wf_u64 {n : Int} (h : wfD (.int .u64) n) : 0 ≤ n ∧ n ≤ 18446744073709551615 := h
def leafB : TypeDesc → Bool
  | .int _ => true | .bool => true | .string => true | .slice _ => true | _ => false
section
variable {H : Type} {enc' : TypeId × Value → H} {P : Program} {W : World} {base : Nat} {sp : Nat → Bool} {held : Bool}

theorem arg_leaf (K : Kids P (· < P.types.size)) {b0 : Nat} {t : Nat} {ty : Ty} {d : TypeDesc} (hd : tund P t = some d) (hb : leafB d = true) (hlt : t < P.types.size) (hty : tyOf P 6 t = some ty) {v : Value} {x : DataW H} {ps : List MemPlace}
    (hval : Value.okWide P W .any b0 t v) (h : DataW.Trod enc' P W base sp held t v x ps) : ∃ a : ty.den, RL (gW W) (enc ty (fun _ => a) []) [v] ∧ wfD ty a := by
  obtain ⟨fuel, hf⟩ := h
  obtain ⟨a, h1, h2⟩ := trod_data K 6 t ty hlt hty fuel _ _ hf
  refine ⟨a, ?_, h2⟩
  have hc : v.cells.toList = [v] := by
    have hu := tund_und hd
    cases v <;> first | rfl | skip
    cases d <;> first | (cases hb; done) | (simp [Value.okWide, hu, Cell.okWide, Cell.ok] at hval)
  rwa [hc] at h1
def aggB : TypeDesc → Bool
  | .struct _ => true | .array _ _ => true | _ => false
theorem arg_struct (K : Kids P (· < P.types.size)) {b0 : Nat} {t : Nat} {ty : Ty} {d : TypeDesc} (hd : tund P t = some d) (hb : aggB d = true) (hlt : t < P.types.size) (hty : tyOf P 6 t = some ty) {v : Value} {x : DataW H} {ps : List MemPlace}
    (hval : Value.okWide P W .any b0 t v) (h : DataW.Trod enc' P W base sp held t v x ps) : ∃ a : ty.den, R (gW W) (.agg (enc ty (fun _ => a) [])) v ∧ wfD ty a := by
  obtain ⟨fuel, hf⟩ := h
  obtain ⟨a, h1, h2⟩ := trod_data K 6 t ty hlt hty fuel _ _ hf
  have hu := tund_und hd
  have hv : ∃ cs, v = .agg cs := by
    cases d <;> first | (cases hb; done) | skip
    all_goals
      simp only [Value.okWide, hu] at hval
      obtain ⟨cs, rfl, _⟩ := hval
      exact ⟨cs, rfl⟩
  obtain ⟨cs, rfl⟩ := hv
  refine ⟨a, ?_, h2⟩
  have := R.mkAgg h1
  simpa [Value.cells] using this

theorem law_run {f : FuncId} {args : List AV} {vals : List Value} {Y : Type} {Q : Y → Prop} {res : Y → AV} {out : Y → List Chunk} (hm : Meets P f args [] Q res out) (hres : ∀ y, Q y → res y = .tt) (hr : RL (gW W) args vals) :
    Calls P f vals.toArray W fun e W' => e = .returned (.bool true) ∧ Below W.heap.size W W' := by
  refine (hm.h (gW W) W vals (sim_gW W) hr).mono ?_
  rintro e W' ⟨y, c, g', hq, rfl, h1, h2, h3⟩
  rw [hres y hq] at h1
  rw [h1.tt_iff]
  refine ⟨rfl, h3.os, h3.tape, h3.output, h3.size, fun b hb => h3.keep b hb ?_⟩
  rintro ⟨i, hi⟩
  simp [getE, Chunk.blk] at hi

theorem trodAll_stays (hl : laidOutB P = true) {W' : World} (hb : Below W.heap.size W W') : ∀ {ts : List TypeId} {vs : List Value} {ds : List (DataW H)} {ps : List MemPlace} (sp' : Nat → Bool), (∀ t ∈ ts, P.readableRec t = true ∧ t < P.types.size) →
    DataW.TrodAll enc' P W 0 (fun _ => true) true ts vs ds ps → (∀ p ∈ ps, p.block < W.heap.size) → (∀ p ∈ ps, sp' p.block = true) → DataW.TrodAll enc' P W' 0 sp' true ts vs ds ps
  | [], [], [], ps, sp', _, h, _, _ => h
  | t :: ts, v :: vs, d :: ds, ps, sp', ht, h, hlt, hsp => by
    obtain ⟨p, q, h1, h2, rfl⟩ := h
    obtain ⟨hr, hrow⟩ := ht t (List.mem_cons_self ..)
    refine ⟨p, q, WideElems.Trod_stays hl hr hrow h1 (fun x hx => hb.same (hlt x (List.mem_append_left _ hx))) (fun x hx => hsp x (List.mem_append_left _ hx)), ?_, rfl⟩
    exact trodAll_stays hl hb sp' (fun t ht' => ht t (List.mem_cons_of_mem _ ht')) h2 (fun x hx => hlt x (List.mem_append_right _ hx)) (fun x hx => hsp x (List.mem_append_right _ hx))
  | [], _ :: _, _, _, _, _, h, _, _ => h.elim
  | [], [], _ :: _, _, _, _, h, _, _ => h.elim
  | _ :: _, [], _, _, _, _, h, _, _ => h.elim
  | _ :: _, _ :: _, [], _, _, _, h, _, _ => h.elim

theorem law_post {f : Func} {s : ChangeSpec} {W' : World} {args : Array Value} {ds gs : List (DataW H)} {before : List MemPlace} (hl : laidOutB P = true) {tb : TypeId}
    (hW : DataW.Whole enc' P f.params.toList s.vars false W args.toList ds gs before) (hv : s.vars = []) (hfn : s.fn H (ds ++ gs) = { results := [.lit (.bool true)], args := ds })
    (hres : f.resultTypes = #[tb]) (htb : P.underlying tb = some .bool) (ht : ∀ t ∈ f.params.toList, P.readableRec t = true ∧ t < P.types.size) (hb : Below W.heap.size W W') :
    s.post enc' P f false true false false W args (.bool true) W' := by
  have hlt := hW.lt
  have hW' := hW
  obtain ⟨p, q, hA, hV, hpq, hfz, hnd⟩ := hW'
  rw [hv] at hV
  have hgq : gs = [] ∧ q = [] := by
    cases gs with
    | nil => exact ⟨rfl, hV⟩
    | cons g r => exact hV.elim
  obtain ⟨rfl, rfl⟩ := hgq
  rw [List.append_nil] at hpq
  subst hpq
  have hold : ∀ p ∈ before, (fun b => decide (b < W.heap.size)) p.block = true := fun p hp => by simpa using hlt p hp
  have hargs : ∀ sp : Nat → Bool, (∀ p ∈ before, sp p.block = true) → DataW.TrodAll enc' P W' 0 sp true f.params.toList args.toList ds before := fun sp hsp => trodAll_stays hl hb sp ht hA hlt hsp
  have hresT : ∀ (b : Nat) (sp : Nat → Bool) (hd : Bool), DataW.TrodAll enc' P W' b sp hd f.resultTypes.toList ((Value.bool true).resultList f.resultTypes.size) [.lit (.bool true)] [] := by
    intro b sp hd
    rw [hres]
    exact trodAll_mk1 (shut_bool htb true)
  refine ⟨ds, [], before, [], before, [], hW, ?_, ?_, ?_, World.keptBut_mono (fun p hp => ⟨hp, ?_⟩) (hb.frame (· ∈ before)), fun h => by cases h⟩
  · rw [hfn]; exact hresT _ _ _
  · rw [hfn]; exact hargs _ hold
  · rw [hfn, hv]; rfl
  · exact .inr (by simpa using hp)
end
end Go.Proofs.YtkcifdblaboodaaGreat.Fw
set_option linter.unusedVariables false
set_option linter.unusedSimpArgs false
namespace Go.Proofs.YtkcifdblaboodaaGreat.RCellPacks
open Go Go.ChangeShapes Go.WideShapes Go.ChangeAt Go.RowKit Fw
theorem own : ownKnob Tryz.prog.godebug = none := by kernel_rfl
theorem laidOut : laidOutB Tryz.prog = true := by kernel_rfl
theorem mapsOk : mapsRowed Tryz.prog = true := by kernel_rfl
theorem kids : Kids Tryz.prog (· < Tryz.prog.types.size) := kids_rows laidOut mapsOk
theorem readable : ∀ t ∈ Tryz.f4.params.toList, Tryz.prog.readableRec t = true ∧ t < Tryz.prog.types.size := by
  have h : (Tryz.f4.params.toList.all fun t => Tryz.prog.readableRec t && decide (t < Tryz.prog.types.size)) = true := by kernel_rfl
  intro t ht
  have := List.all_eq_true.1 h t ht
  rw [Bool.and_eq_true, decide_eq_true_eq] at this
  exact this
set_option maxRecDepth 100000 in
theorem lifted (os : Os) (started : os.Started) (H : Type) (enc : TypeId × Value → H) :
    ReturnsInHanded {} Tryz.checked os 4 .any (Rows.cellPacksSpec.pre6 enc Tryz.prog Tryz.f4 Rows.cellPacksRow.domain false) (Rows.cellPacksSpec.post enc Tryz.prog Tryz.f4 false true false false) := by
  refine returnsInHanded_of_change (C := Tryz.checked) own started (by kernel_rfl) Tryz.func4
    (ChangeSpec.witness6 (enc := enc) (C := Tryz.checked) false ⟨#[], #[.agg #[.int .i64 0, .int .i64 0, .int .i64 0, .int .i64 0], .agg #[.int .i64 0, .int .i64 0, .slice none 0 0, .slice none 0 0], .slice none 0 0], []⟩ 8 (by kernel_rfl) (by kernel_rfl) (by kernel_rfl) (by kernel_rfl)) ?_
  intro W base args ds gs before hval0 hW hcnd _
  have hval : ∀ (j : Nat) t v, Tryz.f4.params[j]? = some t → args[j]? = some v → Value.okWide Tryz.prog W .any base t v := hval0
  have hW' : DataW.Whole enc Tryz.prog Tryz.f4.params.toList Rows.cellPacksSpec.vars false W args.toList ds gs before := hW
  obtain ⟨p, q, hA0, hV, _, _, _⟩ := hW'
  have hA : DataW.TrodAll enc Tryz.prog W 0 (fun _ => true) true Tryz.f4.params.toList args.toList ds p := hA0
  rw [Tryz.params4] at hA hval
  obtain ⟨v0, v1, v2, d0, d1, d2, p0, p1, p2, rfl, rfl, rfl, h0, h1, h2⟩ := trodAll_three hA
  obtain ⟨rfl, rfl⟩ := trodVars_none hV
  obtain ⟨a0, r0, w0⟩ := arg_struct (ty := Hi.PolT) kids rfl rfl (of_decide_eq_true (by kernel_rfl)) (by kernel_rfl) (hval 0 _ v0 rfl rfl) h0
  obtain ⟨a1, r1, w1⟩ := arg_struct (ty := Ce.CellT) kids rfl rfl (of_decide_eq_true (by kernel_rfl)) (by kernel_rfl) (hval 1 _ v1 rfl rfl) h1
  obtain ⟨a2, r2, w2⟩ := arg_leaf (ty := (.list (.int .u64))) kids rfl rfl (of_decide_eq_true (by kernel_rfl)) (by kernel_rfl) (hval 2 _ v2 rfl rfl) h2
  refine (law_run (vals := [v0, v1, v2]) (Ce.packsLawM a0 a1 a2 w1.2.1 (fun x hx => ⟨(w2.2 x hx).1, Int.lt_of_le_of_lt (w2.2 x hx).2 (by decide)⟩)) (fun _ _ => rfl) ⟨r0, r1, r2.1, trivial⟩).mono ?_
  rintro e W' ⟨rfl, hb⟩
  exact ⟨_, rfl, law_post laidOut hW rfl rfl (by rfl) Tryz.underlying4 readable hb⟩

theorem holds : Rows.CellPacksSaid :=
  OpenClaim.holds_of_wide 4 Tryz.f4 rfl rfl rfl rfl rfl rfl rfl ⟨rfl, rfl, rfl, rfl, rfl⟩ rfl rfl rfl rfl rfl (by kernel_rfl) Tryz.func4 (by kernel_rfl)
    (of_decide_eq_true (by kernel_rfl)) (by unfold Func.isWrapper; first | (rw [if_pos (by decide +kernel)]; kernel_rfl) | (rw [if_neg (by decide +kernel)]; exact ⟨rfl, rfl⟩))
    (fun os started H enc _ => lifted os started H enc)
end Go.Proofs.YtkcifdblaboodaaGreat.RCellPacks
#print axioms Go.Proofs.YtkcifdblaboodaaGreat.RCellPacks.holds
