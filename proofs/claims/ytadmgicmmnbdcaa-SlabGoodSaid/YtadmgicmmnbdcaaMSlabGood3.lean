/- The law SlabGood holds at every input that its statement lets in; part 4 of its proof. -/
import Derived.Test.YtadmgicmmnbdcaaMSlabGood2
import Derived.ProofKit
import Derived.OpenShut
import Derived.JoinedCond
import Derived.Test.YtadmgicmmnbdcaaRows
set_option linter.unusedVariables false
set_option linter.unusedSimpArgs false
namespace Go.Proofs.Ytadmgicmmnbdcaa.Sl
open Go Go.RowKit Fw

theorem filter_len {α : Type} (p : α → Bool) : ∀ l : List α, (l.filter p).length + (l.filter fun x => !p x).length = l.length
  | [] => rfl
  | a :: l => by
    have := filter_len p l
    simp only [List.filter_cons]
    cases p a <;> simp <;> omega
/-- The cells that are taken. -/
def tk (r : Ref) (n : Nat) : List Nat := (List.range n).filter fun j => r.taken.getD j false
section
variable {s : Slab} {r : Ref} {n w b : Nat}
theorem Rel.taken_map (h : Rel s r n w b) (hb : b ≤ 100000) : taken s = (tk r n).map fun j => 64 * r.gen.getD j 0 + (j : Int) := by
  rw [h.taken_eq hb]
  unfold rtaken
  rw [h.rok.gen]
  have key : ∀ i, i ≤ n → rtakenTo r i = (tk r i).map fun j => 64 * r.gen.getD j 0 + (j : Int) := by
    intro i
    induction i with
    | zero => intro _; rfl
    | succ i ih =>
      intro hi
      rw [rtakenTo, ih (by omega), (h.hnd hb (by omega)).2]
      unfold tk
      rw [List.range_succ, List.filter_append, List.map_append]
      congr 1
      by_cases ht : r.taken.getD i false = true
      · rw [if_pos ht]; simp only [List.filter_cons, ht, if_true, List.filter_nil, List.map_cons, List.map_nil]
      · rw [if_neg ht]; simp only [List.filter_cons, ht, if_false, List.filter_nil, List.map_nil]; simp
  exact key n (Nat.le_refl _)
theorem Rel.count (h : Rel s r n w b) (hb : b ≤ 100000) : (taken s).length + r.row.length = n := by
  rw [h.taken_map hb, List.length_map]
  have h1 : r.row.length = ((List.range n).filter fun j => !r.taken.getD j false).length := by
    have hnd : (r.row.map Int.toNat).Nodup := by
      have := h.nodup
      refine (List.pairwise_map).2 (List.Pairwise.imp_of_mem (fun {a c} ha hc hac => ?_) this)
      have h1 := h.rok.row.2 a ha
      have h2 := h.rok.row.2 c hc
      intro e; exact hac (by omega)
    have hle1 := List.Nodup.length_le_of_subset (l₂ := (List.range n).filter fun j => !r.taken.getD j false) hnd (by
      intro y hy
      obtain ⟨z, hz, rfl⟩ := List.mem_map.1 hy
      have hz' := h.rok.row.2 z hz
      have := (h.row z.toNat (by omega)).1 (by rw [Int.toNat_of_nonneg hz'.1]; exact hz)
      exact List.mem_filter.2 ⟨List.mem_range.2 (by omega), by rw [this]; rfl⟩)
    have hle2 := List.Nodup.length_le_of_subset (l₂ := r.row.map Int.toNat) (List.Pairwise.filter (fun j => !r.taken.getD j false) (List.nodup_range (n := n))) (by
      intro y hy
      obtain ⟨hy1, hy2⟩ := List.mem_filter.1 hy
      have hy1 := List.mem_range.1 hy1
      have := (h.row y hy1).2 (by simpa using hy2)
      exact List.mem_map.2 ⟨_, this, Int.toNat_natCast y⟩)
    simp only [List.length_map] at hle1 hle2
    omega
  rw [h1]
  have := filter_len (fun j => r.taken.getD j false) (List.range n)
  simp only [List.length_range] at this
  unfold tk
  omega
theorem tk_get {k : Nat} (hk : k < (tk r n).length) : (tk r n)[k]'hk < n ∧ r.taken.getD ((tk r n)[k]'hk) false = true := by
  have := List.getElem_mem hk
  unfold tk at this
  rw [List.mem_filter, List.mem_range] at this
  exact this
theorem tk_ne {k m : Nat} (hk : k < (tk r n).length) (hm : m < (tk r n).length) (hne : k ≠ m) : (tk r n)[k]'hk ≠ (tk r n)[m]'hm := by
  intro e
  have hnd : (tk r n).Nodup := List.Pairwise.filter _ List.nodup_range
  have := List.pairwise_iff_getElem.1 hnd
  rcases Nat.lt_or_gt_of_ne hne with h | h
  · exact this k m hk hm h e
  · exact this m k hm hk h e.symm
/-- A handle of a cell that is taken is good. -/
theorem Rel.live_good (h : Rel s r n w b) {j : Nat} (hj : j < n) (ht : r.taken.getD j false = true) : rgood r (64 * r.gen.getD j 0 + (j : Int)) = j ∧ Int.tmod (64 * r.gen.getD j 0 + (j : Int)) 64 = j := by
  have hb := h.bound j hj
  have hc := h.ok.cap
  have h3 : Int.tmod (64 * r.gen.getD j 0 + (j : Int)) 64 = j := by rw [Int.tmod_eq_emod_of_nonneg (by omega)]; omega
  have h4 : Int.tdiv (64 * r.gen.getD j 0 + (j : Int)) 64 = r.gen.getD j 0 := by rw [Int.tdiv_eq_ediv_of_nonneg (by omega)]; omega
  refine ⟨?_, h3⟩
  unfold rgood
  rw [if_neg (by omega), h3, h4, Int.toNat_natCast, ht, if_neg]
  rintro (h | h | h)
  · have := ‹Rel s r n w b›.rok.gen; omega
  · cases h
  · exact h rfl
/-- A handle that was given back. -/
def Gone (r : Ref) (n : Nat) (x : Int) : Prop := 0 ≤ x ∧ x.tmod 64 < n ∧ x.tdiv 64 < r.gen.getD (x.tmod 64).toNat 0
theorem Gone.bad {x : Int} (h : Gone r n x) : rgood r x < 0 := by
  unfold rgood
  rw [if_neg (by have := h.1; omega), if_pos (.inr (.inr (by have := h.2.2; omega)))]; decide
theorem Gone.mono {r' : Ref} {x : Int} (h : Gone r n x) (hg : ∀ j, j < n → r.gen.getD j 0 ≤ r'.gen.getD j 0) : Gone r' n x := by
  have h0 := h.1
  have h1 := h.2.1
  have := tmod64 (show ¬ x < 0 by omega)
  exact ⟨h.1, h.2.1, by have := hg (x.tmod 64).toNat (by omega); have := h.2.2; omega⟩
theorem Rel.give_gen (h : Rel s r n w b) (hb : b ≤ 1000) (x : Int) : (∀ j, j < n → r.gen.getD j 0 ≤ (rgiveS r x).gen.getD j 0) ∧ (¬ rgood r x < 0 → Gone (rgiveS r x) n x) := by
  by_cases hx : rgood r x < 0
  · have : rgiveS r x = r := by unfold rgiveS; rw [if_pos hx]
    rw [this]; exact ⟨fun _ _ => Int.le_refl _, fun h => absurd hx h⟩
  · obtain ⟨hv, h0, hlt, htk, hgen⟩ := rgood_val hx
    have hgl := h.rok.gen
    have hbd := h.bound (x.tmod 64).toNat (by omega)
    have e : (rgiveS r x).gen = r.gen.set (x.tmod 64).toNat (r.gen.getD (x.tmod 64).toNat 0 + 1) := by
      unfold rgiveS; rw [if_neg hx, hv, wr (by omega)]
    refine ⟨fun j hj => ?_, fun _ => ⟨?_, by omega, ?_⟩⟩
    · rw [e, getD_set _ _ _ _ _ (by omega)]
      split
      · rename_i ej; subst ej; omega
      · omega
    · apply Classical.byContradiction
      intro hn
      unfold rgood at hx
      rw [if_pos (by omega)] at hx
      omega
    · rw [e, getD_set _ _ _ _ _ (by omega), if_pos rfl]; omega
end
structure Sw where
  s : Slab
  r : Ref
  all : List Int
  gone : List Int
  i : Nat
set_option maxHeartbeats 8000000 in
theorem lawGood (c w : Int) (l : List (Int × Int × Bool × List Int)) (hl : ∀ o ∈ l, o.2.1 ≤ 9223372036854775807) : Meets Try.prog 4 [.int .i64 fun _ => c, .int .i64 fun _ => w, .lst OpT fun _ => l] [] (Y := Unit) (fun _ => True) (fun _ => .tt) (fun _ => []) := by
  by_cases hw : c < 1 ∨ 64 < c ∨ w < 0 ∨ 32 < w
  · refine Meets.intro hm (fn := Try.f4) Try.func4 rfl (by decide) (Nat.le_of_ble_eq_true rfl) (fun _ => rfl) ?_; intro S hok; (conv => whnf)
    (repeat' ((conv => whnf); first | refine And.intro ?_ ?_ | exact Cl.mk (by kernel_rfl) | exact Ck.mk (by kernel_rfl) | exact trivial | exact rfl | (intro hh; try simp only [decide_eq_true_eq, decide_eq_false_iff_not, beq_iff_eq, beq_eq_false_iff_ne, bne_iff_ne, bne_eq_false_iff_eq, Bool.not_eq_true', Bool.not_eq_false', Bool.not_true, Bool.not_false] at hh))); all_goals (conv => whnf)
    (refine CallN.intro (newBad c w hw) [] rfl rfl ?_ ?_ ?_; ((repeat' (first | exact rfl | exact trivial | refine And.intro ?_ ?_ | ((conv => whnf); first | exact rfl | exact trivial | refine And.intro ?_ ?_)))); ((repeat' (first | exact rfl | exact trivial | refine And.intro ?_ ?_ | ((conv => whnf); first | exact rfl | exact trivial | refine And.intro ?_ ?_)))); (intro y hy; clear y hy; (repeat' ((conv => whnf); first | refine And.intro ?_ ?_ | exact Cl.mk (by kernel_rfl) | exact Ck.mk (by kernel_rfl) | exact trivial | exact rfl | (intro hh; try simp only [decide_eq_true_eq, decide_eq_false_iff_not, beq_iff_eq, beq_eq_false_iff_ne, bne_iff_ne, bne_eq_false_iff_eq, Bool.not_eq_true', Bool.not_eq_false', Bool.not_true, Bool.not_false] at hh; try exact absurd hh (by decide)))); all_goals (conv => whnf); (all_goals first | (exact Ob.mk (by decide)) | skip)))
    (refine CallN.intro (fewM l) [] rfl rfl ?_ ?_ ?_; ((repeat' (first | exact rfl | exact trivial | refine And.intro ?_ ?_ | ((conv => whnf); first | exact rfl | exact trivial | refine And.intro ?_ ?_)))); ((repeat' (first | exact rfl | exact trivial | refine And.intro ?_ ?_ | ((conv => whnf); first | exact rfl | exact trivial | refine And.intro ?_ ?_)))); (intro y hy; clear y hy; (repeat' ((conv => whnf); first | refine And.intro ?_ ?_ | exact Cl.mk (by kernel_rfl) | exact Ck.mk (by kernel_rfl) | exact trivial | exact rfl | (intro hh; try simp only [decide_eq_true_eq, decide_eq_false_iff_not, beq_iff_eq, beq_eq_false_iff_ne, bne_iff_ne, bne_eq_false_iff_eq, Bool.not_eq_true', Bool.not_eq_false', Bool.not_true, Bool.not_false] at hh; try exact absurd hh (by decide)))); all_goals (conv => whnf); (all_goals first | (exact Ob.mk (by decide)) | skip)))
    all_goals ((refine CallN.intro lawLive [] rfl rfl ?_ ?_ ?_; ((repeat' (first | exact rfl | exact trivial | refine And.intro ?_ ?_ | ((conv => whnf); first | exact rfl | exact trivial | refine And.intro ?_ ?_)))); ((repeat' (first | exact rfl | exact trivial | refine And.intro ?_ ?_ | ((conv => whnf); first | exact rfl | exact trivial | refine And.intro ?_ ?_)))); (intro y hy; clear y hy; (repeat' ((conv => whnf); first | refine And.intro ?_ ?_ | exact Cl.mk (by kernel_rfl) | exact Ck.mk (by kernel_rfl) | exact trivial | exact rfl | (intro hh; try simp only [decide_eq_true_eq, decide_eq_false_iff_not, beq_iff_eq, beq_eq_false_iff_ne, bne_iff_ne, bne_eq_false_iff_eq, Bool.not_eq_true', Bool.not_eq_false', Bool.not_true, Bool.not_false] at hh; try exact absurd hh (by decide)))); all_goals (conv => whnf); (all_goals first | (exact Ob.mk (by decide)) | skip))); all_goals (refine RetN.intro () [] rfl rfl ?_ ?_ ?_; ((repeat' (first | exact rfl | exact trivial | refine And.intro ?_ ?_ | ((conv => whnf); first | exact rfl | exact trivial | refine And.intro ?_ ?_)))); ((repeat' (first | exact rfl | exact trivial | refine And.intro ?_ ?_ | ((conv => whnf); first | exact rfl | exact trivial | refine And.intro ?_ ?_))); all_goals (conv => whnf); all_goals (try simp only []))))
  · obtain ⟨n, rfl⟩ : ∃ k : Nat, c = k := ⟨c.toNat, by omega⟩
    obtain ⟨w, rfl⟩ : ∃ k : Nat, w = k := ⟨w.toNat, by omega⟩
    have hn : 1 ≤ n ∧ n ≤ 64 := by omega
    have hww : w ≤ 32 := by omega
    refine Meets.intro hm (fn := Try.f4) Try.func4 rfl (by decide) (Nat.le_of_ble_eq_true rfl) (fun _ => rfl) ?_; intro S hok; (conv => whnf)
    (repeat' ((conv => whnf); first | refine And.intro ?_ ?_ | exact Cl.mk (by kernel_rfl) | exact Ck.mk (by kernel_rfl) | exact trivial | exact rfl | (intro hh; try simp only [decide_eq_true_eq, decide_eq_false_iff_not, beq_iff_eq, beq_eq_false_iff_ne, bne_iff_ne, bne_eq_false_iff_eq, Bool.not_eq_true', Bool.not_eq_false', Bool.not_true, Bool.not_false] at hh))); all_goals (conv => whnf)
    (refine CallN.intro (newM n w hn hww) [] rfl rfl ?_ ?_ ?_; ((repeat' (first | exact rfl | exact trivial | refine And.intro ?_ ?_ | ((conv => whnf); first | exact rfl | exact trivial | refine And.intro ?_ ?_)))); ((repeat' (first | exact rfl | exact trivial | refine And.intro ?_ ?_ | ((conv => whnf); first | exact rfl | exact trivial | refine And.intro ?_ ?_)))); (intro y hy; clear y hy; (repeat' ((conv => whnf); first | refine And.intro ?_ ?_ | exact Cl.mk (by kernel_rfl) | exact Ck.mk (by kernel_rfl) | exact trivial | exact rfl | (intro hh; try simp only [decide_eq_true_eq, decide_eq_false_iff_not, beq_iff_eq, beq_eq_false_iff_ne, bne_iff_ne, bne_eq_false_iff_eq, Bool.not_eq_true', Bool.not_eq_false', Bool.not_true, Bool.not_false] at hh; try exact absurd hh (by decide)))); all_goals (conv => whnf); (all_goals first | (exact Ob.mk (by decide)) | skip)))
    (refine CallN.intro (fewM l) [] rfl rfl ?_ ?_ ?_; ((repeat' (first | exact rfl | exact trivial | refine And.intro ?_ ?_ | ((conv => whnf); first | exact rfl | exact trivial | refine And.intro ?_ ?_)))); ((repeat' (first | exact rfl | exact trivial | refine And.intro ?_ ?_ | ((conv => whnf); first | exact rfl | exact trivial | refine And.intro ?_ ?_)))); (intro y hy; clear y hy; (repeat' ((conv => whnf); first | refine And.intro ?_ ?_ | exact Cl.mk (by kernel_rfl) | exact Ck.mk (by kernel_rfl) | exact trivial | exact rfl | (intro hh; try simp only [decide_eq_true_eq, decide_eq_false_iff_not, beq_iff_eq, beq_eq_false_iff_ne, bne_iff_ne, bne_eq_false_iff_eq, Bool.not_eq_true', Bool.not_eq_false', Bool.not_true, Bool.not_false] at hh; try exact absurd hh (by decide)))); all_goals (conv => whnf); (all_goals first | (exact Ob.mk (by decide)) | skip)))
    all_goals first | ((refine CallN.intro lawLive [] rfl rfl ?_ ?_ ?_; ((repeat' (first | exact rfl | exact trivial | refine And.intro ?_ ?_ | ((conv => whnf); first | exact rfl | exact trivial | refine And.intro ?_ ?_)))); ((repeat' (first | exact rfl | exact trivial | refine And.intro ?_ ?_ | ((conv => whnf); first | exact rfl | exact trivial | refine And.intro ?_ ?_)))); (intro y hy; clear y hy; (repeat' ((conv => whnf); first | refine And.intro ?_ ?_ | exact Cl.mk (by kernel_rfl) | exact Ck.mk (by kernel_rfl) | exact trivial | exact rfl | (intro hh; try simp only [decide_eq_true_eq, decide_eq_false_iff_not, beq_iff_eq, beq_eq_false_iff_ne, bne_iff_ne, bne_eq_false_iff_eq, Bool.not_eq_true', Bool.not_eq_false', Bool.not_true, Bool.not_false] at hh; try exact absurd hh (by decide)))); all_goals (conv => whnf); (all_goals first | (exact Ob.mk (by decide)) | skip))); all_goals (refine RetN.intro () [] rfl rfl ?_ ?_ ?_; ((repeat' (first | exact rfl | exact trivial | refine And.intro ?_ ?_ | ((conv => whnf); first | exact rfl | exact trivial | refine And.intro ?_ ?_)))); ((repeat' (first | exact rfl | exact trivial | refine And.intro ?_ ?_ | ((conv => whnf); first | exact rfl | exact trivial | refine And.intro ?_ ?_))); all_goals (conv => whnf); all_goals (try simp only []))); done) | skip
    have hlen : l.length ≤ 60 ∧ ∀ o ∈ l, o.2.2.2.length ≤ 40 := by simpa using ‹(decide (l.length ≤ 60) && l.all fun o => decide (o.2.2.2.length ≤ 40)) = true›
    have b1 : Try.t3.bytes = 8 := rfl
    refine LoopN.nil 3 (.int .i64) none [9] ?_
    (conv => whnf)
    refine LoopN.nil 3 (.int .i64) none [10] ?_
    (conv => whnf)
    refine LoopN.intro hm (X := Sw) (fun x => x.i ≤ l.length ∧ Rel x.s x.r n w x.i ∧ x.all.length ≤ x.i ∧ x.gone.length ≤ x.i ∧ (∀ z ∈ x.all, z ≤ 9223372036854775807) ∧ ∀ z ∈ x.gone, Gone x.r n z) (fun x => l.length - x.i)
      (fun x => [(11, .int .i64 fun _ => (x.i : Int)), (10, .vec 4 1 (fun _ => 0) fun _ => x.gone.length), (9, .vec 3 1 (fun _ => 0) fun _ => x.all.length), (7, .ptr 0 0), (0, .int .i64 fun _ => (n : Int)), (2, .lst OpT fun _ => l)])
      (fun x => ch x.s ++ [.vect 3 (.int .i64) fun _ => x.all, .vect 3 (.int .i64) fun _ => x.gone]) ⟨newS n w, rnewS n w, [], [], 0⟩ [0, 1, 2, 3, 4] ⟨rfl, rfl, ?_, ?_⟩ ⟨Nat.zero_le _, Rel.new hn hww, Nat.le_refl _, Nat.le_refl _, by simp, by simp⟩ (fun x hx => ?_)
    · (repeat' (first | exact rfl | exact trivial | refine And.intro ?_ ?_ | ((conv => whnf); first | exact rfl | exact trivial | refine And.intro ?_ ?_)))
    · (repeat' (first | exact rfl | exact trivial | refine And.intro ?_ ?_ | ((conv => whnf); first | exact rfl | exact trivial | refine And.intro ?_ ?_)))
    · obtain ⟨s, r, all, gone, i⟩ := x
      obtain ⟨hi, hrel, hal, hgl, hall, hgone⟩ := hx
      simp only [] at hi hrel hal hgl hall hgone
      have hok := hrel.ok
      have hin : (i : Int) < l.length → l.getD i OpT.dflt ∈ l := fun h => by
        rw [List.getD_eq_getElem?_getD, List.getElem?_eq_getElem (by omega)]; exact List.getElem_mem _
      (repeat' ((conv => whnf); first | refine And.intro ?_ ?_ | exact Cl.mk (by kernel_rfl) | exact Ck.mk (by kernel_rfl) | exact trivial | exact rfl | (intro hh; try simp only [decide_eq_true_eq, decide_eq_false_iff_not, beq_iff_eq, beq_eq_false_iff_ne, bne_iff_ne, bne_eq_false_iff_eq, Bool.not_eq_true', Bool.not_eq_false', Bool.not_true, Bool.not_false] at hh))); all_goals (conv => whnf)
      · (refine Ob.mk ?_; (try simp only [Ty.dflt, Nat.zero_add, Nat.add_zero, Int.toNat_natCast, Int.toNat_zero, Int.toNat_one, List.length_take, List.length_drop, List.length_append, List.length_replicate, List.length_cons, List.length_nil, List.length_set, List.length_map, true_and, and_true]); omega)
      · have hm1 := hin hh
        have e0 : ((i : Int)).toNat = i := Int.toNat_natCast i
        simp only [e0]
        obtain ⟨o, ho⟩ : ∃ o, o = l.getD i OpT.dflt := ⟨_, rfl⟩
        rw [← ho] at hm1 ⊢
        obtain ⟨d, h0, own, ws⟩ := o
        have hws := hlen.2 _ hm1
        have hh0 := hl _ hm1
        simp only [] at hws hh0
        refine CallN.rest (opOf d h0 own ws all (by omega)) [3] ?_ (fun _ _ => ⟨rfl, rfl⟩) ?_
        · (repeat' (first | exact rfl | exact trivial | refine And.intro ?_ ?_ | ((conv => whnf); first | exact rfl | exact trivial | refine And.intro ?_ ?_))); all_goals (conv => whnf); all_goals (try simp only [])
          simp
        · intro y hy
          obtain ⟨H, hH⟩ : ∃ H, H = (if own = true ∧ 0 ≤ h0 ∧ h0 < all.length then all.getD (all.length - 1 - h0.toNat) 0 else h0) := ⟨_, rfl⟩
          have hHb : H ≤ 9223372036854775807 := by
            rw [hH]; split
            · rw [List.getD_eq_getElem?_getD]
              cases hz : all[all.length - 1 - h0.toNat]? with
              | none => simp
              | some z => exact hall z (List.mem_of_getElem? hz)
            · exact hh0
          rw [← hH]
          (repeat' ((conv => whnf); first | refine And.intro ?_ ?_ | exact Cl.mk (by kernel_rfl) | exact Ck.mk (by kernel_rfl) | exact trivial | exact rfl | (intro hh; try simp only [decide_eq_true_eq, decide_eq_false_iff_not, beq_iff_eq, beq_eq_false_iff_ne, bne_iff_ne, bne_eq_false_iff_eq, Bool.not_eq_true', Bool.not_eq_false', Bool.not_true, Bool.not_false] at hh))); all_goals (conv => whnf)
          all_goals try (refine Ob.mk ?_; (try simp only [Ty.dflt, Nat.zero_add, Nat.add_zero, Int.toNat_natCast, Int.toNat_zero, Int.toNat_one, List.length_take, List.length_drop, List.length_append, List.length_replicate, List.length_cons, List.length_nil, List.length_set, List.length_map, true_and, and_true]); omega)
          all_goals (try simp only [e0]); all_goals (try rw [← ho])
          -- BRANCHES
          · by_cases hrow : r.row = []
            · obtain ⟨h1, h2⟩ := hrel.takeE hrow
              have hf := hrel.free
              rw [hrow] at hf
              refine CallN.intro (takeU s n hok) [0, 1, 2] rfl rfl ?_ ?_ ?_
              · (repeat' (first | exact rfl | exact trivial | refine And.intro ?_ ?_ | ((conv => whnf); first | exact rfl | exact trivial | refine And.intro ?_ ?_)))
              · (repeat' (first | exact rfl | exact trivial | refine And.intro ?_ ?_ | ((conv => whnf); first | exact rfl | exact trivial | refine And.intro ?_ ?_)))
              intro y hy
              rw [h1, h2]
              (repeat' ((conv => whnf); first | refine And.intro ?_ ?_ | exact Cl.mk (by kernel_rfl) | exact Ck.mk (by kernel_rfl) | exact trivial | exact rfl | (intro hh; try simp only [decide_eq_true_eq, decide_eq_false_iff_not, beq_iff_eq, beq_eq_false_iff_ne, bne_iff_ne, bne_eq_false_iff_eq, Bool.not_eq_true', Bool.not_eq_false', Bool.not_true, Bool.not_false] at hh; try exact absurd hh (by decide)))); all_goals (conv => whnf)
              refine CallN.intro (freeM s) [0, 1, 2] rfl rfl ?_ ?_ ?_
              · (repeat' (first | exact rfl | exact trivial | refine And.intro ?_ ?_ | ((conv => whnf); first | exact rfl | exact trivial | refine And.intro ?_ ?_)))
              · (repeat' (first | exact rfl | exact trivial | refine And.intro ?_ ?_ | ((conv => whnf); first | exact rfl | exact trivial | refine And.intro ?_ ?_)))
              intro y hy
              rw [hf]
              (repeat' ((conv => whnf); first | refine And.intro ?_ ?_ | exact Cl.mk (by kernel_rfl) | exact Ck.mk (by kernel_rfl) | exact trivial | exact rfl | (intro hh; try simp only [decide_eq_true_eq, decide_eq_false_iff_not, beq_iff_eq, beq_eq_false_iff_ne, bne_iff_ne, bne_eq_false_iff_eq, Bool.not_eq_true', Bool.not_eq_false', Bool.not_true, Bool.not_false] at hh; try exact absurd hh (by decide)))); all_goals (conv => whnf)
              refine ⟨⟨s, r, all, gone, i + 1⟩, [0, 1, 2, 3, 4], ⟨rfl, rfl, ?_, ?_⟩, ⟨by show i + 1 ≤ l.length; omega, hrel.up (Nat.le_succ i), by show all.length ≤ i + 1; omega, by show gone.length ≤ i + 1; omega, hall, hgone⟩, by show l.length - (i + 1) < l.length - i; omega⟩
              · (repeat' (first | exact rfl | exact trivial | refine And.intro ?_ ?_ | ((conv => whnf); first | exact rfl | exact trivial | refine And.intro ?_ ?_)))
              · (repeat' (first | exact rfl | exact trivial | refine And.intro ?_ ?_ | ((conv => whnf); first | exact rfl | exact trivial | refine And.intro ?_ ?_))); all_goals (conv => whnf); all_goals (try simp only [])
                exact wr1 i (n := 60) (by omega) (by omega)
            · obtain ⟨q, lq, h1, h2, h3, h4⟩ := hrel.takeNE (by omega) hrow
              have hqb := hrel.bound q h2
              refine CallN.intro (takeU s n hok) [0, 1, 2] rfl rfl ?_ ?_ ?_
              · (repeat' (first | exact rfl | exact trivial | refine And.intro ?_ ?_ | ((conv => whnf); first | exact rfl | exact trivial | refine And.intro ?_ ?_)))
              · (repeat' (first | exact rfl | exact trivial | refine And.intro ?_ ?_ | ((conv => whnf); first | exact rfl | exact trivial | refine And.intro ?_ ?_)))
              intro y hy
              rw [h3]
              (repeat' ((conv => whnf); first | refine And.intro ?_ ?_ | exact Cl.mk (by kernel_rfl) | exact Ck.mk (by kernel_rfl) | exact trivial | exact rfl | (intro hh; try simp only [decide_eq_true_eq, decide_eq_false_iff_not, beq_iff_eq, beq_eq_false_iff_ne, bne_iff_ne, bne_eq_false_iff_eq, Bool.not_eq_true', Bool.not_eq_false', Bool.not_true, Bool.not_false] at hh; try exact absurd hh (by decide)))); all_goals (conv => whnf)
              · (refine Ob.mk ?_; (try simp only [Ty.dflt, Nat.zero_add, Nat.add_zero, Int.toNat_natCast, Int.toNat_zero, Int.toNat_one, List.length_take, List.length_drop, List.length_append, List.length_replicate, List.length_cons, List.length_nil, List.length_set, List.length_map, true_and, and_true, b1]); omega)
              have hrel1 := h4.up (Nat.le_succ i)
              have hall1 : ∀ z ∈ all ++ [64 * r.gen.getD q 0 + (q : Int)], z ≤ 9223372036854775807 := fun z hz => by
                rcases List.mem_append.1 hz with hz | hz
                · exact hall z hz
                · rw [List.mem_singleton.1 hz]; omega
              have hgone1 : ∀ z ∈ gone, Gone (rtakeS r q lq) n z := hgone
              have hok1 := hrel1.ok
              have htm := hrel1.taken_map (by omega)
              have hcnt := hrel1.count (by omega)
              have hfr1 := hrel1.free
              have hgl1 : (gone).length ≤ i + 1 := by (try simp only [List.length_append, List.length_cons, List.length_nil]); omega
              have hal1 : ((all ++ [64 * r.gen.getD q 0 + (q : Int)])).length ≤ i + 1 := by (try simp only [List.length_append, List.length_cons, List.length_nil]); omega
              refine LoopN.intro hm (X := Nat) (fun k => k ≤ (gone).length) (fun k => (gone).length - k)
                (fun k => [(24, .int .i64 fun _ => (k : Int)), (11, .int .i64 fun _ => (i : Int)), (10, .vec 4 1 (fun _ => 0) fun _ => (gone).length), (9, .vec 3 1 (fun _ => 0) fun _ => ((all ++ [64 * r.gen.getD q 0 + (q : Int)])).length), (7, .ptr 0 0), (0, .int .i64 fun _ => (n : Int)), (2, .lst OpT fun _ => l)])
                (fun k => ch (takeT s) ++ [.vect 3 (.int .i64) fun _ => (all ++ [64 * r.gen.getD q 0 + (q : Int)]), .vect 3 (.int .i64) fun _ => gone]) 0 [0, 1, 2, 3, 4] ⟨rfl, rfl, ?_, ?_⟩ (Nat.zero_le _) (fun k hk => ?_)
              · (repeat' (first | exact rfl | exact trivial | refine And.intro ?_ ?_ | ((conv => whnf); first | exact rfl | exact trivial | refine And.intro ?_ ?_))); all_goals (conv => whnf); all_goals (try simp only [])
                all_goals simp
              · (repeat' (first | exact rfl | exact trivial | refine And.intro ?_ ?_ | ((conv => whnf); first | exact rfl | exact trivial | refine And.intro ?_ ?_))); all_goals (conv => whnf); all_goals (try simp only [])
                all_goals simp
              · (repeat' ((conv => whnf); first | refine And.intro ?_ ?_ | exact Cl.mk (by kernel_rfl) | exact Ck.mk (by kernel_rfl) | exact trivial | exact rfl | (intro hh; try simp only [decide_eq_true_eq, decide_eq_false_iff_not, beq_iff_eq, beq_eq_false_iff_ne, bne_iff_ne, bne_eq_false_iff_eq, Bool.not_eq_true', Bool.not_eq_false', Bool.not_true, Bool.not_false] at hh))); all_goals (conv => whnf)
                · exact Ob.mk (by simp only []; omega)
                · have hk1 : k < (gone).length := by omega
                  obtain ⟨z, hz⟩ : ∃ z, (gone).getD k 0 = z := ⟨_, rfl⟩
                  have hzm : z ∈ gone := by rw [← hz, List.getD_eq_getElem?_getD, List.getElem?_eq_getElem hk1]; exact List.getElem_mem hk1
                  have hzb := (hgone1 z hzm).bad
                  have hzr := hrel1.readR (by omega) z
                  rw [if_pos hzb, if_pos hzb] at hzr
                  refine CallN.intro (readU (takeT s) n hok1 z) [0, 1, 2] rfl rfl ?_ ?_ ?_
                  · (repeat' (first | exact rfl | exact trivial | refine And.intro ?_ ?_ | ((conv => whnf); first | exact rfl | exact trivial | refine And.intro ?_ ?_))); all_goals (conv => whnf); all_goals (try simp only [])
                    rw [Int.toNat_natCast, Nat.zero_add]; exact hz
                  · (repeat' (first | exact rfl | exact trivial | refine And.intro ?_ ?_ | ((conv => whnf); first | exact rfl | exact trivial | refine And.intro ?_ ?_)))
                  intro y hy
                  rw [hzr.1, hzr.2]
                  (repeat' ((conv => whnf); first | refine And.intro ?_ ?_ | exact Cl.mk (by kernel_rfl) | exact Ck.mk (by kernel_rfl) | exact trivial | exact rfl | (intro hh; try simp only [decide_eq_true_eq, decide_eq_false_iff_not, beq_iff_eq, beq_eq_false_iff_ne, bne_iff_ne, bne_eq_false_iff_eq, Bool.not_eq_true', Bool.not_eq_false', Bool.not_true, Bool.not_false] at hh; try exact absurd hh (by decide)))); all_goals (conv => whnf)
                  refine ⟨k + 1, [0, 1, 2, 3, 4], ⟨rfl, rfl, ?_, ?_⟩, hk1, by omega⟩
                  · (repeat' (first | exact rfl | exact trivial | refine And.intro ?_ ?_ | ((conv => whnf); first | exact rfl | exact trivial | refine And.intro ?_ ?_)))
                  · (repeat' (first | exact rfl | exact trivial | refine And.intro ?_ ?_ | ((conv => whnf); first | exact rfl | exact trivial | refine And.intro ?_ ?_))); all_goals (conv => whnf); all_goals (try simp only [])
                    exact wr1 k (n := 62) (by omega) (by omega)
                · refine CallN.intro (liveM (takeT s) (by rw [hok1.len]; exact hn.2)) [0, 1, 2] rfl rfl ?_ ?_ ?_
                  · (repeat' (first | exact rfl | exact trivial | refine And.intro ?_ ?_ | ((conv => whnf); first | exact rfl | exact trivial | refine And.intro ?_ ?_)))
                  · (repeat' (first | exact rfl | exact trivial | refine And.intro ?_ ?_ | ((conv => whnf); first | exact rfl | exact trivial | refine And.intro ?_ ?_)))
                  intro y hy
                  (repeat' ((conv => whnf); first | refine And.intro ?_ ?_ | exact Cl.mk (by kernel_rfl) | exact Ck.mk (by kernel_rfl) | exact trivial | exact rfl | (intro hh; try simp only [decide_eq_true_eq, decide_eq_false_iff_not, beq_iff_eq, beq_eq_false_iff_ne, bne_iff_ne, bne_eq_false_iff_eq, Bool.not_eq_true', Bool.not_eq_false', Bool.not_true, Bool.not_false] at hh; try exact absurd hh (by decide)))); all_goals (conv => whnf)
                  have htl : (taken (takeT s)).length ≤ 64 := by omega
                  refine LoopN.intro hm (X := Nat) (fun k => k ≤ (taken (takeT s)).length) (fun k => (taken (takeT s)).length - k)
                    (fun k => [(28, .int .i64 fun _ => (k : Int)), (27, .lst (.int .i64) fun _ => taken (takeT s)), (11, .int .i64 fun _ => (i : Int)), (10, .vec 4 1 (fun _ => 0) fun _ => (gone).length), (9, .vec 3 1 (fun _ => 0) fun _ => ((all ++ [64 * r.gen.getD q 0 + (q : Int)])).length), (7, .ptr 0 0), (0, .int .i64 fun _ => (n : Int)), (2, .lst OpT fun _ => l)])
                    (fun k => ch (takeT s) ++ [.vect 3 (.int .i64) fun _ => (all ++ [64 * r.gen.getD q 0 + (q : Int)]), .vect 3 (.int .i64) fun _ => gone]) 0 [0, 1, 2, 3, 4] ⟨rfl, rfl, ?_, ?_⟩ (Nat.zero_le _) (fun k hk => ?_)
                  · (repeat' (first | exact rfl | exact trivial | refine And.intro ?_ ?_ | ((conv => whnf); first | exact rfl | exact trivial | refine And.intro ?_ ?_)))
                  · (repeat' (first | exact rfl | exact trivial | refine And.intro ?_ ?_ | ((conv => whnf); first | exact rfl | exact trivial | refine And.intro ?_ ?_)))
                  · (repeat' ((conv => whnf); first | refine And.intro ?_ ?_ | exact Cl.mk (by kernel_rfl) | exact Ck.mk (by kernel_rfl) | exact trivial | exact rfl | (intro hh; try simp only [decide_eq_true_eq, decide_eq_false_iff_not, beq_iff_eq, beq_eq_false_iff_ne, bne_iff_ne, bne_eq_false_iff_eq, Bool.not_eq_true', Bool.not_eq_false', Bool.not_true, Bool.not_false] at hh))); all_goals (conv => whnf)
                    · have hk1 : k < (taken (takeT s)).length := by omega
                      refine LoopN.intro hm (X := Nat) (fun m => m ≤ k) (fun m => k - m)
                        (fun m => [(29, .int .i64 fun _ => (m : Int)), (28, .int .i64 fun _ => (k : Int)), (27, .lst (.int .i64) fun _ => taken (takeT s)), (11, .int .i64 fun _ => (i : Int)), (10, .vec 4 1 (fun _ => 0) fun _ => (gone).length), (9, .vec 3 1 (fun _ => 0) fun _ => ((all ++ [64 * r.gen.getD q 0 + (q : Int)])).length), (7, .ptr 0 0), (0, .int .i64 fun _ => (n : Int)), (2, .lst OpT fun _ => l)])
                        (fun m => ch (takeT s) ++ [.vect 3 (.int .i64) fun _ => (all ++ [64 * r.gen.getD q 0 + (q : Int)]), .vect 3 (.int .i64) fun _ => gone]) 0 [0, 1, 2, 3, 4] ⟨rfl, rfl, ?_, ?_⟩ (Nat.zero_le _) (fun m hmk => ?_)
                      · (repeat' (first | exact rfl | exact trivial | refine And.intro ?_ ?_ | ((conv => whnf); first | exact rfl | exact trivial | refine And.intro ?_ ?_)))
                      · (repeat' (first | exact rfl | exact trivial | refine And.intro ?_ ?_ | ((conv => whnf); first | exact rfl | exact trivial | refine And.intro ?_ ?_)))
                      · have hmod : ∀ u, u < (taken (takeT s)).length → Int.tmod ((taken (takeT s)).getD u 0) 64 = ((tk (rtakeS r q lq) n).getD u 0 : Nat) := by
                          intro u hu
                          rw [htm, List.length_map] at hu
                          have hget := tk_get hu
                          rw [htm, List.getD_eq_getElem?_getD, List.getElem?_map, List.getElem?_eq_getElem hu, List.getD_eq_getElem?_getD, List.getElem?_eq_getElem hu]
                          exact (hrel1.live_good hget.1 hget.2).2
                        (repeat' ((conv => whnf); first | refine And.intro ?_ ?_ | exact Cl.mk (by kernel_rfl) | exact Ck.mk (by kernel_rfl) | exact trivial | exact rfl | (intro hh; try simp only [decide_eq_true_eq, decide_eq_false_iff_not, beq_iff_eq, beq_eq_false_iff_ne, bne_iff_ne, bne_eq_false_iff_eq, Bool.not_eq_true', Bool.not_eq_false', Bool.not_true, Bool.not_false] at hh))); all_goals (conv => whnf)
                        all_goals first | (refine Ob.mk ?_; (try simp only [Ty.dflt, Nat.zero_add, Nat.add_zero, Int.toNat_natCast, Int.toNat_zero, Int.toNat_one, List.length_take, List.length_drop, List.length_append, List.length_replicate, List.length_cons, List.length_nil, List.length_set, List.length_map, true_and, and_true]); omega) | (exact ⟨by decide⟩) | skip
                        · exfalso
                          simp only [Int.toNat_natCast] at hh
                          have e1 := hmod k (by omega)
                          have e2 := hmod m (by omega)
                          have hd : ∀ u, (taken (takeT s)).getD u (Ty.dflt (.int .i64)) = (taken (takeT s)).getD u 0 := fun _ => rfl
                          rw [hd, hd, e1, e2] at hh
                          rw [htm, List.length_map] at hk1
                          have h1 : (tk (rtakeS r q lq) n).getD k 0 = (tk (rtakeS r q lq) n)[k]'hk1 := by rw [List.getD_eq_getElem?_getD, List.getElem?_eq_getElem hk1]; rfl
                          have h2 : (tk (rtakeS r q lq) n).getD m 0 = (tk (rtakeS r q lq) n)[m]'(by omega) := by rw [List.getD_eq_getElem?_getD, List.getElem?_eq_getElem (by omega)]; rfl
                          rw [h1, h2] at hh
                          exact tk_ne hk1 (by omega) (by omega) (Int.ofNat_inj.1 hh)
                        · refine ⟨m + 1, [0, 1, 2, 3, 4], ⟨rfl, rfl, ?_, ?_⟩, by omega, by omega⟩
                          · (repeat' (first | exact rfl | exact trivial | refine And.intro ?_ ?_ | ((conv => whnf); first | exact rfl | exact trivial | refine And.intro ?_ ?_)))
                          · (repeat' (first | exact rfl | exact trivial | refine And.intro ?_ ?_ | ((conv => whnf); first | exact rfl | exact trivial | refine And.intro ?_ ?_))); all_goals (conv => whnf); all_goals (try simp only [])
                            exact wr1 m (n := 64) (by omega) (by omega)
                        · refine ⟨k + 1, [0, 1, 2, 3, 4], ⟨rfl, rfl, ?_, ?_⟩, hk1, by omega⟩
                          · (repeat' (first | exact rfl | exact trivial | refine And.intro ?_ ?_ | ((conv => whnf); first | exact rfl | exact trivial | refine And.intro ?_ ?_)))
                          · (repeat' (first | exact rfl | exact trivial | refine And.intro ?_ ?_ | ((conv => whnf); first | exact rfl | exact trivial | refine And.intro ?_ ?_))); all_goals (conv => whnf); all_goals (try simp only [])
                            exact wr1 k (n := 64) (by omega) (by omega)
                    · refine CallN.intro (freeM (takeT s)) [0, 1, 2] rfl rfl ?_ ?_ ?_
                      · (repeat' (first | exact rfl | exact trivial | refine And.intro ?_ ?_ | ((conv => whnf); first | exact rfl | exact trivial | refine And.intro ?_ ?_)))
                      · (repeat' (first | exact rfl | exact trivial | refine And.intro ?_ ?_ | ((conv => whnf); first | exact rfl | exact trivial | refine And.intro ?_ ?_)))
                      intro y hy
                      rw [hfr1]
                      have e1 : IntKind.i64.wrap (((taken (takeT s)).length : Int) + ((rtakeS r q lq).row.length : Int)) = n := by rw [wr (by omega)]; omega
                      (repeat' ((conv => whnf); first | refine And.intro ?_ ?_ | exact Cl.mk (by kernel_rfl) | exact Ck.mk (by kernel_rfl) | exact trivial | exact rfl | (intro hh; try simp only [decide_eq_true_eq, decide_eq_false_iff_not, beq_iff_eq, beq_eq_false_iff_ne, bne_iff_ne, bne_eq_false_iff_eq, Bool.not_eq_true', Bool.not_eq_false', Bool.not_true, Bool.not_false] at hh; try exact absurd hh (by decide)))); all_goals (conv => whnf)
                      all_goals first | (exfalso; exact hh e1) | skip
                      refine ⟨⟨(takeT s), (rtakeS r q lq), (all ++ [64 * r.gen.getD q 0 + (q : Int)]), gone, i + 1⟩, [0, 1, 2, 3, 4], ⟨rfl, rfl, ?_, ?_⟩, ⟨by show i + 1 ≤ l.length; omega, hrel1, ?_, ?_, hall1, hgone1⟩, by show l.length - (i + 1) < l.length - i; omega⟩
                      · (repeat' (first | exact rfl | exact trivial | refine And.intro ?_ ?_ | ((conv => whnf); first | exact rfl | exact trivial | refine And.intro ?_ ?_)))
                      · (repeat' (first | exact rfl | exact trivial | refine And.intro ?_ ?_ | ((conv => whnf); first | exact rfl | exact trivial | refine And.intro ?_ ?_))); all_goals (conv => whnf); all_goals (try simp only [])
                        exact wr1 i (n := 60) (by omega) (by omega)
                      · exact hal1
                      · exact hgl1

          · have hgr := hrel.giveR (by omega) H
            have hrel1 := hrel.giveT (by omega) H
            have hgg := hrel.give_gen (by omega) H
            obtain ⟨s1, hs1⟩ : ∃ s1, s1 = (if good s H = true then giveS s (H.tmod 64).toNat else s) := ⟨_, rfl⟩
            refine CallN.intro (giveM s H) [0, 1, 2] rfl rfl ?_ ?_ ?_
            · (repeat' (first | exact rfl | exact trivial | refine And.intro ?_ ?_ | ((conv => whnf); first | exact rfl | exact trivial | refine And.intro ?_ ?_)))
            · (repeat' (first | exact rfl | exact trivial | refine And.intro ?_ ?_ | ((conv => whnf); first | exact rfl | exact trivial | refine And.intro ?_ ?_)))
            intro y hy
            rw [hgr, ← hs1]
            rw [← hs1] at hrel1
            have hall1 := hall
            by_cases hx : rgood r H < 0
            · rw [if_pos hx]
              have hgone1 : ∀ z ∈ gone, Gone (rgiveS r H) n z := fun z hz => (hgone z hz).mono hgg.1
              (repeat' ((conv => whnf); first | refine And.intro ?_ ?_ | exact Cl.mk (by kernel_rfl) | exact Ck.mk (by kernel_rfl) | exact trivial | exact rfl | (intro hh; try simp only [decide_eq_true_eq, decide_eq_false_iff_not, beq_iff_eq, beq_eq_false_iff_ne, bne_iff_ne, bne_eq_false_iff_eq, Bool.not_eq_true', Bool.not_eq_false', Bool.not_true, Bool.not_false] at hh; try exact absurd hh (by decide)))); all_goals (conv => whnf)
              have hok1 := hrel1.ok
              have htm := hrel1.taken_map (by omega)
              have hcnt := hrel1.count (by omega)
              have hfr1 := hrel1.free
              have hgl1 : (gone).length ≤ i + 1 := by (try simp only [List.length_append, List.length_cons, List.length_nil]); omega
              have hal1 : (all).length ≤ i + 1 := by (try simp only [List.length_append, List.length_cons, List.length_nil]); omega
              refine LoopN.intro hm (X := Nat) (fun k => k ≤ (gone).length) (fun k => (gone).length - k)
                (fun k => [(24, .int .i64 fun _ => (k : Int)), (11, .int .i64 fun _ => (i : Int)), (10, .vec 4 1 (fun _ => 0) fun _ => (gone).length), (9, .vec 3 1 (fun _ => 0) fun _ => (all).length), (7, .ptr 0 0), (0, .int .i64 fun _ => (n : Int)), (2, .lst OpT fun _ => l)])
                (fun k => ch s1 ++ [.vect 3 (.int .i64) fun _ => all, .vect 3 (.int .i64) fun _ => gone]) 0 [0, 1, 2, 3, 4] ⟨rfl, rfl, ?_, ?_⟩ (Nat.zero_le _) (fun k hk => ?_)
              · (repeat' (first | exact rfl | exact trivial | refine And.intro ?_ ?_ | ((conv => whnf); first | exact rfl | exact trivial | refine And.intro ?_ ?_))); all_goals (conv => whnf); all_goals (try simp only [])
                all_goals simp
              · (repeat' (first | exact rfl | exact trivial | refine And.intro ?_ ?_ | ((conv => whnf); first | exact rfl | exact trivial | refine And.intro ?_ ?_))); all_goals (conv => whnf); all_goals (try simp only [])
                all_goals simp
              · (repeat' ((conv => whnf); first | refine And.intro ?_ ?_ | exact Cl.mk (by kernel_rfl) | exact Ck.mk (by kernel_rfl) | exact trivial | exact rfl | (intro hh; try simp only [decide_eq_true_eq, decide_eq_false_iff_not, beq_iff_eq, beq_eq_false_iff_ne, bne_iff_ne, bne_eq_false_iff_eq, Bool.not_eq_true', Bool.not_eq_false', Bool.not_true, Bool.not_false] at hh))); all_goals (conv => whnf)
                · exact Ob.mk (by simp only []; omega)
                · have hk1 : k < (gone).length := by omega
                  obtain ⟨z, hz⟩ : ∃ z, (gone).getD k 0 = z := ⟨_, rfl⟩
                  have hzm : z ∈ gone := by rw [← hz, List.getD_eq_getElem?_getD, List.getElem?_eq_getElem hk1]; exact List.getElem_mem hk1
                  have hzb := (hgone1 z hzm).bad
                  have hzr := hrel1.readR (by omega) z
                  rw [if_pos hzb, if_pos hzb] at hzr
                  refine CallN.intro (readU s1 n hok1 z) [0, 1, 2] rfl rfl ?_ ?_ ?_
                  · (repeat' (first | exact rfl | exact trivial | refine And.intro ?_ ?_ | ((conv => whnf); first | exact rfl | exact trivial | refine And.intro ?_ ?_))); all_goals (conv => whnf); all_goals (try simp only [])
                    rw [Int.toNat_natCast, Nat.zero_add]; exact hz
                  · (repeat' (first | exact rfl | exact trivial | refine And.intro ?_ ?_ | ((conv => whnf); first | exact rfl | exact trivial | refine And.intro ?_ ?_)))
                  intro y hy
                  rw [hzr.1, hzr.2]
                  (repeat' ((conv => whnf); first | refine And.intro ?_ ?_ | exact Cl.mk (by kernel_rfl) | exact Ck.mk (by kernel_rfl) | exact trivial | exact rfl | (intro hh; try simp only [decide_eq_true_eq, decide_eq_false_iff_not, beq_iff_eq, beq_eq_false_iff_ne, bne_iff_ne, bne_eq_false_iff_eq, Bool.not_eq_true', Bool.not_eq_false', Bool.not_true, Bool.not_false] at hh; try exact absurd hh (by decide)))); all_goals (conv => whnf)
                  refine ⟨k + 1, [0, 1, 2, 3, 4], ⟨rfl, rfl, ?_, ?_⟩, hk1, by omega⟩
                  · (repeat' (first | exact rfl | exact trivial | refine And.intro ?_ ?_ | ((conv => whnf); first | exact rfl | exact trivial | refine And.intro ?_ ?_)))
                  · (repeat' (first | exact rfl | exact trivial | refine And.intro ?_ ?_ | ((conv => whnf); first | exact rfl | exact trivial | refine And.intro ?_ ?_))); all_goals (conv => whnf); all_goals (try simp only [])
                    exact wr1 k (n := 62) (by omega) (by omega)
                · refine CallN.intro (liveM s1 (by rw [hok1.len]; exact hn.2)) [0, 1, 2] rfl rfl ?_ ?_ ?_
                  · (repeat' (first | exact rfl | exact trivial | refine And.intro ?_ ?_ | ((conv => whnf); first | exact rfl | exact trivial | refine And.intro ?_ ?_)))
                  · (repeat' (first | exact rfl | exact trivial | refine And.intro ?_ ?_ | ((conv => whnf); first | exact rfl | exact trivial | refine And.intro ?_ ?_)))
                  intro y hy
                  (repeat' ((conv => whnf); first | refine And.intro ?_ ?_ | exact Cl.mk (by kernel_rfl) | exact Ck.mk (by kernel_rfl) | exact trivial | exact rfl | (intro hh; try simp only [decide_eq_true_eq, decide_eq_false_iff_not, beq_iff_eq, beq_eq_false_iff_ne, bne_iff_ne, bne_eq_false_iff_eq, Bool.not_eq_true', Bool.not_eq_false', Bool.not_true, Bool.not_false] at hh; try exact absurd hh (by decide)))); all_goals (conv => whnf)
                  have htl : (taken s1).length ≤ 64 := by omega
                  refine LoopN.intro hm (X := Nat) (fun k => k ≤ (taken s1).length) (fun k => (taken s1).length - k)
                    (fun k => [(28, .int .i64 fun _ => (k : Int)), (27, .lst (.int .i64) fun _ => taken s1), (11, .int .i64 fun _ => (i : Int)), (10, .vec 4 1 (fun _ => 0) fun _ => (gone).length), (9, .vec 3 1 (fun _ => 0) fun _ => (all).length), (7, .ptr 0 0), (0, .int .i64 fun _ => (n : Int)), (2, .lst OpT fun _ => l)])
                    (fun k => ch s1 ++ [.vect 3 (.int .i64) fun _ => all, .vect 3 (.int .i64) fun _ => gone]) 0 [0, 1, 2, 3, 4] ⟨rfl, rfl, ?_, ?_⟩ (Nat.zero_le _) (fun k hk => ?_)
                  · (repeat' (first | exact rfl | exact trivial | refine And.intro ?_ ?_ | ((conv => whnf); first | exact rfl | exact trivial | refine And.intro ?_ ?_)))
                  · (repeat' (first | exact rfl | exact trivial | refine And.intro ?_ ?_ | ((conv => whnf); first | exact rfl | exact trivial | refine And.intro ?_ ?_)))
                  · (repeat' ((conv => whnf); first | refine And.intro ?_ ?_ | exact Cl.mk (by kernel_rfl) | exact Ck.mk (by kernel_rfl) | exact trivial | exact rfl | (intro hh; try simp only [decide_eq_true_eq, decide_eq_false_iff_not, beq_iff_eq, beq_eq_false_iff_ne, bne_iff_ne, bne_eq_false_iff_eq, Bool.not_eq_true', Bool.not_eq_false', Bool.not_true, Bool.not_false] at hh))); all_goals (conv => whnf)
                    · have hk1 : k < (taken s1).length := by omega
                      refine LoopN.intro hm (X := Nat) (fun m => m ≤ k) (fun m => k - m)
                        (fun m => [(29, .int .i64 fun _ => (m : Int)), (28, .int .i64 fun _ => (k : Int)), (27, .lst (.int .i64) fun _ => taken s1), (11, .int .i64 fun _ => (i : Int)), (10, .vec 4 1 (fun _ => 0) fun _ => (gone).length), (9, .vec 3 1 (fun _ => 0) fun _ => (all).length), (7, .ptr 0 0), (0, .int .i64 fun _ => (n : Int)), (2, .lst OpT fun _ => l)])
                        (fun m => ch s1 ++ [.vect 3 (.int .i64) fun _ => all, .vect 3 (.int .i64) fun _ => gone]) 0 [0, 1, 2, 3, 4] ⟨rfl, rfl, ?_, ?_⟩ (Nat.zero_le _) (fun m hmk => ?_)
                      · (repeat' (first | exact rfl | exact trivial | refine And.intro ?_ ?_ | ((conv => whnf); first | exact rfl | exact trivial | refine And.intro ?_ ?_)))
                      · (repeat' (first | exact rfl | exact trivial | refine And.intro ?_ ?_ | ((conv => whnf); first | exact rfl | exact trivial | refine And.intro ?_ ?_)))
                      · have hmod : ∀ u, u < (taken s1).length → Int.tmod ((taken s1).getD u 0) 64 = ((tk (rgiveS r H) n).getD u 0 : Nat) := by
                          intro u hu
                          rw [htm, List.length_map] at hu
                          have hget := tk_get hu
                          rw [htm, List.getD_eq_getElem?_getD, List.getElem?_map, List.getElem?_eq_getElem hu, List.getD_eq_getElem?_getD, List.getElem?_eq_getElem hu]
                          exact (hrel1.live_good hget.1 hget.2).2
                        (repeat' ((conv => whnf); first | refine And.intro ?_ ?_ | exact Cl.mk (by kernel_rfl) | exact Ck.mk (by kernel_rfl) | exact trivial | exact rfl | (intro hh; try simp only [decide_eq_true_eq, decide_eq_false_iff_not, beq_iff_eq, beq_eq_false_iff_ne, bne_iff_ne, bne_eq_false_iff_eq, Bool.not_eq_true', Bool.not_eq_false', Bool.not_true, Bool.not_false] at hh))); all_goals (conv => whnf)
                        all_goals first | (refine Ob.mk ?_; (try simp only [Ty.dflt, Nat.zero_add, Nat.add_zero, Int.toNat_natCast, Int.toNat_zero, Int.toNat_one, List.length_take, List.length_drop, List.length_append, List.length_replicate, List.length_cons, List.length_nil, List.length_set, List.length_map, true_and, and_true]); omega) | (exact ⟨by decide⟩) | skip
                        · exfalso
                          simp only [Int.toNat_natCast] at hh
                          have e1 := hmod k (by omega)
                          have e2 := hmod m (by omega)
                          have hd : ∀ u, (taken s1).getD u (Ty.dflt (.int .i64)) = (taken s1).getD u 0 := fun _ => rfl
                          rw [hd, hd, e1, e2] at hh
                          rw [htm, List.length_map] at hk1
                          have h1 : (tk (rgiveS r H) n).getD k 0 = (tk (rgiveS r H) n)[k]'hk1 := by rw [List.getD_eq_getElem?_getD, List.getElem?_eq_getElem hk1]; rfl
                          have h2 : (tk (rgiveS r H) n).getD m 0 = (tk (rgiveS r H) n)[m]'(by omega) := by rw [List.getD_eq_getElem?_getD, List.getElem?_eq_getElem (by omega)]; rfl
                          rw [h1, h2] at hh
                          exact tk_ne hk1 (by omega) (by omega) (Int.ofNat_inj.1 hh)
                        · refine ⟨m + 1, [0, 1, 2, 3, 4], ⟨rfl, rfl, ?_, ?_⟩, by omega, by omega⟩
                          · (repeat' (first | exact rfl | exact trivial | refine And.intro ?_ ?_ | ((conv => whnf); first | exact rfl | exact trivial | refine And.intro ?_ ?_)))
                          · (repeat' (first | exact rfl | exact trivial | refine And.intro ?_ ?_ | ((conv => whnf); first | exact rfl | exact trivial | refine And.intro ?_ ?_))); all_goals (conv => whnf); all_goals (try simp only [])
                            exact wr1 m (n := 64) (by omega) (by omega)
                        · refine ⟨k + 1, [0, 1, 2, 3, 4], ⟨rfl, rfl, ?_, ?_⟩, hk1, by omega⟩
                          · (repeat' (first | exact rfl | exact trivial | refine And.intro ?_ ?_ | ((conv => whnf); first | exact rfl | exact trivial | refine And.intro ?_ ?_)))
                          · (repeat' (first | exact rfl | exact trivial | refine And.intro ?_ ?_ | ((conv => whnf); first | exact rfl | exact trivial | refine And.intro ?_ ?_))); all_goals (conv => whnf); all_goals (try simp only [])
                            exact wr1 k (n := 64) (by omega) (by omega)
                    · refine CallN.intro (freeM s1) [0, 1, 2] rfl rfl ?_ ?_ ?_
                      · (repeat' (first | exact rfl | exact trivial | refine And.intro ?_ ?_ | ((conv => whnf); first | exact rfl | exact trivial | refine And.intro ?_ ?_)))
                      · (repeat' (first | exact rfl | exact trivial | refine And.intro ?_ ?_ | ((conv => whnf); first | exact rfl | exact trivial | refine And.intro ?_ ?_)))
                      intro y hy
                      rw [hfr1]
                      have e1 : IntKind.i64.wrap (((taken s1).length : Int) + ((rgiveS r H).row.length : Int)) = n := by rw [wr (by omega)]; omega
                      (repeat' ((conv => whnf); first | refine And.intro ?_ ?_ | exact Cl.mk (by kernel_rfl) | exact Ck.mk (by kernel_rfl) | exact trivial | exact rfl | (intro hh; try simp only [decide_eq_true_eq, decide_eq_false_iff_not, beq_iff_eq, beq_eq_false_iff_ne, bne_iff_ne, bne_eq_false_iff_eq, Bool.not_eq_true', Bool.not_eq_false', Bool.not_true, Bool.not_false] at hh; try exact absurd hh (by decide)))); all_goals (conv => whnf)
                      all_goals first | (exfalso; exact hh e1) | skip
                      refine ⟨⟨s1, (rgiveS r H), all, gone, i + 1⟩, [0, 1, 2, 3, 4], ⟨rfl, rfl, ?_, ?_⟩, ⟨by show i + 1 ≤ l.length; omega, hrel1, ?_, ?_, hall1, hgone1⟩, by show l.length - (i + 1) < l.length - i; omega⟩
                      · (repeat' (first | exact rfl | exact trivial | refine And.intro ?_ ?_ | ((conv => whnf); first | exact rfl | exact trivial | refine And.intro ?_ ?_)))
                      · (repeat' (first | exact rfl | exact trivial | refine And.intro ?_ ?_ | ((conv => whnf); first | exact rfl | exact trivial | refine And.intro ?_ ?_))); all_goals (conv => whnf); all_goals (try simp only [])
                        exact wr1 i (n := 60) (by omega) (by omega)
                      · exact hal1
                      · exact hgl1

            · rw [if_neg hx]
              have hgone1 : ∀ z ∈ gone ++ [H], Gone (rgiveS r H) n z := fun z hz => by
                rcases List.mem_append.1 hz with hz | hz
                · exact (hgone z hz).mono hgg.1
                · rw [List.mem_singleton.1 hz]; exact hgg.2 hx
              (repeat' ((conv => whnf); first | refine And.intro ?_ ?_ | exact Cl.mk (by kernel_rfl) | exact Ck.mk (by kernel_rfl) | exact trivial | exact rfl | (intro hh; try simp only [decide_eq_true_eq, decide_eq_false_iff_not, beq_iff_eq, beq_eq_false_iff_ne, bne_iff_ne, bne_eq_false_iff_eq, Bool.not_eq_true', Bool.not_eq_false', Bool.not_true, Bool.not_false] at hh; try exact absurd hh (by decide)))); all_goals (conv => whnf)
              · (refine Ob.mk ?_; (try simp only [Ty.dflt, Nat.zero_add, Nat.add_zero, Int.toNat_natCast, Int.toNat_zero, Int.toNat_one, List.length_take, List.length_drop, List.length_append, List.length_replicate, List.length_cons, List.length_nil, List.length_set, List.length_map, true_and, and_true, b1]); omega)
              have hok1 := hrel1.ok
              have htm := hrel1.taken_map (by omega)
              have hcnt := hrel1.count (by omega)
              have hfr1 := hrel1.free
              have hgl1 : ((gone ++ [H])).length ≤ i + 1 := by (try simp only [List.length_append, List.length_cons, List.length_nil]); omega
              have hal1 : (all).length ≤ i + 1 := by (try simp only [List.length_append, List.length_cons, List.length_nil]); omega
              refine LoopN.intro hm (X := Nat) (fun k => k ≤ ((gone ++ [H])).length) (fun k => ((gone ++ [H])).length - k)
                (fun k => [(24, .int .i64 fun _ => (k : Int)), (11, .int .i64 fun _ => (i : Int)), (10, .vec 4 1 (fun _ => 0) fun _ => ((gone ++ [H])).length), (9, .vec 3 1 (fun _ => 0) fun _ => (all).length), (7, .ptr 0 0), (0, .int .i64 fun _ => (n : Int)), (2, .lst OpT fun _ => l)])
                (fun k => ch s1 ++ [.vect 3 (.int .i64) fun _ => all, .vect 3 (.int .i64) fun _ => (gone ++ [H])]) 0 [0, 1, 2, 3, 4] ⟨rfl, rfl, ?_, ?_⟩ (Nat.zero_le _) (fun k hk => ?_)
              · (repeat' (first | exact rfl | exact trivial | refine And.intro ?_ ?_ | ((conv => whnf); first | exact rfl | exact trivial | refine And.intro ?_ ?_))); all_goals (conv => whnf); all_goals (try simp only [])
                all_goals simp
              · (repeat' (first | exact rfl | exact trivial | refine And.intro ?_ ?_ | ((conv => whnf); first | exact rfl | exact trivial | refine And.intro ?_ ?_))); all_goals (conv => whnf); all_goals (try simp only [])
                all_goals simp
              · (repeat' ((conv => whnf); first | refine And.intro ?_ ?_ | exact Cl.mk (by kernel_rfl) | exact Ck.mk (by kernel_rfl) | exact trivial | exact rfl | (intro hh; try simp only [decide_eq_true_eq, decide_eq_false_iff_not, beq_iff_eq, beq_eq_false_iff_ne, bne_iff_ne, bne_eq_false_iff_eq, Bool.not_eq_true', Bool.not_eq_false', Bool.not_true, Bool.not_false] at hh))); all_goals (conv => whnf)
                · exact Ob.mk (by simp only []; omega)
                · have hk1 : k < ((gone ++ [H])).length := by omega
                  obtain ⟨z, hz⟩ : ∃ z, ((gone ++ [H])).getD k 0 = z := ⟨_, rfl⟩
                  have hzm : z ∈ (gone ++ [H]) := by rw [← hz, List.getD_eq_getElem?_getD, List.getElem?_eq_getElem hk1]; exact List.getElem_mem hk1
                  have hzb := (hgone1 z hzm).bad
                  have hzr := hrel1.readR (by omega) z
                  rw [if_pos hzb, if_pos hzb] at hzr
                  refine CallN.intro (readU s1 n hok1 z) [0, 1, 2] rfl rfl ?_ ?_ ?_
                  · (repeat' (first | exact rfl | exact trivial | refine And.intro ?_ ?_ | ((conv => whnf); first | exact rfl | exact trivial | refine And.intro ?_ ?_))); all_goals (conv => whnf); all_goals (try simp only [])
                    rw [Int.toNat_natCast, Nat.zero_add]; exact hz
                  · (repeat' (first | exact rfl | exact trivial | refine And.intro ?_ ?_ | ((conv => whnf); first | exact rfl | exact trivial | refine And.intro ?_ ?_)))
                  intro y hy
                  rw [hzr.1, hzr.2]
                  (repeat' ((conv => whnf); first | refine And.intro ?_ ?_ | exact Cl.mk (by kernel_rfl) | exact Ck.mk (by kernel_rfl) | exact trivial | exact rfl | (intro hh; try simp only [decide_eq_true_eq, decide_eq_false_iff_not, beq_iff_eq, beq_eq_false_iff_ne, bne_iff_ne, bne_eq_false_iff_eq, Bool.not_eq_true', Bool.not_eq_false', Bool.not_true, Bool.not_false] at hh; try exact absurd hh (by decide)))); all_goals (conv => whnf)
                  refine ⟨k + 1, [0, 1, 2, 3, 4], ⟨rfl, rfl, ?_, ?_⟩, hk1, by omega⟩
                  · (repeat' (first | exact rfl | exact trivial | refine And.intro ?_ ?_ | ((conv => whnf); first | exact rfl | exact trivial | refine And.intro ?_ ?_)))
                  · (repeat' (first | exact rfl | exact trivial | refine And.intro ?_ ?_ | ((conv => whnf); first | exact rfl | exact trivial | refine And.intro ?_ ?_))); all_goals (conv => whnf); all_goals (try simp only [])
                    exact wr1 k (n := 62) (by omega) (by omega)
                · refine CallN.intro (liveM s1 (by rw [hok1.len]; exact hn.2)) [0, 1, 2] rfl rfl ?_ ?_ ?_
                  · (repeat' (first | exact rfl | exact trivial | refine And.intro ?_ ?_ | ((conv => whnf); first | exact rfl | exact trivial | refine And.intro ?_ ?_)))
                  · (repeat' (first | exact rfl | exact trivial | refine And.intro ?_ ?_ | ((conv => whnf); first | exact rfl | exact trivial | refine And.intro ?_ ?_)))
                  intro y hy
                  (repeat' ((conv => whnf); first | refine And.intro ?_ ?_ | exact Cl.mk (by kernel_rfl) | exact Ck.mk (by kernel_rfl) | exact trivial | exact rfl | (intro hh; try simp only [decide_eq_true_eq, decide_eq_false_iff_not, beq_iff_eq, beq_eq_false_iff_ne, bne_iff_ne, bne_eq_false_iff_eq, Bool.not_eq_true', Bool.not_eq_false', Bool.not_true, Bool.not_false] at hh; try exact absurd hh (by decide)))); all_goals (conv => whnf)
                  have htl : (taken s1).length ≤ 64 := by omega
                  refine LoopN.intro hm (X := Nat) (fun k => k ≤ (taken s1).length) (fun k => (taken s1).length - k)
                    (fun k => [(28, .int .i64 fun _ => (k : Int)), (27, .lst (.int .i64) fun _ => taken s1), (11, .int .i64 fun _ => (i : Int)), (10, .vec 4 1 (fun _ => 0) fun _ => ((gone ++ [H])).length), (9, .vec 3 1 (fun _ => 0) fun _ => (all).length), (7, .ptr 0 0), (0, .int .i64 fun _ => (n : Int)), (2, .lst OpT fun _ => l)])
                    (fun k => ch s1 ++ [.vect 3 (.int .i64) fun _ => all, .vect 3 (.int .i64) fun _ => (gone ++ [H])]) 0 [0, 1, 2, 3, 4] ⟨rfl, rfl, ?_, ?_⟩ (Nat.zero_le _) (fun k hk => ?_)
                  · (repeat' (first | exact rfl | exact trivial | refine And.intro ?_ ?_ | ((conv => whnf); first | exact rfl | exact trivial | refine And.intro ?_ ?_)))
                  · (repeat' (first | exact rfl | exact trivial | refine And.intro ?_ ?_ | ((conv => whnf); first | exact rfl | exact trivial | refine And.intro ?_ ?_)))
                  · (repeat' ((conv => whnf); first | refine And.intro ?_ ?_ | exact Cl.mk (by kernel_rfl) | exact Ck.mk (by kernel_rfl) | exact trivial | exact rfl | (intro hh; try simp only [decide_eq_true_eq, decide_eq_false_iff_not, beq_iff_eq, beq_eq_false_iff_ne, bne_iff_ne, bne_eq_false_iff_eq, Bool.not_eq_true', Bool.not_eq_false', Bool.not_true, Bool.not_false] at hh))); all_goals (conv => whnf)
                    · have hk1 : k < (taken s1).length := by omega
                      refine LoopN.intro hm (X := Nat) (fun m => m ≤ k) (fun m => k - m)
                        (fun m => [(29, .int .i64 fun _ => (m : Int)), (28, .int .i64 fun _ => (k : Int)), (27, .lst (.int .i64) fun _ => taken s1), (11, .int .i64 fun _ => (i : Int)), (10, .vec 4 1 (fun _ => 0) fun _ => ((gone ++ [H])).length), (9, .vec 3 1 (fun _ => 0) fun _ => (all).length), (7, .ptr 0 0), (0, .int .i64 fun _ => (n : Int)), (2, .lst OpT fun _ => l)])
                        (fun m => ch s1 ++ [.vect 3 (.int .i64) fun _ => all, .vect 3 (.int .i64) fun _ => (gone ++ [H])]) 0 [0, 1, 2, 3, 4] ⟨rfl, rfl, ?_, ?_⟩ (Nat.zero_le _) (fun m hmk => ?_)
                      · (repeat' (first | exact rfl | exact trivial | refine And.intro ?_ ?_ | ((conv => whnf); first | exact rfl | exact trivial | refine And.intro ?_ ?_)))
                      · (repeat' (first | exact rfl | exact trivial | refine And.intro ?_ ?_ | ((conv => whnf); first | exact rfl | exact trivial | refine And.intro ?_ ?_)))
                      · have hmod : ∀ u, u < (taken s1).length → Int.tmod ((taken s1).getD u 0) 64 = ((tk (rgiveS r H) n).getD u 0 : Nat) := by
                          intro u hu
                          rw [htm, List.length_map] at hu
                          have hget := tk_get hu
                          rw [htm, List.getD_eq_getElem?_getD, List.getElem?_map, List.getElem?_eq_getElem hu, List.getD_eq_getElem?_getD, List.getElem?_eq_getElem hu]
                          exact (hrel1.live_good hget.1 hget.2).2
                        (repeat' ((conv => whnf); first | refine And.intro ?_ ?_ | exact Cl.mk (by kernel_rfl) | exact Ck.mk (by kernel_rfl) | exact trivial | exact rfl | (intro hh; try simp only [decide_eq_true_eq, decide_eq_false_iff_not, beq_iff_eq, beq_eq_false_iff_ne, bne_iff_ne, bne_eq_false_iff_eq, Bool.not_eq_true', Bool.not_eq_false', Bool.not_true, Bool.not_false] at hh))); all_goals (conv => whnf)
                        all_goals first | (refine Ob.mk ?_; (try simp only [Ty.dflt, Nat.zero_add, Nat.add_zero, Int.toNat_natCast, Int.toNat_zero, Int.toNat_one, List.length_take, List.length_drop, List.length_append, List.length_replicate, List.length_cons, List.length_nil, List.length_set, List.length_map, true_and, and_true]); omega) | (exact ⟨by decide⟩) | skip
                        · exfalso
                          simp only [Int.toNat_natCast] at hh
                          have e1 := hmod k (by omega)
                          have e2 := hmod m (by omega)
                          have hd : ∀ u, (taken s1).getD u (Ty.dflt (.int .i64)) = (taken s1).getD u 0 := fun _ => rfl
                          rw [hd, hd, e1, e2] at hh
                          rw [htm, List.length_map] at hk1
                          have h1 : (tk (rgiveS r H) n).getD k 0 = (tk (rgiveS r H) n)[k]'hk1 := by rw [List.getD_eq_getElem?_getD, List.getElem?_eq_getElem hk1]; rfl
                          have h2 : (tk (rgiveS r H) n).getD m 0 = (tk (rgiveS r H) n)[m]'(by omega) := by rw [List.getD_eq_getElem?_getD, List.getElem?_eq_getElem (by omega)]; rfl
                          rw [h1, h2] at hh
                          exact tk_ne hk1 (by omega) (by omega) (Int.ofNat_inj.1 hh)
                        · refine ⟨m + 1, [0, 1, 2, 3, 4], ⟨rfl, rfl, ?_, ?_⟩, by omega, by omega⟩
                          · (repeat' (first | exact rfl | exact trivial | refine And.intro ?_ ?_ | ((conv => whnf); first | exact rfl | exact trivial | refine And.intro ?_ ?_)))
                          · (repeat' (first | exact rfl | exact trivial | refine And.intro ?_ ?_ | ((conv => whnf); first | exact rfl | exact trivial | refine And.intro ?_ ?_))); all_goals (conv => whnf); all_goals (try simp only [])
                            exact wr1 m (n := 64) (by omega) (by omega)
                        · refine ⟨k + 1, [0, 1, 2, 3, 4], ⟨rfl, rfl, ?_, ?_⟩, hk1, by omega⟩
                          · (repeat' (first | exact rfl | exact trivial | refine And.intro ?_ ?_ | ((conv => whnf); first | exact rfl | exact trivial | refine And.intro ?_ ?_)))
                          · (repeat' (first | exact rfl | exact trivial | refine And.intro ?_ ?_ | ((conv => whnf); first | exact rfl | exact trivial | refine And.intro ?_ ?_))); all_goals (conv => whnf); all_goals (try simp only [])
                            exact wr1 k (n := 64) (by omega) (by omega)
                    · refine CallN.intro (freeM s1) [0, 1, 2] rfl rfl ?_ ?_ ?_
                      · (repeat' (first | exact rfl | exact trivial | refine And.intro ?_ ?_ | ((conv => whnf); first | exact rfl | exact trivial | refine And.intro ?_ ?_)))
                      · (repeat' (first | exact rfl | exact trivial | refine And.intro ?_ ?_ | ((conv => whnf); first | exact rfl | exact trivial | refine And.intro ?_ ?_)))
                      intro y hy
                      rw [hfr1]
                      have e1 : IntKind.i64.wrap (((taken s1).length : Int) + ((rgiveS r H).row.length : Int)) = n := by rw [wr (by omega)]; omega
                      (repeat' ((conv => whnf); first | refine And.intro ?_ ?_ | exact Cl.mk (by kernel_rfl) | exact Ck.mk (by kernel_rfl) | exact trivial | exact rfl | (intro hh; try simp only [decide_eq_true_eq, decide_eq_false_iff_not, beq_iff_eq, beq_eq_false_iff_ne, bne_iff_ne, bne_eq_false_iff_eq, Bool.not_eq_true', Bool.not_eq_false', Bool.not_true, Bool.not_false] at hh; try exact absurd hh (by decide)))); all_goals (conv => whnf)
                      all_goals first | (exfalso; exact hh e1) | skip
                      refine ⟨⟨s1, (rgiveS r H), all, (gone ++ [H]), i + 1⟩, [0, 1, 2, 3, 4], ⟨rfl, rfl, ?_, ?_⟩, ⟨by show i + 1 ≤ l.length; omega, hrel1, ?_, ?_, hall1, hgone1⟩, by show l.length - (i + 1) < l.length - i; omega⟩
                      · (repeat' (first | exact rfl | exact trivial | refine And.intro ?_ ?_ | ((conv => whnf); first | exact rfl | exact trivial | refine And.intro ?_ ?_)))
                      · (repeat' (first | exact rfl | exact trivial | refine And.intro ?_ ?_ | ((conv => whnf); first | exact rfl | exact trivial | refine And.intro ?_ ?_))); all_goals (conv => whnf); all_goals (try simp only [])
                        exact wr1 i (n := 60) (by omega) (by omega)
                      · exact hal1
                      · exact hgl1

          · refine CallN.intro (liveM s (by rw [hok.len]; exact hn.2)) [0, 1, 2] rfl rfl ?_ ?_ ?_
            · (repeat' (first | exact rfl | exact trivial | refine And.intro ?_ ?_ | ((conv => whnf); first | exact rfl | exact trivial | refine And.intro ?_ ?_)))
            · (repeat' (first | exact rfl | exact trivial | refine And.intro ?_ ?_ | ((conv => whnf); first | exact rfl | exact trivial | refine And.intro ?_ ?_)))
            intro y hy
            (repeat' ((conv => whnf); first | refine And.intro ?_ ?_ | exact Cl.mk (by kernel_rfl) | exact Ck.mk (by kernel_rfl) | exact trivial | exact rfl | (intro hh; try simp only [decide_eq_true_eq, decide_eq_false_iff_not, beq_iff_eq, beq_eq_false_iff_ne, bne_iff_ne, bne_eq_false_iff_eq, Bool.not_eq_true', Bool.not_eq_false', Bool.not_true, Bool.not_false] at hh; try exact absurd hh (by decide)))); all_goals (conv => whnf)
            have b3 : Try.t33.bytes = 24 := rfl
            have htm := hrel.taken_map (by omega)
            have hcnt := hrel.count (by omega)
            have htl : (taken s).length ≤ 64 := by omega
            have hx : ∀ k, k < (taken s).length → ∃ j, j < n ∧ r.taken.getD j false = true ∧ (taken s).getD k 0 = 64 * r.gen.getD j 0 + (j : Int) := by
              intro k hk
              rw [htm, List.length_map] at hk
              have hget := tk_get hk
              refine ⟨_, hget.1, hget.2, ?_⟩
              rw [htm, List.getD_eq_getElem?_getD, List.getElem?_map, List.getElem?_eq_getElem hk]; rfl
            have hrd : ∀ k, k < (taken s).length → good s ((taken s).getD k 0) = true := by
              intro k hk
              obtain ⟨j, h1, h2, h3⟩ := hx k hk
              rw [h3]
              exact (hrel.good_iff (by omega) _).2 (by rw [(hrel.live_good h1 h2).1]; omega)
            refine LoopN.nil 33 (.list (.int .u64)) none [16] ?_
            (conv => whnf)
            refine LoopN.intro hm (X := Nat) (fun k => k ≤ (taken s).length) (fun k => (taken s).length - k)
              (fun k => [(17, .int .i64 fun _ => (k : Int)), (16, .vec 5 1 (fun _ => 0) fun _ => k), (15, .lst (.int .i64) fun _ => taken s), (12, .int .i64 fun _ => H), (11, .int .i64 fun _ => (i : Int)), (10, .vec 4 1 (fun _ => 0) fun _ => gone.length), (9, .vec 3 1 (fun _ => 0) fun _ => all.length), (7, .ptr 0 0), (0, .int .i64 fun _ => (n : Int)), (2, .lst OpT fun _ => l)])
              (fun k => ch s ++ [.vect 3 (.int .i64) fun _ => all, .vect 3 (.int .i64) fun _ => gone, .vect 33 (.list (.int .u64)) fun _ => ((taken s).take k).map (wordsOf s)]) 0 [0, 1, 2, 3, 4, 5] ⟨rfl, rfl, ?_, ?_⟩ (Nat.zero_le _) (fun k hk => ?_)
            · (repeat' (first | exact rfl | exact trivial | refine And.intro ?_ ?_ | ((conv => whnf); first | exact rfl | exact trivial | refine And.intro ?_ ?_)))
            · (repeat' (first | exact rfl | exact trivial | refine And.intro ?_ ?_ | ((conv => whnf); first | exact rfl | exact trivial | refine And.intro ?_ ?_)))
            · (repeat' ((conv => whnf); first | refine And.intro ?_ ?_ | exact Cl.mk (by kernel_rfl) | exact Ck.mk (by kernel_rfl) | exact trivial | exact rfl | (intro hh; try simp only [decide_eq_true_eq, decide_eq_false_iff_not, beq_iff_eq, beq_eq_false_iff_ne, bne_iff_ne, bne_eq_false_iff_eq, Bool.not_eq_true', Bool.not_eq_false', Bool.not_true, Bool.not_false] at hh))); all_goals (conv => whnf)
              · exact Ob.mk (by simp only []; omega)
              · have hk1 : k < (taken s).length := by omega
                have hkd : (taken s).getD ((k : Int)).toNat (Ty.dflt (.int .i64)) = (taken s).getD k 0 := by rw [Int.toNat_natCast]; rfl
                have hr0 : readR s ((taken s).getD k 0) = (wordsOf s ((taken s).getD k 0), 0) := by unfold readR; rw [if_pos (hrd k hk1)]
                refine CallN.intro (readU s n hok ((taken s).getD k 0)) [0, 1, 2] rfl rfl ?_ ?_ ?_
                · (repeat' (first | exact rfl | exact trivial | refine And.intro ?_ ?_ | ((conv => whnf); first | exact rfl | exact trivial | refine And.intro ?_ ?_))); all_goals (conv => whnf); all_goals (try simp only [])
                · (repeat' (first | exact rfl | exact trivial | refine And.intro ?_ ?_ | ((conv => whnf); first | exact rfl | exact trivial | refine And.intro ?_ ?_)))
                intro y hy
                rw [hr0]
                (repeat' ((conv => whnf); first | refine And.intro ?_ ?_ | exact Cl.mk (by kernel_rfl) | exact Ck.mk (by kernel_rfl) | exact trivial | exact rfl | (intro hh; try simp only [decide_eq_true_eq, decide_eq_false_iff_not, beq_iff_eq, beq_eq_false_iff_ne, bne_iff_ne, bne_eq_false_iff_eq, Bool.not_eq_true', Bool.not_eq_false', Bool.not_true, Bool.not_false] at hh; try exact absurd hh (by decide)))); all_goals (conv => whnf)
                · (refine Ob.mk ?_; (try simp only [Ty.dflt, Nat.zero_add, Nat.add_zero, Int.toNat_natCast, Int.toNat_zero, Int.toNat_one, List.length_take, List.length_drop, List.length_append, List.length_replicate, List.length_cons, List.length_nil, List.length_set, List.length_map, true_and, and_true, b3]); omega)
                refine ⟨k + 1, [0, 1, 2, 3, 4, 5], ⟨rfl, rfl, ?_, ?_⟩, hk1, by omega⟩
                · (repeat' (first | exact rfl | exact trivial | refine And.intro ?_ ?_ | ((conv => whnf); first | exact rfl | exact trivial | refine And.intro ?_ ?_))); all_goals (conv => whnf); all_goals (try simp only [])
                  have e1 : (taken s)[k]?.toList = [(taken s).getD k 0] := by rw [List.getD_eq_getElem?_getD, List.getElem?_eq_getElem hk1]; rfl
                  rw [show (taken s).take (k + 1) = (taken s).take k ++ (taken s)[k]?.toList from List.take_add_one, List.map_append, e1, List.take_of_length_le (by simp; omega)]; rfl
                · (repeat' (first | exact rfl | exact trivial | refine And.intro ?_ ?_ | ((conv => whnf); first | exact rfl | exact trivial | refine And.intro ?_ ?_))); all_goals (conv => whnf); all_goals (try simp only [])
                  exact wr1 k (n := 64) (by omega) (by omega)
              · exact Ob.mk (by simp only []; omega)
              · have ek : (taken s).take k = taken s := List.take_of_length_le (by omega)
                rw [ek]
                simp only [e0]
                rw [← ho]
                have hgr := hrel.writeR (by omega) H ws
                have hrelw := (hrel.writeT (by omega) H ws).up (Nat.le_succ i)
                obtain ⟨s1, hs1⟩ : ∃ s1, s1 = (if good s H = true ∧ (ws.length : Int) = s.each then writeS s (H.tmod 64) ws else s) := ⟨_, rfl⟩
                obtain ⟨r1, hr1⟩ : ∃ r1, r1 = (if rgood r H < 0 ∨ ws.length ≠ w then r else rwriteS r H ws) := ⟨_, rfl⟩
                rw [← hs1, ← hr1] at hrelw
                have hg1 : r1.gen = r.gen := by rw [hr1]; split <;> rfl
                refine CallN.intro (writeM s n hok H ws) [0, 1, 2] rfl rfl ?_ ?_ ?_
                · (repeat' (first | exact rfl | exact trivial | refine And.intro ?_ ?_ | ((conv => whnf); first | exact rfl | exact trivial | refine And.intro ?_ ?_)))
                · (repeat' (first | exact rfl | exact trivial | refine And.intro ?_ ?_ | ((conv => whnf); first | exact rfl | exact trivial | refine And.intro ?_ ?_)))
                intro y hy
                rw [hgr, ← hs1]
                have hrel1 := hrelw
                have hok1 := hrel1.ok
                have hall1 := hall
                have hgone1 : ∀ z ∈ gone, Gone r1 n z := fun z hz => (hgone z hz).mono (fun j hj => by rw [hg1]; exact Int.le_refl _)
                (repeat' ((conv => whnf); first | refine And.intro ?_ ?_ | exact Cl.mk (by kernel_rfl) | exact Ck.mk (by kernel_rfl) | exact trivial | exact rfl | (intro hh; try simp only [decide_eq_true_eq, decide_eq_false_iff_not, beq_iff_eq, beq_eq_false_iff_ne, bne_iff_ne, bne_eq_false_iff_eq, Bool.not_eq_true', Bool.not_eq_false', Bool.not_true, Bool.not_false] at hh; try exact absurd hh (by decide)))); all_goals (conv => whnf)
                · refine ⟨⟨s1, r1, all, gone, i + 1⟩, [0, 1, 2, 3, 4], ⟨rfl, rfl, ?_, ?_⟩, ⟨by show i + 1 ≤ l.length; omega, hrel1, by show all.length ≤ i + 1; omega, by show gone.length ≤ i + 1; omega, hall, hgone1⟩, by show l.length - (i + 1) < l.length - i; omega⟩
                  · (repeat' (first | exact rfl | exact trivial | refine And.intro ?_ ?_ | ((conv => whnf); first | exact rfl | exact trivial | refine And.intro ?_ ?_)))
                  · (repeat' (first | exact rfl | exact trivial | refine And.intro ?_ ?_ | ((conv => whnf); first | exact rfl | exact trivial | refine And.intro ?_ ?_))); all_goals (conv => whnf); all_goals (try simp only [])
                    exact wr1 i (n := 60) (by omega) (by omega)
                · have hc : ¬ rgood r H < 0 ∧ ws.length = w := by
                    by_cases h1 : rgood r H < 0
                    · rw [if_pos h1] at hh; omega
                    · rw [if_neg h1] at hh
                      by_cases h2 : ws.length = w
                      · exact ⟨h1, h2⟩
                      · rw [if_neg h2] at hh; omega
                  have hr1e : r1 = rwriteS r H ws := by rw [hr1, if_neg (by rintro (h | h); exact hc.1 h; exact h hc.2)]
                  obtain ⟨hv, hv0, hvlt, hvt, hvg⟩ := rgood_val hc.1
                  have hgl0 := hrel.rok.gen
                  have hwl0 := hrel.rok.words
                  have hHd : H = 64 * r.gen.getD (H.tmod 64).toNat 0 + ((H.tmod 64).toNat : Int) := by
                    have := Int.mul_tdiv_add_tmod H 64
                    rw [hvg]; omega
                  have hwant : ∀ k, k < (taken s).length → readR s1 ((taken s).getD k 0) = (if (taken s).getD k 0 = H then ws else wordsOf s ((taken s).getD k 0), 0) := by
                    intro k hk
                    obtain ⟨j, h1, h2, h3⟩ := hx k hk
                    have hlg := hrel.live_good h1 h2
                    rw [← h3] at hlg
                    have hrr : rgood r1 ((taken s).getD k 0) = j := by rw [hr1e]; exact hlg.1
                    have hrn : ¬ rgood r1 ((taken s).getD k 0) < 0 := by rw [hrr]; omega
                    have h4 := hrel1.readR (by omega) ((taken s).getD k 0)
                    rw [if_neg hrn, if_neg hrn, hrr, Int.toNat_natCast] at h4
                    have h5 := hrel.read (x := (taken s).getD k 0) (by rw [hlg.1]; omega)
                    rw [hlg.1, Int.toNat_natCast] at h5
                    refine Prod.ext ?_ h4.2
                    rw [h4.1, hr1e]
                    show (r.words.set (rgood r H).toNat ws).getD j [] = _
                    rw [getD_set _ _ _ _ _ (by omega), hv]
                    by_cases he : (H.tmod 64).toNat = j
                    · rw [if_pos he, if_pos]
                      rw [h3, hHd, he]
                    · rw [if_neg he, if_neg]
                      · exact h5.symm
                      · intro hq
                        apply he
                        have := hlg.2
                        rw [hq] at this
                        omega
                  have hwlen : ∀ k, k < (taken s).length → (wordsOf s ((taken s).getD k 0)).length ≤ 1000 := by
                    intro k hk
                    rw [wordsOf_len hok (hrd k hk), hrel.each]; omega
                  refine LoopN.intro hm (X := Nat) (fun k => k ≤ (taken s).length) (fun k => (taken s).length - k)
                    (fun k => [(20, .int .i64 fun _ => (k : Int)), (16, .vec 5 1 (fun _ => 0) fun _ => (taken s).length), (15, .lst (.int .i64) fun _ => taken s), (12, .int .i64 fun _ => H), (11, .int .i64 fun _ => (i : Int)), (10, .vec 4 1 (fun _ => 0) fun _ => gone.length), (9, .vec 3 1 (fun _ => 0) fun _ => all.length), (7, .ptr 0 0), (0, .int .i64 fun _ => (n : Int)), (2, .lst OpT fun _ => l)])
                    (fun k => ch s1 ++ [.vect 3 (.int .i64) fun _ => all, .vect 3 (.int .i64) fun _ => gone, .vect 33 (.list (.int .u64)) fun _ => (taken s).map (wordsOf s)]) 0 [0, 1, 2, 3, 4, 5] ⟨rfl, rfl, ?_, ?_⟩ (Nat.zero_le _) (fun k hk => ?_)
                  · (repeat' (first | exact rfl | exact trivial | refine And.intro ?_ ?_ | ((conv => whnf); first | exact rfl | exact trivial | refine And.intro ?_ ?_)))
                  · (repeat' (first | exact rfl | exact trivial | refine And.intro ?_ ?_ | ((conv => whnf); first | exact rfl | exact trivial | refine And.intro ?_ ?_))); all_goals (conv => whnf); all_goals (try simp only [])
                    omega
                  · have hkd : (taken s).getD ((k : Int)).toNat (Ty.dflt (.int .i64)) = (taken s).getD k 0 := by rw [Int.toNat_natCast]; rfl
                    have hkw : ((taken s).map (wordsOf s)).getD (0 + ((k : Int)).toNat) (Ty.dflt (.list (.int .u64))) = if k < (taken s).length then wordsOf s ((taken s).getD k 0) else [] := by
                      rw [Int.toNat_natCast, Nat.zero_add, List.getD_eq_getElem?_getD, List.getElem?_map, List.getD_eq_getElem?_getD]
                      split
                      · rename_i h; rw [List.getElem?_eq_getElem h]; rfl
                      · rename_i h; rw [List.getElem?_eq_none (by omega)]; rfl
                    (repeat' ((conv => whnf); first | refine And.intro ?_ ?_ | exact Cl.mk (by kernel_rfl) | exact Ck.mk (by kernel_rfl) | exact trivial | exact rfl | (intro hh; try simp only [decide_eq_true_eq, decide_eq_false_iff_not, beq_iff_eq, beq_eq_false_iff_ne, bne_iff_ne, bne_eq_false_iff_eq, Bool.not_eq_true', Bool.not_eq_false', Bool.not_true, Bool.not_false] at hh))); all_goals (conv => whnf)
                    · exact Ob.mk (by simp only []; omega)
                    · have hk1 : k < (taken s).length := by omega
                      have hw1 := hwant k hk1
                      have hwl1 := hwlen k hk1
                      rw [if_pos hk1] at hkw
                      refine CallN.intro (readU s1 n hok1 ((taken s).getD k 0)) [0, 1, 2] rfl rfl ?_ ?_ ?_
                      · (repeat' (first | exact rfl | exact trivial | refine And.intro ?_ ?_ | ((conv => whnf); first | exact rfl | exact trivial | refine And.intro ?_ ?_))); all_goals (conv => whnf); all_goals (try simp only [])
                      · (repeat' (first | exact rfl | exact trivial | refine And.intro ?_ ?_ | ((conv => whnf); first | exact rfl | exact trivial | refine And.intro ?_ ?_)))
                      intro y hy
                      rw [hw1]
                      (repeat' ((conv => whnf); first | refine And.intro ?_ ?_ | exact Cl.mk (by kernel_rfl) | exact Ck.mk (by kernel_rfl) | exact trivial | exact rfl | (intro hh; try simp only [decide_eq_true_eq, decide_eq_false_iff_not, beq_iff_eq, beq_eq_false_iff_ne, bne_iff_ne, bne_eq_false_iff_eq, Bool.not_eq_true', Bool.not_eq_false', Bool.not_true, Bool.not_false] at hh; try exact absurd hh (by decide)))); all_goals (conv => whnf)
                      · exact Ob.mk (by simp only []; omega)
                      · exact Ob.mk (by simp only []; omega)
                      · exact Ob.mk (by simp only []; omega)
                      · rw [hkd] at hh
                        rw [if_pos hh]
                        simp only [e0]
                        rw [← ho]
                        refine CallN.intro (sameM (ws) (ws) (by omega)) [] rfl rfl ?_ ?_ ?_
                        · (repeat' (first | exact rfl | exact trivial | refine And.intro ?_ ?_ | ((conv => whnf); first | exact rfl | exact trivial | refine And.intro ?_ ?_))); all_goals (conv => whnf); all_goals (try simp only [])
                          all_goals first | exact hkw | simp only [hh] | skip
                        · (repeat' (first | exact rfl | exact trivial | refine And.intro ?_ ?_ | ((conv => whnf); first | exact rfl | exact trivial | refine And.intro ?_ ?_)))
                        intro y hy
                        (repeat' ((conv => whnf); first | refine And.intro ?_ ?_ | exact Cl.mk (by kernel_rfl) | exact Ck.mk (by kernel_rfl) | exact trivial | exact rfl | (intro hh; try simp only [decide_eq_true_eq, decide_eq_false_iff_not, beq_iff_eq, beq_eq_false_iff_ne, bne_iff_ne, bne_eq_false_iff_eq, Bool.not_eq_true', Bool.not_eq_false', Bool.not_true, Bool.not_false] at hh; try exact absurd hh (by decide)))); all_goals (conv => whnf)
                        all_goals try (exfalso; simp at hh; done)
                        refine ⟨k + 1, [0, 1, 2, 3, 4, 5], ⟨rfl, rfl, ?_, ?_⟩, hk1, by omega⟩
                        · (repeat' (first | exact rfl | exact trivial | refine And.intro ?_ ?_ | ((conv => whnf); first | exact rfl | exact trivial | refine And.intro ?_ ?_)))
                        · (repeat' (first | exact rfl | exact trivial | refine And.intro ?_ ?_ | ((conv => whnf); first | exact rfl | exact trivial | refine And.intro ?_ ?_))); all_goals (conv => whnf); all_goals (try simp only [])
                          exact wr1 k (n := 64) (by omega) (by omega)
                      · rw [hkd] at hh
                        rw [if_neg hh]
                        refine CallN.intro (sameM (wordsOf s ((taken s).getD k 0)) (wordsOf s ((taken s).getD k 0)) (by omega)) [] rfl rfl ?_ ?_ ?_
                        · (repeat' (first | exact rfl | exact trivial | refine And.intro ?_ ?_ | ((conv => whnf); first | exact rfl | exact trivial | refine And.intro ?_ ?_))); all_goals (conv => whnf); all_goals (try simp only [])
                          all_goals first | exact hkw | simp only [hh] | skip
                        · (repeat' (first | exact rfl | exact trivial | refine And.intro ?_ ?_ | ((conv => whnf); first | exact rfl | exact trivial | refine And.intro ?_ ?_)))
                        intro y hy
                        (repeat' ((conv => whnf); first | refine And.intro ?_ ?_ | exact Cl.mk (by kernel_rfl) | exact Ck.mk (by kernel_rfl) | exact trivial | exact rfl | (intro hh; try simp only [decide_eq_true_eq, decide_eq_false_iff_not, beq_iff_eq, beq_eq_false_iff_ne, bne_iff_ne, bne_eq_false_iff_eq, Bool.not_eq_true', Bool.not_eq_false', Bool.not_true, Bool.not_false] at hh; try exact absurd hh (by decide)))); all_goals (conv => whnf)
                        all_goals try (exfalso; simp at hh; done)
                        refine ⟨k + 1, [0, 1, 2, 3, 4, 5], ⟨rfl, rfl, ?_, ?_⟩, hk1, by omega⟩
                        · (repeat' (first | exact rfl | exact trivial | refine And.intro ?_ ?_ | ((conv => whnf); first | exact rfl | exact trivial | refine And.intro ?_ ?_)))
                        · (repeat' (first | exact rfl | exact trivial | refine And.intro ?_ ?_ | ((conv => whnf); first | exact rfl | exact trivial | refine And.intro ?_ ?_))); all_goals (conv => whnf); all_goals (try simp only [])
                          exact wr1 k (n := 64) (by omega) (by omega)
                    · have hgl2 := hgl
                      have hok1 := hrel1.ok
                      have htm := hrel1.taken_map (by omega)
                      have hcnt := hrel1.count (by omega)
                      have hfr1 := hrel1.free
                      have hgl1 : (gone).length ≤ i + 1 := by (try simp only [List.length_append, List.length_cons, List.length_nil]); omega
                      have hal1 : (all).length ≤ i + 1 := by (try simp only [List.length_append, List.length_cons, List.length_nil]); omega
                      refine LoopN.intro hm (X := Nat) (fun k => k ≤ (gone).length) (fun k => (gone).length - k)
                        (fun k => [(24, .int .i64 fun _ => (k : Int)), (11, .int .i64 fun _ => (i : Int)), (10, .vec 4 1 (fun _ => 0) fun _ => (gone).length), (9, .vec 3 1 (fun _ => 0) fun _ => (all).length), (7, .ptr 0 0), (0, .int .i64 fun _ => (n : Int)), (2, .lst OpT fun _ => l)])
                        (fun k => ch s1 ++ [.vect 3 (.int .i64) fun _ => all, .vect 3 (.int .i64) fun _ => gone]) 0 [0, 1, 2, 3, 4] ⟨rfl, rfl, ?_, ?_⟩ (Nat.zero_le _) (fun k hk => ?_)
                      · (repeat' (first | exact rfl | exact trivial | refine And.intro ?_ ?_ | ((conv => whnf); first | exact rfl | exact trivial | refine And.intro ?_ ?_))); all_goals (conv => whnf); all_goals (try simp only [])
                        all_goals simp
                      · (repeat' (first | exact rfl | exact trivial | refine And.intro ?_ ?_ | ((conv => whnf); first | exact rfl | exact trivial | refine And.intro ?_ ?_))); all_goals (conv => whnf); all_goals (try simp only [])
                        all_goals simp
                      · (repeat' ((conv => whnf); first | refine And.intro ?_ ?_ | exact Cl.mk (by kernel_rfl) | exact Ck.mk (by kernel_rfl) | exact trivial | exact rfl | (intro hh; try simp only [decide_eq_true_eq, decide_eq_false_iff_not, beq_iff_eq, beq_eq_false_iff_ne, bne_iff_ne, bne_eq_false_iff_eq, Bool.not_eq_true', Bool.not_eq_false', Bool.not_true, Bool.not_false] at hh))); all_goals (conv => whnf)
                        · exact Ob.mk (by simp only []; omega)
                        · have hk1 : k < (gone).length := by omega
                          obtain ⟨z, hz⟩ : ∃ z, (gone).getD k 0 = z := ⟨_, rfl⟩
                          have hzm : z ∈ gone := by rw [← hz, List.getD_eq_getElem?_getD, List.getElem?_eq_getElem hk1]; exact List.getElem_mem hk1
                          have hzb := (hgone1 z hzm).bad
                          have hzr := hrel1.readR (by omega) z
                          rw [if_pos hzb, if_pos hzb] at hzr
                          refine CallN.intro (readU s1 n hok1 z) [0, 1, 2] rfl rfl ?_ ?_ ?_
                          · (repeat' (first | exact rfl | exact trivial | refine And.intro ?_ ?_ | ((conv => whnf); first | exact rfl | exact trivial | refine And.intro ?_ ?_))); all_goals (conv => whnf); all_goals (try simp only [])
                            rw [Int.toNat_natCast, Nat.zero_add]; exact hz
                          · (repeat' (first | exact rfl | exact trivial | refine And.intro ?_ ?_ | ((conv => whnf); first | exact rfl | exact trivial | refine And.intro ?_ ?_)))
                          intro y hy
                          rw [hzr.1, hzr.2]
                          (repeat' ((conv => whnf); first | refine And.intro ?_ ?_ | exact Cl.mk (by kernel_rfl) | exact Ck.mk (by kernel_rfl) | exact trivial | exact rfl | (intro hh; try simp only [decide_eq_true_eq, decide_eq_false_iff_not, beq_iff_eq, beq_eq_false_iff_ne, bne_iff_ne, bne_eq_false_iff_eq, Bool.not_eq_true', Bool.not_eq_false', Bool.not_true, Bool.not_false] at hh; try exact absurd hh (by decide)))); all_goals (conv => whnf)
                          refine ⟨k + 1, [0, 1, 2, 3, 4], ⟨rfl, rfl, ?_, ?_⟩, hk1, by omega⟩
                          · (repeat' (first | exact rfl | exact trivial | refine And.intro ?_ ?_ | ((conv => whnf); first | exact rfl | exact trivial | refine And.intro ?_ ?_)))
                          · (repeat' (first | exact rfl | exact trivial | refine And.intro ?_ ?_ | ((conv => whnf); first | exact rfl | exact trivial | refine And.intro ?_ ?_))); all_goals (conv => whnf); all_goals (try simp only [])
                            exact wr1 k (n := 62) (by omega) (by omega)
                        · refine CallN.intro (liveM s1 (by rw [hok1.len]; exact hn.2)) [0, 1, 2] rfl rfl ?_ ?_ ?_
                          · (repeat' (first | exact rfl | exact trivial | refine And.intro ?_ ?_ | ((conv => whnf); first | exact rfl | exact trivial | refine And.intro ?_ ?_)))
                          · (repeat' (first | exact rfl | exact trivial | refine And.intro ?_ ?_ | ((conv => whnf); first | exact rfl | exact trivial | refine And.intro ?_ ?_)))
                          intro y hy
                          (repeat' ((conv => whnf); first | refine And.intro ?_ ?_ | exact Cl.mk (by kernel_rfl) | exact Ck.mk (by kernel_rfl) | exact trivial | exact rfl | (intro hh; try simp only [decide_eq_true_eq, decide_eq_false_iff_not, beq_iff_eq, beq_eq_false_iff_ne, bne_iff_ne, bne_eq_false_iff_eq, Bool.not_eq_true', Bool.not_eq_false', Bool.not_true, Bool.not_false] at hh; try exact absurd hh (by decide)))); all_goals (conv => whnf)
                          have htl : (taken s1).length ≤ 64 := by omega
                          refine LoopN.intro hm (X := Nat) (fun k => k ≤ (taken s1).length) (fun k => (taken s1).length - k)
                            (fun k => [(28, .int .i64 fun _ => (k : Int)), (27, .lst (.int .i64) fun _ => taken s1), (11, .int .i64 fun _ => (i : Int)), (10, .vec 4 1 (fun _ => 0) fun _ => (gone).length), (9, .vec 3 1 (fun _ => 0) fun _ => (all).length), (7, .ptr 0 0), (0, .int .i64 fun _ => (n : Int)), (2, .lst OpT fun _ => l)])
                            (fun k => ch s1 ++ [.vect 3 (.int .i64) fun _ => all, .vect 3 (.int .i64) fun _ => gone]) 0 [0, 1, 2, 3, 4] ⟨rfl, rfl, ?_, ?_⟩ (Nat.zero_le _) (fun k hk => ?_)
                          · (repeat' (first | exact rfl | exact trivial | refine And.intro ?_ ?_ | ((conv => whnf); first | exact rfl | exact trivial | refine And.intro ?_ ?_)))
                          · (repeat' (first | exact rfl | exact trivial | refine And.intro ?_ ?_ | ((conv => whnf); first | exact rfl | exact trivial | refine And.intro ?_ ?_)))
                          · (repeat' ((conv => whnf); first | refine And.intro ?_ ?_ | exact Cl.mk (by kernel_rfl) | exact Ck.mk (by kernel_rfl) | exact trivial | exact rfl | (intro hh; try simp only [decide_eq_true_eq, decide_eq_false_iff_not, beq_iff_eq, beq_eq_false_iff_ne, bne_iff_ne, bne_eq_false_iff_eq, Bool.not_eq_true', Bool.not_eq_false', Bool.not_true, Bool.not_false] at hh))); all_goals (conv => whnf)
                            · have hk1 : k < (taken s1).length := by omega
                              refine LoopN.intro hm (X := Nat) (fun m => m ≤ k) (fun m => k - m)
                                (fun m => [(29, .int .i64 fun _ => (m : Int)), (28, .int .i64 fun _ => (k : Int)), (27, .lst (.int .i64) fun _ => taken s1), (11, .int .i64 fun _ => (i : Int)), (10, .vec 4 1 (fun _ => 0) fun _ => (gone).length), (9, .vec 3 1 (fun _ => 0) fun _ => (all).length), (7, .ptr 0 0), (0, .int .i64 fun _ => (n : Int)), (2, .lst OpT fun _ => l)])
                                (fun m => ch s1 ++ [.vect 3 (.int .i64) fun _ => all, .vect 3 (.int .i64) fun _ => gone]) 0 [0, 1, 2, 3, 4] ⟨rfl, rfl, ?_, ?_⟩ (Nat.zero_le _) (fun m hmk => ?_)
                              · (repeat' (first | exact rfl | exact trivial | refine And.intro ?_ ?_ | ((conv => whnf); first | exact rfl | exact trivial | refine And.intro ?_ ?_)))
                              · (repeat' (first | exact rfl | exact trivial | refine And.intro ?_ ?_ | ((conv => whnf); first | exact rfl | exact trivial | refine And.intro ?_ ?_)))
                              · have hmod : ∀ u, u < (taken s1).length → Int.tmod ((taken s1).getD u 0) 64 = ((tk r1 n).getD u 0 : Nat) := by
                                  intro u hu
                                  rw [htm, List.length_map] at hu
                                  have hget := tk_get hu
                                  rw [htm, List.getD_eq_getElem?_getD, List.getElem?_map, List.getElem?_eq_getElem hu, List.getD_eq_getElem?_getD, List.getElem?_eq_getElem hu]
                                  exact (hrel1.live_good hget.1 hget.2).2
                                (repeat' ((conv => whnf); first | refine And.intro ?_ ?_ | exact Cl.mk (by kernel_rfl) | exact Ck.mk (by kernel_rfl) | exact trivial | exact rfl | (intro hh; try simp only [decide_eq_true_eq, decide_eq_false_iff_not, beq_iff_eq, beq_eq_false_iff_ne, bne_iff_ne, bne_eq_false_iff_eq, Bool.not_eq_true', Bool.not_eq_false', Bool.not_true, Bool.not_false] at hh))); all_goals (conv => whnf)
                                all_goals first | (refine Ob.mk ?_; (try simp only [Ty.dflt, Nat.zero_add, Nat.add_zero, Int.toNat_natCast, Int.toNat_zero, Int.toNat_one, List.length_take, List.length_drop, List.length_append, List.length_replicate, List.length_cons, List.length_nil, List.length_set, List.length_map, true_and, and_true]); omega) | (exact ⟨by decide⟩) | skip
                                · exfalso
                                  simp only [Int.toNat_natCast] at hh
                                  have e1 := hmod k (by omega)
                                  have e2 := hmod m (by omega)
                                  have hd : ∀ u, (taken s1).getD u (Ty.dflt (.int .i64)) = (taken s1).getD u 0 := fun _ => rfl
                                  rw [hd, hd, e1, e2] at hh
                                  rw [htm, List.length_map] at hk1
                                  have h1 : (tk r1 n).getD k 0 = (tk r1 n)[k]'hk1 := by rw [List.getD_eq_getElem?_getD, List.getElem?_eq_getElem hk1]; rfl
                                  have h2 : (tk r1 n).getD m 0 = (tk r1 n)[m]'(by omega) := by rw [List.getD_eq_getElem?_getD, List.getElem?_eq_getElem (by omega)]; rfl
                                  rw [h1, h2] at hh
                                  exact tk_ne hk1 (by omega) (by omega) (Int.ofNat_inj.1 hh)
                                · refine ⟨m + 1, [0, 1, 2, 3, 4], ⟨rfl, rfl, ?_, ?_⟩, by omega, by omega⟩
                                  · (repeat' (first | exact rfl | exact trivial | refine And.intro ?_ ?_ | ((conv => whnf); first | exact rfl | exact trivial | refine And.intro ?_ ?_)))
                                  · (repeat' (first | exact rfl | exact trivial | refine And.intro ?_ ?_ | ((conv => whnf); first | exact rfl | exact trivial | refine And.intro ?_ ?_))); all_goals (conv => whnf); all_goals (try simp only [])
                                    exact wr1 m (n := 64) (by omega) (by omega)
                                · refine ⟨k + 1, [0, 1, 2, 3, 4], ⟨rfl, rfl, ?_, ?_⟩, hk1, by omega⟩
                                  · (repeat' (first | exact rfl | exact trivial | refine And.intro ?_ ?_ | ((conv => whnf); first | exact rfl | exact trivial | refine And.intro ?_ ?_)))
                                  · (repeat' (first | exact rfl | exact trivial | refine And.intro ?_ ?_ | ((conv => whnf); first | exact rfl | exact trivial | refine And.intro ?_ ?_))); all_goals (conv => whnf); all_goals (try simp only [])
                                    exact wr1 k (n := 64) (by omega) (by omega)
                            · refine CallN.intro (freeM s1) [0, 1, 2] rfl rfl ?_ ?_ ?_
                              · (repeat' (first | exact rfl | exact trivial | refine And.intro ?_ ?_ | ((conv => whnf); first | exact rfl | exact trivial | refine And.intro ?_ ?_)))
                              · (repeat' (first | exact rfl | exact trivial | refine And.intro ?_ ?_ | ((conv => whnf); first | exact rfl | exact trivial | refine And.intro ?_ ?_)))
                              intro y hy
                              rw [hfr1]
                              have e1 : IntKind.i64.wrap (((taken s1).length : Int) + (r1.row.length : Int)) = n := by rw [wr (by omega)]; omega
                              (repeat' ((conv => whnf); first | refine And.intro ?_ ?_ | exact Cl.mk (by kernel_rfl) | exact Ck.mk (by kernel_rfl) | exact trivial | exact rfl | (intro hh; try simp only [decide_eq_true_eq, decide_eq_false_iff_not, beq_iff_eq, beq_eq_false_iff_ne, bne_iff_ne, bne_eq_false_iff_eq, Bool.not_eq_true', Bool.not_eq_false', Bool.not_true, Bool.not_false] at hh; try exact absurd hh (by decide)))); all_goals (conv => whnf)
                              all_goals first | (exfalso; exact hh e1) | skip
                              refine ⟨⟨s1, r1, all, gone, i + 1⟩, [0, 1, 2, 3, 4], ⟨rfl, rfl, ?_, ?_⟩, ⟨by show i + 1 ≤ l.length; omega, hrel1, ?_, ?_, hall1, hgone1⟩, by show l.length - (i + 1) < l.length - i; omega⟩
                              · (repeat' (first | exact rfl | exact trivial | refine And.intro ?_ ?_ | ((conv => whnf); first | exact rfl | exact trivial | refine And.intro ?_ ?_)))
                              · (repeat' (first | exact rfl | exact trivial | refine And.intro ?_ ?_ | ((conv => whnf); first | exact rfl | exact trivial | refine And.intro ?_ ?_))); all_goals (conv => whnf); all_goals (try simp only [])
                                exact wr1 i (n := 60) (by omega) (by omega)
                              · exact hal1
                              · exact hgl1

          · have hrel1 := hrel.up (Nat.le_succ i)
            have hall1 := hall
            have hgone1 := hgone
            have hok1 := hrel1.ok
            have htm := hrel1.taken_map (by omega)
            have hcnt := hrel1.count (by omega)
            have hfr1 := hrel1.free
            have hgl1 : (gone).length ≤ i + 1 := by (try simp only [List.length_append, List.length_cons, List.length_nil]); omega
            have hal1 : (all).length ≤ i + 1 := by (try simp only [List.length_append, List.length_cons, List.length_nil]); omega
            refine LoopN.intro hm (X := Nat) (fun k => k ≤ (gone).length) (fun k => (gone).length - k)
              (fun k => [(24, .int .i64 fun _ => (k : Int)), (11, .int .i64 fun _ => (i : Int)), (10, .vec 4 1 (fun _ => 0) fun _ => (gone).length), (9, .vec 3 1 (fun _ => 0) fun _ => (all).length), (7, .ptr 0 0), (0, .int .i64 fun _ => (n : Int)), (2, .lst OpT fun _ => l)])
              (fun k => ch s ++ [.vect 3 (.int .i64) fun _ => all, .vect 3 (.int .i64) fun _ => gone]) 0 [0, 1, 2, 3, 4] ⟨rfl, rfl, ?_, ?_⟩ (Nat.zero_le _) (fun k hk => ?_)
            · (repeat' (first | exact rfl | exact trivial | refine And.intro ?_ ?_ | ((conv => whnf); first | exact rfl | exact trivial | refine And.intro ?_ ?_))); all_goals (conv => whnf); all_goals (try simp only [])
              all_goals simp
            · (repeat' (first | exact rfl | exact trivial | refine And.intro ?_ ?_ | ((conv => whnf); first | exact rfl | exact trivial | refine And.intro ?_ ?_))); all_goals (conv => whnf); all_goals (try simp only [])
              all_goals simp
            · (repeat' ((conv => whnf); first | refine And.intro ?_ ?_ | exact Cl.mk (by kernel_rfl) | exact Ck.mk (by kernel_rfl) | exact trivial | exact rfl | (intro hh; try simp only [decide_eq_true_eq, decide_eq_false_iff_not, beq_iff_eq, beq_eq_false_iff_ne, bne_iff_ne, bne_eq_false_iff_eq, Bool.not_eq_true', Bool.not_eq_false', Bool.not_true, Bool.not_false] at hh))); all_goals (conv => whnf)
              · exact Ob.mk (by simp only []; omega)
              · have hk1 : k < (gone).length := by omega
                obtain ⟨z, hz⟩ : ∃ z, (gone).getD k 0 = z := ⟨_, rfl⟩
                have hzm : z ∈ gone := by rw [← hz, List.getD_eq_getElem?_getD, List.getElem?_eq_getElem hk1]; exact List.getElem_mem hk1
                have hzb := (hgone1 z hzm).bad
                have hzr := hrel1.readR (by omega) z
                rw [if_pos hzb, if_pos hzb] at hzr
                refine CallN.intro (readU s n hok1 z) [0, 1, 2] rfl rfl ?_ ?_ ?_
                · (repeat' (first | exact rfl | exact trivial | refine And.intro ?_ ?_ | ((conv => whnf); first | exact rfl | exact trivial | refine And.intro ?_ ?_))); all_goals (conv => whnf); all_goals (try simp only [])
                  rw [Int.toNat_natCast, Nat.zero_add]; exact hz
                · (repeat' (first | exact rfl | exact trivial | refine And.intro ?_ ?_ | ((conv => whnf); first | exact rfl | exact trivial | refine And.intro ?_ ?_)))
                intro y hy
                rw [hzr.1, hzr.2]
                (repeat' ((conv => whnf); first | refine And.intro ?_ ?_ | exact Cl.mk (by kernel_rfl) | exact Ck.mk (by kernel_rfl) | exact trivial | exact rfl | (intro hh; try simp only [decide_eq_true_eq, decide_eq_false_iff_not, beq_iff_eq, beq_eq_false_iff_ne, bne_iff_ne, bne_eq_false_iff_eq, Bool.not_eq_true', Bool.not_eq_false', Bool.not_true, Bool.not_false] at hh; try exact absurd hh (by decide)))); all_goals (conv => whnf)
                refine ⟨k + 1, [0, 1, 2, 3, 4], ⟨rfl, rfl, ?_, ?_⟩, hk1, by omega⟩
                · (repeat' (first | exact rfl | exact trivial | refine And.intro ?_ ?_ | ((conv => whnf); first | exact rfl | exact trivial | refine And.intro ?_ ?_)))
                · (repeat' (first | exact rfl | exact trivial | refine And.intro ?_ ?_ | ((conv => whnf); first | exact rfl | exact trivial | refine And.intro ?_ ?_))); all_goals (conv => whnf); all_goals (try simp only [])
                  exact wr1 k (n := 62) (by omega) (by omega)
              · refine CallN.intro (liveM s (by rw [hok1.len]; exact hn.2)) [0, 1, 2] rfl rfl ?_ ?_ ?_
                · (repeat' (first | exact rfl | exact trivial | refine And.intro ?_ ?_ | ((conv => whnf); first | exact rfl | exact trivial | refine And.intro ?_ ?_)))
                · (repeat' (first | exact rfl | exact trivial | refine And.intro ?_ ?_ | ((conv => whnf); first | exact rfl | exact trivial | refine And.intro ?_ ?_)))
                intro y hy
                (repeat' ((conv => whnf); first | refine And.intro ?_ ?_ | exact Cl.mk (by kernel_rfl) | exact Ck.mk (by kernel_rfl) | exact trivial | exact rfl | (intro hh; try simp only [decide_eq_true_eq, decide_eq_false_iff_not, beq_iff_eq, beq_eq_false_iff_ne, bne_iff_ne, bne_eq_false_iff_eq, Bool.not_eq_true', Bool.not_eq_false', Bool.not_true, Bool.not_false] at hh; try exact absurd hh (by decide)))); all_goals (conv => whnf)
                have htl : (taken s).length ≤ 64 := by omega
                refine LoopN.intro hm (X := Nat) (fun k => k ≤ (taken s).length) (fun k => (taken s).length - k)
                  (fun k => [(28, .int .i64 fun _ => (k : Int)), (27, .lst (.int .i64) fun _ => taken s), (11, .int .i64 fun _ => (i : Int)), (10, .vec 4 1 (fun _ => 0) fun _ => (gone).length), (9, .vec 3 1 (fun _ => 0) fun _ => (all).length), (7, .ptr 0 0), (0, .int .i64 fun _ => (n : Int)), (2, .lst OpT fun _ => l)])
                  (fun k => ch s ++ [.vect 3 (.int .i64) fun _ => all, .vect 3 (.int .i64) fun _ => gone]) 0 [0, 1, 2, 3, 4] ⟨rfl, rfl, ?_, ?_⟩ (Nat.zero_le _) (fun k hk => ?_)
                · (repeat' (first | exact rfl | exact trivial | refine And.intro ?_ ?_ | ((conv => whnf); first | exact rfl | exact trivial | refine And.intro ?_ ?_)))
                · (repeat' (first | exact rfl | exact trivial | refine And.intro ?_ ?_ | ((conv => whnf); first | exact rfl | exact trivial | refine And.intro ?_ ?_)))
                · (repeat' ((conv => whnf); first | refine And.intro ?_ ?_ | exact Cl.mk (by kernel_rfl) | exact Ck.mk (by kernel_rfl) | exact trivial | exact rfl | (intro hh; try simp only [decide_eq_true_eq, decide_eq_false_iff_not, beq_iff_eq, beq_eq_false_iff_ne, bne_iff_ne, bne_eq_false_iff_eq, Bool.not_eq_true', Bool.not_eq_false', Bool.not_true, Bool.not_false] at hh))); all_goals (conv => whnf)
                  · have hk1 : k < (taken s).length := by omega
                    refine LoopN.intro hm (X := Nat) (fun m => m ≤ k) (fun m => k - m)
                      (fun m => [(29, .int .i64 fun _ => (m : Int)), (28, .int .i64 fun _ => (k : Int)), (27, .lst (.int .i64) fun _ => taken s), (11, .int .i64 fun _ => (i : Int)), (10, .vec 4 1 (fun _ => 0) fun _ => (gone).length), (9, .vec 3 1 (fun _ => 0) fun _ => (all).length), (7, .ptr 0 0), (0, .int .i64 fun _ => (n : Int)), (2, .lst OpT fun _ => l)])
                      (fun m => ch s ++ [.vect 3 (.int .i64) fun _ => all, .vect 3 (.int .i64) fun _ => gone]) 0 [0, 1, 2, 3, 4] ⟨rfl, rfl, ?_, ?_⟩ (Nat.zero_le _) (fun m hmk => ?_)
                    · (repeat' (first | exact rfl | exact trivial | refine And.intro ?_ ?_ | ((conv => whnf); first | exact rfl | exact trivial | refine And.intro ?_ ?_)))
                    · (repeat' (first | exact rfl | exact trivial | refine And.intro ?_ ?_ | ((conv => whnf); first | exact rfl | exact trivial | refine And.intro ?_ ?_)))
                    · have hmod : ∀ u, u < (taken s).length → Int.tmod ((taken s).getD u 0) 64 = ((tk r n).getD u 0 : Nat) := by
                        intro u hu
                        rw [htm, List.length_map] at hu
                        have hget := tk_get hu
                        rw [htm, List.getD_eq_getElem?_getD, List.getElem?_map, List.getElem?_eq_getElem hu, List.getD_eq_getElem?_getD, List.getElem?_eq_getElem hu]
                        exact (hrel1.live_good hget.1 hget.2).2
                      (repeat' ((conv => whnf); first | refine And.intro ?_ ?_ | exact Cl.mk (by kernel_rfl) | exact Ck.mk (by kernel_rfl) | exact trivial | exact rfl | (intro hh; try simp only [decide_eq_true_eq, decide_eq_false_iff_not, beq_iff_eq, beq_eq_false_iff_ne, bne_iff_ne, bne_eq_false_iff_eq, Bool.not_eq_true', Bool.not_eq_false', Bool.not_true, Bool.not_false] at hh))); all_goals (conv => whnf)
                      all_goals first | (refine Ob.mk ?_; (try simp only [Ty.dflt, Nat.zero_add, Nat.add_zero, Int.toNat_natCast, Int.toNat_zero, Int.toNat_one, List.length_take, List.length_drop, List.length_append, List.length_replicate, List.length_cons, List.length_nil, List.length_set, List.length_map, true_and, and_true]); omega) | (exact ⟨by decide⟩) | skip
                      · exfalso
                        simp only [Int.toNat_natCast] at hh
                        have e1 := hmod k (by omega)
                        have e2 := hmod m (by omega)
                        have hd : ∀ u, (taken s).getD u (Ty.dflt (.int .i64)) = (taken s).getD u 0 := fun _ => rfl
                        rw [hd, hd, e1, e2] at hh
                        rw [htm, List.length_map] at hk1
                        have h1 : (tk r n).getD k 0 = (tk r n)[k]'hk1 := by rw [List.getD_eq_getElem?_getD, List.getElem?_eq_getElem hk1]; rfl
                        have h2 : (tk r n).getD m 0 = (tk r n)[m]'(by omega) := by rw [List.getD_eq_getElem?_getD, List.getElem?_eq_getElem (by omega)]; rfl
                        rw [h1, h2] at hh
                        exact tk_ne hk1 (by omega) (by omega) (Int.ofNat_inj.1 hh)
                      · refine ⟨m + 1, [0, 1, 2, 3, 4], ⟨rfl, rfl, ?_, ?_⟩, by omega, by omega⟩
                        · (repeat' (first | exact rfl | exact trivial | refine And.intro ?_ ?_ | ((conv => whnf); first | exact rfl | exact trivial | refine And.intro ?_ ?_)))
                        · (repeat' (first | exact rfl | exact trivial | refine And.intro ?_ ?_ | ((conv => whnf); first | exact rfl | exact trivial | refine And.intro ?_ ?_))); all_goals (conv => whnf); all_goals (try simp only [])
                          exact wr1 m (n := 64) (by omega) (by omega)
                      · refine ⟨k + 1, [0, 1, 2, 3, 4], ⟨rfl, rfl, ?_, ?_⟩, hk1, by omega⟩
                        · (repeat' (first | exact rfl | exact trivial | refine And.intro ?_ ?_ | ((conv => whnf); first | exact rfl | exact trivial | refine And.intro ?_ ?_)))
                        · (repeat' (first | exact rfl | exact trivial | refine And.intro ?_ ?_ | ((conv => whnf); first | exact rfl | exact trivial | refine And.intro ?_ ?_))); all_goals (conv => whnf); all_goals (try simp only [])
                          exact wr1 k (n := 64) (by omega) (by omega)
                  · refine CallN.intro (freeM s) [0, 1, 2] rfl rfl ?_ ?_ ?_
                    · (repeat' (first | exact rfl | exact trivial | refine And.intro ?_ ?_ | ((conv => whnf); first | exact rfl | exact trivial | refine And.intro ?_ ?_)))
                    · (repeat' (first | exact rfl | exact trivial | refine And.intro ?_ ?_ | ((conv => whnf); first | exact rfl | exact trivial | refine And.intro ?_ ?_)))
                    intro y hy
                    rw [hfr1]
                    have e1 : IntKind.i64.wrap (((taken s).length : Int) + (r.row.length : Int)) = n := by rw [wr (by omega)]; omega
                    (repeat' ((conv => whnf); first | refine And.intro ?_ ?_ | exact Cl.mk (by kernel_rfl) | exact Ck.mk (by kernel_rfl) | exact trivial | exact rfl | (intro hh; try simp only [decide_eq_true_eq, decide_eq_false_iff_not, beq_iff_eq, beq_eq_false_iff_ne, bne_iff_ne, bne_eq_false_iff_eq, Bool.not_eq_true', Bool.not_eq_false', Bool.not_true, Bool.not_false] at hh; try exact absurd hh (by decide)))); all_goals (conv => whnf)
                    all_goals first | (exfalso; exact hh e1) | skip
                    refine ⟨⟨s, r, all, gone, i + 1⟩, [0, 1, 2, 3, 4], ⟨rfl, rfl, ?_, ?_⟩, ⟨by show i + 1 ≤ l.length; omega, hrel1, ?_, ?_, hall1, hgone1⟩, by show l.length - (i + 1) < l.length - i; omega⟩
                    · (repeat' (first | exact rfl | exact trivial | refine And.intro ?_ ?_ | ((conv => whnf); first | exact rfl | exact trivial | refine And.intro ?_ ?_)))
                    · (repeat' (first | exact rfl | exact trivial | refine And.intro ?_ ?_ | ((conv => whnf); first | exact rfl | exact trivial | refine And.intro ?_ ?_))); all_goals (conv => whnf); all_goals (try simp only [])
                      exact wr1 i (n := 60) (by omega) (by omega)
                    · exact hal1
                    · exact hgl1

      · (refine CallN.intro lawLive [] rfl rfl ?_ ?_ ?_; ((repeat' (first | exact rfl | exact trivial | refine And.intro ?_ ?_ | ((conv => whnf); first | exact rfl | exact trivial | refine And.intro ?_ ?_)))); ((repeat' (first | exact rfl | exact trivial | refine And.intro ?_ ?_ | ((conv => whnf); first | exact rfl | exact trivial | refine And.intro ?_ ?_)))); (intro y hy; clear y hy; (repeat' ((conv => whnf); first | refine And.intro ?_ ?_ | exact Cl.mk (by kernel_rfl) | exact Ck.mk (by kernel_rfl) | exact trivial | exact rfl | (intro hh; try simp only [decide_eq_true_eq, decide_eq_false_iff_not, beq_iff_eq, beq_eq_false_iff_ne, bne_iff_ne, bne_eq_false_iff_eq, Bool.not_eq_true', Bool.not_eq_false', Bool.not_true, Bool.not_false] at hh; try exact absurd hh (by decide)))); all_goals (conv => whnf); (all_goals first | (exact Ob.mk (by decide)) | skip)))
        (refine RetN.intro () [] rfl rfl ?_ ?_ ?_; ((repeat' (first | exact rfl | exact trivial | refine And.intro ?_ ?_ | ((conv => whnf); first | exact rfl | exact trivial | refine And.intro ?_ ?_)))); ((repeat' (first | exact rfl | exact trivial | refine And.intro ?_ ?_ | ((conv => whnf); first | exact rfl | exact trivial | refine And.intro ?_ ?_))); all_goals (conv => whnf); all_goals (try simp only [])))
end Go.Proofs.Ytadmgicmmnbdcaa.Sl
set_option linter.unusedVariables false
set_option linter.unusedSimpArgs false
namespace Go.Proofs.Ytadmgicmmnbdcaa.Fw
open Go Go.RowKit Go.ChangeShapes

/-- All that is there rests. -/
def gW (W : World) : Gh := { n := 0, Φ := fun b => W.heap[b]?, B := fun _ => 0, V := fun _ => none, L := fun _ => 0, k := 0 }
theorem sim_gW (W : World) : Sim (gW W) [] W := by
  refine ⟨rfl, fun b o h => h, fun i => trivial, fun i j b hi => ?_, fun i b hi => ?_⟩
  · simp [getE, Chunk.blk] at hi
  · simp [getE, Chunk.blk] at hi

/-- Numbers of their kinds, lengths that a machine bears. -/
def wfD : (t : Ty) → t.den → Prop
  | .int k, n => k.min ≤ n ∧ n ≤ k.max
  | .bool, _ => True
  | .str, s => List.length s ≤ maxLen
  | .list e, xs => List.length xs ≤ maxLen ∧ ∀ x, x ∈ (xs : List e.den) → wfD e x
  | .pair a b, x => wfD a x.1 ∧ wfD b x.2

theorem cells_at {w : World} {base : Nat} {a : Addr} {n : Nat} {cs : List Value} (h : w.cells? base a n = some cs) : cs.length = n ∧ ∀ (j : Nat) (u : Value), cs[j]? = some u → w.cell? (a.add j) = some u := by
  unfold World.cells? at h
  split at h
  · rename_i hb
    have key : ∀ (l : List Nat) (cs : List Value), l.mapM (fun i => w.cell? (a.add i)) = some cs → cs.length = l.length ∧ ∀ (j : Nat) (u : Value) (i : Nat), cs[j]? = some u → l[j]? = some i → w.cell? (a.add i) = some u := by
      intro l
      induction l with
      | nil => intro cs h; simp at h; subst h; simp
      | cons i l ih =>
        intro cs h
        simp only [List.mapM_cons, Option.bind_eq_bind, Option.bind_eq_some_iff, Option.pure_def, Option.some.injEq] at h
        obtain ⟨u, h1, r, h2, rfl⟩ := h
        obtain ⟨h3, h4⟩ := ih r h2
        refine ⟨by simp [h3], fun j v i' hj hi => ?_⟩
        cases j with
        | zero => simp at hj hi; subst hj hi; exact h1
        | succ j => exact h4 j v i' (by simpa using hj) (by simpa using hi)
    obtain ⟨h1, h2⟩ := key _ _ h
    refine ⟨by simpa using h1, fun j u hj => h2 j u j hj ?_⟩
    have := (List.getElem?_eq_some_iff.1 hj).1
    rw [List.getElem?_range (by rw [h1] at this; simpa using this)]
  · cases h
theorem cell_at_gW {W : World} {a : Addr} {u : Value} (h : W.cell? a = some u) : ∃ cells T fr, a.spot = none ∧ (gW W).Φ a.block = some (.cells cells T fr) ∧ cells[a.off]? = some u := by
  unfold World.cell? at h
  split at h
  · rename_i c T fr hc
    split at h
    · cases h
    · rename_i hs
      exact ⟨c, T, fr, by simpa using hs, hc, h⟩
  · cases h
theorem list_of {α : Type} {p : Nat → α → Prop} : ∀ n : Nat, (∀ i, i < n → ∃ x, p i x) → ∃ xs : List α, xs.length = n ∧ ∀ (i : Nat) (x : α), xs[i]? = some x → p i x
  | 0, _ => ⟨[], rfl, by simp⟩
  | n + 1, h => by
    obtain ⟨xs, h1, h2⟩ := list_of n (fun i hi => h i (by omega))
    obtain ⟨x, hx⟩ := h n (by omega)
    refine ⟨xs ++ [x], by simp [h1], fun i y hy => ?_⟩
    rw [List.getElem?_append] at hy
    split at hy
    · exact h2 i y hy
    · rename_i hi
      have : i - xs.length = 0 := by
        have := (List.getElem?_eq_some_iff.1 hy).1
        simp at this; omega
      rw [this] at hy
      simp at hy
      subst hy
      have : i = n := by omega
      subst this; exact hx

section
variable {H : Type} {enc' : TypeId × Value → H} {P : Program} {W : World} {base : Nat} {sp : Nat → Bool} {held : Bool}

/-- What reads, reads as data. -/
theorem trod_data (K : Kids P (· < P.types.size)) : ∀ (d : Nat) (t : Nat) (ty : Ty), t < P.types.size → tyOf P d t = some ty → ∀ (fuel : Nat) (cs : List Value) (x : DataW H × List MemPlace), DataW.trod enc' P W base sp held fuel t cs = some x →
    ∃ a : ty.den, RL (gW W) (enc ty (fun _ => a) []) cs ∧ wfD ty a
  | 0, _, _, _, h => by simp [tyOf] at h
  | d + 1, t, ty, hlt, h => by
    intro fuel cs x hx
    simp only [tyOf] at h
    split at h
    · rename_i k ht
      cases h
      obtain ⟨n, rfl, _, hw⟩ := DataW.trod_int (tund_und ht) hx
      simp only [Lit.wf, Bool.and_eq_true, decide_eq_true_eq] at hw
      exact ⟨n, ⟨.int k (fun _ => n), trivial⟩, hw⟩
    · rename_i ht
      cases h
      obtain ⟨b, rfl, _⟩ := DataW.trod_bool (tund_und ht) hx
      exact ⟨b, ⟨.bool (fun _ => b), trivial⟩, trivial⟩
    · rename_i ht
      cases h
      obtain ⟨s, rfl, _, hs⟩ := DataW.trod_string (tund_und ht) hx
      refine ⟨s.data.toList, ⟨?_, trivial⟩, ?_⟩
      · have := R.str (g := gW W) (fun _ => s.data.toList)
        simpa using this
      · show s.data.toList.length ≤ maxLen
        rw [Array.length_toList]; exact hs
    · rename_i e ht
      split at h <;> try cases h
      rename_i y hy
      have hye : y = y := rfl
      have hte := K.slice hlt (tund_und ht)
      rcases DataW.trod_slice (tund_und ht) hx with ⟨rfl, _⟩ | ⟨a, len, cap, elems, rest, n, _, rfl, _, _, hlc, hcm, hlen, hel, _⟩
      · refine ⟨([] : List y.den), ⟨?_, trivial⟩, ?_⟩
        · exact R.lst y (fun _ => []) none 0 (fun _ _ => .nilIface) (Nat.le_refl _) (by simp) (fun i x j z hx => by simp at hx) (fun i x j z hx => by simp at hx)
        · refine ⟨?_, fun x hx => ?_⟩
          · show ([] : List y.den).length ≤ maxLen
            simp
          · cases hx
      · have hl63 : maxLen = 9223372036854775807 := by decide
        have each : ∀ i, i < len → ∃ p : y.den × List Value, W.cells? base (a.add (i * P.cellsOf e)) (P.cellsOf e) = some p.2 ∧ RL (gW W) (enc y (fun _ => p.1) []) p.2 ∧ wfD y p.1 := by
          intro i hi
          have h1 := hel i hi
          rw [List.getElem?_eq_getElem (by omega)] at h1
          obtain ⟨cs', h2, h3⟩ := Option.bind_eq_some_iff.1 h1
          obtain ⟨b, h4, h5⟩ := trod_data K d e y hte hy n cs' _ h3
          exact ⟨(b, cs'), h2, h4, h5⟩
        obtain ⟨ps, hps, hp⟩ := list_of len each
        have hsz : ∀ (i : Nat) (p : y.den × List Value), ps[i]? = some p → P.cellsOf e = y.size := by
          intro i p hi
          obtain ⟨h1, h2, _⟩ := hp i p hi
          have := h2.length
          rw [enc_length, (cells_at h1).1] at this
          exact this.symm
        refine ⟨ps.map (·.1), ⟨?_, trivial⟩, ?_, ?_⟩
        · have hlm : (ps.map (·.1)).length = len := by simp [hps]
          have := R.lst (g := gW W) y (fun _ => ps.map (·.1)) (some a) cap (fun i j => ((ps[i]?.map (·.2)).getD [])[j]?.getD .nilIface) (by simp only [hlm]; exact hlc) (by simp only [hlm]; omega) ?_ ?_
          · simp only [hlm] at this; exact this
          · intro i x j z hx hz
            simp only [List.getElem?_map] at hx
            cases hq : ps[i]? with
            | none => rw [hq] at hx; cases hx
            | some p =>
              rw [hq] at hx
              simp only [Option.map_some, Option.some.injEq] at hx
              subst hx
              obtain ⟨h1, h2, _⟩ := hp i p hq
              obtain ⟨u, hu, _⟩ := h2.get hz
              have hc := (cells_at h1).2 j u hu
              obtain ⟨cells, T, fr, hs, hΦ, hcell⟩ := cell_at_gW hc
              have hsp : a.spot = none ∨ (i * P.cellsOf e = 0 ∧ j = 0) := by
                by_cases h0 : i * P.cellsOf e = 0 ∧ j = 0
                · exact .inr h0
                · left
                  by_cases h00 : i * P.cellsOf e + j = 0
                  · exact (h0 ⟨by omega, by omega⟩).elim
                  · -- the cells of the first one have the same spot
                    have h0i : 0 < len := by have := (List.getElem?_eq_some_iff.1 hq).1; omega
                    obtain ⟨p0, hp0⟩ : ∃ p0, ps[0]? = some p0 := ⟨ps[0]'(by omega), List.getElem?_eq_getElem (by omega)⟩
                    obtain ⟨g1, g2, _⟩ := hp 0 p0 hp0
                    have hy0 : (enc y (fun _ => p0.1) [])[0]? ≠ none := by
                      have := enc_length y (fun _ => p0.1)
                      have h0 := Ty.size_pos y
                      intro hn
                      rw [List.getElem?_eq_none_iff] at hn
                      omega
                    cases hz0 : (enc y (fun _ => p0.1) [])[0]? with
                    | none => exact (hy0 hz0).elim
                    | some z0 =>
                      obtain ⟨u0, hu0, _⟩ := g2.get hz0
                      have hc0 := (cells_at g1).2 0 u0 hu0
                      obtain ⟨_, _, _, hs0, _⟩ := cell_at_gW hc0
                      simpa [Addr.add] using hs0
              have hsp' : a.spot = none := by
                rcases hsp with h | ⟨h0, hj0⟩
                · exact h
                · subst hj0
                  rw [h0] at hs
                  simpa [Addr.add] using hs
              have e1 : (a.add (i * P.cellsOf e)).add j = ⟨a.block, a.off + (i * P.cellsOf e + j), none⟩ := by
                rw [add_none hsp', add_none rfl]; simp [Nat.add_assoc]
              rw [e1] at hΦ hcell
              refine ⟨a.block, a.off, cells, T, fr, by cases a; simp at hsp' ⊢; exact hsp', hΦ, ?_⟩
              rw [hsz i p hq] at hcell
              simp only [Option.map_some, Option.getD_some, hu]
              exact hcell
          · intro i x j z hx hz
            simp only [List.getElem?_map] at hx
            cases hq : ps[i]? with
            | none => rw [hq] at hx; cases hx
            | some p =>
              rw [hq] at hx
              simp only [Option.map_some, Option.some.injEq] at hx
              subst hx
              obtain ⟨h1, h2, _⟩ := hp i p hq
              obtain ⟨u, hu, hr⟩ := h2.get hz
              simp only [hq, Option.map_some, Option.getD_some, hu]
              exact hr
        · show (ps.map (·.1)).length ≤ maxLen
          rw [List.length_map]; omega
        · intro x hx
          obtain ⟨p, hp1, rfl⟩ := List.mem_map.1 hx
          obtain ⟨i, hi⟩ := List.mem_iff_getElem?.1 hp1
          exact (hp i p hi).2.2
    · rename_i fs ht
      obtain ⟨xs, n, _, _, hcl, hxl, hf⟩ := DataW.trod_struct (tund_und ht) hx
      obtain ⟨hft, hsum, hoff⟩ := K.struct hlt (tund_und ht)
      have go : ∀ (l : List Field) (k : Nat) (ty : Ty), tyFs (tyOf P d) l = some ty → (∀ f ∈ l, f.type < P.types.size) → (∀ (j : Nat) f, l[j]? = some f → f.offset = k + ((l.take j).map fun f => P.cellsOf f.type).sum) →
          (∀ f ∈ l, ∃ z, DataW.trod enc' P W base sp held n f.type ((cs.drop f.offset).take (P.cellsOf f.type)) = some z) → (cs.drop k).length = (l.map fun f => P.cellsOf f.type).sum →
          ∃ a : ty.den, RL (gW W) (enc ty (fun _ => a) []) (cs.drop k) ∧ wfD ty a := by
        intro l
        induction l with
        | nil => intro k ty h; simp [tyFs] at h
        | cons f r ih =>
          intro k ty h ht ho hz hl
          obtain ⟨z, hz0⟩ := hz f (List.mem_cons_self ..)
          have ho0 : f.offset = k := by simpa using ho 0 f rfl
          rw [ho0] at hz0
          have htf := ht f (List.mem_cons_self ..)
          cases r with
          | nil =>
            simp only [tyFs] at h
            obtain ⟨a, h1, h2⟩ := trod_data K d f.type ty htf h n _ _ hz0
            refine ⟨a, ?_, h2⟩
            simp only [List.map_cons, List.map_nil, List.sum_cons, List.sum_nil, Nat.add_zero] at hl
            rwa [List.take_of_length_le (by omega)] at h1
          | cons f2 r2 =>
            simp only [tyFs] at h
            split at h <;> try cases h
            rename_i ta tb hta htb
            obtain ⟨a, h1, h2⟩ := trod_data K d f.type ta htf hta n _ _ hz0
            obtain ⟨b, h3, h4⟩ := ih (k + P.cellsOf f.type) tb htb (fun q hq => ht q (List.mem_cons_of_mem _ hq)) (fun j q hq => by
              have := ho (j + 1) q (by simpa using hq)
              simp only [List.take_succ_cons, List.map_cons, List.sum_cons] at this
              omega) (fun q hq => hz q (List.mem_cons_of_mem _ hq)) (by
              simp only [List.map_cons, List.sum_cons, List.length_drop] at hl ⊢
              omega)
            refine ⟨(a, b), ?_, h2, h4⟩
            simp only [enc]
            rw [enc_append ta]
            have := h1.append h3
            rw [← List.drop_drop] at this
            rwa [List.take_append_drop] at this
      have := go fs.toList 0 ty h hft (fun j f hj => by simpa using hoff j f hj) (fun f hfm => by
        obtain ⟨i, hi⟩ := List.mem_iff_getElem?.1 hfm
        have hi' : fs[i]? = some f := by simpa using hi
        have h1 := hf i f hi'
        have hil := (List.getElem?_eq_some_iff.1 hi).1
        rw [List.getElem?_eq_getElem (by simp at hil; omega)] at h1
        exact ⟨_, h1⟩) (by simpa [hcl] using hsum)
      simpa using this
    · cases h
end
end Go.Proofs.Ytadmgicmmnbdcaa.Fw
set_option linter.unusedVariables false
set_option linter.unusedSimpArgs false
namespace Go.Proofs.Ytadmgicmmnbdcaa.Fw
open Go Go.RowKit Go.ChangeShapes Go.WideShapes

theorem wf_i64 {n : Int} (h : wfD (.int .i64) n) : -9223372036854775808 ≤ n ∧ n ≤ 9223372036854775807 := h
theorem wf_u64 {n : Int} (h : wfD (.int .u64) n) : 0 ≤ n ∧ n ≤ 18446744073709551615 := h
def leafB : TypeDesc → Bool
  | .int _ => true | .bool => true | .string => true | .slice _ => true | _ => false
section
variable {H : Type} {enc' : TypeId × Value → H} {P : Program} {W : World} {base : Nat} {sp : Nat → Bool} {held : Bool}

theorem arg_leaf (K : Kids P (· < P.types.size)) {b0 : Nat} {t : Nat} {ty : Ty} {d : TypeDesc} (hd : tund P t = some d) (hb : leafB d = true) (hlt : t < P.types.size) (hty : tyOf P 6 t = some ty) {v : Value} {x : DataW H} {ps : List MemPlace}
    (hval : Value.okWide P W .any b0 t v) (h : DataW.Trod enc' P W base sp held t v x ps) : ∃ a : ty.den, RL (gW W) (enc ty (fun _ => a) []) [v] ∧ wfD ty a := by
  obtain ⟨fuel, hf⟩ := h
  obtain ⟨a, h1, h2⟩ := trod_data K 6 t ty hlt hty fuel _ _ hf
  refine ⟨a, ?_, h2⟩
  have hc : v.cells.toList = [v] := by
    have hu := tund_und hd
    cases v <;> first | rfl | skip
    cases d <;> first | (cases hb; done) | (simp [Value.okWide, hu, Cell.okWide, Cell.ok] at hval)
  rwa [hc] at h1
theorem arg_struct (K : Kids P (· < P.types.size)) {b0 : Nat} {t : Nat} {ty : Ty} {fs : Array Field} (hd : tund P t = some (.struct fs)) (hlt : t < P.types.size) (hty : tyOf P 6 t = some ty) {v : Value} {x : DataW H} {ps : List MemPlace}
    (hval : Value.okWide P W .any b0 t v) (h : DataW.Trod enc' P W base sp held t v x ps) : ∃ a : ty.den, R (gW W) (.agg (enc ty (fun _ => a) [])) v ∧ wfD ty a := by
  obtain ⟨fuel, hf⟩ := h
  obtain ⟨a, h1, h2⟩ := trod_data K 6 t ty hlt hty fuel _ _ hf
  have hu := tund_und hd
  simp only [Value.okWide, hu] at hval
  obtain ⟨cs, rfl, _⟩ := hval
  refine ⟨a, ?_, h2⟩
  have := R.mkAgg h1
  simpa [Value.cells] using this

theorem law_run {f : FuncId} {args : List AV} {vals : List Value} {Y : Type} {Q : Y → Prop} {res : Y → AV} {out : Y → List Chunk} (hm : Meets P f args [] Q res out) (hres : ∀ y, Q y → res y = .tt) (hr : RL (gW W) args vals) :
    Calls P f vals.toArray W fun e W' => e = .returned (.bool true) ∧ Below W.heap.size W W' := by
  refine (hm.h (gW W) W vals (sim_gW W) hr).mono ?_
  rintro e W' ⟨y, c, g', hq, rfl, h1, h2, h3⟩
  rw [hres y hq] at h1
  rw [h1.tt_iff]
  refine ⟨rfl, h3.os, h3.tape, h3.output, h3.size, fun b hb => h3.keep b hb ?_⟩
  rintro ⟨i, hi⟩
  simp [getE, Chunk.blk] at hi

theorem trodAll_stays (hl : laidOutB P = true) {W' : World} (hb : Below W.heap.size W W') : ∀ {ts : List TypeId} {vs : List Value} {ds : List (DataW H)} {ps : List MemPlace} (sp' : Nat → Bool), (∀ t ∈ ts, P.readableRec t = true ∧ t < P.types.size) →
    DataW.TrodAll enc' P W 0 (fun _ => true) true ts vs ds ps → (∀ p ∈ ps, p.block < W.heap.size) → (∀ p ∈ ps, sp' p.block = true) → DataW.TrodAll enc' P W' 0 sp' true ts vs ds ps
  | [], [], [], ps, sp', _, h, _, _ => h
  | t :: ts, v :: vs, d :: ds, ps, sp', ht, h, hlt, hsp => by
    obtain ⟨p, q, h1, h2, rfl⟩ := h
    obtain ⟨hr, hrow⟩ := ht t (List.mem_cons_self ..)
    refine ⟨p, q, WideElems.Trod_stays hl hr hrow h1 (fun x hx => hb.same (hlt x (List.mem_append_left _ hx))) (fun x hx => hsp x (List.mem_append_left _ hx)), ?_, rfl⟩
    exact trodAll_stays hl hb sp' (fun t ht' => ht t (List.mem_cons_of_mem _ ht')) h2 (fun x hx => hlt x (List.mem_append_right _ hx)) (fun x hx => hsp x (List.mem_append_right _ hx))
  | [], _ :: _, _, _, _, _, h, _, _ => h.elim
  | [], [], _ :: _, _, _, _, h, _, _ => h.elim
  | _ :: _, [], _, _, _, _, h, _, _ => h.elim
  | _ :: _, _ :: _, [], _, _, _, h, _, _ => h.elim

theorem law_post {f : Func} {s : ChangeSpec} {W' : World} {args : Array Value} {ds gs : List (DataW H)} {before : List MemPlace} (hl : laidOutB P = true) {tb : TypeId}
    (hW : DataW.Whole enc' P f.params.toList s.vars false W args.toList ds gs before) (hv : s.vars = []) (hfn : s.fn H (ds ++ gs) = { results := [.lit (.bool true)], args := ds })
    (hres : f.resultTypes = #[tb]) (htb : P.underlying tb = some .bool) (ht : ∀ t ∈ f.params.toList, P.readableRec t = true ∧ t < P.types.size) (hb : Below W.heap.size W W') :
    s.post enc' P f false true false false W args (.bool true) W' := by
  have hlt := hW.lt
  have hW' := hW
  obtain ⟨p, q, hA, hV, hpq, hfz, hnd⟩ := hW'
  rw [hv] at hV
  have hgq : gs = [] ∧ q = [] := by
    cases gs with
    | nil => exact ⟨rfl, hV⟩
    | cons g r => exact hV.elim
  obtain ⟨rfl, rfl⟩ := hgq
  rw [List.append_nil] at hpq
  subst hpq
  have hold : ∀ p ∈ before, (fun b => decide (b < W.heap.size)) p.block = true := fun p hp => by simpa using hlt p hp
  have hargs : ∀ sp : Nat → Bool, (∀ p ∈ before, sp p.block = true) → DataW.TrodAll enc' P W' 0 sp true f.params.toList args.toList ds before := fun sp hsp => trodAll_stays hl hb sp ht hA hlt hsp
  have hresT : ∀ (b : Nat) (sp : Nat → Bool) (hd : Bool), DataW.TrodAll enc' P W' b sp hd f.resultTypes.toList ((Value.bool true).resultList f.resultTypes.size) [.lit (.bool true)] [] := by
    intro b sp hd
    rw [hres]
    exact trodAll_mk1 (shut_bool htb true)
  refine ⟨ds, [], before, [], before, [], hW, ?_, ?_, ?_, World.keptBut_mono (fun p hp => ⟨hp, ?_⟩) (hb.frame (· ∈ before)), fun h => by cases h⟩
  · rw [hfn]; exact hresT _ _ _
  · rw [hfn]; exact hargs _ hold
  · rw [hfn, hv]; rfl
  · exact .inr (by simpa using hp)
end
end Go.Proofs.Ytadmgicmmnbdcaa.Fw
set_option linter.unusedVariables false
set_option linter.unusedSimpArgs false
namespace Go.Proofs.Ytadmgicmmnbdcaa.RSlabGood
open Go Go.ChangeShapes Go.WideShapes Go.ChangeAt Go.RowKit Fw
theorem own : ownKnob Try.prog.godebug = none := by kernel_rfl
theorem laidOut : laidOutB Try.prog = true := by kernel_rfl
theorem mapsOk : mapsRowed Try.prog = true := by kernel_rfl
theorem kids : Kids Try.prog (· < Try.prog.types.size) := kids_rows laidOut mapsOk
theorem readable : ∀ t ∈ Try.f4.params.toList, Try.prog.readableRec t = true ∧ t < Try.prog.types.size := by
  have h : (Try.f4.params.toList.all fun t => Try.prog.readableRec t && decide (t < Try.prog.types.size)) = true := by kernel_rfl
  intro t ht
  have := List.all_eq_true.1 h t ht
  rw [Bool.and_eq_true, decide_eq_true_eq] at this
  exact this
set_option maxRecDepth 100000 in
theorem lifted (os : Os) (started : os.Started) (H : Type) (enc : TypeId × Value → H) :
    ReturnsInHanded {} Try.checked os 4 .any (Rows.slabGoodSpec.pre6 enc Try.prog Try.f4 Rows.slabGoodRow.domain false) (Rows.slabGoodSpec.post enc Try.prog Try.f4 false true false false) := by
  refine returnsInHanded_of_change (C := Try.checked) own started (by kernel_rfl) Try.func4
    (ChangeSpec.witness6 (enc := enc) (C := Try.checked) false ⟨#[], #[.int .i64 0, .int .i64 0, .slice none 0 0], []⟩ 8 (by kernel_rfl) (by kernel_rfl) (by kernel_rfl) (by kernel_rfl)) ?_
  intro W base args ds gs before hval0 hW hcnd _
  have hval : ∀ (j : Nat) t v, Try.f4.params[j]? = some t → args[j]? = some v → Value.okWide Try.prog W .any base t v := hval0
  have hW' : DataW.Whole enc Try.prog Try.f4.params.toList Rows.slabGoodSpec.vars false W args.toList ds gs before := hW
  obtain ⟨p, q, hA0, hV, _, _, _⟩ := hW'
  have hA : DataW.TrodAll enc Try.prog W 0 (fun _ => true) true Try.f4.params.toList args.toList ds p := hA0
  rw [Try.params4] at hA hval
  obtain ⟨v0, v1, v2, d0, d1, d2, p0, p1, p2, rfl, rfl, rfl, h0, h1, h2⟩ := trodAll_three hA
  obtain ⟨rfl, rfl⟩ := trodVars_none hV
  obtain ⟨a0, r0, w0⟩ := arg_leaf (ty := (.int .i64)) kids rfl rfl (of_decide_eq_true (by kernel_rfl)) (by kernel_rfl) (hval 0 _ v0 rfl rfl) h0
  obtain ⟨a1, r1, w1⟩ := arg_leaf (ty := (.int .i64)) kids rfl rfl (of_decide_eq_true (by kernel_rfl)) (by kernel_rfl) (hval 1 _ v1 rfl rfl) h1
  obtain ⟨a2, r2, w2⟩ := arg_leaf (ty := (.list Sl.OpT)) kids rfl rfl (of_decide_eq_true (by kernel_rfl)) (by kernel_rfl) (hval 2 _ v2 rfl rfl) h2
  refine (law_run (vals := [v0, v1, v2]) (Sl.lawGood a0 a1 a2 (fun o ho => (wf_i64 (w2.2 o ho).2.1).2)) (fun _ _ => rfl) ⟨r0.1, r1.1, r2.1, trivial⟩).mono ?_
  rintro e W' ⟨rfl, hb⟩
  exact ⟨_, rfl, law_post laidOut hW rfl rfl (by rfl) Try.underlying4 readable hb⟩

theorem holds : Rows.SlabGoodSaid :=
  OpenClaim.holds_of_wide 4 Try.f4 rfl rfl rfl rfl rfl rfl rfl ⟨rfl, rfl, rfl, rfl, rfl⟩ rfl rfl rfl rfl rfl (by kernel_rfl) Try.func4 (by kernel_rfl)
    (of_decide_eq_true (by kernel_rfl)) (by unfold Func.isWrapper; first | (rw [if_pos (by decide +kernel)]; kernel_rfl) | (rw [if_neg (by decide +kernel)]; exact ⟨rfl, rfl⟩))
    (fun os started H enc _ => lifted os started H enc)
end Go.Proofs.Ytadmgicmmnbdcaa.RSlabGood
#print axioms Go.Proofs.Ytadmgicmmnbdcaa.RSlabGood.holds
