/- The law SlabOwn holds at every input that its statement lets in; part 3 of its proof. -/
import Derived.Test.YtadmgicmmnbdcaaMSlabOwn1
import Derived.ProofKit
import Derived.OpenShut
import Derived.JoinedCond
import Derived.Test.YtadmgicmmnbdcaaRows
set_option linter.unusedVariables false
set_option linter.unusedSimpArgs false
namespace Go.Proofs.Ytadmgicmmnbdcaa.Sl
open Go Go.RowKit Fw
structure Ref where
  gen : List Int
  taken : List Bool
  words : List (List Int)
  row : List Int
def rch (s : Ref) : List Chunk :=
  [.cells 61 [.vec 1 1 (fun _ => 0) (fun _ => s.gen.length), .vec 2 1 (fun _ => 0) (fun _ => s.taken.length), .vec 3 1 (fun _ => 0) (fun _ => s.words.length), .vec 4 1 (fun _ => 0) (fun _ => s.row.length)],
   .vect 3 (.int .i64) fun _ => s.gen, .vect 4 .bool fun _ => s.taken, .vect 33 (.list (.int .u64)) fun _ => s.words, .vect 3 (.int .i64) fun _ => s.row]
def rhnd (s : Ref) (i : Nat) : Int := IntKind.i64.wrap (IntKind.i64.wrap (64 * s.gen.getD i 0) + i)
def rtakeS (s : Ref) (i : Nat) (r : List Int) : Ref := { s with taken := s.taken.set i true, words := s.words.set i (List.replicate (s.words.getD i []).length 0), row := r }
structure ROk (s : Ref) (n w : Nat) : Prop where
  gen : s.gen.length = n
  taken : s.taken.length = n
  words : s.words.length = n
  cap : 1 ≤ n ∧ n ≤ 64 ∧ w ≤ 32
  each : ∀ x ∈ s.words, x.length = w
  row : s.row.length ≤ n ∧ ∀ x ∈ s.row, 0 ≤ x ∧ x < n
theorem ROk.each_at {s : Ref} {n w : Nat} (h : ROk s n w) {i : Nat} (hi : i < n) : (s.words.getD i []).length = w := by
  rw [List.getD_eq_getElem?_getD, List.getElem?_eq_getElem (by rw [h.words]; exact hi)]
  exact h.each _ (List.getElem_mem _)
theorem rtake (s : Ref) {n w : Nat} (ok : ROk s n w) (i : Nat) (r : List Int) (hr : s.row = (i : Int) :: r) : Meets Try.prog 15 [.ptr 0 0] (rch s) (Y := Unit) (fun _ => True)
    (fun _ => .tup [.int .i64 fun _ => rhnd s i, .int .i64 fun _ => 0]) (fun _ => rch (rtakeS s i r)) := by
  have hrow := ok.row
  rw [hr] at hrow
  have hi := hrow.2 i (List.mem_cons_self ..)
  have hl := hrow.1
  have he := ok.each_at (i := i) (by omega)
  have hcap := ok.cap
  have hg := ok.gen
  have ht := ok.taken
  have hw := ok.words
  simp only [List.length_cons] at hl
  have h0 : s.row.getD 0 0 = (i : Int) := by simp [hr]
  have h1 : (i : Int).toNat = i := by simp
  have hrl : s.row.length = r.length + 1 := by rw [hr]; rfl
  have hd : List.drop 1 s.row = r := by rw [hr]; rfl
  have b1 : Try.t3.bytes = 8 := rfl
  have b2 : Try.t49.bytes = 8 := rfl
  refine Meets.intro hm (fn := Try.f15) Try.func15 rfl (by decide) (Nat.le_of_ble_eq_true rfl) (fun _ => rfl) ?_; intro S hok; (conv => whnf)
  (repeat' ((conv => whnf); first | refine And.intro ?_ ?_ | exact Cl.mk (by kernel_rfl) | exact trivial | exact rfl | (intro hh; try simp only [decide_eq_true_eq, decide_eq_false_iff_not, beq_iff_eq, beq_eq_false_iff_ne, bne_iff_ne, bne_eq_false_iff_eq, Bool.not_eq_true', Bool.not_eq_false', Bool.not_true, Bool.not_false] at hh))); all_goals (conv => whnf)
  · rw [hr] at hh; simp at hh; omega
  all_goals first
    | (refine Ob.mk ?_; (try simp only [Ty.dflt, Nat.zero_add, Nat.add_zero, Int.toNat_natCast, Int.toNat_zero, Int.toNat_one, List.length_take, List.length_drop, List.length_append, List.length_replicate, List.length_cons, List.length_nil, List.length_set, List.length_map, true_and, and_true, h0, h1, he, hd, hrl, b1, b2]); omega)
    | skip
  · (refine RetN.intro () [0, 1, 2, 3, 5] rfl rfl ?_ ?_ ?_; ((repeat' (first | exact rfl | exact trivial | refine And.intro ?_ ?_ | ((conv => whnf); first | exact rfl | exact trivial | refine And.intro ?_ ?_)))); ((repeat' (first | exact rfl | exact trivial | refine And.intro ?_ ?_ | ((conv => whnf); first | exact rfl | exact trivial | refine And.intro ?_ ?_))); all_goals (conv => whnf); all_goals (try simp only [])))
    all_goals simp only [Ty.dflt, Nat.zero_add, Nat.add_zero, Int.toNat_natCast, Int.toNat_zero, Int.toNat_one, List.length_take, List.length_drop, List.length_append, h0, h1, he, hd, hrl, rtakeS, rhnd, List.length_set]
    all_goals simp


theorem rtake0 (s : Ref) (hr : s.row = []) : Meets Try.prog 15 [.ptr 0 0] (rch s) (Y := Unit) (fun _ => True)
    (fun _ => .tup [.int .i64 fun _ => 0, .int .i64 fun _ => 4]) (fun _ => rch s) := by
  refine Meets.intro hm (fn := Try.f15) Try.func15 rfl (by decide) (Nat.le_of_ble_eq_true rfl) (fun _ => rfl) ?_; intro S hok; (conv => whnf)
  (repeat' ((conv => whnf); first | refine And.intro ?_ ?_ | exact Cl.mk (by kernel_rfl) | exact trivial | exact rfl | (intro hh; try simp only [decide_eq_true_eq, decide_eq_false_iff_not, beq_iff_eq, beq_eq_false_iff_ne, bne_iff_ne, bne_eq_false_iff_eq, Bool.not_eq_true', Bool.not_eq_false', Bool.not_true, Bool.not_false] at hh))); all_goals (conv => whnf)
  · (refine RetN.intro () [0, 1, 2, 3, 4] rfl rfl ?_ ?_ ?_; ((repeat' (first | exact rfl | exact trivial | refine And.intro ?_ ?_ | ((conv => whnf); first | exact rfl | exact trivial | refine And.intro ?_ ?_)))); ((repeat' (first | exact rfl | exact trivial | refine And.intro ?_ ?_ | ((conv => whnf); first | exact rfl | exact trivial | refine And.intro ?_ ?_))); all_goals (conv => whnf); all_goals (try simp only [])))
  all_goals exact absurd (by simp [hr]) hh
/-- The cell of a good handle; -1: it is none. -/
def rgood (s : Ref) (h : Int) : Int :=
  if h < 0 then -1 else if (s.gen.length : Int) ≤ h.tmod 64 ∨ s.taken.getD (h.tmod 64).toNat false = false ∨ s.gen.getD (h.tmod 64).toNat 0 ≠ h.tdiv 64 then -1 else h.tmod 64
theorem rgoodM (s : Ref) {n w : Nat} (ok : ROk s n w) (h : Int) (hb : h ≤ 9223372036854775807) : Meets Try.prog 31 [.ptr 0 0, .int .i64 fun _ => h] (rch s) (Y := Unit) (fun _ => True)
    (fun _ => .int .i64 fun _ => rgood s h) (fun _ => rch s) := by
  have hg := ok.gen
  have ht := ok.taken
  have hq : ¬ h < 0 → IntKind.i64.wrap (h.tdiv 64) = h.tdiv 64 ∧ 0 ≤ h.tmod 64 ∧ h.tmod 64 < 64 := fun hn => by
    have := tmod64 hn
    have h1 : h.tdiv 64 = h / 64 := Int.tdiv_eq_ediv_of_nonneg (by omega)
    exact ⟨wr (by omega), this⟩
  refine Meets.intro hm (fn := Try.f31) Try.func31 rfl (by decide) (Nat.le_of_ble_eq_true rfl) (fun _ => rfl) ?_; intro S hok; (conv => whnf)
  (repeat' ((conv => whnf); first | refine And.intro ?_ ?_ | exact Cl.mk (by kernel_rfl) | exact trivial | exact rfl | (intro hh; try simp only [decide_eq_true_eq, decide_eq_false_iff_not, beq_iff_eq, beq_eq_false_iff_ne, bne_iff_ne, bne_eq_false_iff_eq, Bool.not_eq_true', Bool.not_eq_false', Bool.not_true, Bool.not_false] at hh))); all_goals (conv => whnf)
  all_goals first
    | exact ⟨by decide⟩
    | (have hq := hq ‹_›; (refine Ob.mk ?_; (try simp only [Ty.dflt, Nat.zero_add, Nat.add_zero, Int.toNat_natCast, Int.toNat_zero, Int.toNat_one, List.length_take, List.length_drop, List.length_append, List.length_replicate, List.length_cons, List.length_nil, List.length_set, List.length_map, true_and, and_true]); omega))
    | skip
  · (refine RetN.intro () [0, 1, 2, 3, 4] rfl rfl ?_ ?_ ?_; ((repeat' (first | exact rfl | exact trivial | refine And.intro ?_ ?_ | ((conv => whnf); first | exact rfl | exact trivial | refine And.intro ?_ ?_)))); ((repeat' (first | exact rfl | exact trivial | refine And.intro ?_ ?_ | ((conv => whnf); first | exact rfl | exact trivial | refine And.intro ?_ ?_))); all_goals (conv => whnf); all_goals (try simp only [])))
    simp [rgood, hh]
  all_goals (have hq := hq ‹_›)
  · rename_i h1 h2 h3
    (refine RetN.intro () [0, 1, 2, 3, 4] rfl rfl ?_ ?_ ?_; ((repeat' (first | exact rfl | exact trivial | refine And.intro ?_ ?_ | ((conv => whnf); first | exact rfl | exact trivial | refine And.intro ?_ ?_)))); ((repeat' (first | exact rfl | exact trivial | refine And.intro ?_ ?_ | ((conv => whnf); first | exact rfl | exact trivial | refine And.intro ?_ ?_))); all_goals (conv => whnf); all_goals (try simp only [])))
    simp only [Nat.zero_add, hq, Ty.dflt] at hh
    rw [rgood, if_neg h1, if_pos (.inr (.inr hh))]
  · rename_i h1 h2 h3
    (refine RetN.intro () [0, 1, 2, 3, 4] rfl rfl ?_ ?_ ?_; ((repeat' (first | exact rfl | exact trivial | refine And.intro ?_ ?_ | ((conv => whnf); first | exact rfl | exact trivial | refine And.intro ?_ ?_)))); ((repeat' (first | exact rfl | exact trivial | refine And.intro ?_ ?_ | ((conv => whnf); first | exact rfl | exact trivial | refine And.intro ?_ ?_))); all_goals (conv => whnf); all_goals (try simp only [])))
    simp only [Nat.zero_add, hq, Ty.dflt] at hh h3
    rw [rgood, if_neg h1, if_neg (by rintro (h | h | h); exact h2 h; rw [h3] at h; cases h; exact h hh)]
  · rename_i h1 h2
    (refine RetN.intro () [0, 1, 2, 3, 4] rfl rfl ?_ ?_ ?_; ((repeat' (first | exact rfl | exact trivial | refine And.intro ?_ ?_ | ((conv => whnf); first | exact rfl | exact trivial | refine And.intro ?_ ?_)))); ((repeat' (first | exact rfl | exact trivial | refine And.intro ?_ ?_ | ((conv => whnf); first | exact rfl | exact trivial | refine And.intro ?_ ?_))); all_goals (conv => whnf); all_goals (try simp only [])))
    simp only [Nat.zero_add, hq, Ty.dflt] at hh
    rw [rgood, if_neg h1, if_pos (.inr (.inl hh))]
  · rename_i h1
    (refine RetN.intro () [0, 1, 2, 3, 4] rfl rfl ?_ ?_ ?_; ((repeat' (first | exact rfl | exact trivial | refine And.intro ?_ ?_ | ((conv => whnf); first | exact rfl | exact trivial | refine And.intro ?_ ?_)))); ((repeat' (first | exact rfl | exact trivial | refine And.intro ?_ ?_ | ((conv => whnf); first | exact rfl | exact trivial | refine And.intro ?_ ?_))); all_goals (conv => whnf); all_goals (try simp only [])))
    rw [rgood, if_neg h1, if_pos (.inl hh)]
theorem rgood_lt {s : Ref} {h : Int} (hn : ¬ rgood s h < 0) : 0 ≤ rgood s h ∧ rgood s h < s.gen.length ∧ rgood s h < 64 := by
  unfold rgood at hn ⊢
  split at hn
  · omega
  · rename_i h0
    rw [if_neg h0]
    split at hn
    · omega
    · rename_i h1
      rw [if_neg h1]
      have := tmod64 h0
      omega
def rgiveS (s : Ref) (h : Int) : Ref :=
  if rgood s h < 0 then s else { s with taken := s.taken.set (rgood s h).toNat false, gen := s.gen.set (rgood s h).toNat (IntKind.i64.wrap (s.gen.getD (rgood s h).toNat 0 + 1)), row := rgood s h :: s.row }
theorem rgive (s : Ref) {n w : Nat} (ok : ROk s n w) (h : Int) (hb : h ≤ 9223372036854775807) : Meets Try.prog 17 [.ptr 0 0, .int .i64 fun _ => h] (rch s) (Y := Unit) (fun _ => True)
    (fun _ => .int .i64 fun _ => if rgood s h < 0 then 6 else 0) (fun _ => rch (rgiveS s h)) := by
  have hg := ok.gen
  have ht := ok.taken
  have hr := ok.row
  have hc := ok.cap
  have b1 : Try.t3.bytes = 8 := rfl
  have hq := rgood_lt (s := s) (h := h)
  refine Meets.intro hm (fn := Try.f17) Try.func17 rfl (by decide) (Nat.le_of_ble_eq_true rfl) (fun _ => rfl) ?_; intro S hok; (conv => whnf)
  (repeat' ((conv => whnf); first | refine And.intro ?_ ?_ | exact Cl.mk (by kernel_rfl) | exact trivial | exact rfl | (intro hh; try simp only [decide_eq_true_eq, decide_eq_false_iff_not, beq_iff_eq, beq_eq_false_iff_ne, bne_iff_ne, bne_eq_false_iff_eq, Bool.not_eq_true', Bool.not_eq_false', Bool.not_true, Bool.not_false] at hh))); all_goals (conv => whnf)
  · (refine CallN.intro (rgoodM s ok h hb) [0, 1, 2, 3, 4] rfl rfl ?_ ?_ ?_; ((repeat' (first | exact rfl | exact trivial | refine And.intro ?_ ?_ | ((conv => whnf); first | exact rfl | exact trivial | refine And.intro ?_ ?_)))); ((repeat' (first | exact rfl | exact trivial | refine And.intro ?_ ?_ | ((conv => whnf); first | exact rfl | exact trivial | refine And.intro ?_ ?_)))); (intro y hy; (repeat' ((conv => whnf); first | refine And.intro ?_ ?_ | exact Cl.mk (by kernel_rfl) | exact trivial | exact rfl | (intro hh; try simp only [decide_eq_true_eq, decide_eq_false_iff_not, beq_iff_eq, beq_eq_false_iff_ne, bne_iff_ne, bne_eq_false_iff_eq, Bool.not_eq_true', Bool.not_eq_false', Bool.not_true, Bool.not_false] at hh))); all_goals (conv => whnf)))
    all_goals first
      | (have hq := hq ‹_›; (refine Ob.mk ?_; (try simp only [Ty.dflt, Nat.zero_add, Nat.add_zero, Int.toNat_natCast, Int.toNat_zero, Int.toNat_one, List.length_take, List.length_drop, List.length_append, List.length_replicate, List.length_cons, List.length_nil, List.length_set, List.length_map, true_and, and_true, b1]); omega))
      | skip
    · (refine RetN.intro () [0, 1, 2, 3, 4] rfl rfl ?_ ?_ ?_; ((repeat' (first | exact rfl | exact trivial | refine And.intro ?_ ?_ | ((conv => whnf); first | exact rfl | exact trivial | refine And.intro ?_ ?_)))); ((repeat' (first | exact rfl | exact trivial | refine And.intro ?_ ?_ | ((conv => whnf); first | exact rfl | exact trivial | refine And.intro ?_ ?_))); all_goals (conv => whnf); all_goals (try simp only [])))
      all_goals simp [rgiveS, hh]
    · (refine RetN.intro () [0, 1, 2, 3, 5] rfl rfl ?_ ?_ ?_; ((repeat' (first | exact rfl | exact trivial | refine And.intro ?_ ?_ | ((conv => whnf); first | exact rfl | exact trivial | refine And.intro ?_ ?_)))); ((repeat' (first | exact rfl | exact trivial | refine And.intro ?_ ?_ | ((conv => whnf); first | exact rfl | exact trivial | refine And.intro ?_ ?_))); all_goals (conv => whnf); all_goals (try simp only [])))
      all_goals simp [rgiveS, hh, Ty.dflt]
      omega
theorem rread (s : Ref) {n w : Nat} (ok : ROk s n w) (h : Int) (hb : h ≤ 9223372036854775807) : Meets Try.prog 19 [.ptr 0 0, .int .i64 fun _ => h] (rch s) (Y := Unit) (fun _ => True)
    (fun _ => .tup [.lst (.int .u64) fun _ => if rgood s h < 0 then [] else s.words.getD (rgood s h).toNat [], .int .i64 fun _ => if rgood s h < 0 then 6 else 0]) (fun _ => rch s) := by
  have hg := ok.gen
  have hw := ok.words
  have hc := ok.cap
  have b2 : Try.t49.bytes = 8 := rfl
  have hq : ¬ rgood s h < 0 → (0 ≤ rgood s h ∧ rgood s h < s.gen.length) ∧ (s.words.getD (rgood s h).toNat []).length = w := fun hn => by
    have := rgood_lt hn
    exact ⟨by omega, ok.each_at (by omega)⟩
  refine Meets.intro hm (fn := Try.f19) Try.func19 rfl (by decide) (Nat.le_of_ble_eq_true rfl) (fun _ => rfl) ?_; intro S hok; (conv => whnf)
  (repeat' ((conv => whnf); first | refine And.intro ?_ ?_ | exact Cl.mk (by kernel_rfl) | exact trivial | exact rfl | (intro hh; try simp only [decide_eq_true_eq, decide_eq_false_iff_not, beq_iff_eq, beq_eq_false_iff_ne, bne_iff_ne, bne_eq_false_iff_eq, Bool.not_eq_true', Bool.not_eq_false', Bool.not_true, Bool.not_false] at hh))); all_goals (conv => whnf)
  · (refine CallN.intro (rgoodM s ok h hb) [0, 1, 2, 3, 4] rfl rfl ?_ ?_ ?_; ((repeat' (first | exact rfl | exact trivial | refine And.intro ?_ ?_ | ((conv => whnf); first | exact rfl | exact trivial | refine And.intro ?_ ?_)))); ((repeat' (first | exact rfl | exact trivial | refine And.intro ?_ ?_ | ((conv => whnf); first | exact rfl | exact trivial | refine And.intro ?_ ?_)))); (intro y hy; (repeat' ((conv => whnf); first | refine And.intro ?_ ?_ | exact Cl.mk (by kernel_rfl) | exact trivial | exact rfl | (intro hh; try simp only [decide_eq_true_eq, decide_eq_false_iff_not, beq_iff_eq, beq_eq_false_iff_ne, bne_iff_ne, bne_eq_false_iff_eq, Bool.not_eq_true', Bool.not_eq_false', Bool.not_true, Bool.not_false] at hh))); all_goals (conv => whnf)))
    all_goals first
      | (have hq := hq ‹_›; have hq2 := hq.2; (refine Ob.mk ?_; (try simp only [Ty.dflt, Nat.zero_add, Nat.add_zero, Int.toNat_natCast, Int.toNat_zero, Int.toNat_one, List.length_take, List.length_drop, List.length_append, List.length_replicate, List.length_cons, List.length_nil, List.length_set, List.length_map, true_and, and_true, b2, hq2]); omega))
      | skip
    · (refine RetN.intro () [0, 1, 2, 3, 4] rfl rfl ?_ ?_ ?_; ((repeat' (first | exact rfl | exact trivial | refine And.intro ?_ ?_ | ((conv => whnf); first | exact rfl | exact trivial | refine And.intro ?_ ?_)))); ((repeat' (first | exact rfl | exact trivial | refine And.intro ?_ ?_ | ((conv => whnf); first | exact rfl | exact trivial | refine And.intro ?_ ?_))); all_goals (conv => whnf); all_goals (try simp only [])))
      all_goals simp [hh]
    · (refine RetN.frz 5 ?_; (conv => whnf))
      (refine RetN.intro () [0, 1, 2, 3, 4] rfl rfl ?_ ?_ ?_; ((repeat' (first | exact rfl | exact trivial | refine And.intro ?_ ?_ | ((conv => whnf); first | exact rfl | exact trivial | refine And.intro ?_ ?_)))); ((repeat' (first | exact rfl | exact trivial | refine And.intro ?_ ?_ | ((conv => whnf); first | exact rfl | exact trivial | refine And.intro ?_ ?_))); all_goals (conv => whnf); all_goals (try simp only [])))
      all_goals simp [hh, Ty.dflt]
def rwriteS (s : Ref) (h : Int) (xs : List Int) : Ref := { s with words := s.words.set (rgood s h).toNat xs }
theorem rwrite (s : Ref) {n w : Nat} (ok : ROk s n w) (h : Int) (hb : h ≤ 9223372036854775807) (xs : List Int) (hx : xs.length ≤ 100000) : Meets Try.prog 22 [.ptr 0 0, .int .i64 fun _ => h, .lst (.int .u64) fun _ => xs] (rch s) (Y := Unit) (fun _ => True)
    (fun _ => .int .i64 fun _ => if rgood s h < 0 then 6 else if xs.length = w then 0 else 1) (fun _ => rch (if rgood s h < 0 ∨ xs.length ≠ w then s else rwriteS s h xs)) := by
  have hg := ok.gen
  have hw := ok.words
  have hc := ok.cap
  have b2 : Try.t49.bytes = 8 := rfl
  have hq : ¬ rgood s h < 0 → (0 ≤ rgood s h ∧ rgood s h < s.gen.length) ∧ (s.words.getD (rgood s h).toNat []).length = w := fun hn => by
    have := rgood_lt hn
    exact ⟨by omega, ok.each_at (by omega)⟩
  refine Meets.intro hm (fn := Try.f22) Try.func22 rfl (by decide) (Nat.le_of_ble_eq_true rfl) (fun _ => rfl) ?_; intro S hok; (conv => whnf)
  (repeat' ((conv => whnf); first | refine And.intro ?_ ?_ | exact Cl.mk (by kernel_rfl) | exact trivial | exact rfl | (intro hh; try simp only [decide_eq_true_eq, decide_eq_false_iff_not, beq_iff_eq, beq_eq_false_iff_ne, bne_iff_ne, bne_eq_false_iff_eq, Bool.not_eq_true', Bool.not_eq_false', Bool.not_true, Bool.not_false] at hh))); all_goals (conv => whnf)
  · (refine CallN.intro (rgoodM s ok h hb) [0, 1, 2, 3, 4] rfl rfl ?_ ?_ ?_; ((repeat' (first | exact rfl | exact trivial | refine And.intro ?_ ?_ | ((conv => whnf); first | exact rfl | exact trivial | refine And.intro ?_ ?_)))); ((repeat' (first | exact rfl | exact trivial | refine And.intro ?_ ?_ | ((conv => whnf); first | exact rfl | exact trivial | refine And.intro ?_ ?_)))); (intro y hy; (repeat' ((conv => whnf); first | refine And.intro ?_ ?_ | exact Cl.mk (by kernel_rfl) | exact trivial | exact rfl | (intro hh; try simp only [decide_eq_true_eq, decide_eq_false_iff_not, beq_iff_eq, beq_eq_false_iff_ne, bne_iff_ne, bne_eq_false_iff_eq, Bool.not_eq_true', Bool.not_eq_false', Bool.not_true, Bool.not_false] at hh))); all_goals (conv => whnf)))
    all_goals first
      | (have hq := hq ‹_›; have hq2 := hq.2; (refine Ob.mk ?_; (try simp only [Ty.dflt, Nat.zero_add, Nat.add_zero, Int.toNat_natCast, Int.toNat_zero, Int.toNat_one, List.length_take, List.length_drop, List.length_append, List.length_replicate, List.length_cons, List.length_nil, List.length_set, List.length_map, true_and, and_true, b2, hq2]); omega))
      | skip
    · (refine RetN.intro () [0, 1, 2, 3, 4] rfl rfl ?_ ?_ ?_; ((repeat' (first | exact rfl | exact trivial | refine And.intro ?_ ?_ | ((conv => whnf); first | exact rfl | exact trivial | refine And.intro ?_ ?_)))); ((repeat' (first | exact rfl | exact trivial | refine And.intro ?_ ?_ | ((conv => whnf); first | exact rfl | exact trivial | refine And.intro ?_ ?_))); all_goals (conv => whnf); all_goals (try simp only [])))
      all_goals simp [hh]
    · have h1 := (hq ‹_›).2
      simp only [Nat.zero_add, Ty.dflt, h1] at hh
      (refine RetN.intro () [0, 1, 2, 3, 4] rfl rfl ?_ ?_ ?_; ((repeat' (first | exact rfl | exact trivial | refine And.intro ?_ ?_ | ((conv => whnf); first | exact rfl | exact trivial | refine And.intro ?_ ?_)))); ((repeat' (first | exact rfl | exact trivial | refine And.intro ?_ ?_ | ((conv => whnf); first | exact rfl | exact trivial | refine And.intro ?_ ?_))); all_goals (conv => whnf); all_goals (try simp only [])))
      all_goals (have e : ¬ xs.length = w := by omega)
      all_goals simp [‹¬ rgood s h < 0›, e]
    · have h1 := (hq ‹_›).2
      simp only [Nat.zero_add, Ty.dflt, h1] at hh
      (refine RetN.intro () [0, 1, 2, 3, 4] rfl rfl ?_ ?_ ?_; ((repeat' (first | exact rfl | exact trivial | refine And.intro ?_ ?_ | ((conv => whnf); first | exact rfl | exact trivial | refine And.intro ?_ ?_)))); ((repeat' (first | exact rfl | exact trivial | refine And.intro ?_ ?_ | ((conv => whnf); first | exact rfl | exact trivial | refine And.intro ?_ ?_))); all_goals (conv => whnf); all_goals (try simp only [])))
      all_goals (have e : xs.length = w := by omega)
      all_goals simp [‹¬ rgood s h < 0›, e, rwriteS]
      rw [List.take_of_length_le (by omega)]
theorem rfree (s : Ref) : Meets Try.prog 24 [.ptr 0 0] (rch s) (Y := Unit) (fun _ => True) (fun _ => .int .i64 fun _ => s.row.length) (fun _ => rch s) := by
  refine Meets.intro hm (fn := Try.f24) Try.func24 rfl (by decide) (Nat.le_of_ble_eq_true rfl) (fun _ => rfl) ?_; intro S hok; (conv => whnf)
  (repeat' ((conv => whnf); first | refine And.intro ?_ ?_ | exact Cl.mk (by kernel_rfl) | exact trivial | exact rfl | (intro hh; try simp only [decide_eq_true_eq, decide_eq_false_iff_not, beq_iff_eq, beq_eq_false_iff_ne, bne_iff_ne, bne_eq_false_iff_eq, Bool.not_eq_true', Bool.not_eq_false', Bool.not_true, Bool.not_false] at hh))); all_goals (conv => whnf)
  · (refine RetN.intro () [0, 1, 2, 3, 4] rfl rfl ?_ ?_ ?_; ((repeat' (first | exact rfl | exact trivial | refine And.intro ?_ ?_ | ((conv => whnf); first | exact rfl | exact trivial | refine And.intro ?_ ?_)))); ((repeat' (first | exact rfl | exact trivial | refine And.intro ?_ ?_ | ((conv => whnf); first | exact rfl | exact trivial | refine And.intro ?_ ?_))); all_goals (conv => whnf); all_goals (try simp only [])))
end Go.Proofs.Ytadmgicmmnbdcaa.Sl
set_option linter.unusedVariables false
set_option linter.unusedSimpArgs false
namespace Go.Proofs.Ytadmgicmmnbdcaa.Sl
open Go Go.RowKit Fw
theorem intsM (a b : List Int) (ha : a.length ≤ 1000000) : Meets Try.prog 25 [.lst (.int .i64) fun _ => a, .lst (.int .i64) fun _ => b] [] (Y := Unit) (fun _ => True) (fun _ => .bool fun _ => decide (a = b)) (fun _ => []) := by
  refine Meets.intro hm (fn := Try.f25) Try.func25 rfl (by decide) (Nat.le_of_ble_eq_true rfl) (fun _ => rfl) ?_; intro S hok; (conv => whnf)
  (repeat' ((conv => whnf); first | refine And.intro ?_ ?_ | exact Cl.mk (by kernel_rfl) | exact trivial | exact rfl | (intro hh; try simp only [decide_eq_true_eq, decide_eq_false_iff_not, beq_iff_eq, beq_eq_false_iff_ne, bne_iff_ne, bne_eq_false_iff_eq, Bool.not_eq_true', Bool.not_eq_false', Bool.not_true, Bool.not_false] at hh))); all_goals (conv => whnf)
  · (refine RetN.intro () [] rfl rfl ?_ ?_ ?_; ((repeat' (first | exact rfl | exact trivial | refine And.intro ?_ ?_ | ((conv => whnf); first | exact rfl | exact trivial | refine And.intro ?_ ?_)))); ((repeat' (first | exact rfl | exact trivial | refine And.intro ?_ ?_ | ((conv => whnf); first | exact rfl | exact trivial | refine And.intro ?_ ?_))); all_goals (conv => whnf); all_goals (try simp only [])))
    have : a ≠ b := fun e => by rw [e] at hh; exact hh rfl
    simp [this]
  · have hl : a.length = b.length := by omega
    refine LoopN.intro hm (X := Nat) (fun i => i ≤ a.length ∧ a.take i = b.take i) (fun i => a.length - i)
      (fun i => [(5, .int .i64 fun _ => (i : Int)), (0, .lst (.int .i64) fun _ => a), (1, .lst (.int .i64) fun _ => b)]) (fun _ => []) 0 [] ⟨rfl, rfl, ?_, ?_⟩ ⟨Nat.zero_le _, rfl⟩ (fun i hi => ?_)
    · (repeat' (first | exact rfl | exact trivial | refine And.intro ?_ ?_ | ((conv => whnf); first | exact rfl | exact trivial | refine And.intro ?_ ?_)))
    · (repeat' (first | exact rfl | exact trivial | refine And.intro ?_ ?_ | ((conv => whnf); first | exact rfl | exact trivial | refine And.intro ?_ ?_)))
    · (repeat' ((conv => whnf); first | refine And.intro ?_ ?_ | exact Cl.mk (by kernel_rfl) | exact trivial | exact rfl | (intro hh; try simp only [decide_eq_true_eq, decide_eq_false_iff_not, beq_iff_eq, beq_eq_false_iff_ne, bne_iff_ne, bne_eq_false_iff_eq, Bool.not_eq_true', Bool.not_eq_false', Bool.not_true, Bool.not_false] at hh))); all_goals (conv => whnf)
      · (refine Ob.mk ?_; (try simp only [Ty.dflt, Nat.zero_add, Nat.add_zero, Int.toNat_natCast, Int.toNat_zero, Int.toNat_one, List.length_take, List.length_drop, List.length_append, List.length_replicate, List.length_cons, List.length_nil, List.length_set, List.length_map, true_and, and_true]); omega)
      · (refine Ob.mk ?_; (try simp only [Ty.dflt, Nat.zero_add, Nat.add_zero, Int.toNat_natCast, Int.toNat_zero, Int.toNat_one, List.length_take, List.length_drop, List.length_append, List.length_replicate, List.length_cons, List.length_nil, List.length_set, List.length_map, true_and, and_true]); omega)
      · have hne : a ≠ b := by rintro rfl; exact hh rfl
        (refine RetN.intro () [] rfl rfl ?_ ?_ ?_; ((repeat' (first | exact rfl | exact trivial | refine And.intro ?_ ?_ | ((conv => whnf); first | exact rfl | exact trivial | refine And.intro ?_ ?_)))); ((repeat' (first | exact rfl | exact trivial | refine And.intro ?_ ?_ | ((conv => whnf); first | exact rfl | exact trivial | refine And.intro ?_ ?_))); all_goals (conv => whnf); all_goals (try simp only [])))
        simp [hne]
      · have hi1 : i < a.length := by omega
        refine ⟨i + 1, [], ⟨rfl, rfl, ?_, ?_⟩, ⟨hi1, ?_⟩, by omega⟩
        · (repeat' (first | exact rfl | exact trivial | refine And.intro ?_ ?_ | ((conv => whnf); first | exact rfl | exact trivial | refine And.intro ?_ ?_)))
        · (repeat' (first | exact rfl | exact trivial | refine And.intro ?_ ?_ | ((conv => whnf); first | exact rfl | exact trivial | refine And.intro ?_ ?_))); all_goals (conv => whnf); all_goals (try simp only [])
          rw [wr (by omega)]; omega
        · simp only [Int.toNat_natCast, Ty.dflt] at hh
          rw [List.getD_eq_getElem?_getD, List.getD_eq_getElem?_getD, List.getElem?_eq_getElem hi1, List.getElem?_eq_getElem (by omega)] at hh
          rw [List.take_add_one, List.take_add_one, hi.2, List.getElem?_eq_getElem hi1, List.getElem?_eq_getElem (by omega)]
          have hh : a[i]'hi1 = b[i]'(by omega) := hh
          simp [hh]
      · have e : i = a.length := by omega
        have hab : a = b := by
          have := hi.2
          rw [e, List.take_length, hl, List.take_length] at this
          exact this
        (refine RetN.intro () [] rfl rfl ?_ ?_ ?_; ((repeat' (first | exact rfl | exact trivial | refine And.intro ?_ ?_ | ((conv => whnf); first | exact rfl | exact trivial | refine And.intro ?_ ?_)))); ((repeat' (first | exact rfl | exact trivial | refine And.intro ?_ ?_ | ((conv => whnf); first | exact rfl | exact trivial | refine And.intro ?_ ?_))); all_goals (conv => whnf); all_goals (try simp only [])))
        simp [hab]
theorem sameM (a b : List Int) (ha : a.length ≤ 1000000) : Meets Try.prog 20 [.lst (.int .u64) fun _ => a, .lst (.int .u64) fun _ => b] [] (Y := Unit) (fun _ => True) (fun _ => .bool fun _ => decide (a = b)) (fun _ => []) := by
  refine Meets.intro hm (fn := Try.f20) Try.func20 rfl (by decide) (Nat.le_of_ble_eq_true rfl) (fun _ => rfl) ?_; intro S hok; (conv => whnf)
  (repeat' ((conv => whnf); first | refine And.intro ?_ ?_ | exact Cl.mk (by kernel_rfl) | exact trivial | exact rfl | (intro hh; try simp only [decide_eq_true_eq, decide_eq_false_iff_not, beq_iff_eq, beq_eq_false_iff_ne, bne_iff_ne, bne_eq_false_iff_eq, Bool.not_eq_true', Bool.not_eq_false', Bool.not_true, Bool.not_false] at hh))); all_goals (conv => whnf)
  · (refine RetN.intro () [] rfl rfl ?_ ?_ ?_; ((repeat' (first | exact rfl | exact trivial | refine And.intro ?_ ?_ | ((conv => whnf); first | exact rfl | exact trivial | refine And.intro ?_ ?_)))); ((repeat' (first | exact rfl | exact trivial | refine And.intro ?_ ?_ | ((conv => whnf); first | exact rfl | exact trivial | refine And.intro ?_ ?_))); all_goals (conv => whnf); all_goals (try simp only [])))
    have : a ≠ b := fun e => by rw [e] at hh; exact hh rfl
    simp [this]
  · have hl : a.length = b.length := by omega
    refine LoopN.intro hm (X := Nat) (fun i => i ≤ a.length ∧ a.take i = b.take i) (fun i => a.length - i)
      (fun i => [(5, .int .i64 fun _ => (i : Int)), (0, .lst (.int .u64) fun _ => a), (1, .lst (.int .u64) fun _ => b)]) (fun _ => []) 0 [] ⟨rfl, rfl, ?_, ?_⟩ ⟨Nat.zero_le _, rfl⟩ (fun i hi => ?_)
    · (repeat' (first | exact rfl | exact trivial | refine And.intro ?_ ?_ | ((conv => whnf); first | exact rfl | exact trivial | refine And.intro ?_ ?_)))
    · (repeat' (first | exact rfl | exact trivial | refine And.intro ?_ ?_ | ((conv => whnf); first | exact rfl | exact trivial | refine And.intro ?_ ?_)))
    · (repeat' ((conv => whnf); first | refine And.intro ?_ ?_ | exact Cl.mk (by kernel_rfl) | exact trivial | exact rfl | (intro hh; try simp only [decide_eq_true_eq, decide_eq_false_iff_not, beq_iff_eq, beq_eq_false_iff_ne, bne_iff_ne, bne_eq_false_iff_eq, Bool.not_eq_true', Bool.not_eq_false', Bool.not_true, Bool.not_false] at hh))); all_goals (conv => whnf)
      · (refine Ob.mk ?_; (try simp only [Ty.dflt, Nat.zero_add, Nat.add_zero, Int.toNat_natCast, Int.toNat_zero, Int.toNat_one, List.length_take, List.length_drop, List.length_append, List.length_replicate, List.length_cons, List.length_nil, List.length_set, List.length_map, true_and, and_true]); omega)
      · (refine Ob.mk ?_; (try simp only [Ty.dflt, Nat.zero_add, Nat.add_zero, Int.toNat_natCast, Int.toNat_zero, Int.toNat_one, List.length_take, List.length_drop, List.length_append, List.length_replicate, List.length_cons, List.length_nil, List.length_set, List.length_map, true_and, and_true]); omega)
      · have hne : a ≠ b := by rintro rfl; exact hh rfl
        (refine RetN.intro () [] rfl rfl ?_ ?_ ?_; ((repeat' (first | exact rfl | exact trivial | refine And.intro ?_ ?_ | ((conv => whnf); first | exact rfl | exact trivial | refine And.intro ?_ ?_)))); ((repeat' (first | exact rfl | exact trivial | refine And.intro ?_ ?_ | ((conv => whnf); first | exact rfl | exact trivial | refine And.intro ?_ ?_))); all_goals (conv => whnf); all_goals (try simp only [])))
        simp [hne]
      · have hi1 : i < a.length := by omega
        refine ⟨i + 1, [], ⟨rfl, rfl, ?_, ?_⟩, ⟨hi1, ?_⟩, by omega⟩
        · (repeat' (first | exact rfl | exact trivial | refine And.intro ?_ ?_ | ((conv => whnf); first | exact rfl | exact trivial | refine And.intro ?_ ?_)))
        · (repeat' (first | exact rfl | exact trivial | refine And.intro ?_ ?_ | ((conv => whnf); first | exact rfl | exact trivial | refine And.intro ?_ ?_))); all_goals (conv => whnf); all_goals (try simp only [])
          rw [wr (by omega)]; omega
        · simp only [Int.toNat_natCast, Ty.dflt] at hh
          rw [List.getD_eq_getElem?_getD, List.getD_eq_getElem?_getD, List.getElem?_eq_getElem hi1, List.getElem?_eq_getElem (by omega)] at hh
          rw [List.take_add_one, List.take_add_one, hi.2, List.getElem?_eq_getElem hi1, List.getElem?_eq_getElem (by omega)]
          have hh : a[i]'hi1 = b[i]'(by omega) := hh
          simp [hh]
      · have e : i = a.length := by omega
        have hab : a = b := by
          have := hi.2
          rw [e, List.take_length, hl, List.take_length] at this
          exact this
        (refine RetN.intro () [] rfl rfl ?_ ?_ ?_; ((repeat' (first | exact rfl | exact trivial | refine And.intro ?_ ?_ | ((conv => whnf); first | exact rfl | exact trivial | refine And.intro ?_ ?_)))); ((repeat' (first | exact rfl | exact trivial | refine And.intro ?_ ?_ | ((conv => whnf); first | exact rfl | exact trivial | refine And.intro ?_ ?_))); all_goals (conv => whnf); all_goals (try simp only [])))
        simp [hab]
def rtakenTo (s : Ref) : Nat → List Int
  | 0 => [] | i + 1 => rtakenTo s i ++ (if s.taken.getD i false then [rhnd s i] else [])
def rtaken (s : Ref) : List Int := rtakenTo s s.gen.length
theorem rtakenTo_len (s : Ref) : ∀ i, (rtakenTo s i).length ≤ i
  | 0 => Nat.le_refl _
  | i + 1 => by have := rtakenTo_len s i; simp only [rtakenTo, List.length_append]; split <;> simp <;> omega
theorem rlive (s : Ref) {n w : Nat} (ok : ROk s n w) : Meets Try.prog 27 [.ptr 0 0] (rch s) (Y := Unit) (fun _ => True) (fun _ => .lst (.int .i64) fun _ => rtaken s) (fun _ => rch s) := by
  have hg := ok.gen
  have ht := ok.taken
  have hc := ok.cap
  have b1 : Try.t3.bytes = 8 := rfl
  refine Meets.intro hm (fn := Try.f27) Try.func27 rfl (by decide) (Nat.le_of_ble_eq_true rfl) (fun _ => rfl) ?_; intro S hok; (conv => whnf)
  (repeat' ((conv => whnf); first | refine And.intro ?_ ?_ | exact Cl.mk (by kernel_rfl) | exact trivial | exact rfl | (intro hh; try simp only [decide_eq_true_eq, decide_eq_false_iff_not, beq_iff_eq, beq_eq_false_iff_ne, bne_iff_ne, bne_eq_false_iff_eq, Bool.not_eq_true', Bool.not_eq_false', Bool.not_true, Bool.not_false] at hh))); all_goals (conv => whnf)
  refine LoopN.nil 3 (.int .i64) none [3] ?_
  (conv => whnf)
  refine LoopN.intro hm (X := Nat) (fun i => i ≤ n) (fun i => n - i)
      (fun i => [(4, .int .i64 fun _ => (i : Int)), (3, .vec 5 1 (fun _ => 0) fun _ => (rtakenTo s i).length), (0, .ptr 0 0)]) (fun i => rch s ++ [.vect 3 (.int .i64) fun _ => rtakenTo s i]) 0 [0, 1, 2, 3, 4, 5] ⟨rfl, rfl, ?_, ?_⟩ (Nat.zero_le _) (fun i hi => ?_)
  · (repeat' (first | exact rfl | exact trivial | refine And.intro ?_ ?_ | ((conv => whnf); first | exact rfl | exact trivial | refine And.intro ?_ ?_)))
  · (repeat' (first | exact rfl | exact trivial | refine And.intro ?_ ?_ | ((conv => whnf); first | exact rfl | exact trivial | refine And.intro ?_ ?_)))
  · have hrl := rtakenTo_len s i
    (repeat' ((conv => whnf); first | refine And.intro ?_ ?_ | exact Cl.mk (by kernel_rfl) | exact trivial | exact rfl | (intro hh; try simp only [decide_eq_true_eq, decide_eq_false_iff_not, beq_iff_eq, beq_eq_false_iff_ne, bne_iff_ne, bne_eq_false_iff_eq, Bool.not_eq_true', Bool.not_eq_false', Bool.not_true, Bool.not_false] at hh))); all_goals (conv => whnf)
    · (refine Ob.mk ?_; (try simp only [Ty.dflt, Nat.zero_add, Nat.add_zero, Int.toNat_natCast, Int.toNat_zero, Int.toNat_one, List.length_take, List.length_drop, List.length_append, List.length_replicate, List.length_cons, List.length_nil, List.length_set, List.length_map, true_and, and_true]); omega)
    · (refine Ob.mk ?_; (try simp only [Ty.dflt, Nat.zero_add, Nat.add_zero, Int.toNat_natCast, Int.toNat_zero, Int.toNat_one, List.length_take, List.length_drop, List.length_append, List.length_replicate, List.length_cons, List.length_nil, List.length_set, List.length_map, true_and, and_true]); omega)
    · (refine Ob.mk ?_; (try simp only [Ty.dflt, Nat.zero_add, Nat.add_zero, Int.toNat_natCast, Int.toNat_zero, Int.toNat_one, List.length_take, List.length_drop, List.length_append, List.length_replicate, List.length_cons, List.length_nil, List.length_set, List.length_map, true_and, and_true, b1]); omega)
    · have hi1 : i < n := by omega
      refine ⟨i + 1, [0, 1, 2, 3, 4, 5], ⟨rfl, rfl, ?_, ?_⟩, hi1, by omega⟩
      · (repeat' (first | exact rfl | exact trivial | refine And.intro ?_ ?_ | ((conv => whnf); first | exact rfl | exact trivial | refine And.intro ?_ ?_))); all_goals (conv => whnf); all_goals (try simp only [])
        all_goals (simp only [Nat.zero_add, Int.toNat_natCast, Ty.dflt, List.getD_eq_getElem?_getD] at hh ⊢)
        all_goals simp [rtakenTo, hh, rhnd]
      · (repeat' (first | exact rfl | exact trivial | refine And.intro ?_ ?_ | ((conv => whnf); first | exact rfl | exact trivial | refine And.intro ?_ ?_))); all_goals (conv => whnf); all_goals (try simp only [])
        · exact wr1 i hi1 (by omega)
        · simp only [Nat.zero_add, Int.toNat_natCast, Ty.dflt, List.getD_eq_getElem?_getD] at hh ⊢
          simp [rtakenTo, hh]
    · have hi1 : i < n := by omega
      simp only [Nat.zero_add, Int.toNat_natCast, Ty.dflt, List.getD_eq_getElem?_getD] at hh
      have e : rtakenTo s (i + 1) = rtakenTo s i := by simp [rtakenTo, hh]
      refine ⟨i + 1, [0, 1, 2, 3, 4, 5], ⟨rfl, rfl, ?_, ?_⟩, hi1, by omega⟩
      · (repeat' (first | exact rfl | exact trivial | refine And.intro ?_ ?_ | ((conv => whnf); first | exact rfl | exact trivial | refine And.intro ?_ ?_))); all_goals (conv => whnf); all_goals (try simp only [])
        all_goals rw [e]
      · (repeat' (first | exact rfl | exact trivial | refine And.intro ?_ ?_ | ((conv => whnf); first | exact rfl | exact trivial | refine And.intro ?_ ?_))); all_goals (conv => whnf); all_goals (try simp only [])
        · exact wr1 i hi1 (by omega)
        · rw [e]
    · have e : i = s.gen.length := by omega
      (refine RetN.frz 5 ?_; (conv => whnf))
      (refine RetN.intro () [0, 1, 2, 3, 4] rfl rfl ?_ ?_ ?_; ((repeat' (first | exact rfl | exact trivial | refine And.intro ?_ ?_ | ((conv => whnf); first | exact rfl | exact trivial | refine And.intro ?_ ?_)))); ((repeat' (first | exact rfl | exact trivial | refine And.intro ?_ ?_ | ((conv => whnf); first | exact rfl | exact trivial | refine And.intro ?_ ?_))); all_goals (conv => whnf); all_goals (try simp only [])))
      simp [rtaken, e]
def rnewS (c w : Nat) : Ref := { gen := List.replicate c 0, taken := List.replicate c false, words := List.replicate c (List.replicate w 0), row := (List.range c).map fun j : Nat => (j : Int) }
theorem rnew (c w : Nat) (hc : 1 ≤ c ∧ c ≤ 64) (hw : w ≤ 32) : Meets Try.prog 12 [.int .i64 fun _ => (c : Int), .int .i64 fun _ => (w : Int)] [] (Y := Unit) (fun _ => True)
    (fun _ => .tup [.ptr 0 0, .int .i64 fun _ => 0]) (fun _ => rch (rnewS c w)) := by
  have b1 : Try.t3.bytes = 8 := rfl
  have b2 : Try.t4.bytes = 1 := rfl
  have b3 : Try.t33.bytes = 24 := rfl
  have b4 : Try.t49.bytes = 8 := rfl
  refine Meets.intro hm (fn := Try.f12) Try.func12 rfl (by decide) (Nat.le_of_ble_eq_true rfl) (fun _ => rfl) ?_; intro S hok; (conv => whnf)
  (repeat' ((conv => whnf); first | refine And.intro ?_ ?_ | exact Cl.mk (by kernel_rfl) | exact trivial | exact rfl | (intro hh; try simp only [decide_eq_true_eq, decide_eq_false_iff_not, beq_iff_eq, beq_eq_false_iff_ne, bne_iff_ne, bne_eq_false_iff_eq, Bool.not_eq_true', Bool.not_eq_false', Bool.not_true, Bool.not_false] at hh))); all_goals (conv => whnf)
  all_goals first | (exfalso; omega) | skip
  refine LoopN.nil 3 (.int .i64) (some (0, 0)) [] ?_
  (conv => whnf)
  refine LoopN.nil 4 .bool (some (0, 1)) [] ?_
  (conv => whnf)
  refine LoopN.nil 33 (.list (.int .u64)) (some (0, 2)) [] ?_
  (conv => whnf)
  refine LoopN.nil 3 (.int .i64) (some (0, 3)) [] ?_
  (conv => whnf)
  refine LoopN.intro hm (X := Nat) (fun i => i ≤ c) (fun i => c - i)
      (fun i => [(7, .int .i64 fun _ => (i : Int)), (6, .ptr 0 0), (0, .int .i64 fun _ => (c : Int)), (1, .int .i64 fun _ => (w : Int))]) (fun i => rch (rnewS i w)) 0 [0, 1, 2, 3, 4] ⟨rfl, rfl, ?_, ?_⟩ (Nat.zero_le _) (fun i hi => ?_)
  · (repeat' (first | exact rfl | exact trivial | refine And.intro ?_ ?_ | ((conv => whnf); first | exact rfl | exact trivial | refine And.intro ?_ ?_))); all_goals (conv => whnf); all_goals (try simp only [])
    all_goals simp [rnewS]
  · (repeat' (first | exact rfl | exact trivial | refine And.intro ?_ ?_ | ((conv => whnf); first | exact rfl | exact trivial | refine And.intro ?_ ?_)))
  · have e1 : (rnewS i w).gen.length = i := by simp [rnewS]
    have e2 : (rnewS i w).taken.length = i := by simp [rnewS]
    have e3 : (rnewS i w).words.length = i := by simp [rnewS]
    have e4 : (rnewS i w).row.length = i := by simp [rnewS]
    have e5 := wr1 i (n := 65) (by omega)
    (repeat' ((conv => whnf); first | refine And.intro ?_ ?_ | exact Cl.mk (by kernel_rfl) | exact trivial | exact rfl | (intro hh; try simp only [decide_eq_true_eq, decide_eq_false_iff_not, beq_iff_eq, beq_eq_false_iff_ne, bne_iff_ne, bne_eq_false_iff_eq, Bool.not_eq_true', Bool.not_eq_false', Bool.not_true, Bool.not_false] at hh))); all_goals (conv => whnf)
    all_goals try (refine Ob.mk ?_; (try simp only [Ty.dflt, Nat.zero_add, Nat.add_zero, Int.toNat_natCast, Int.toNat_zero, Int.toNat_one, List.length_take, List.length_drop, List.length_append, List.length_replicate, List.length_cons, List.length_nil, List.length_set, List.length_map, true_and, and_true, b1, b2, b3, b4, e1, e2, e3, e4]); omega)
    · refine ⟨i + 1, [0, 1, 2, 3, 4], ⟨rfl, rfl, ?_, ?_⟩, by omega, by omega⟩
      · (repeat' (first | exact rfl | exact trivial | refine And.intro ?_ ?_ | ((conv => whnf); first | exact rfl | exact trivial | refine And.intro ?_ ?_))); all_goals (conv => whnf); all_goals (try simp only [])
        all_goals simp [rnewS, List.replicate_succ', List.range_succ]
        rw [List.take_of_length_le (by simp)]
      · (repeat' (first | exact rfl | exact trivial | refine And.intro ?_ ?_ | ((conv => whnf); first | exact rfl | exact trivial | refine And.intro ?_ ?_))); all_goals (conv => whnf); all_goals (try simp only [])
        exact wr1 i (n := c) (by omega) (by omega)
    · have e : i = c := by omega
      subst e
      (refine RetN.intro () [0, 1, 2, 3, 4] rfl rfl ?_ ?_ ?_; ((repeat' (first | exact rfl | exact trivial | refine And.intro ?_ ?_ | ((conv => whnf); first | exact rfl | exact trivial | refine And.intro ?_ ?_)))); ((repeat' (first | exact rfl | exact trivial | refine And.intro ?_ ?_ | ((conv => whnf); first | exact rfl | exact trivial | refine And.intro ?_ ?_))); all_goals (conv => whnf); all_goals (try simp only [])))
theorem rnewBad (c w : Int) (h : c < 1 ∨ 64 < c ∨ w < 0 ∨ 32 < w) : Meets Try.prog 12 [.int .i64 fun _ => c, .int .i64 fun _ => w] [] (Y := Unit) (fun _ => True)
    (fun _ => .tup [.pnil, .int .i64 fun _ => 1]) (fun _ => []) := by
  refine Meets.intro hm (fn := Try.f12) Try.func12 rfl (by decide) (Nat.le_of_ble_eq_true rfl) (fun _ => rfl) ?_; intro S hok; (conv => whnf)
  (repeat' ((conv => whnf); first | refine And.intro ?_ ?_ | exact Cl.mk (by kernel_rfl) | exact trivial | exact rfl | (intro hh; try simp only [decide_eq_true_eq, decide_eq_false_iff_not, beq_iff_eq, beq_eq_false_iff_ne, bne_iff_ne, bne_eq_false_iff_eq, Bool.not_eq_true', Bool.not_eq_false', Bool.not_true, Bool.not_false] at hh))); all_goals (conv => whnf)
  all_goals first | (exfalso; omega) | skip
  all_goals (refine RetN.intro () [] rfl rfl ?_ ?_ ?_; ((repeat' (first | exact rfl | exact trivial | refine And.intro ?_ ?_ | ((conv => whnf); first | exact rfl | exact trivial | refine And.intro ?_ ?_)))); ((repeat' (first | exact rfl | exact trivial | refine And.intro ?_ ?_ | ((conv => whnf); first | exact rfl | exact trivial | refine And.intro ?_ ?_))); all_goals (conv => whnf); all_goals (try simp only [])))
abbrev OpT : Ty := .pair (.int .i64) (.pair (.int .i64) (.pair .bool (.list (.int .u64))))
theorem fewM (l : List (Int × Int × Bool × List Int)) : Meets Try.prog 9 [.lst OpT fun _ => l] [] (Y := Unit) (fun _ => True)
    (fun _ => .bool fun _ => decide (l.length ≤ 60) && l.all fun o => decide (o.2.2.2.length ≤ 40)) (fun _ => []) := by
  refine Meets.intro hm (fn := Try.f9) Try.func9 rfl (by decide) (Nat.le_of_ble_eq_true rfl) (fun _ => rfl) ?_; intro S hok; (conv => whnf)
  (repeat' ((conv => whnf); first | refine And.intro ?_ ?_ | exact Cl.mk (by kernel_rfl) | exact trivial | exact rfl | (intro hh; try simp only [decide_eq_true_eq, decide_eq_false_iff_not, beq_iff_eq, beq_eq_false_iff_ne, bne_iff_ne, bne_eq_false_iff_eq, Bool.not_eq_true', Bool.not_eq_false', Bool.not_true, Bool.not_false] at hh))); all_goals (conv => whnf)
  · (refine RetN.intro () [] rfl rfl ?_ ?_ ?_; ((repeat' (first | exact rfl | exact trivial | refine And.intro ?_ ?_ | ((conv => whnf); first | exact rfl | exact trivial | refine And.intro ?_ ?_)))); ((repeat' (first | exact rfl | exact trivial | refine And.intro ?_ ?_ | ((conv => whnf); first | exact rfl | exact trivial | refine And.intro ?_ ?_))); all_goals (conv => whnf); all_goals (try simp only [])))
    simp; omega
  · refine LoopN.intro hm (X := Nat) (fun i => i ≤ l.length ∧ (l.take i).all (fun o => decide (o.2.2.2.length ≤ 40)) = true) (fun i => l.length - i)
      (fun i => [(3, .int .i64 fun _ => (i : Int)), (0, .lst OpT fun _ => l)]) (fun i => []) 0 [] ⟨rfl, rfl, ?_, ?_⟩ ⟨Nat.zero_le _, rfl⟩ (fun i hi => ?_)
    · (repeat' (first | exact rfl | exact trivial | refine And.intro ?_ ?_ | ((conv => whnf); first | exact rfl | exact trivial | refine And.intro ?_ ?_)))
    · (repeat' (first | exact rfl | exact trivial | refine And.intro ?_ ?_ | ((conv => whnf); first | exact rfl | exact trivial | refine And.intro ?_ ?_)))
    · (repeat' ((conv => whnf); first | refine And.intro ?_ ?_ | exact Cl.mk (by kernel_rfl) | exact trivial | exact rfl | (intro hh; try simp only [decide_eq_true_eq, decide_eq_false_iff_not, beq_iff_eq, beq_eq_false_iff_ne, bne_iff_ne, bne_eq_false_iff_eq, Bool.not_eq_true', Bool.not_eq_false', Bool.not_true, Bool.not_false] at hh))); all_goals (conv => whnf)
      · (refine Ob.mk ?_; (try simp only [Ty.dflt, Nat.zero_add, Nat.add_zero, Int.toNat_natCast, Int.toNat_zero, Int.toNat_one, List.length_take, List.length_drop, List.length_append, List.length_replicate, List.length_cons, List.length_nil, List.length_set, List.length_map, true_and, and_true]); omega)
      · have hi1 : i < l.length := by omega
        simp only [Int.toNat_natCast] at hh
        rw [List.getD_eq_getElem?_getD, List.getElem?_eq_getElem hi1] at hh
        (refine RetN.intro () [] rfl rfl ?_ ?_ ?_; ((repeat' (first | exact rfl | exact trivial | refine And.intro ?_ ?_ | ((conv => whnf); first | exact rfl | exact trivial | refine And.intro ?_ ?_)))); ((repeat' (first | exact rfl | exact trivial | refine And.intro ?_ ?_ | ((conv => whnf); first | exact rfl | exact trivial | refine And.intro ?_ ?_))); all_goals (conv => whnf); all_goals (try simp only [])))
        have : l.all (fun o => decide (o.2.2.2.length ≤ 40)) = false := by
          rw [List.all_eq_false]
          exact ⟨_, List.getElem_mem hi1, by simp only [decide_eq_true_eq]; simp only [Option.getD_some] at hh; omega⟩
        simp [this]
      · have hi1 : i < l.length := by omega
        simp only [Int.toNat_natCast] at hh
        rw [List.getD_eq_getElem?_getD, List.getElem?_eq_getElem hi1] at hh
        simp only [Option.getD_some] at hh
        refine ⟨i + 1, [], ⟨rfl, rfl, ?_, ?_⟩, ⟨hi1, ?_⟩, by omega⟩
        · (repeat' (first | exact rfl | exact trivial | refine And.intro ?_ ?_ | ((conv => whnf); first | exact rfl | exact trivial | refine And.intro ?_ ?_)))
        · (repeat' (first | exact rfl | exact trivial | refine And.intro ?_ ?_ | ((conv => whnf); first | exact rfl | exact trivial | refine And.intro ?_ ?_))); all_goals (conv => whnf); all_goals (try simp only [])
          exact wr1 i (n := 60) (by omega) (by omega)
        · rw [List.take_add_one, List.all_append, hi.2, List.getElem?_eq_getElem hi1]
          simp; omega
      · have e : i = l.length := by omega
        have := hi.2
        rw [e, List.take_length] at this
        (refine RetN.intro () [] rfl rfl ?_ ?_ ?_; ((repeat' (first | exact rfl | exact trivial | refine And.intro ?_ ?_ | ((conv => whnf); first | exact rfl | exact trivial | refine And.intro ?_ ?_)))); ((repeat' (first | exact rfl | exact trivial | refine And.intro ?_ ?_ | ((conv => whnf); first | exact rfl | exact trivial | refine And.intro ?_ ?_))); all_goals (conv => whnf); all_goals (try simp only [])))
        simp only [this]
        simp; omega
theorem opOf (d h : Int) (own : Bool) (w : List Int) (l : List Int) (hl : l.length ≤ 1000) : Meets Try.prog 13 [.agg [.int .i64 fun _ => d, .int .i64 fun _ => h, .bool fun _ => own, .lst (.int .u64) fun _ => w], .lst (.int .i64) fun _ => l] [] (Y := Unit) (fun _ => True)
    (fun _ => .int .i64 fun _ => if own = true ∧ 0 ≤ h ∧ h < l.length then l.getD (l.length - 1 - h.toNat) 0 else h) (fun _ => []) := by
  refine Meets.intro hm (fn := Try.f13) Try.func13 rfl (by decide) (Nat.le_of_ble_eq_true rfl) (fun _ => rfl) ?_; intro S hok; (conv => whnf)
  (repeat' ((conv => whnf); first | refine And.intro ?_ ?_ | exact Cl.mk (by kernel_rfl) | exact trivial | exact rfl | (intro hh; try simp only [decide_eq_true_eq, decide_eq_false_iff_not, beq_iff_eq, beq_eq_false_iff_ne, bne_iff_ne, bne_eq_false_iff_eq, Bool.not_eq_true', Bool.not_eq_false', Bool.not_true, Bool.not_false] at hh))); all_goals (conv => whnf)
  · refine Ob.mk ?_
    simp only []
    rw [wr (x := (l.length : Int) - 1) (by omega), wr (by omega)]; omega
  · (refine RetN.intro () [] rfl rfl ?_ ?_ ?_; ((repeat' (first | exact rfl | exact trivial | refine And.intro ?_ ?_ | ((conv => whnf); first | exact rfl | exact trivial | refine And.intro ?_ ?_)))); ((repeat' (first | exact rfl | exact trivial | refine And.intro ?_ ?_ | ((conv => whnf); first | exact rfl | exact trivial | refine And.intro ?_ ?_))); all_goals (conv => whnf); all_goals (try simp only [])))
    rw [wr (x := (l.length : Int) - 1) (by omega), wr (by omega), if_pos ⟨‹_›, ‹_›, ‹_›⟩]
    congr 1; omega
  · (refine RetN.intro () [] rfl rfl ?_ ?_ ?_; ((repeat' (first | exact rfl | exact trivial | refine And.intro ?_ ?_ | ((conv => whnf); first | exact rfl | exact trivial | refine And.intro ?_ ?_)))); ((repeat' (first | exact rfl | exact trivial | refine And.intro ?_ ?_ | ((conv => whnf); first | exact rfl | exact trivial | refine And.intro ?_ ?_))); all_goals (conv => whnf); all_goals (try simp only [])))
    rw [if_neg (fun h => hh h.2.2)]
  · (refine RetN.intro () [] rfl rfl ?_ ?_ ?_; ((repeat' (first | exact rfl | exact trivial | refine And.intro ?_ ?_ | ((conv => whnf); first | exact rfl | exact trivial | refine And.intro ?_ ?_)))); ((repeat' (first | exact rfl | exact trivial | refine And.intro ?_ ?_ | ((conv => whnf); first | exact rfl | exact trivial | refine And.intro ?_ ?_))); all_goals (conv => whnf); all_goals (try simp only [])))
    rw [if_neg (fun h => hh h.2.1)]
  · (refine RetN.intro () [] rfl rfl ?_ ?_ ?_; ((repeat' (first | exact rfl | exact trivial | refine And.intro ?_ ?_ | ((conv => whnf); first | exact rfl | exact trivial | refine And.intro ?_ ?_)))); ((repeat' (first | exact rfl | exact trivial | refine And.intro ?_ ?_ | ((conv => whnf); first | exact rfl | exact trivial | refine And.intro ?_ ?_))); all_goals (conv => whnf); all_goals (try simp only [])))
    rw [if_neg (fun h => by rw [hh] at h; cases h.1)]
end Go.Proofs.Ytadmgicmmnbdcaa.Sl
set_option linter.unusedVariables false
set_option linter.unusedSimpArgs false
namespace Go.Proofs.Ytadmgicmmnbdcaa.Sl
open Go Go.RowKit Fw
theorem goodNil (h : Int) : Meets Try.prog 30 [.pnil, .int .i64 fun _ => h] [] (Y := Unit) (fun _ => True) (fun _ => .tup [.int .i64 fun _ => -1, .ff]) (fun _ => []) := by
  refine Meets.intro hm (fn := Try.f30) Try.func30 rfl (by decide) (Nat.le_of_ble_eq_true rfl) (fun _ => rfl) ?_; intro S hok; (conv => whnf)
  (repeat' ((conv => whnf); first | refine And.intro ?_ ?_ | exact Cl.mk (by kernel_rfl) | exact trivial | exact rfl | (intro hh; try simp only [decide_eq_true_eq, decide_eq_false_iff_not, beq_iff_eq, beq_eq_false_iff_ne, bne_iff_ne, bne_eq_false_iff_eq, Bool.not_eq_true', Bool.not_eq_false', Bool.not_true, Bool.not_false] at hh))); all_goals (conv => whnf)
  · (refine RetN.intro () [] rfl rfl ?_ ?_ ?_; ((repeat' (first | exact rfl | exact trivial | refine And.intro ?_ ?_ | ((conv => whnf); first | exact rfl | exact trivial | refine And.intro ?_ ?_)))); ((repeat' (first | exact rfl | exact trivial | refine And.intro ?_ ?_ | ((conv => whnf); first | exact rfl | exact trivial | refine And.intro ?_ ?_))); all_goals (conv => whnf); all_goals (try simp only [])))
theorem giveNil (h : Int) : Meets Try.prog 16 [.pnil, .int .i64 fun _ => h] [] (Y := Unit) (fun _ => True) (fun _ => .int .i64 fun _ => 6) (fun _ => []) := by
  refine Meets.intro hm (fn := Try.f16) Try.func16 rfl (by decide) (Nat.le_of_ble_eq_true rfl) (fun _ => rfl) ?_; intro S hok; (conv => whnf)
  (repeat' ((conv => whnf); first | refine And.intro ?_ ?_ | exact Cl.mk (by kernel_rfl) | exact trivial | exact rfl | (intro hh; try simp only [decide_eq_true_eq, decide_eq_false_iff_not, beq_iff_eq, beq_eq_false_iff_ne, bne_iff_ne, bne_eq_false_iff_eq, Bool.not_eq_true', Bool.not_eq_false', Bool.not_true, Bool.not_false] at hh))); all_goals (conv => whnf)
  · (refine CallN.intro (goodNil h) [] rfl rfl ?_ ?_ ?_; ((repeat' (first | exact rfl | exact trivial | refine And.intro ?_ ?_ | ((conv => whnf); first | exact rfl | exact trivial | refine And.intro ?_ ?_)))); ((repeat' (first | exact rfl | exact trivial | refine And.intro ?_ ?_ | ((conv => whnf); first | exact rfl | exact trivial | refine And.intro ?_ ?_)))); (intro y hy; (repeat' ((conv => whnf); first | refine And.intro ?_ ?_ | exact Cl.mk (by kernel_rfl) | exact trivial | exact rfl | (intro hh; try simp only [decide_eq_true_eq, decide_eq_false_iff_not, beq_iff_eq, beq_eq_false_iff_ne, bne_iff_ne, bne_eq_false_iff_eq, Bool.not_eq_true', Bool.not_eq_false', Bool.not_true, Bool.not_false] at hh))); all_goals (conv => whnf)))
    (refine RetN.intro () [] rfl rfl ?_ ?_ ?_; ((repeat' (first | exact rfl | exact trivial | refine And.intro ?_ ?_ | ((conv => whnf); first | exact rfl | exact trivial | refine And.intro ?_ ?_)))); ((repeat' (first | exact rfl | exact trivial | refine And.intro ?_ ?_ | ((conv => whnf); first | exact rfl | exact trivial | refine And.intro ?_ ?_))); all_goals (conv => whnf); all_goals (try simp only [])))
theorem readNil (h : Int) : Meets Try.prog 18 [.pnil, .int .i64 fun _ => h] [] (Y := Unit) (fun _ => True) (fun _ => .tup [.snil, .int .i64 fun _ => 6]) (fun _ => []) := by
  refine Meets.intro hm (fn := Try.f18) Try.func18 rfl (by decide) (Nat.le_of_ble_eq_true rfl) (fun _ => rfl) ?_; intro S hok; (conv => whnf)
  (repeat' ((conv => whnf); first | refine And.intro ?_ ?_ | exact Cl.mk (by kernel_rfl) | exact trivial | exact rfl | (intro hh; try simp only [decide_eq_true_eq, decide_eq_false_iff_not, beq_iff_eq, beq_eq_false_iff_ne, bne_iff_ne, bne_eq_false_iff_eq, Bool.not_eq_true', Bool.not_eq_false', Bool.not_true, Bool.not_false] at hh))); all_goals (conv => whnf)
  · (refine CallN.intro (goodNil h) [] rfl rfl ?_ ?_ ?_; ((repeat' (first | exact rfl | exact trivial | refine And.intro ?_ ?_ | ((conv => whnf); first | exact rfl | exact trivial | refine And.intro ?_ ?_)))); ((repeat' (first | exact rfl | exact trivial | refine And.intro ?_ ?_ | ((conv => whnf); first | exact rfl | exact trivial | refine And.intro ?_ ?_)))); (intro y hy; (repeat' ((conv => whnf); first | refine And.intro ?_ ?_ | exact Cl.mk (by kernel_rfl) | exact trivial | exact rfl | (intro hh; try simp only [decide_eq_true_eq, decide_eq_false_iff_not, beq_iff_eq, beq_eq_false_iff_ne, bne_iff_ne, bne_eq_false_iff_eq, Bool.not_eq_true', Bool.not_eq_false', Bool.not_true, Bool.not_false] at hh))); all_goals (conv => whnf)))
    (refine RetN.intro () [] rfl rfl ?_ ?_ ?_; ((repeat' (first | exact rfl | exact trivial | refine And.intro ?_ ?_ | ((conv => whnf); first | exact rfl | exact trivial | refine And.intro ?_ ?_)))); ((repeat' (first | exact rfl | exact trivial | refine And.intro ?_ ?_ | ((conv => whnf); first | exact rfl | exact trivial | refine And.intro ?_ ?_))); all_goals (conv => whnf); all_goals (try simp only [])))
theorem writeNil (h : Int) (xs : List Int) : Meets Try.prog 21 [.pnil, .int .i64 fun _ => h, .lst (.int .u64) fun _ => xs] [] (Y := Unit) (fun _ => True) (fun _ => .int .i64 fun _ => 6) (fun _ => []) := by
  refine Meets.intro hm (fn := Try.f21) Try.func21 rfl (by decide) (Nat.le_of_ble_eq_true rfl) (fun _ => rfl) ?_; intro S hok; (conv => whnf)
  (repeat' ((conv => whnf); first | refine And.intro ?_ ?_ | exact Cl.mk (by kernel_rfl) | exact trivial | exact rfl | (intro hh; try simp only [decide_eq_true_eq, decide_eq_false_iff_not, beq_iff_eq, beq_eq_false_iff_ne, bne_iff_ne, bne_eq_false_iff_eq, Bool.not_eq_true', Bool.not_eq_false', Bool.not_true, Bool.not_false] at hh))); all_goals (conv => whnf)
  · (refine CallN.intro (goodNil h) [] rfl rfl ?_ ?_ ?_; ((repeat' (first | exact rfl | exact trivial | refine And.intro ?_ ?_ | ((conv => whnf); first | exact rfl | exact trivial | refine And.intro ?_ ?_)))); ((repeat' (first | exact rfl | exact trivial | refine And.intro ?_ ?_ | ((conv => whnf); first | exact rfl | exact trivial | refine And.intro ?_ ?_)))); (intro y hy; (repeat' ((conv => whnf); first | refine And.intro ?_ ?_ | exact Cl.mk (by kernel_rfl) | exact trivial | exact rfl | (intro hh; try simp only [decide_eq_true_eq, decide_eq_false_iff_not, beq_iff_eq, beq_eq_false_iff_ne, bne_iff_ne, bne_eq_false_iff_eq, Bool.not_eq_true', Bool.not_eq_false', Bool.not_true, Bool.not_false] at hh))); all_goals (conv => whnf)))
    (refine RetN.intro () [] rfl rfl ?_ ?_ ?_; ((repeat' (first | exact rfl | exact trivial | refine And.intro ?_ ?_ | ((conv => whnf); first | exact rfl | exact trivial | refine And.intro ?_ ?_)))); ((repeat' (first | exact rfl | exact trivial | refine And.intro ?_ ?_ | ((conv => whnf); first | exact rfl | exact trivial | refine And.intro ?_ ?_))); all_goals (conv => whnf); all_goals (try simp only [])))
/-! ### What is kept -/
theorem Ok.new {c w : Nat} (hc : 1 ≤ c ∧ c ≤ 64) (hw : w ≤ 32) : Ok (newS c w) c := by
  refine ⟨by simp [newS, cellsI_len], hc, ⟨by simp [newS], by simp only [newS]; omega⟩, by simp [newS], ⟨by simp [newS], by simp only [newS]; omega⟩, fun i d hd => ?_⟩
  simp only [newS] at hd
  rw [List.getElem?_set] at hd
  split at hd
  · split at hd
    · cases hd; exact ⟨by simp, by simp only []; omega⟩
    · cases hd
  · rename_i hne
    simp only [cellsI, List.getElem?_map] at hd
    cases hr : (List.range c)[i]? with
    | none => rw [hr] at hd; cases hd
    | some j =>
      rw [hr] at hd
      have hj := (List.getElem?_eq_some_iff.1 hr)
      obtain ⟨h1, h2⟩ := hj
      simp at h1 h2
      simp only [Option.map_some, Option.some.injEq] at hd
      subst hd
      subst h2
      simp only [h1, if_true]
      omega
theorem Ok.take {s : Slab} {n : Nat} (h : Ok s n) (hf : s.first ≠ -1) : Ok (takeS s) n := by
  have h0 : 0 ≤ s.first ∧ s.first < n := by have := h.first; omega
  have h1 := h.at_ h0
  have h2 := h.each
  have h3 := h.words
  exact ⟨by simpa [takeS] using h.len, h.cap, h.each, by simp only [takeS, List.length_append, List.length_take, List.length_drop, List.length_replicate]; omega, cell_next h _, set_next h _ (fun c hc => by subst hc; exact cell_next h _)⟩
theorem Ok.give {s : Slab} {n : Nat} (h : Ok s n) {i : Nat} (hi : i < n) : Ok (giveS s i) n :=
  ⟨by simpa [giveS] using h.len, h.cap, h.each, h.words, ⟨by simp only [giveS]; omega, by simp only [giveS]; omega⟩, set_next h _ (fun c hc => by subst hc; exact h.first)⟩
theorem Ok.write {s : Slab} {n : Nat} (h : Ok s n) {i : Int} {xs : List Int} (hi : 0 ≤ i ∧ i < n) (hx : (xs.length : Int) = s.each) : Ok (writeS s i xs) n := by
  have h1 := h.at_ hi
  have h2 := h.each
  have h3 := h.words
  exact ⟨h.len, h.cap, h.each, by simp only [writeS, List.length_append, List.length_take, List.length_drop]; omega, h.first, h.next⟩
/-! ### The law's 'live' -/
def l0 : Slab := ⟨[(0, false, 1), (0, false, -1)], [0, 0], 1, 0, 2⟩
theorem l0_eq : newS 2 1 = l0 := by rfl
theorem ok0 : Ok l0 2 := l0_eq ▸ Ok.new (by decide) (by decide)
def l1 : Slab := takeS l0
def l2 : Slab := writeS l1 0 [7]
def l3 : Slab := giveS l2 0
def l4 : Slab := takeS l3
def l5 : Slab := takeS l4
theorem ok1 : Ok l1 2 := ok0.take (by decide)
theorem ok2 : Ok l2 2 := ok1.write (by decide) (by decide)
theorem ok3 : Ok l3 2 := ok2.give (by decide)
theorem ok4 : Ok l4 2 := ok3.take (by decide)
theorem ok5 : Ok l5 2 := ok4.take (by decide)
theorem lawLive : Meets Try.prog 10 [] [] (Y := Unit) (fun _ => True) (fun _ => .tt) (fun _ => []) := by
  refine Meets.intro hm (fn := Try.f10) Try.func10 rfl (by decide) (Nat.le_of_ble_eq_true rfl) (fun _ => rfl) ?_; intro S hok; (conv => whnf)
  (repeat' ((conv => whnf); first | refine And.intro ?_ ?_ | exact Cl.mk (by kernel_rfl) | exact trivial | exact rfl | (intro hh; try simp only [decide_eq_true_eq, decide_eq_false_iff_not, beq_iff_eq, beq_eq_false_iff_ne, bne_iff_ne, bne_eq_false_iff_eq, Bool.not_eq_true', Bool.not_eq_false', Bool.not_true, Bool.not_false] at hh))); all_goals (conv => whnf)
  (refine CallN.intro (newM 2 1 (by decide) (by decide)) [] rfl rfl ?_ ?_ ?_; ((repeat' (first | exact rfl | exact trivial | refine And.intro ?_ ?_ | ((conv => whnf); first | exact rfl | exact trivial | refine And.intro ?_ ?_)))); ((repeat' (first | exact rfl | exact trivial | refine And.intro ?_ ?_ | ((conv => whnf); first | exact rfl | exact trivial | refine And.intro ?_ ?_)))); (intro y hy; clear y hy; (repeat' ((conv => whnf); first | refine And.intro ?_ ?_ | exact Cl.mk (by kernel_rfl) | exact trivial | exact rfl | (intro hh; try simp only [decide_eq_true_eq, decide_eq_false_iff_not, beq_iff_eq, beq_eq_false_iff_ne, bne_iff_ne, bne_eq_false_iff_eq, Bool.not_eq_true', Bool.not_eq_false', Bool.not_true, Bool.not_false] at hh))); all_goals (conv => whnf); (all_goals first | (exact absurd hh (by decide)) | (exact Ob.mk (by decide)) | skip); all_goals (try clear hh)))
  (refine CallN.intro (newBad 0 1 (by decide)) [] rfl rfl ?_ ?_ ?_; ((repeat' (first | exact rfl | exact trivial | refine And.intro ?_ ?_ | ((conv => whnf); first | exact rfl | exact trivial | refine And.intro ?_ ?_)))); ((repeat' (first | exact rfl | exact trivial | refine And.intro ?_ ?_ | ((conv => whnf); first | exact rfl | exact trivial | refine And.intro ?_ ?_)))); (intro y hy; clear y hy; (repeat' ((conv => whnf); first | refine And.intro ?_ ?_ | exact Cl.mk (by kernel_rfl) | exact trivial | exact rfl | (intro hh; try simp only [decide_eq_true_eq, decide_eq_false_iff_not, beq_iff_eq, beq_eq_false_iff_ne, bne_iff_ne, bne_eq_false_iff_eq, Bool.not_eq_true', Bool.not_eq_false', Bool.not_true, Bool.not_false] at hh))); all_goals (conv => whnf); (all_goals first | (exact absurd hh (by decide)) | (exact Ob.mk (by decide)) | skip); all_goals (try clear hh)))
  (refine CallN.intro (takeM l0 2 ok0 (by decide)) [0, 1, 2] rfl rfl ?_ ?_ ?_; ((repeat' (first | exact rfl | exact trivial | refine And.intro ?_ ?_ | ((conv => whnf); first | exact rfl | exact trivial | refine And.intro ?_ ?_)))); ((repeat' (first | exact rfl | exact trivial | refine And.intro ?_ ?_ | ((conv => whnf); first | exact rfl | exact trivial | refine And.intro ?_ ?_)))); (intro y hy; clear y hy; (repeat' ((conv => whnf); first | refine And.intro ?_ ?_ | exact Cl.mk (by kernel_rfl) | exact trivial | exact rfl | (intro hh; try simp only [decide_eq_true_eq, decide_eq_false_iff_not, beq_iff_eq, beq_eq_false_iff_ne, bne_iff_ne, bne_eq_false_iff_eq, Bool.not_eq_true', Bool.not_eq_false', Bool.not_true, Bool.not_false] at hh))); all_goals (conv => whnf); (all_goals first | (exact absurd hh (by decide)) | (exact Ob.mk (by decide)) | skip); all_goals (try clear hh)))
  refine CallN.frz 3 ?_ (writeM l1 2 ok1 0 [7]).callable
  (conv => whnf)
  (refine CallN.intro (writeM l1 2 ok1 0 [7]) [0, 1, 2] rfl rfl ?_ ?_ ?_; ((repeat' (first | exact rfl | exact trivial | refine And.intro ?_ ?_ | ((conv => whnf); first | exact rfl | exact trivial | refine And.intro ?_ ?_)))); ((repeat' (first | exact rfl | exact trivial | refine And.intro ?_ ?_ | ((conv => whnf); first | exact rfl | exact trivial | refine And.intro ?_ ?_)))); (intro y hy; clear y hy; (repeat' ((conv => whnf); first | refine And.intro ?_ ?_ | exact Cl.mk (by kernel_rfl) | exact trivial | exact rfl | (intro hh; try simp only [decide_eq_true_eq, decide_eq_false_iff_not, beq_iff_eq, beq_eq_false_iff_ne, bne_iff_ne, bne_eq_false_iff_eq, Bool.not_eq_true', Bool.not_eq_false', Bool.not_true, Bool.not_false] at hh))); all_goals (conv => whnf); (all_goals first | (exact absurd hh (by decide)) | (exact Ob.mk (by decide)) | skip); all_goals (try clear hh)))
  (refine CallN.intro (readM l2 2 ok2 0 (by decide)) [0, 1, 2] rfl rfl ?_ ?_ ?_; ((repeat' (first | exact rfl | exact trivial | refine And.intro ?_ ?_ | ((conv => whnf); first | exact rfl | exact trivial | refine And.intro ?_ ?_)))); ((repeat' (first | exact rfl | exact trivial | refine And.intro ?_ ?_ | ((conv => whnf); first | exact rfl | exact trivial | refine And.intro ?_ ?_)))); (intro y hy; clear y hy; (repeat' ((conv => whnf); first | refine And.intro ?_ ?_ | exact Cl.mk (by kernel_rfl) | exact trivial | exact rfl | (intro hh; try simp only [decide_eq_true_eq, decide_eq_false_iff_not, beq_iff_eq, beq_eq_false_iff_ne, bne_iff_ne, bne_eq_false_iff_eq, Bool.not_eq_true', Bool.not_eq_false', Bool.not_true, Bool.not_false] at hh))); all_goals (conv => whnf); (all_goals first | (exact absurd hh (by decide)) | (exact Ob.mk (by decide)) | skip); all_goals (try clear hh)))
  (refine CallN.intro (giveM l2 0) [0, 1, 2] rfl rfl ?_ ?_ ?_; ((repeat' (first | exact rfl | exact trivial | refine And.intro ?_ ?_ | ((conv => whnf); first | exact rfl | exact trivial | refine And.intro ?_ ?_)))); ((repeat' (first | exact rfl | exact trivial | refine And.intro ?_ ?_ | ((conv => whnf); first | exact rfl | exact trivial | refine And.intro ?_ ?_)))); (intro y hy; clear y hy; (repeat' ((conv => whnf); first | refine And.intro ?_ ?_ | exact Cl.mk (by kernel_rfl) | exact trivial | exact rfl | (intro hh; try simp only [decide_eq_true_eq, decide_eq_false_iff_not, beq_iff_eq, beq_eq_false_iff_ne, bne_iff_ne, bne_eq_false_iff_eq, Bool.not_eq_true', Bool.not_eq_false', Bool.not_true, Bool.not_false] at hh))); all_goals (conv => whnf); (all_goals first | (exact absurd hh (by decide)) | (exact Ob.mk (by decide)) | skip); all_goals (try clear hh)))
  (refine CallN.intro (giveM l3 0) [0, 1, 2] rfl rfl ?_ ?_ ?_; ((repeat' (first | exact rfl | exact trivial | refine And.intro ?_ ?_ | ((conv => whnf); first | exact rfl | exact trivial | refine And.intro ?_ ?_)))); ((repeat' (first | exact rfl | exact trivial | refine And.intro ?_ ?_ | ((conv => whnf); first | exact rfl | exact trivial | refine And.intro ?_ ?_)))); (intro y hy; clear y hy; (repeat' ((conv => whnf); first | refine And.intro ?_ ?_ | exact Cl.mk (by kernel_rfl) | exact trivial | exact rfl | (intro hh; try simp only [decide_eq_true_eq, decide_eq_false_iff_not, beq_iff_eq, beq_eq_false_iff_ne, bne_iff_ne, bne_eq_false_iff_eq, Bool.not_eq_true', Bool.not_eq_false', Bool.not_true, Bool.not_false] at hh))); all_goals (conv => whnf); (all_goals first | (exact absurd hh (by decide)) | (exact Ob.mk (by decide)) | skip); all_goals (try clear hh)))
  (refine CallN.intro (takeM l3 2 ok3 (by decide)) [0, 1, 2] rfl rfl ?_ ?_ ?_; ((repeat' (first | exact rfl | exact trivial | refine And.intro ?_ ?_ | ((conv => whnf); first | exact rfl | exact trivial | refine And.intro ?_ ?_)))); ((repeat' (first | exact rfl | exact trivial | refine And.intro ?_ ?_ | ((conv => whnf); first | exact rfl | exact trivial | refine And.intro ?_ ?_)))); (intro y hy; clear y hy; (repeat' ((conv => whnf); first | refine And.intro ?_ ?_ | exact Cl.mk (by kernel_rfl) | exact trivial | exact rfl | (intro hh; try simp only [decide_eq_true_eq, decide_eq_false_iff_not, beq_iff_eq, beq_eq_false_iff_ne, bne_iff_ne, bne_eq_false_iff_eq, Bool.not_eq_true', Bool.not_eq_false', Bool.not_true, Bool.not_false] at hh))); all_goals (conv => whnf); (all_goals first | (exact absurd hh (by decide)) | (exact Ob.mk (by decide)) | skip); all_goals (try clear hh)))
  (refine CallN.intro (readM l4 2 ok4 64 (by decide)) [0, 1, 2] rfl rfl ?_ ?_ ?_; ((repeat' (first | exact rfl | exact trivial | refine And.intro ?_ ?_ | ((conv => whnf); first | exact rfl | exact trivial | refine And.intro ?_ ?_)))); ((repeat' (first | exact rfl | exact trivial | refine And.intro ?_ ?_ | ((conv => whnf); first | exact rfl | exact trivial | refine And.intro ?_ ?_)))); (intro y hy; clear y hy; (repeat' ((conv => whnf); first | refine And.intro ?_ ?_ | exact Cl.mk (by kernel_rfl) | exact trivial | exact rfl | (intro hh; try simp only [decide_eq_true_eq, decide_eq_false_iff_not, beq_iff_eq, beq_eq_false_iff_ne, bne_iff_ne, bne_eq_false_iff_eq, Bool.not_eq_true', Bool.not_eq_false', Bool.not_true, Bool.not_false] at hh))); all_goals (conv => whnf); (all_goals first | (exact absurd hh (by decide)) | (exact Ob.mk (by decide)) | skip); all_goals (try clear hh)))
  (refine CallN.intro (takeM l4 2 ok4 (by decide)) [0, 1, 2] rfl rfl ?_ ?_ ?_; ((repeat' (first | exact rfl | exact trivial | refine And.intro ?_ ?_ | ((conv => whnf); first | exact rfl | exact trivial | refine And.intro ?_ ?_)))); ((repeat' (first | exact rfl | exact trivial | refine And.intro ?_ ?_ | ((conv => whnf); first | exact rfl | exact trivial | refine And.intro ?_ ?_)))); (intro y hy; clear y hy; (repeat' ((conv => whnf); first | refine And.intro ?_ ?_ | exact Cl.mk (by kernel_rfl) | exact trivial | exact rfl | (intro hh; try simp only [decide_eq_true_eq, decide_eq_false_iff_not, beq_iff_eq, beq_eq_false_iff_ne, bne_iff_ne, bne_eq_false_iff_eq, Bool.not_eq_true', Bool.not_eq_false', Bool.not_true, Bool.not_false] at hh))); all_goals (conv => whnf); (all_goals first | (exact absurd hh (by decide)) | (exact Ob.mk (by decide)) | skip); all_goals (try clear hh)))
  (refine CallN.intro (takeM0 l5 (by decide)) [0, 1, 2] rfl rfl ?_ ?_ ?_; ((repeat' (first | exact rfl | exact trivial | refine And.intro ?_ ?_ | ((conv => whnf); first | exact rfl | exact trivial | refine And.intro ?_ ?_)))); ((repeat' (first | exact rfl | exact trivial | refine And.intro ?_ ?_ | ((conv => whnf); first | exact rfl | exact trivial | refine And.intro ?_ ?_)))); (intro y hy; clear y hy; (repeat' ((conv => whnf); first | refine And.intro ?_ ?_ | exact Cl.mk (by kernel_rfl) | exact trivial | exact rfl | (intro hh; try simp only [decide_eq_true_eq, decide_eq_false_iff_not, beq_iff_eq, beq_eq_false_iff_ne, bne_iff_ne, bne_eq_false_iff_eq, Bool.not_eq_true', Bool.not_eq_false', Bool.not_true, Bool.not_false] at hh))); all_goals (conv => whnf); (all_goals first | (exact absurd hh (by decide)) | (exact Ob.mk (by decide)) | skip); all_goals (try clear hh)))
  (refine CallN.intro (liveM l5 (by decide)) [0, 1, 2] rfl rfl ?_ ?_ ?_; ((repeat' (first | exact rfl | exact trivial | refine And.intro ?_ ?_ | ((conv => whnf); first | exact rfl | exact trivial | refine And.intro ?_ ?_)))); ((repeat' (first | exact rfl | exact trivial | refine And.intro ?_ ?_ | ((conv => whnf); first | exact rfl | exact trivial | refine And.intro ?_ ?_)))); (intro y hy; clear y hy; (repeat' ((conv => whnf); first | refine And.intro ?_ ?_ | exact Cl.mk (by kernel_rfl) | exact trivial | exact rfl | (intro hh; try simp only [decide_eq_true_eq, decide_eq_false_iff_not, beq_iff_eq, beq_eq_false_iff_ne, bne_iff_ne, bne_eq_false_iff_eq, Bool.not_eq_true', Bool.not_eq_false', Bool.not_true, Bool.not_false] at hh))); all_goals (conv => whnf); (all_goals first | (exact absurd hh (by decide)) | (exact Ob.mk (by decide)) | skip); all_goals (try clear hh)))
  (refine CallN.intro (freeM l5) [0, 1, 2] rfl rfl ?_ ?_ ?_; ((repeat' (first | exact rfl | exact trivial | refine And.intro ?_ ?_ | ((conv => whnf); first | exact rfl | exact trivial | refine And.intro ?_ ?_)))); ((repeat' (first | exact rfl | exact trivial | refine And.intro ?_ ?_ | ((conv => whnf); first | exact rfl | exact trivial | refine And.intro ?_ ?_)))); (intro y hy; clear y hy; (repeat' ((conv => whnf); first | refine And.intro ?_ ?_ | exact Cl.mk (by kernel_rfl) | exact trivial | exact rfl | (intro hh; try simp only [decide_eq_true_eq, decide_eq_false_iff_not, beq_iff_eq, beq_eq_false_iff_ne, bne_iff_ne, bne_eq_false_iff_eq, Bool.not_eq_true', Bool.not_eq_false', Bool.not_true, Bool.not_false] at hh))); all_goals (conv => whnf); (all_goals first | (exact absurd hh (by decide)) | (exact Ob.mk (by decide)) | skip); all_goals (try clear hh)))
  (refine CallN.intro (writeM l5 2 ok5 1 []) [0, 1, 2] rfl rfl ?_ ?_ ?_; ((repeat' (first | exact rfl | exact trivial | refine And.intro ?_ ?_ | ((conv => whnf); first | exact rfl | exact trivial | refine And.intro ?_ ?_)))); ((repeat' (first | exact rfl | exact trivial | refine And.intro ?_ ?_ | ((conv => whnf); first | exact rfl | exact trivial | refine And.intro ?_ ?_)))); (intro y hy; clear y hy; (repeat' ((conv => whnf); first | refine And.intro ?_ ?_ | exact Cl.mk (by kernel_rfl) | exact trivial | exact rfl | (intro hh; try simp only [decide_eq_true_eq, decide_eq_false_iff_not, beq_iff_eq, beq_eq_false_iff_ne, bne_iff_ne, bne_eq_false_iff_eq, Bool.not_eq_true', Bool.not_eq_false', Bool.not_true, Bool.not_false] at hh))); all_goals (conv => whnf); (all_goals first | (exact absurd hh (by decide)) | (exact Ob.mk (by decide)) | skip); all_goals (try clear hh)))
  (refine RetN.intro () [] rfl rfl ?_ ?_ ?_; ((repeat' (first | exact rfl | exact trivial | refine And.intro ?_ ?_ | ((conv => whnf); first | exact rfl | exact trivial | refine And.intro ?_ ?_)))); ((repeat' (first | exact rfl | exact trivial | refine And.intro ?_ ?_ | ((conv => whnf); first | exact rfl | exact trivial | refine And.intro ?_ ?_))); all_goals (conv => whnf); all_goals (try simp only [])))
  all_goals decide
theorem lawNil (h : Int) (xs : List Int) : Meets Try.prog 7 [.int .i64 fun _ => h, .lst (.int .u64) fun _ => xs] [] (Y := Unit) (fun _ => True) (fun _ => .tt) (fun _ => []) := by
  refine Meets.intro hm (fn := Try.f7) Try.func7 rfl (by decide) (Nat.le_of_ble_eq_true rfl) (fun _ => rfl) ?_; intro S hok; (conv => whnf)
  (repeat' ((conv => whnf); first | refine And.intro ?_ ?_ | exact Cl.mk (by kernel_rfl) | exact trivial | exact rfl | (intro hh; try simp only [decide_eq_true_eq, decide_eq_false_iff_not, beq_iff_eq, beq_eq_false_iff_ne, bne_iff_ne, bne_eq_false_iff_eq, Bool.not_eq_true', Bool.not_eq_false', Bool.not_true, Bool.not_false] at hh))); all_goals (conv => whnf)
  (refine CallN.intro takeNil [] rfl rfl ?_ ?_ ?_; ((repeat' (first | exact rfl | exact trivial | refine And.intro ?_ ?_ | ((conv => whnf); first | exact rfl | exact trivial | refine And.intro ?_ ?_)))); ((repeat' (first | exact rfl | exact trivial | refine And.intro ?_ ?_ | ((conv => whnf); first | exact rfl | exact trivial | refine And.intro ?_ ?_)))); (intro y hy; clear y hy; (repeat' ((conv => whnf); first | refine And.intro ?_ ?_ | exact Cl.mk (by kernel_rfl) | exact trivial | exact rfl | (intro hh; try simp only [decide_eq_true_eq, decide_eq_false_iff_not, beq_iff_eq, beq_eq_false_iff_ne, bne_iff_ne, bne_eq_false_iff_eq, Bool.not_eq_true', Bool.not_eq_false', Bool.not_true, Bool.not_false] at hh))); all_goals (conv => whnf); (all_goals first | (exact absurd hh (by decide)) | (exact Ob.mk (by decide)) | skip); all_goals (try clear hh)))
  (refine CallN.intro (readNil h) [] rfl rfl ?_ ?_ ?_; ((repeat' (first | exact rfl | exact trivial | refine And.intro ?_ ?_ | ((conv => whnf); first | exact rfl | exact trivial | refine And.intro ?_ ?_)))); ((repeat' (first | exact rfl | exact trivial | refine And.intro ?_ ?_ | ((conv => whnf); first | exact rfl | exact trivial | refine And.intro ?_ ?_)))); (intro y hy; clear y hy; (repeat' ((conv => whnf); first | refine And.intro ?_ ?_ | exact Cl.mk (by kernel_rfl) | exact trivial | exact rfl | (intro hh; try simp only [decide_eq_true_eq, decide_eq_false_iff_not, beq_iff_eq, beq_eq_false_iff_ne, bne_iff_ne, bne_eq_false_iff_eq, Bool.not_eq_true', Bool.not_eq_false', Bool.not_true, Bool.not_false] at hh))); all_goals (conv => whnf); (all_goals first | (exact absurd hh (by decide)) | (exact Ob.mk (by decide)) | skip); all_goals (try clear hh)))
  (refine CallN.intro (giveNil h) [] rfl rfl ?_ ?_ ?_; ((repeat' (first | exact rfl | exact trivial | refine And.intro ?_ ?_ | ((conv => whnf); first | exact rfl | exact trivial | refine And.intro ?_ ?_)))); ((repeat' (first | exact rfl | exact trivial | refine And.intro ?_ ?_ | ((conv => whnf); first | exact rfl | exact trivial | refine And.intro ?_ ?_)))); (intro y hy; clear y hy; (repeat' ((conv => whnf); first | refine And.intro ?_ ?_ | exact Cl.mk (by kernel_rfl) | exact trivial | exact rfl | (intro hh; try simp only [decide_eq_true_eq, decide_eq_false_iff_not, beq_iff_eq, beq_eq_false_iff_ne, bne_iff_ne, bne_eq_false_iff_eq, Bool.not_eq_true', Bool.not_eq_false', Bool.not_true, Bool.not_false] at hh))); all_goals (conv => whnf); (all_goals first | (exact absurd hh (by decide)) | (exact Ob.mk (by decide)) | skip); all_goals (try clear hh)))
  (refine CallN.intro (writeNil h xs) [] rfl rfl ?_ ?_ ?_; ((repeat' (first | exact rfl | exact trivial | refine And.intro ?_ ?_ | ((conv => whnf); first | exact rfl | exact trivial | refine And.intro ?_ ?_)))); ((repeat' (first | exact rfl | exact trivial | refine And.intro ?_ ?_ | ((conv => whnf); first | exact rfl | exact trivial | refine And.intro ?_ ?_)))); (intro y hy; clear y hy; (repeat' ((conv => whnf); first | refine And.intro ?_ ?_ | exact Cl.mk (by kernel_rfl) | exact trivial | exact rfl | (intro hh; try simp only [decide_eq_true_eq, decide_eq_false_iff_not, beq_iff_eq, beq_eq_false_iff_ne, bne_iff_ne, bne_eq_false_iff_eq, Bool.not_eq_true', Bool.not_eq_false', Bool.not_true, Bool.not_false] at hh))); all_goals (conv => whnf); (all_goals first | (exact absurd hh (by decide)) | (exact Ob.mk (by decide)) | skip); all_goals (try clear hh)))
  (refine CallN.intro freeNil [] rfl rfl ?_ ?_ ?_; ((repeat' (first | exact rfl | exact trivial | refine And.intro ?_ ?_ | ((conv => whnf); first | exact rfl | exact trivial | refine And.intro ?_ ?_)))); ((repeat' (first | exact rfl | exact trivial | refine And.intro ?_ ?_ | ((conv => whnf); first | exact rfl | exact trivial | refine And.intro ?_ ?_)))); (intro y hy; clear y hy; (repeat' ((conv => whnf); first | refine And.intro ?_ ?_ | exact Cl.mk (by kernel_rfl) | exact trivial | exact rfl | (intro hh; try simp only [decide_eq_true_eq, decide_eq_false_iff_not, beq_iff_eq, beq_eq_false_iff_ne, bne_iff_ne, bne_eq_false_iff_eq, Bool.not_eq_true', Bool.not_eq_false', Bool.not_true, Bool.not_false] at hh))); all_goals (conv => whnf); (all_goals first | (exact absurd hh (by decide)) | (exact Ob.mk (by decide)) | skip); all_goals (try clear hh)))
  (refine CallN.intro liveNil [] rfl rfl ?_ ?_ ?_; ((repeat' (first | exact rfl | exact trivial | refine And.intro ?_ ?_ | ((conv => whnf); first | exact rfl | exact trivial | refine And.intro ?_ ?_)))); ((repeat' (first | exact rfl | exact trivial | refine And.intro ?_ ?_ | ((conv => whnf); first | exact rfl | exact trivial | refine And.intro ?_ ?_)))); (intro y hy; clear y hy; (repeat' ((conv => whnf); first | refine And.intro ?_ ?_ | exact Cl.mk (by kernel_rfl) | exact trivial | exact rfl | (intro hh; try simp only [decide_eq_true_eq, decide_eq_false_iff_not, beq_iff_eq, beq_eq_false_iff_ne, bne_iff_ne, bne_eq_false_iff_eq, Bool.not_eq_true', Bool.not_eq_false', Bool.not_true, Bool.not_false] at hh))); all_goals (conv => whnf); (all_goals first | (exact absurd hh (by decide)) | (exact Ob.mk (by decide)) | skip); all_goals (try clear hh)))
  (refine CallN.intro lawLive [] rfl rfl ?_ ?_ ?_; ((repeat' (first | exact rfl | exact trivial | refine And.intro ?_ ?_ | ((conv => whnf); first | exact rfl | exact trivial | refine And.intro ?_ ?_)))); ((repeat' (first | exact rfl | exact trivial | refine And.intro ?_ ?_ | ((conv => whnf); first | exact rfl | exact trivial | refine And.intro ?_ ?_)))); (intro y hy; clear y hy; (repeat' ((conv => whnf); first | refine And.intro ?_ ?_ | exact Cl.mk (by kernel_rfl) | exact trivial | exact rfl | (intro hh; try simp only [decide_eq_true_eq, decide_eq_false_iff_not, beq_iff_eq, beq_eq_false_iff_ne, bne_iff_ne, bne_eq_false_iff_eq, Bool.not_eq_true', Bool.not_eq_false', Bool.not_true, Bool.not_false] at hh))); all_goals (conv => whnf); (all_goals first | (exact absurd hh (by decide)) | (exact Ob.mk (by decide)) | skip); all_goals (try clear hh)))
  (refine RetN.intro () [] rfl rfl ?_ ?_ ?_; ((repeat' (first | exact rfl | exact trivial | refine And.intro ?_ ?_ | ((conv => whnf); first | exact rfl | exact trivial | refine And.intro ?_ ?_)))); ((repeat' (first | exact rfl | exact trivial | refine And.intro ?_ ?_ | ((conv => whnf); first | exact rfl | exact trivial | refine And.intro ?_ ?_))); all_goals (conv => whnf); all_goals (try simp only [])))
end Go.Proofs.Ytadmgicmmnbdcaa.Sl
set_option linter.unusedVariables false
set_option linter.unusedSimpArgs false
namespace Go.Proofs.Ytadmgicmmnbdcaa.Sl
open Go Go.RowKit Fw
def wordsOf (s : Slab) (h : Int) : List Int := (s.words.drop (h.tmod 64 * s.each).toNat).take s.each.toNat
theorem wordsOf_len {s : Slab} {n : Nat} (ok : Ok s n) {h : Int} (hg : good s h = true) : (wordsOf s h).length = s.each.toNat := by
  have hq := good_iff hg
  have hl := ok.len
  have h1 := ok.at_ (i := h.tmod 64) (by omega)
  have h2 := ok.each
  have h3 := ok.words
  simp only [wordsOf, List.length_take, List.length_drop]; omega
theorem readV (s : Slab) (n : Nat) (ok : Ok s n) (h : Int) (hg : good s h = true) : Meets Try.prog 18 [.ptr 0 0, .int .i64 fun _ => h] (ch s) (Y := Unit) (fun _ => True)
    (fun _ => .tup [.vec 3 1 (fun _ => 0) (fun _ => (wordsOf s h).length), .int .i64 fun _ => 0]) (fun _ => ch s ++ [.vect 49 (.int .u64) fun _ => wordsOf s h]) := by
  have hq := good_iff hg
  have hl := ok.len
  have h1 := ok.at_ (i := h.tmod 64) (by omega)
  have h2 := ok.each
  have h3 := ok.words
  have h4 := wordsOf_len ok hg
  refine Meets.intro hm (fn := Try.f18) Try.func18 rfl (by decide) (Nat.le_of_ble_eq_true rfl) (fun _ => rfl) ?_; intro S hok; (conv => whnf)
  (repeat' ((conv => whnf); first | refine And.intro ?_ ?_ | exact Cl.mk (by kernel_rfl) | exact trivial | exact rfl | (intro hh; try simp only [decide_eq_true_eq, decide_eq_false_iff_not, beq_iff_eq, beq_eq_false_iff_ne, bne_iff_ne, bne_eq_false_iff_eq, Bool.not_eq_true', Bool.not_eq_false', Bool.not_true, Bool.not_false] at hh))); all_goals (conv => whnf)
  · (refine CallN.intro (goodM s h) [0, 1, 2] rfl rfl ?_ ?_ ?_; ((repeat' (first | exact rfl | exact trivial | refine And.intro ?_ ?_ | ((conv => whnf); first | exact rfl | exact trivial | refine And.intro ?_ ?_)))); ((repeat' (first | exact rfl | exact trivial | refine And.intro ?_ ?_ | ((conv => whnf); first | exact rfl | exact trivial | refine And.intro ?_ ?_)))); (intro y hy; (repeat' ((conv => whnf); first | refine And.intro ?_ ?_ | exact Cl.mk (by kernel_rfl) | exact trivial | exact rfl | (intro hh; try simp only [decide_eq_true_eq, decide_eq_false_iff_not, beq_iff_eq, beq_eq_false_iff_ne, bne_iff_ne, bne_eq_false_iff_eq, Bool.not_eq_true', Bool.not_eq_false', Bool.not_true, Bool.not_false] at hh))); all_goals (conv => whnf)))
    · rw [hg] at hh; cases hh
    · refine CallN.intro (ofM s n (h.tmod 64) ok (by omega)) [0, 1, 2] rfl rfl ?_ ?_ ?_
      · (repeat' (first | exact rfl | exact trivial | refine And.intro ?_ ?_ | ((conv => whnf); first | exact rfl | exact trivial | refine And.intro ?_ ?_))); all_goals (conv => whnf); all_goals (try simp only [])
        rw [if_pos hq.1]
      · (repeat' (first | exact rfl | exact trivial | refine And.intro ?_ ?_ | ((conv => whnf); first | exact rfl | exact trivial | refine And.intro ?_ ?_)))
      · intro y hy
        (repeat' ((conv => whnf); first | refine And.intro ?_ ?_ | exact Cl.mk (by kernel_rfl) | exact trivial | exact rfl | (intro hh; try simp only [decide_eq_true_eq, decide_eq_false_iff_not, beq_iff_eq, beq_eq_false_iff_ne, bne_iff_ne, bne_eq_false_iff_eq, Bool.not_eq_true', Bool.not_eq_false', Bool.not_true, Bool.not_false] at hh))); all_goals (conv => whnf)
        refine CallN.rest (cloneV (wordsOf s h) (by omega)) [2] ?_ (fun _ _ => ⟨rfl, rfl⟩) ?_
        · (repeat' (first | exact rfl | exact trivial | refine And.intro ?_ ?_ | ((conv => whnf); first | exact rfl | exact trivial | refine And.intro ?_ ?_))); all_goals (conv => whnf); all_goals (try simp only [])
        · intro y hy
          (repeat' ((conv => whnf); first | refine And.intro ?_ ?_ | exact Cl.mk (by kernel_rfl) | exact trivial | exact rfl | (intro hh; try simp only [decide_eq_true_eq, decide_eq_false_iff_not, beq_iff_eq, beq_eq_false_iff_ne, bne_iff_ne, bne_eq_false_iff_eq, Bool.not_eq_true', Bool.not_eq_false', Bool.not_true, Bool.not_false] at hh))); all_goals (conv => whnf)
          (refine RetN.intro () [0, 1, 2, 3] rfl rfl ?_ ?_ ?_; ((repeat' (first | exact rfl | exact trivial | refine And.intro ?_ ?_ | ((conv => whnf); first | exact rfl | exact trivial | refine And.intro ?_ ?_)))); ((repeat' (first | exact rfl | exact trivial | refine And.intro ?_ ?_ | ((conv => whnf); first | exact rfl | exact trivial | refine And.intro ?_ ?_))); all_goals (conv => whnf); all_goals (try simp only [])))
theorem lawOwn (w : Int) (n : Int) (a : Int) : Meets Try.prog 5 [.int .i64 fun _ => w, .int .u64 fun _ => n, .int .i64 fun _ => a] [] (Y := Unit) (fun _ => True) (fun _ => .tt) (fun _ => []) := by
  by_cases hw : w < 0 ∨ 32 < w
  · refine Meets.intro hm (fn := Try.f5) Try.func5 rfl (by decide) (Nat.le_of_ble_eq_true rfl) (fun _ => rfl) ?_; intro S hok; (conv => whnf)
    (repeat' ((conv => whnf); first | refine And.intro ?_ ?_ | exact Cl.mk (by kernel_rfl) | exact trivial | exact rfl | (intro hh; try simp only [decide_eq_true_eq, decide_eq_false_iff_not, beq_iff_eq, beq_eq_false_iff_ne, bne_iff_ne, bne_eq_false_iff_eq, Bool.not_eq_true', Bool.not_eq_false', Bool.not_true, Bool.not_false] at hh))); all_goals (conv => whnf)
    (refine CallN.intro (newBad 3 w (by omega)) [] rfl rfl ?_ ?_ ?_; ((repeat' (first | exact rfl | exact trivial | refine And.intro ?_ ?_ | ((conv => whnf); first | exact rfl | exact trivial | refine And.intro ?_ ?_)))); ((repeat' (first | exact rfl | exact trivial | refine And.intro ?_ ?_ | ((conv => whnf); first | exact rfl | exact trivial | refine And.intro ?_ ?_)))); (intro y hy; clear y hy; (repeat' ((conv => whnf); first | refine And.intro ?_ ?_ | exact Cl.mk (by kernel_rfl) | exact trivial | exact rfl | (intro hh; try simp only [decide_eq_true_eq, decide_eq_false_iff_not, beq_iff_eq, beq_eq_false_iff_ne, bne_iff_ne, bne_eq_false_iff_eq, Bool.not_eq_true', Bool.not_eq_false', Bool.not_true, Bool.not_false] at hh; try exact absurd hh (by decide)))); all_goals (conv => whnf); (all_goals first | (exact Ob.mk (by decide)) | skip)))
    all_goals ((refine CallN.intro lawLive [] rfl rfl ?_ ?_ ?_; ((repeat' (first | exact rfl | exact trivial | refine And.intro ?_ ?_ | ((conv => whnf); first | exact rfl | exact trivial | refine And.intro ?_ ?_)))); ((repeat' (first | exact rfl | exact trivial | refine And.intro ?_ ?_ | ((conv => whnf); first | exact rfl | exact trivial | refine And.intro ?_ ?_)))); (intro y hy; clear y hy; (repeat' ((conv => whnf); first | refine And.intro ?_ ?_ | exact Cl.mk (by kernel_rfl) | exact trivial | exact rfl | (intro hh; try simp only [decide_eq_true_eq, decide_eq_false_iff_not, beq_iff_eq, beq_eq_false_iff_ne, bne_iff_ne, bne_eq_false_iff_eq, Bool.not_eq_true', Bool.not_eq_false', Bool.not_true, Bool.not_false] at hh; try exact absurd hh (by decide)))); all_goals (conv => whnf); (all_goals first | (exact Ob.mk (by decide)) | skip))); all_goals (refine RetN.intro () [] rfl rfl ?_ ?_ ?_; ((repeat' (first | exact rfl | exact trivial | refine And.intro ?_ ?_ | ((conv => whnf); first | exact rfl | exact trivial | refine And.intro ?_ ?_)))); ((repeat' (first | exact rfl | exact trivial | refine And.intro ?_ ?_ | ((conv => whnf); first | exact rfl | exact trivial | refine And.intro ?_ ?_))); all_goals (conv => whnf); all_goals (try simp only []))))
  · obtain ⟨k, rfl⟩ : ∃ k : Nat, w = k := ⟨w.toNat, by omega⟩
    have hk : k ≤ 32 := by omega
    have ok0 : Ok (newS 3 k) 3 := Ok.new (by decide) hk
    have ok1 := ok0.take (show (0 : Int) ≠ -1 by decide)
    have e1 : (newS 3 k).each = k := rfl
    have e2 : (takeS (newS 3 k)).each = k := rfl
    have b2 : Try.t49.bytes = 8 := rfl
    have hg1 : good (takeS (newS 3 k)) 0 = true := rfl
    refine Meets.intro hm (fn := Try.f5) Try.func5 rfl (by decide) (Nat.le_of_ble_eq_true rfl) (fun _ => rfl) ?_; intro S hok; (conv => whnf)
    (repeat' ((conv => whnf); first | refine And.intro ?_ ?_ | exact Cl.mk (by kernel_rfl) | exact trivial | exact rfl | (intro hh; try simp only [decide_eq_true_eq, decide_eq_false_iff_not, beq_iff_eq, beq_eq_false_iff_ne, bne_iff_ne, bne_eq_false_iff_eq, Bool.not_eq_true', Bool.not_eq_false', Bool.not_true, Bool.not_false] at hh))); all_goals (conv => whnf)
    (refine CallN.intro (newM 3 k (by decide) hk) [] rfl rfl ?_ ?_ ?_; ((repeat' (first | exact rfl | exact trivial | refine And.intro ?_ ?_ | ((conv => whnf); first | exact rfl | exact trivial | refine And.intro ?_ ?_)))); ((repeat' (first | exact rfl | exact trivial | refine And.intro ?_ ?_ | ((conv => whnf); first | exact rfl | exact trivial | refine And.intro ?_ ?_)))); (intro y hy; clear y hy; (repeat' ((conv => whnf); first | refine And.intro ?_ ?_ | exact Cl.mk (by kernel_rfl) | exact trivial | exact rfl | (intro hh; try simp only [decide_eq_true_eq, decide_eq_false_iff_not, beq_iff_eq, beq_eq_false_iff_ne, bne_iff_ne, bne_eq_false_iff_eq, Bool.not_eq_true', Bool.not_eq_false', Bool.not_true, Bool.not_false] at hh; try exact absurd hh (by decide)))); all_goals (conv => whnf); (all_goals first | (exact Ob.mk (by decide)) | skip)))
    all_goals first | ((refine CallN.intro lawLive [] rfl rfl ?_ ?_ ?_; ((repeat' (first | exact rfl | exact trivial | refine And.intro ?_ ?_ | ((conv => whnf); first | exact rfl | exact trivial | refine And.intro ?_ ?_)))); ((repeat' (first | exact rfl | exact trivial | refine And.intro ?_ ?_ | ((conv => whnf); first | exact rfl | exact trivial | refine And.intro ?_ ?_)))); (intro y hy; clear y hy; (repeat' ((conv => whnf); first | refine And.intro ?_ ?_ | exact Cl.mk (by kernel_rfl) | exact trivial | exact rfl | (intro hh; try simp only [decide_eq_true_eq, decide_eq_false_iff_not, beq_iff_eq, beq_eq_false_iff_ne, bne_iff_ne, bne_eq_false_iff_eq, Bool.not_eq_true', Bool.not_eq_false', Bool.not_true, Bool.not_false] at hh; try exact absurd hh (by decide)))); all_goals (conv => whnf); (all_goals first | (exact Ob.mk (by decide)) | skip))); all_goals (refine RetN.intro () [] rfl rfl ?_ ?_ ?_; ((repeat' (first | exact rfl | exact trivial | refine And.intro ?_ ?_ | ((conv => whnf); first | exact rfl | exact trivial | refine And.intro ?_ ?_)))); ((repeat' (first | exact rfl | exact trivial | refine And.intro ?_ ?_ | ((conv => whnf); first | exact rfl | exact trivial | refine And.intro ?_ ?_))); all_goals (conv => whnf); all_goals (try simp only []))); done) | skip
    have hl1 : ((List.replicate k (0 : Int)).set a.toNat n).length = k := by simp
    have e3 : hnd (newS 3 k) (newS 3 k).first = 0 := rfl
    have e4 : (takeS (newS 3 k)).each.toNat = k := by rw [e2]; exact Int.toNat_natCast k
    have e5 : (if good (takeS (newS 3 k)) 0 = true ∧ ((((List.replicate k (0 : Int)).set a.toNat n).length : Nat) : Int) = (takeS (newS 3 k)).each then writeS (takeS (newS 3 k)) (Int.tmod 0 64) ((List.replicate k 0).set a.toNat n) else takeS (newS 3 k)) =
        writeS (takeS (newS 3 k)) 0 ((List.replicate k 0).set a.toNat n) := by rw [if_pos ⟨hg1, by rw [hl1, e2]⟩]; rfl
    have e6 : (if good (takeS (newS 3 k)) 0 = true then (if ((((List.replicate k (0 : Int)).set a.toNat n).length : Nat) : Int) = (takeS (newS 3 k)).each then (0 : Int) else 1) else 6) = 0 := by rw [if_pos hg1, if_pos (by rw [hl1, e2])]
    obtain ⟨s2, hs2⟩ : ∃ s2, s2 = writeS (takeS (newS 3 k)) 0 ((List.replicate k 0).set a.toNat n) := ⟨_, rfl⟩
    have ok2 : Ok s2 3 := by rw [hs2]; exact ok1.write (by decide) (by rw [hl1, e2])
    have hg2 : good s2 0 = true := by rw [hs2]; rfl
    have hw2 : wordsOf s2 0 = (List.replicate k 0).set a.toNat n := by
      have ez : (0 * (takeS (newS 3 k)).each).toNat = 0 := by simp
      rw [hs2]
      simp only [wordsOf, writeS, e4]
      rw [show Int.tmod 0 64 = 0 from rfl, ez]
      simp
    have hlen2 : (wordsOf s2 0).length = k := by rw [hw2, hl1]
    refine CallN.intro (takeM (newS 3 k) 3 ok0 (show (0 : Int) ≠ -1 by decide)) [0, 1, 2] rfl rfl ?_ ?_ ?_
    · (repeat' (first | exact rfl | exact trivial | refine And.intro ?_ ?_ | ((conv => whnf); first | exact rfl | exact trivial | refine And.intro ?_ ?_)))
    · (repeat' (first | exact rfl | exact trivial | refine And.intro ?_ ?_ | ((conv => whnf); first | exact rfl | exact trivial | refine And.intro ?_ ?_)))
    intro y hy
    (repeat' ((conv => whnf); first | refine And.intro ?_ ?_ | exact Cl.mk (by kernel_rfl) | exact trivial | exact rfl | (intro hh; try simp only [decide_eq_true_eq, decide_eq_false_iff_not, beq_iff_eq, beq_eq_false_iff_ne, bne_iff_ne, bne_eq_false_iff_eq, Bool.not_eq_true', Bool.not_eq_false', Bool.not_true, Bool.not_false] at hh; try exact absurd hh (by decide)))); all_goals (conv => whnf)
    · (refine Ob.mk ?_; (try simp only [Ty.dflt, Nat.zero_add, Nat.add_zero, Int.toNat_natCast, Int.toNat_zero, Int.toNat_one, List.length_take, List.length_drop, List.length_append, List.length_replicate, List.length_cons, List.length_nil, List.length_set, List.length_map, true_and, and_true, b2]); omega)
    · (refine Ob.mk ?_; (try simp only [Ty.dflt, Nat.zero_add, Nat.add_zero, Int.toNat_natCast, Int.toNat_zero, Int.toNat_one, List.length_take, List.length_drop, List.length_append, List.length_replicate, List.length_cons, List.length_nil, List.length_set, List.length_map, true_and, and_true]); omega)
    · refine CallN.borrow (writeM (takeS (newS 3 k)) 3 ok1 0 (((List.replicate k 0).set a.toNat n))) [3] [0, 1, 2] rfl rfl rfl ?_ ?_ (fun _ _ => ⟨rfl, rfl⟩) ?_
      · (repeat' (first | exact rfl | exact trivial | refine And.intro ?_ ?_ | ((conv => whnf); first | exact rfl | exact trivial | refine And.intro ?_ ?_))); all_goals (conv => whnf); all_goals (try simp only [])
        all_goals simp [hnd, gen, newS]
        exact List.take_of_length_le (by rw [hl1]; exact Nat.le_refl _)
      · (repeat' (first | exact rfl | exact trivial | refine And.intro ?_ ?_ | ((conv => whnf); first | exact rfl | exact trivial | refine And.intro ?_ ?_)))
      · intro y hy
        rw [e5, e6, ← hs2]
        (repeat' ((conv => whnf); first | refine And.intro ?_ ?_ | exact Cl.mk (by kernel_rfl) | exact trivial | exact rfl | (intro hh; try simp only [decide_eq_true_eq, decide_eq_false_iff_not, beq_iff_eq, beq_eq_false_iff_ne, bne_iff_ne, bne_eq_false_iff_eq, Bool.not_eq_true', Bool.not_eq_false', Bool.not_true, Bool.not_false] at hh; try exact absurd hh (by decide)))); all_goals (conv => whnf)
        · (refine Ob.mk ?_; (try simp only [Ty.dflt, Nat.zero_add, Nat.add_zero, Int.toNat_natCast, Int.toNat_zero, Int.toNat_one, List.length_take, List.length_drop, List.length_append, List.length_replicate, List.length_cons, List.length_nil, List.length_set, List.length_map, true_and, and_true]); omega)
        · refine CallN.intro (readV s2 3 ok2 0 hg2) [0, 1, 2] rfl rfl ?_ ?_ ?_
          · (repeat' (first | exact rfl | exact trivial | refine And.intro ?_ ?_ | ((conv => whnf); first | exact rfl | exact trivial | refine And.intro ?_ ?_)))
          · (repeat' (first | exact rfl | exact trivial | refine And.intro ?_ ?_ | ((conv => whnf); first | exact rfl | exact trivial | refine And.intro ?_ ?_)))
          · intro y hy
            have ha : (wordsOf s2 0).getD a.toNat 0 = n := by
              rw [hw2, List.getD_eq_getElem?_getD, List.getElem?_set_self (by simp; omega)]; rfl
            have ez : 0 + a.toNat = a.toNat := Nat.zero_add _
            (repeat' ((conv => whnf); first | refine And.intro ?_ ?_ | exact Cl.mk (by kernel_rfl) | exact trivial | exact rfl | (intro hh; try simp only [decide_eq_true_eq, decide_eq_false_iff_not, beq_iff_eq, beq_eq_false_iff_ne, bne_iff_ne, bne_eq_false_iff_eq, Bool.not_eq_true', Bool.not_eq_false', Bool.not_true, Bool.not_false] at hh; try exact absurd hh (by decide)))); all_goals (conv => whnf)
            all_goals first
              | (refine Ob.mk ?_; (try simp only [Ty.dflt, Nat.zero_add, Nat.add_zero, Int.toNat_natCast, Int.toNat_zero, Int.toNat_one, List.length_take, List.length_drop, List.length_append, List.length_replicate, List.length_cons, List.length_nil, List.length_set, List.length_map, true_and, and_true, hlen2]); omega)
              | (exact absurd ha (by rw [ez] at hh; exact hh))
              | (exfalso; rw [hlen2] at hh; exact hh rfl)
              | skip
            refine CallN.intro (readV s2 3 ok2 0 hg2) [0, 1, 2] rfl rfl ?_ ?_ ?_
            · (repeat' (first | exact rfl | exact trivial | refine And.intro ?_ ?_ | ((conv => whnf); first | exact rfl | exact trivial | refine And.intro ?_ ?_)))
            · (repeat' (first | exact rfl | exact trivial | refine And.intro ?_ ?_ | ((conv => whnf); first | exact rfl | exact trivial | refine And.intro ?_ ?_)))
            · intro y hy
              (repeat' ((conv => whnf); first | refine And.intro ?_ ?_ | exact Cl.mk (by kernel_rfl) | exact trivial | exact rfl | (intro hh; try simp only [decide_eq_true_eq, decide_eq_false_iff_not, beq_iff_eq, beq_eq_false_iff_ne, bne_iff_ne, bne_eq_false_iff_eq, Bool.not_eq_true', Bool.not_eq_false', Bool.not_true, Bool.not_false] at hh; try exact absurd hh (by decide)))); all_goals (conv => whnf)
              all_goals first
                | (refine Ob.mk ?_; (try simp only [Ty.dflt, Nat.zero_add, Nat.add_zero, Int.toNat_natCast, Int.toNat_zero, Int.toNat_one, List.length_take, List.length_drop, List.length_append, List.length_replicate, List.length_cons, List.length_nil, List.length_set, List.length_map, true_and, and_true, hlen2]); omega)
                | (exact absurd ha (by rw [ez] at hh; exact hh))
                | (exfalso; rw [hlen2] at hh; exact hh rfl)
                | skip
              (refine CallN.intro lawLive [] rfl rfl ?_ ?_ ?_; ((repeat' (first | exact rfl | exact trivial | refine And.intro ?_ ?_ | ((conv => whnf); first | exact rfl | exact trivial | refine And.intro ?_ ?_)))); ((repeat' (first | exact rfl | exact trivial | refine And.intro ?_ ?_ | ((conv => whnf); first | exact rfl | exact trivial | refine And.intro ?_ ?_)))); (intro y hy; clear y hy; (repeat' ((conv => whnf); first | refine And.intro ?_ ?_ | exact Cl.mk (by kernel_rfl) | exact trivial | exact rfl | (intro hh; try simp only [decide_eq_true_eq, decide_eq_false_iff_not, beq_iff_eq, beq_eq_false_iff_ne, bne_iff_ne, bne_eq_false_iff_eq, Bool.not_eq_true', Bool.not_eq_false', Bool.not_true, Bool.not_false] at hh; try exact absurd hh (by decide)))); all_goals (conv => whnf); (all_goals first | (exact Ob.mk (by decide)) | skip)))
              (refine RetN.intro () [] rfl rfl ?_ ?_ ?_; ((repeat' (first | exact rfl | exact trivial | refine And.intro ?_ ?_ | ((conv => whnf); first | exact rfl | exact trivial | refine And.intro ?_ ?_)))); ((repeat' (first | exact rfl | exact trivial | refine And.intro ?_ ?_ | ((conv => whnf); first | exact rfl | exact trivial | refine And.intro ?_ ?_))); all_goals (conv => whnf); all_goals (try simp only [])))
end Go.Proofs.Ytadmgicmmnbdcaa.Sl
set_option linter.unusedVariables false
set_option linter.unusedSimpArgs false
namespace Go.Proofs.Ytadmgicmmnbdcaa.Fw
open Go Go.RowKit Go.ChangeShapes

/-- All that is there rests. -/
def gW (W : World) : Gh := { n := 0, Φ := fun b => W.heap[b]?, B := fun _ => 0, V := fun _ => none, L := fun _ => 0, k := 0 }
theorem sim_gW (W : World) : Sim (gW W) [] W := by
  refine ⟨rfl, fun b o h => h, fun i => trivial, fun i j b hi => ?_, fun i b hi => ?_⟩
  · simp [getE, Chunk.blk] at hi
  · simp [getE, Chunk.blk] at hi

/-- Numbers of their kinds, lengths that a machine bears. -/
def wfD : (t : Ty) → t.den → Prop
  | .int k, n => k.min ≤ n ∧ n ≤ k.max
  | .bool, _ => True
  | .str, s => List.length s ≤ maxLen
  | .list e, xs => List.length xs ≤ maxLen ∧ ∀ x, x ∈ (xs : List e.den) → wfD e x
  | .pair a b, x => wfD a x.1 ∧ wfD b x.2

theorem cells_at {w : World} {base : Nat} {a : Addr} {n : Nat} {cs : List Value} (h : w.cells? base a n = some cs) : cs.length = n ∧ ∀ (j : Nat) (u : Value), cs[j]? = some u → w.cell? (a.add j) = some u := by
  unfold World.cells? at h
  split at h
  · rename_i hb
    have key : ∀ (l : List Nat) (cs : List Value), l.mapM (fun i => w.cell? (a.add i)) = some cs → cs.length = l.length ∧ ∀ (j : Nat) (u : Value) (i : Nat), cs[j]? = some u → l[j]? = some i → w.cell? (a.add i) = some u := by
      intro l
      induction l with
      | nil => intro cs h; simp at h; subst h; simp
      | cons i l ih =>
        intro cs h
        simp only [List.mapM_cons, Option.bind_eq_bind, Option.bind_eq_some_iff, Option.pure_def, Option.some.injEq] at h
        obtain ⟨u, h1, r, h2, rfl⟩ := h
        obtain ⟨h3, h4⟩ := ih r h2
        refine ⟨by simp [h3], fun j v i' hj hi => ?_⟩
        cases j with
        | zero => simp at hj hi; subst hj hi; exact h1
        | succ j => exact h4 j v i' (by simpa using hj) (by simpa using hi)
    obtain ⟨h1, h2⟩ := key _ _ h
    refine ⟨by simpa using h1, fun j u hj => h2 j u j hj ?_⟩
    have := (List.getElem?_eq_some_iff.1 hj).1
    rw [List.getElem?_range (by rw [h1] at this; simpa using this)]
  · cases h
theorem cell_at_gW {W : World} {a : Addr} {u : Value} (h : W.cell? a = some u) : ∃ cells T fr, a.spot = none ∧ (gW W).Φ a.block = some (.cells cells T fr) ∧ cells[a.off]? = some u := by
  unfold World.cell? at h
  split at h
  · rename_i c T fr hc
    split at h
    · cases h
    · rename_i hs
      exact ⟨c, T, fr, by simpa using hs, hc, h⟩
  · cases h
theorem list_of {α : Type} {p : Nat → α → Prop} : ∀ n : Nat, (∀ i, i < n → ∃ x, p i x) → ∃ xs : List α, xs.length = n ∧ ∀ (i : Nat) (x : α), xs[i]? = some x → p i x
  | 0, _ => ⟨[], rfl, by simp⟩
  | n + 1, h => by
    obtain ⟨xs, h1, h2⟩ := list_of n (fun i hi => h i (by omega))
    obtain ⟨x, hx⟩ := h n (by omega)
    refine ⟨xs ++ [x], by simp [h1], fun i y hy => ?_⟩
    rw [List.getElem?_append] at hy
    split at hy
    · exact h2 i y hy
    · rename_i hi
      have : i - xs.length = 0 := by
        have := (List.getElem?_eq_some_iff.1 hy).1
        simp at this; omega
      rw [this] at hy
      simp at hy
      subst hy
      have : i = n := by omega
      subst this; exact hx

section
variable {H : Type} {enc' : TypeId × Value → H} {P : Program} {W : World} {base : Nat} {sp : Nat → Bool} {held : Bool}

/-- What reads, reads as data. -/
theorem trod_data (K : Kids P (· < P.types.size)) : ∀ (d : Nat) (t : Nat) (ty : Ty), t < P.types.size → tyOf P d t = some ty → ∀ (fuel : Nat) (cs : List Value) (x : DataW H × List MemPlace), DataW.trod enc' P W base sp held fuel t cs = some x →
    ∃ a : ty.den, RL (gW W) (enc ty (fun _ => a) []) cs ∧ wfD ty a
  | 0, _, _, _, h => by simp [tyOf] at h
  | d + 1, t, ty, hlt, h => by
    intro fuel cs x hx
    simp only [tyOf] at h
    split at h
    · rename_i k ht
      cases h
      obtain ⟨n, rfl, _, hw⟩ := DataW.trod_int (tund_und ht) hx
      simp only [Lit.wf, Bool.and_eq_true, decide_eq_true_eq] at hw
      exact ⟨n, ⟨.int k (fun _ => n), trivial⟩, hw⟩
    · rename_i ht
      cases h
      obtain ⟨b, rfl, _⟩ := DataW.trod_bool (tund_und ht) hx
      exact ⟨b, ⟨.bool (fun _ => b), trivial⟩, trivial⟩
    · rename_i ht
      cases h
      obtain ⟨s, rfl, _, hs⟩ := DataW.trod_string (tund_und ht) hx
      refine ⟨s.data.toList, ⟨?_, trivial⟩, ?_⟩
      · have := R.str (g := gW W) (fun _ => s.data.toList)
        simpa using this
      · show s.data.toList.length ≤ maxLen
        rw [Array.length_toList]; exact hs
    · rename_i e ht
      split at h <;> try cases h
      rename_i y hy
      have hye : y = y := rfl
      have hte := K.slice hlt (tund_und ht)
      rcases DataW.trod_slice (tund_und ht) hx with ⟨rfl, _⟩ | ⟨a, len, cap, elems, rest, n, _, rfl, _, _, hlc, hcm, hlen, hel, _⟩
      · refine ⟨([] : List y.den), ⟨?_, trivial⟩, ?_⟩
        · exact R.lst y (fun _ => []) none 0 (fun _ _ => .nilIface) (Nat.le_refl _) (by simp) (fun i x j z hx => by simp at hx) (fun i x j z hx => by simp at hx)
        · refine ⟨?_, fun x hx => ?_⟩
          · show ([] : List y.den).length ≤ maxLen
            simp
          · cases hx
      · have hl63 : maxLen = 9223372036854775807 := by decide
        have each : ∀ i, i < len → ∃ p : y.den × List Value, W.cells? base (a.add (i * P.cellsOf e)) (P.cellsOf e) = some p.2 ∧ RL (gW W) (enc y (fun _ => p.1) []) p.2 ∧ wfD y p.1 := by
          intro i hi
          have h1 := hel i hi
          rw [List.getElem?_eq_getElem (by omega)] at h1
          obtain ⟨cs', h2, h3⟩ := Option.bind_eq_some_iff.1 h1
          obtain ⟨b, h4, h5⟩ := trod_data K d e y hte hy n cs' _ h3
          exact ⟨(b, cs'), h2, h4, h5⟩
        obtain ⟨ps, hps, hp⟩ := list_of len each
        have hsz : ∀ (i : Nat) (p : y.den × List Value), ps[i]? = some p → P.cellsOf e = y.size := by
          intro i p hi
          obtain ⟨h1, h2, _⟩ := hp i p hi
          have := h2.length
          rw [enc_length, (cells_at h1).1] at this
          exact this.symm
        refine ⟨ps.map (·.1), ⟨?_, trivial⟩, ?_, ?_⟩
        · have hlm : (ps.map (·.1)).length = len := by simp [hps]
          have := R.lst (g := gW W) y (fun _ => ps.map (·.1)) (some a) cap (fun i j => ((ps[i]?.map (·.2)).getD [])[j]?.getD .nilIface) (by simp only [hlm]; exact hlc) (by simp only [hlm]; omega) ?_ ?_
          · simp only [hlm] at this; exact this
          · intro i x j z hx hz
            simp only [List.getElem?_map] at hx
            cases hq : ps[i]? with
            | none => rw [hq] at hx; cases hx
            | some p =>
              rw [hq] at hx
              simp only [Option.map_some, Option.some.injEq] at hx
              subst hx
              obtain ⟨h1, h2, _⟩ := hp i p hq
              obtain ⟨u, hu, _⟩ := h2.get hz
              have hc := (cells_at h1).2 j u hu
              obtain ⟨cells, T, fr, hs, hΦ, hcell⟩ := cell_at_gW hc
              have hsp : a.spot = none ∨ (i * P.cellsOf e = 0 ∧ j = 0) := by
                by_cases h0 : i * P.cellsOf e = 0 ∧ j = 0
                · exact .inr h0
                · left
                  by_cases h00 : i * P.cellsOf e + j = 0
                  · exact (h0 ⟨by omega, by omega⟩).elim
                  · -- the cells of the first one have the same spot
                    have h0i : 0 < len := by have := (List.getElem?_eq_some_iff.1 hq).1; omega
                    obtain ⟨p0, hp0⟩ : ∃ p0, ps[0]? = some p0 := ⟨ps[0]'(by omega), List.getElem?_eq_getElem (by omega)⟩
                    obtain ⟨g1, g2, _⟩ := hp 0 p0 hp0
                    have hy0 : (enc y (fun _ => p0.1) [])[0]? ≠ none := by
                      have := enc_length y (fun _ => p0.1)
                      have h0 := Ty.size_pos y
                      intro hn
                      rw [List.getElem?_eq_none_iff] at hn
                      omega
                    cases hz0 : (enc y (fun _ => p0.1) [])[0]? with
                    | none => exact (hy0 hz0).elim
                    | some z0 =>
                      obtain ⟨u0, hu0, _⟩ := g2.get hz0
                      have hc0 := (cells_at g1).2 0 u0 hu0
                      obtain ⟨_, _, _, hs0, _⟩ := cell_at_gW hc0
                      simpa [Addr.add] using hs0
              have hsp' : a.spot = none := by
                rcases hsp with h | ⟨h0, hj0⟩
                · exact h
                · subst hj0
                  rw [h0] at hs
                  simpa [Addr.add] using hs
              have e1 : (a.add (i * P.cellsOf e)).add j = ⟨a.block, a.off + (i * P.cellsOf e + j), none⟩ := by
                rw [add_none hsp', add_none rfl]; simp [Nat.add_assoc]
              rw [e1] at hΦ hcell
              refine ⟨a.block, a.off, cells, T, fr, by cases a; simp at hsp' ⊢; exact hsp', hΦ, ?_⟩
              rw [hsz i p hq] at hcell
              simp only [Option.map_some, Option.getD_some, hu]
              exact hcell
          · intro i x j z hx hz
            simp only [List.getElem?_map] at hx
            cases hq : ps[i]? with
            | none => rw [hq] at hx; cases hx
            | some p =>
              rw [hq] at hx
              simp only [Option.map_some, Option.some.injEq] at hx
              subst hx
              obtain ⟨h1, h2, _⟩ := hp i p hq
              obtain ⟨u, hu, hr⟩ := h2.get hz
              simp only [hq, Option.map_some, Option.getD_some, hu]
              exact hr
        · show (ps.map (·.1)).length ≤ maxLen
          rw [List.length_map]; omega
        · intro x hx
          obtain ⟨p, hp1, rfl⟩ := List.mem_map.1 hx
          obtain ⟨i, hi⟩ := List.mem_iff_getElem?.1 hp1
          exact (hp i p hi).2.2
    · rename_i fs ht
      obtain ⟨xs, n, _, _, hcl, hxl, hf⟩ := DataW.trod_struct (tund_und ht) hx
      obtain ⟨hft, hsum, hoff⟩ := K.struct hlt (tund_und ht)
      have go : ∀ (l : List Field) (k : Nat) (ty : Ty), tyFs (tyOf P d) l = some ty → (∀ f ∈ l, f.type < P.types.size) → (∀ (j : Nat) f, l[j]? = some f → f.offset = k + ((l.take j).map fun f => P.cellsOf f.type).sum) →
          (∀ f ∈ l, ∃ z, DataW.trod enc' P W base sp held n f.type ((cs.drop f.offset).take (P.cellsOf f.type)) = some z) → (cs.drop k).length = (l.map fun f => P.cellsOf f.type).sum →
          ∃ a : ty.den, RL (gW W) (enc ty (fun _ => a) []) (cs.drop k) ∧ wfD ty a := by
        intro l
        induction l with
        | nil => intro k ty h; simp [tyFs] at h
        | cons f r ih =>
          intro k ty h ht ho hz hl
          obtain ⟨z, hz0⟩ := hz f (List.mem_cons_self ..)
          have ho0 : f.offset = k := by simpa using ho 0 f rfl
          rw [ho0] at hz0
          have htf := ht f (List.mem_cons_self ..)
          cases r with
          | nil =>
            simp only [tyFs] at h
            obtain ⟨a, h1, h2⟩ := trod_data K d f.type ty htf h n _ _ hz0
            refine ⟨a, ?_, h2⟩
            simp only [List.map_cons, List.map_nil, List.sum_cons, List.sum_nil, Nat.add_zero] at hl
            rwa [List.take_of_length_le (by omega)] at h1
          | cons f2 r2 =>
            simp only [tyFs] at h
            split at h <;> try cases h
            rename_i ta tb hta htb
            obtain ⟨a, h1, h2⟩ := trod_data K d f.type ta htf hta n _ _ hz0
            obtain ⟨b, h3, h4⟩ := ih (k + P.cellsOf f.type) tb htb (fun q hq => ht q (List.mem_cons_of_mem _ hq)) (fun j q hq => by
              have := ho (j + 1) q (by simpa using hq)
              simp only [List.take_succ_cons, List.map_cons, List.sum_cons] at this
              omega) (fun q hq => hz q (List.mem_cons_of_mem _ hq)) (by
              simp only [List.map_cons, List.sum_cons, List.length_drop] at hl ⊢
              omega)
            refine ⟨(a, b), ?_, h2, h4⟩
            simp only [enc]
            rw [enc_append ta]
            have := h1.append h3
            rw [← List.drop_drop] at this
            rwa [List.take_append_drop] at this
      have := go fs.toList 0 ty h hft (fun j f hj => by simpa using hoff j f hj) (fun f hfm => by
        obtain ⟨i, hi⟩ := List.mem_iff_getElem?.1 hfm
        have hi' : fs[i]? = some f := by simpa using hi
        have h1 := hf i f hi'
        have hil := (List.getElem?_eq_some_iff.1 hi).1
        rw [List.getElem?_eq_getElem (by simp at hil; omega)] at h1
        exact ⟨_, h1⟩) (by simpa [hcl] using hsum)
      simpa using this
    · cases h
end
end Go.Proofs.Ytadmgicmmnbdcaa.Fw
set_option linter.unusedVariables false
set_option linter.unusedSimpArgs false
namespace Go.Proofs.Ytadmgicmmnbdcaa.Fw
open Go Go.RowKit Go.ChangeShapes Go.WideShapes

theorem wf_i64 {n : Int} (h : wfD (.int .i64) n) : -9223372036854775808 ≤ n ∧ n ≤ 9223372036854775807 := h
theorem wf_u64 {n : Int} (h : wfD (.int .u64) n) : 0 ≤ n ∧ n ≤ 18446744073709551615 := h
def leafB : TypeDesc → Bool
  | .int _ => true | .bool => true | .string => true | .slice _ => true | _ => false
section
variable {H : Type} {enc' : TypeId × Value → H} {P : Program} {W : World} {base : Nat} {sp : Nat → Bool} {held : Bool}

theorem arg_leaf (K : Kids P (· < P.types.size)) {b0 : Nat} {t : Nat} {ty : Ty} {d : TypeDesc} (hd : tund P t = some d) (hb : leafB d = true) (hlt : t < P.types.size) (hty : tyOf P 6 t = some ty) {v : Value} {x : DataW H} {ps : List MemPlace}
    (hval : Value.okWide P W .any b0 t v) (h : DataW.Trod enc' P W base sp held t v x ps) : ∃ a : ty.den, RL (gW W) (enc ty (fun _ => a) []) [v] ∧ wfD ty a := by
  obtain ⟨fuel, hf⟩ := h
  obtain ⟨a, h1, h2⟩ := trod_data K 6 t ty hlt hty fuel _ _ hf
  refine ⟨a, ?_, h2⟩
  have hc : v.cells.toList = [v] := by
    have hu := tund_und hd
    cases v <;> first | rfl | skip
    cases d <;> first | (cases hb; done) | (simp [Value.okWide, hu, Cell.okWide, Cell.ok] at hval)
  rwa [hc] at h1
theorem arg_struct (K : Kids P (· < P.types.size)) {b0 : Nat} {t : Nat} {ty : Ty} {fs : Array Field} (hd : tund P t = some (.struct fs)) (hlt : t < P.types.size) (hty : tyOf P 6 t = some ty) {v : Value} {x : DataW H} {ps : List MemPlace}
    (hval : Value.okWide P W .any b0 t v) (h : DataW.Trod enc' P W base sp held t v x ps) : ∃ a : ty.den, R (gW W) (.agg (enc ty (fun _ => a) [])) v ∧ wfD ty a := by
  obtain ⟨fuel, hf⟩ := h
  obtain ⟨a, h1, h2⟩ := trod_data K 6 t ty hlt hty fuel _ _ hf
  have hu := tund_und hd
  simp only [Value.okWide, hu] at hval
  obtain ⟨cs, rfl, _⟩ := hval
  refine ⟨a, ?_, h2⟩
  have := R.mkAgg h1
  simpa [Value.cells] using this

theorem law_run {f : FuncId} {args : List AV} {vals : List Value} {Y : Type} {Q : Y → Prop} {res : Y → AV} {out : Y → List Chunk} (hm : Meets P f args [] Q res out) (hres : ∀ y, Q y → res y = .tt) (hr : RL (gW W) args vals) :
    Calls P f vals.toArray W fun e W' => e = .returned (.bool true) ∧ Below W.heap.size W W' := by
  refine (hm.h (gW W) W vals (sim_gW W) hr).mono ?_
  rintro e W' ⟨y, c, g', hq, rfl, h1, h2, h3⟩
  rw [hres y hq] at h1
  rw [h1.tt_iff]
  refine ⟨rfl, h3.os, h3.tape, h3.output, h3.size, fun b hb => h3.keep b hb ?_⟩
  rintro ⟨i, hi⟩
  simp [getE, Chunk.blk] at hi

theorem trodAll_stays (hl : laidOutB P = true) {W' : World} (hb : Below W.heap.size W W') : ∀ {ts : List TypeId} {vs : List Value} {ds : List (DataW H)} {ps : List MemPlace} (sp' : Nat → Bool), (∀ t ∈ ts, P.readableRec t = true ∧ t < P.types.size) →
    DataW.TrodAll enc' P W 0 (fun _ => true) true ts vs ds ps → (∀ p ∈ ps, p.block < W.heap.size) → (∀ p ∈ ps, sp' p.block = true) → DataW.TrodAll enc' P W' 0 sp' true ts vs ds ps
  | [], [], [], ps, sp', _, h, _, _ => h
  | t :: ts, v :: vs, d :: ds, ps, sp', ht, h, hlt, hsp => by
    obtain ⟨p, q, h1, h2, rfl⟩ := h
    obtain ⟨hr, hrow⟩ := ht t (List.mem_cons_self ..)
    refine ⟨p, q, WideElems.Trod_stays hl hr hrow h1 (fun x hx => hb.same (hlt x (List.mem_append_left _ hx))) (fun x hx => hsp x (List.mem_append_left _ hx)), ?_, rfl⟩
    exact trodAll_stays hl hb sp' (fun t ht' => ht t (List.mem_cons_of_mem _ ht')) h2 (fun x hx => hlt x (List.mem_append_right _ hx)) (fun x hx => hsp x (List.mem_append_right _ hx))
  | [], _ :: _, _, _, _, _, h, _, _ => h.elim
  | [], [], _ :: _, _, _, _, h, _, _ => h.elim
  | _ :: _, [], _, _, _, _, h, _, _ => h.elim
  | _ :: _, _ :: _, [], _, _, _, h, _, _ => h.elim

theorem law_post {f : Func} {s : ChangeSpec} {W' : World} {args : Array Value} {ds gs : List (DataW H)} {before : List MemPlace} (hl : laidOutB P = true) {tb : TypeId}
    (hW : DataW.Whole enc' P f.params.toList s.vars false W args.toList ds gs before) (hv : s.vars = []) (hfn : s.fn H (ds ++ gs) = { results := [.lit (.bool true)], args := ds })
    (hres : f.resultTypes = #[tb]) (htb : P.underlying tb = some .bool) (ht : ∀ t ∈ f.params.toList, P.readableRec t = true ∧ t < P.types.size) (hb : Below W.heap.size W W') :
    s.post enc' P f false true false false W args (.bool true) W' := by
  have hlt := hW.lt
  have hW' := hW
  obtain ⟨p, q, hA, hV, hpq, hfz, hnd⟩ := hW'
  rw [hv] at hV
  have hgq : gs = [] ∧ q = [] := by
    cases gs with
    | nil => exact ⟨rfl, hV⟩
    | cons g r => exact hV.elim
  obtain ⟨rfl, rfl⟩ := hgq
  rw [List.append_nil] at hpq
  subst hpq
  have hold : ∀ p ∈ before, (fun b => decide (b < W.heap.size)) p.block = true := fun p hp => by simpa using hlt p hp
  have hargs : ∀ sp : Nat → Bool, (∀ p ∈ before, sp p.block = true) → DataW.TrodAll enc' P W' 0 sp true f.params.toList args.toList ds before := fun sp hsp => trodAll_stays hl hb sp ht hA hlt hsp
  have hresT : ∀ (b : Nat) (sp : Nat → Bool) (hd : Bool), DataW.TrodAll enc' P W' b sp hd f.resultTypes.toList ((Value.bool true).resultList f.resultTypes.size) [.lit (.bool true)] [] := by
    intro b sp hd
    rw [hres]
    exact trodAll_mk1 (shut_bool htb true)
  refine ⟨ds, [], before, [], before, [], hW, ?_, ?_, ?_, World.keptBut_mono (fun p hp => ⟨hp, ?_⟩) (hb.frame (· ∈ before)), fun h => by cases h⟩
  · rw [hfn]; exact hresT _ _ _
  · rw [hfn]; exact hargs _ hold
  · rw [hfn, hv]; rfl
  · exact .inr (by simpa using hp)
end
end Go.Proofs.Ytadmgicmmnbdcaa.Fw
set_option linter.unusedVariables false
set_option linter.unusedSimpArgs false
namespace Go.Proofs.Ytadmgicmmnbdcaa.RSlabOwn
open Go Go.ChangeShapes Go.WideShapes Go.ChangeAt Go.RowKit Fw
theorem own : ownKnob Try.prog.godebug = none := by kernel_rfl
theorem laidOut : laidOutB Try.prog = true := by kernel_rfl
theorem mapsOk : mapsRowed Try.prog = true := by kernel_rfl
theorem kids : Kids Try.prog (· < Try.prog.types.size) := kids_rows laidOut mapsOk
theorem readable : ∀ t ∈ Try.f5.params.toList, Try.prog.readableRec t = true ∧ t < Try.prog.types.size := by
  have h : (Try.f5.params.toList.all fun t => Try.prog.readableRec t && decide (t < Try.prog.types.size)) = true := by kernel_rfl
  intro t ht
  have := List.all_eq_true.1 h t ht
  rw [Bool.and_eq_true, decide_eq_true_eq] at this
  exact this
set_option maxRecDepth 100000 in
theorem lifted (os : Os) (started : os.Started) (H : Type) (enc : TypeId × Value → H) :
    ReturnsInHanded {} Try.checked os 5 .any (Rows.slabOwnSpec.pre6 enc Try.prog Try.f5 Rows.slabOwnRow.domain false) (Rows.slabOwnSpec.post enc Try.prog Try.f5 false true false false) := by
  refine returnsInHanded_of_change (C := Try.checked) own started (by kernel_rfl) Try.func5
    (ChangeSpec.witness6 (enc := enc) (C := Try.checked) false ⟨#[], #[.int .i64 0, .int .u64 0, .int .i64 0], []⟩ 8 (by kernel_rfl) (by kernel_rfl) (by kernel_rfl) (by kernel_rfl)) ?_
  intro W base args ds gs before hval0 hW hcnd _
  have hval : ∀ (j : Nat) t v, Try.f5.params[j]? = some t → args[j]? = some v → Value.okWide Try.prog W .any base t v := hval0
  have hW' : DataW.Whole enc Try.prog Try.f5.params.toList Rows.slabOwnSpec.vars false W args.toList ds gs before := hW
  obtain ⟨p, q, hA0, hV, _, _, _⟩ := hW'
  have hA : DataW.TrodAll enc Try.prog W 0 (fun _ => true) true Try.f5.params.toList args.toList ds p := hA0
  rw [Try.params5] at hA hval
  obtain ⟨v0, v1, v2, d0, d1, d2, p0, p1, p2, rfl, rfl, rfl, h0, h1, h2⟩ := trodAll_three hA
  obtain ⟨rfl, rfl⟩ := trodVars_none hV
  obtain ⟨a0, r0, w0⟩ := arg_leaf (ty := (.int .i64)) kids rfl rfl (of_decide_eq_true (by kernel_rfl)) (by kernel_rfl) (hval 0 _ v0 rfl rfl) h0
  obtain ⟨a1, r1, w1⟩ := arg_leaf (ty := (.int .u64)) kids rfl rfl (of_decide_eq_true (by kernel_rfl)) (by kernel_rfl) (hval 1 _ v1 rfl rfl) h1
  obtain ⟨a2, r2, w2⟩ := arg_leaf (ty := (.int .i64)) kids rfl rfl (of_decide_eq_true (by kernel_rfl)) (by kernel_rfl) (hval 2 _ v2 rfl rfl) h2
  refine (law_run (vals := [v0, v1, v2]) (Sl.lawOwn a0 a1 a2) (fun _ _ => rfl) ⟨r0.1, r1.1, r2.1, trivial⟩).mono ?_
  rintro e W' ⟨rfl, hb⟩
  exact ⟨_, rfl, law_post laidOut hW rfl rfl (by rfl) Try.underlying4 readable hb⟩

theorem holds : Rows.SlabOwnSaid :=
  OpenClaim.holds_of_wide 5 Try.f5 rfl rfl rfl rfl rfl rfl rfl ⟨rfl, rfl, rfl, rfl, rfl⟩ rfl rfl rfl rfl rfl (by kernel_rfl) Try.func5 (by kernel_rfl)
    (of_decide_eq_true (by kernel_rfl)) (by unfold Func.isWrapper; first | (rw [if_pos (by decide +kernel)]; kernel_rfl) | (rw [if_neg (by decide +kernel)]; exact ⟨rfl, rfl⟩))
    (fun os started H enc _ => lifted os started H enc)
end Go.Proofs.Ytadmgicmmnbdcaa.RSlabOwn
#print axioms Go.Proofs.Ytadmgicmmnbdcaa.RSlabOwn.holds
