/- The law SlabGood holds at every input that its statement lets in; part 3 of its proof. -/
import Derived.Test.YtadmgicmmnbdcaaMSlabGood1
set_option linter.unusedVariables false
set_option linter.unusedSimpArgs false
namespace Go.Proofs.Ytadmgicmmnbdcaa.Sl
open Go Go.RowKit Fw
structure Ref where
  gen : List Int
  taken : List Bool
  words : List (List Int)
  row : List Int
def rch (s : Ref) : List Chunk :=
  [.cells 61 [.vec 1 1 (fun _ => 0) (fun _ => s.gen.length), .vec 2 1 (fun _ => 0) (fun _ => s.taken.length), .vec 3 1 (fun _ => 0) (fun _ => s.words.length), .vec 4 1 (fun _ => 0) (fun _ => s.row.length)],
   .vect 3 (.int .i64) fun _ => s.gen, .vect 4 .bool fun _ => s.taken, .vect 33 (.list (.int .u64)) fun _ => s.words, .vect 3 (.int .i64) fun _ => s.row]
def rhnd (s : Ref) (i : Nat) : Int := IntKind.i64.wrap (IntKind.i64.wrap (64 * s.gen.getD i 0) + i)
def rtakeS (s : Ref) (i : Nat) (r : List Int) : Ref := { s with taken := s.taken.set i true, words := s.words.set i (List.replicate (s.words.getD i []).length 0), row := r }
structure ROk (s : Ref) (n w : Nat) : Prop where
  gen : s.gen.length = n
  taken : s.taken.length = n
  words : s.words.length = n
  cap : 1 ≤ n ∧ n ≤ 64 ∧ w ≤ 32
  each : ∀ x ∈ s.words, x.length = w
  row : s.row.length ≤ n ∧ ∀ x ∈ s.row, 0 ≤ x ∧ x < n
theorem ROk.each_at {s : Ref} {n w : Nat} (h : ROk s n w) {i : Nat} (hi : i < n) : (s.words.getD i []).length = w := by
  rw [List.getD_eq_getElem?_getD, List.getElem?_eq_getElem (by rw [h.words]; exact hi)]
  exact h.each _ (List.getElem_mem _)
theorem rtake (s : Ref) {n w : Nat} (ok : ROk s n w) (i : Nat) (r : List Int) (hr : s.row = (i : Int) :: r) : Meets Try.prog 15 [.ptr 0 0] (rch s) (Y := Unit) (fun _ => True)
    (fun _ => .tup [.int .i64 fun _ => rhnd s i, .int .i64 fun _ => 0]) (fun _ => rch (rtakeS s i r)) := by
  have hrow := ok.row
  rw [hr] at hrow
  have hi := hrow.2 i (List.mem_cons_self ..)
  have hl := hrow.1
  have he := ok.each_at (i := i) (by omega)
  have hcap := ok.cap
  have hg := ok.gen
  have ht := ok.taken
  have hw := ok.words
  simp only [List.length_cons] at hl
  have h0 : s.row.getD 0 0 = (i : Int) := by simp [hr]
  have h1 : (i : Int).toNat = i := by simp
  have hrl : s.row.length = r.length + 1 := by rw [hr]; rfl
  have hd : List.drop 1 s.row = r := by rw [hr]; rfl
  have b1 : Try.t3.bytes = 8 := rfl
  have b2 : Try.t49.bytes = 8 := rfl
  refine Meets.intro hm (fn := Try.f15) Try.func15 rfl (by decide) (Nat.le_of_ble_eq_true rfl) (fun _ => rfl) ?_; intro S hok; (conv => whnf)
  (repeat' ((conv => whnf); first | refine And.intro ?_ ?_ | exact Cl.mk (by kernel_rfl) | exact trivial | exact rfl | (intro hh; try simp only [decide_eq_true_eq, decide_eq_false_iff_not, beq_iff_eq, beq_eq_false_iff_ne, bne_iff_ne, bne_eq_false_iff_eq, Bool.not_eq_true', Bool.not_eq_false', Bool.not_true, Bool.not_false] at hh))); all_goals (conv => whnf)
  · rw [hr] at hh; simp at hh; omega
  all_goals first
    | (refine Ob.mk ?_; (try simp only [Ty.dflt, Nat.zero_add, Nat.add_zero, Int.toNat_natCast, Int.toNat_zero, Int.toNat_one, List.length_take, List.length_drop, List.length_append, List.length_replicate, List.length_cons, List.length_nil, List.length_set, List.length_map, true_and, and_true, h0, h1, he, hd, hrl, b1, b2]); omega)
    | skip
  · (refine RetN.intro () [0, 1, 2, 3, 5] rfl rfl ?_ ?_ ?_; ((repeat' (first | exact rfl | exact trivial | refine And.intro ?_ ?_ | ((conv => whnf); first | exact rfl | exact trivial | refine And.intro ?_ ?_)))); ((repeat' (first | exact rfl | exact trivial | refine And.intro ?_ ?_ | ((conv => whnf); first | exact rfl | exact trivial | refine And.intro ?_ ?_))); all_goals (conv => whnf); all_goals (try simp only [])))
    all_goals simp only [Ty.dflt, Nat.zero_add, Nat.add_zero, Int.toNat_natCast, Int.toNat_zero, Int.toNat_one, List.length_take, List.length_drop, List.length_append, h0, h1, he, hd, hrl, rtakeS, rhnd, List.length_set]
    all_goals simp


theorem rtake0 (s : Ref) (hr : s.row = []) : Meets Try.prog 15 [.ptr 0 0] (rch s) (Y := Unit) (fun _ => True)
    (fun _ => .tup [.int .i64 fun _ => 0, .int .i64 fun _ => 4]) (fun _ => rch s) := by
  refine Meets.intro hm (fn := Try.f15) Try.func15 rfl (by decide) (Nat.le_of_ble_eq_true rfl) (fun _ => rfl) ?_; intro S hok; (conv => whnf)
  (repeat' ((conv => whnf); first | refine And.intro ?_ ?_ | exact Cl.mk (by kernel_rfl) | exact trivial | exact rfl | (intro hh; try simp only [decide_eq_true_eq, decide_eq_false_iff_not, beq_iff_eq, beq_eq_false_iff_ne, bne_iff_ne, bne_eq_false_iff_eq, Bool.not_eq_true', Bool.not_eq_false', Bool.not_true, Bool.not_false] at hh))); all_goals (conv => whnf)
  · (refine RetN.intro () [0, 1, 2, 3, 4] rfl rfl ?_ ?_ ?_; ((repeat' (first | exact rfl | exact trivial | refine And.intro ?_ ?_ | ((conv => whnf); first | exact rfl | exact trivial | refine And.intro ?_ ?_)))); ((repeat' (first | exact rfl | exact trivial | refine And.intro ?_ ?_ | ((conv => whnf); first | exact rfl | exact trivial | refine And.intro ?_ ?_))); all_goals (conv => whnf); all_goals (try simp only [])))
  all_goals exact absurd (by simp [hr]) hh
/-- The cell of a good handle; -1: it is none. -/
def rgood (s : Ref) (h : Int) : Int :=
  if h < 0 then -1 else if (s.gen.length : Int) ≤ h.tmod 64 ∨ s.taken.getD (h.tmod 64).toNat false = false ∨ s.gen.getD (h.tmod 64).toNat 0 ≠ h.tdiv 64 then -1 else h.tmod 64
theorem rgoodM (s : Ref) {n w : Nat} (ok : ROk s n w) (h : Int) (hb : h ≤ 9223372036854775807) : Meets Try.prog 31 [.ptr 0 0, .int .i64 fun _ => h] (rch s) (Y := Unit) (fun _ => True)
    (fun _ => .int .i64 fun _ => rgood s h) (fun _ => rch s) := by
  have hg := ok.gen
  have ht := ok.taken
  have hq : ¬ h < 0 → IntKind.i64.wrap (h.tdiv 64) = h.tdiv 64 ∧ 0 ≤ h.tmod 64 ∧ h.tmod 64 < 64 := fun hn => by
    have := tmod64 hn
    have h1 : h.tdiv 64 = h / 64 := Int.tdiv_eq_ediv_of_nonneg (by omega)
    exact ⟨wr (by omega), this⟩
  refine Meets.intro hm (fn := Try.f31) Try.func31 rfl (by decide) (Nat.le_of_ble_eq_true rfl) (fun _ => rfl) ?_; intro S hok; (conv => whnf)
  (repeat' ((conv => whnf); first | refine And.intro ?_ ?_ | exact Cl.mk (by kernel_rfl) | exact trivial | exact rfl | (intro hh; try simp only [decide_eq_true_eq, decide_eq_false_iff_not, beq_iff_eq, beq_eq_false_iff_ne, bne_iff_ne, bne_eq_false_iff_eq, Bool.not_eq_true', Bool.not_eq_false', Bool.not_true, Bool.not_false] at hh))); all_goals (conv => whnf)
  all_goals first
    | exact ⟨by decide⟩
    | (have hq := hq ‹_›; (refine Ob.mk ?_; (try simp only [Ty.dflt, Nat.zero_add, Nat.add_zero, Int.toNat_natCast, Int.toNat_zero, Int.toNat_one, List.length_take, List.length_drop, List.length_append, List.length_replicate, List.length_cons, List.length_nil, List.length_set, List.length_map, true_and, and_true]); omega))
    | skip
  · (refine RetN.intro () [0, 1, 2, 3, 4] rfl rfl ?_ ?_ ?_; ((repeat' (first | exact rfl | exact trivial | refine And.intro ?_ ?_ | ((conv => whnf); first | exact rfl | exact trivial | refine And.intro ?_ ?_)))); ((repeat' (first | exact rfl | exact trivial | refine And.intro ?_ ?_ | ((conv => whnf); first | exact rfl | exact trivial | refine And.intro ?_ ?_))); all_goals (conv => whnf); all_goals (try simp only [])))
    simp [rgood, hh]
  all_goals (have hq := hq ‹_›)
  · rename_i h1 h2 h3
    (refine RetN.intro () [0, 1, 2, 3, 4] rfl rfl ?_ ?_ ?_; ((repeat' (first | exact rfl | exact trivial | refine And.intro ?_ ?_ | ((conv => whnf); first | exact rfl | exact trivial | refine And.intro ?_ ?_)))); ((repeat' (first | exact rfl | exact trivial | refine And.intro ?_ ?_ | ((conv => whnf); first | exact rfl | exact trivial | refine And.intro ?_ ?_))); all_goals (conv => whnf); all_goals (try simp only [])))
    simp only [Nat.zero_add, hq, Ty.dflt] at hh
    rw [rgood, if_neg h1, if_pos (.inr (.inr hh))]
  · rename_i h1 h2 h3
    (refine RetN.intro () [0, 1, 2, 3, 4] rfl rfl ?_ ?_ ?_; ((repeat' (first | exact rfl | exact trivial | refine And.intro ?_ ?_ | ((conv => whnf); first | exact rfl | exact trivial | refine And.intro ?_ ?_)))); ((repeat' (first | exact rfl | exact trivial | refine And.intro ?_ ?_ | ((conv => whnf); first | exact rfl | exact trivial | refine And.intro ?_ ?_))); all_goals (conv => whnf); all_goals (try simp only [])))
    simp only [Nat.zero_add, hq, Ty.dflt] at hh h3
    rw [rgood, if_neg h1, if_neg (by rintro (h | h | h); exact h2 h; rw [h3] at h; cases h; exact h hh)]
  · rename_i h1 h2
    (refine RetN.intro () [0, 1, 2, 3, 4] rfl rfl ?_ ?_ ?_; ((repeat' (first | exact rfl | exact trivial | refine And.intro ?_ ?_ | ((conv => whnf); first | exact rfl | exact trivial | refine And.intro ?_ ?_)))); ((repeat' (first | exact rfl | exact trivial | refine And.intro ?_ ?_ | ((conv => whnf); first | exact rfl | exact trivial | refine And.intro ?_ ?_))); all_goals (conv => whnf); all_goals (try simp only [])))
    simp only [Nat.zero_add, hq, Ty.dflt] at hh
    rw [rgood, if_neg h1, if_pos (.inr (.inl hh))]
  · rename_i h1
    (refine RetN.intro () [0, 1, 2, 3, 4] rfl rfl ?_ ?_ ?_; ((repeat' (first | exact rfl | exact trivial | refine And.intro ?_ ?_ | ((conv => whnf); first | exact rfl | exact trivial | refine And.intro ?_ ?_)))); ((repeat' (first | exact rfl | exact trivial | refine And.intro ?_ ?_ | ((conv => whnf); first | exact rfl | exact trivial | refine And.intro ?_ ?_))); all_goals (conv => whnf); all_goals (try simp only [])))
    rw [rgood, if_neg h1, if_pos (.inl hh)]
theorem rgood_lt {s : Ref} {h : Int} (hn : ¬ rgood s h < 0) : 0 ≤ rgood s h ∧ rgood s h < s.gen.length ∧ rgood s h < 64 := by
  unfold rgood at hn ⊢
  split at hn
  · omega
  · rename_i h0
    rw [if_neg h0]
    split at hn
    · omega
    · rename_i h1
      rw [if_neg h1]
      have := tmod64 h0
      omega
def rgiveS (s : Ref) (h : Int) : Ref :=
  if rgood s h < 0 then s else { s with taken := s.taken.set (rgood s h).toNat false, gen := s.gen.set (rgood s h).toNat (IntKind.i64.wrap (s.gen.getD (rgood s h).toNat 0 + 1)), row := rgood s h :: s.row }
theorem rgive (s : Ref) {n w : Nat} (ok : ROk s n w) (h : Int) (hb : h ≤ 9223372036854775807) : Meets Try.prog 17 [.ptr 0 0, .int .i64 fun _ => h] (rch s) (Y := Unit) (fun _ => True)
    (fun _ => .int .i64 fun _ => if rgood s h < 0 then 6 else 0) (fun _ => rch (rgiveS s h)) := by
  have hg := ok.gen
  have ht := ok.taken
  have hr := ok.row
  have hc := ok.cap
  have b1 : Try.t3.bytes = 8 := rfl
  have hq := rgood_lt (s := s) (h := h)
  refine Meets.intro hm (fn := Try.f17) Try.func17 rfl (by decide) (Nat.le_of_ble_eq_true rfl) (fun _ => rfl) ?_; intro S hok; (conv => whnf)
  (repeat' ((conv => whnf); first | refine And.intro ?_ ?_ | exact Cl.mk (by kernel_rfl) | exact trivial | exact rfl | (intro hh; try simp only [decide_eq_true_eq, decide_eq_false_iff_not, beq_iff_eq, beq_eq_false_iff_ne, bne_iff_ne, bne_eq_false_iff_eq, Bool.not_eq_true', Bool.not_eq_false', Bool.not_true, Bool.not_false] at hh))); all_goals (conv => whnf)
  · (refine CallN.intro (rgoodM s ok h hb) [0, 1, 2, 3, 4] rfl rfl ?_ ?_ ?_; ((repeat' (first | exact rfl | exact trivial | refine And.intro ?_ ?_ | ((conv => whnf); first | exact rfl | exact trivial | refine And.intro ?_ ?_)))); ((repeat' (first | exact rfl | exact trivial | refine And.intro ?_ ?_ | ((conv => whnf); first | exact rfl | exact trivial | refine And.intro ?_ ?_)))); (intro y hy; (repeat' ((conv => whnf); first | refine And.intro ?_ ?_ | exact Cl.mk (by kernel_rfl) | exact trivial | exact rfl | (intro hh; try simp only [decide_eq_true_eq, decide_eq_false_iff_not, beq_iff_eq, beq_eq_false_iff_ne, bne_iff_ne, bne_eq_false_iff_eq, Bool.not_eq_true', Bool.not_eq_false', Bool.not_true, Bool.not_false] at hh))); all_goals (conv => whnf)))
    all_goals first
      | (have hq := hq ‹_›; (refine Ob.mk ?_; (try simp only [Ty.dflt, Nat.zero_add, Nat.add_zero, Int.toNat_natCast, Int.toNat_zero, Int.toNat_one, List.length_take, List.length_drop, List.length_append, List.length_replicate, List.length_cons, List.length_nil, List.length_set, List.length_map, true_and, and_true, b1]); omega))
      | skip
    · (refine RetN.intro () [0, 1, 2, 3, 4] rfl rfl ?_ ?_ ?_; ((repeat' (first | exact rfl | exact trivial | refine And.intro ?_ ?_ | ((conv => whnf); first | exact rfl | exact trivial | refine And.intro ?_ ?_)))); ((repeat' (first | exact rfl | exact trivial | refine And.intro ?_ ?_ | ((conv => whnf); first | exact rfl | exact trivial | refine And.intro ?_ ?_))); all_goals (conv => whnf); all_goals (try simp only [])))
      all_goals simp [rgiveS, hh]
    · (refine RetN.intro () [0, 1, 2, 3, 5] rfl rfl ?_ ?_ ?_; ((repeat' (first | exact rfl | exact trivial | refine And.intro ?_ ?_ | ((conv => whnf); first | exact rfl | exact trivial | refine And.intro ?_ ?_)))); ((repeat' (first | exact rfl | exact trivial | refine And.intro ?_ ?_ | ((conv => whnf); first | exact rfl | exact trivial | refine And.intro ?_ ?_))); all_goals (conv => whnf); all_goals (try simp only [])))
      all_goals simp [rgiveS, hh, Ty.dflt]
      omega
theorem rread (s : Ref) {n w : Nat} (ok : ROk s n w) (h : Int) (hb : h ≤ 9223372036854775807) : Meets Try.prog 19 [.ptr 0 0, .int .i64 fun _ => h] (rch s) (Y := Unit) (fun _ => True)
    (fun _ => .tup [.lst (.int .u64) fun _ => if rgood s h < 0 then [] else s.words.getD (rgood s h).toNat [], .int .i64 fun _ => if rgood s h < 0 then 6 else 0]) (fun _ => rch s) := by
  have hg := ok.gen
  have hw := ok.words
  have hc := ok.cap
  have b2 : Try.t49.bytes = 8 := rfl
  have hq : ¬ rgood s h < 0 → (0 ≤ rgood s h ∧ rgood s h < s.gen.length) ∧ (s.words.getD (rgood s h).toNat []).length = w := fun hn => by
    have := rgood_lt hn
    exact ⟨by omega, ok.each_at (by omega)⟩
  refine Meets.intro hm (fn := Try.f19) Try.func19 rfl (by decide) (Nat.le_of_ble_eq_true rfl) (fun _ => rfl) ?_; intro S hok; (conv => whnf)
  (repeat' ((conv => whnf); first | refine And.intro ?_ ?_ | exact Cl.mk (by kernel_rfl) | exact trivial | exact rfl | (intro hh; try simp only [decide_eq_true_eq, decide_eq_false_iff_not, beq_iff_eq, beq_eq_false_iff_ne, bne_iff_ne, bne_eq_false_iff_eq, Bool.not_eq_true', Bool.not_eq_false', Bool.not_true, Bool.not_false] at hh))); all_goals (conv => whnf)
  · (refine CallN.intro (rgoodM s ok h hb) [0, 1, 2, 3, 4] rfl rfl ?_ ?_ ?_; ((repeat' (first | exact rfl | exact trivial | refine And.intro ?_ ?_ | ((conv => whnf); first | exact rfl | exact trivial | refine And.intro ?_ ?_)))); ((repeat' (first | exact rfl | exact trivial | refine And.intro ?_ ?_ | ((conv => whnf); first | exact rfl | exact trivial | refine And.intro ?_ ?_)))); (intro y hy; (repeat' ((conv => whnf); first | refine And.intro ?_ ?_ | exact Cl.mk (by kernel_rfl) | exact trivial | exact rfl | (intro hh; try simp only [decide_eq_true_eq, decide_eq_false_iff_not, beq_iff_eq, beq_eq_false_iff_ne, bne_iff_ne, bne_eq_false_iff_eq, Bool.not_eq_true', Bool.not_eq_false', Bool.not_true, Bool.not_false] at hh))); all_goals (conv => whnf)))
    all_goals first
      | (have hq := hq ‹_›; have hq2 := hq.2; (refine Ob.mk ?_; (try simp only [Ty.dflt, Nat.zero_add, Nat.add_zero, Int.toNat_natCast, Int.toNat_zero, Int.toNat_one, List.length_take, List.length_drop, List.length_append, List.length_replicate, List.length_cons, List.length_nil, List.length_set, List.length_map, true_and, and_true, b2, hq2]); omega))
      | skip
    · (refine RetN.intro () [0, 1, 2, 3, 4] rfl rfl ?_ ?_ ?_; ((repeat' (first | exact rfl | exact trivial | refine And.intro ?_ ?_ | ((conv => whnf); first | exact rfl | exact trivial | refine And.intro ?_ ?_)))); ((repeat' (first | exact rfl | exact trivial | refine And.intro ?_ ?_ | ((conv => whnf); first | exact rfl | exact trivial | refine And.intro ?_ ?_))); all_goals (conv => whnf); all_goals (try simp only [])))
      all_goals simp [hh]
    · (refine RetN.frz 5 ?_; (conv => whnf))
      (refine RetN.intro () [0, 1, 2, 3, 4] rfl rfl ?_ ?_ ?_; ((repeat' (first | exact rfl | exact trivial | refine And.intro ?_ ?_ | ((conv => whnf); first | exact rfl | exact trivial | refine And.intro ?_ ?_)))); ((repeat' (first | exact rfl | exact trivial | refine And.intro ?_ ?_ | ((conv => whnf); first | exact rfl | exact trivial | refine And.intro ?_ ?_))); all_goals (conv => whnf); all_goals (try simp only [])))
      all_goals simp [hh, Ty.dflt]
def rwriteS (s : Ref) (h : Int) (xs : List Int) : Ref := { s with words := s.words.set (rgood s h).toNat xs }
theorem rwrite (s : Ref) {n w : Nat} (ok : ROk s n w) (h : Int) (hb : h ≤ 9223372036854775807) (xs : List Int) (hx : xs.length ≤ 100000) : Meets Try.prog 22 [.ptr 0 0, .int .i64 fun _ => h, .lst (.int .u64) fun _ => xs] (rch s) (Y := Unit) (fun _ => True)
    (fun _ => .int .i64 fun _ => if rgood s h < 0 then 6 else if xs.length = w then 0 else 1) (fun _ => rch (if rgood s h < 0 ∨ xs.length ≠ w then s else rwriteS s h xs)) := by
  have hg := ok.gen
  have hw := ok.words
  have hc := ok.cap
  have b2 : Try.t49.bytes = 8 := rfl
  have hq : ¬ rgood s h < 0 → (0 ≤ rgood s h ∧ rgood s h < s.gen.length) ∧ (s.words.getD (rgood s h).toNat []).length = w := fun hn => by
    have := rgood_lt hn
    exact ⟨by omega, ok.each_at (by omega)⟩
  refine Meets.intro hm (fn := Try.f22) Try.func22 rfl (by decide) (Nat.le_of_ble_eq_true rfl) (fun _ => rfl) ?_; intro S hok; (conv => whnf)
  (repeat' ((conv => whnf); first | refine And.intro ?_ ?_ | exact Cl.mk (by kernel_rfl) | exact trivial | exact rfl | (intro hh; try simp only [decide_eq_true_eq, decide_eq_false_iff_not, beq_iff_eq, beq_eq_false_iff_ne, bne_iff_ne, bne_eq_false_iff_eq, Bool.not_eq_true', Bool.not_eq_false', Bool.not_true, Bool.not_false] at hh))); all_goals (conv => whnf)
  · (refine CallN.intro (rgoodM s ok h hb) [0, 1, 2, 3, 4] rfl rfl ?_ ?_ ?_; ((repeat' (first | exact rfl | exact trivial | refine And.intro ?_ ?_ | ((conv => whnf); first | exact rfl | exact trivial | refine And.intro ?_ ?_)))); ((repeat' (first | exact rfl | exact trivial | refine And.intro ?_ ?_ | ((conv => whnf); first | exact rfl | exact trivial | refine And.intro ?_ ?_)))); (intro y hy; (repeat' ((conv => whnf); first | refine And.intro ?_ ?_ | exact Cl.mk (by kernel_rfl) | exact trivial | exact rfl | (intro hh; try simp only [decide_eq_true_eq, decide_eq_false_iff_not, beq_iff_eq, beq_eq_false_iff_ne, bne_iff_ne, bne_eq_false_iff_eq, Bool.not_eq_true', Bool.not_eq_false', Bool.not_true, Bool.not_false] at hh))); all_goals (conv => whnf)))
    all_goals first
      | (have hq := hq ‹_›; have hq2 := hq.2; (refine Ob.mk ?_; (try simp only [Ty.dflt, Nat.zero_add, Nat.add_zero, Int.toNat_natCast, Int.toNat_zero, Int.toNat_one, List.length_take, List.length_drop, List.length_append, List.length_replicate, List.length_cons, List.length_nil, List.length_set, List.length_map, true_and, and_true, b2, hq2]); omega))
      | skip
    · (refine RetN.intro () [0, 1, 2, 3, 4] rfl rfl ?_ ?_ ?_; ((repeat' (first | exact rfl | exact trivial | refine And.intro ?_ ?_ | ((conv => whnf); first | exact rfl | exact trivial | refine And.intro ?_ ?_)))); ((repeat' (first | exact rfl | exact trivial | refine And.intro ?_ ?_ | ((conv => whnf); first | exact rfl | exact trivial | refine And.intro ?_ ?_))); all_goals (conv => whnf); all_goals (try simp only [])))
      all_goals simp [hh]
    · have h1 := (hq ‹_›).2
      simp only [Nat.zero_add, Ty.dflt, h1] at hh
      (refine RetN.intro () [0, 1, 2, 3, 4] rfl rfl ?_ ?_ ?_; ((repeat' (first | exact rfl | exact trivial | refine And.intro ?_ ?_ | ((conv => whnf); first | exact rfl | exact trivial | refine And.intro ?_ ?_)))); ((repeat' (first | exact rfl | exact trivial | refine And.intro ?_ ?_ | ((conv => whnf); first | exact rfl | exact trivial | refine And.intro ?_ ?_))); all_goals (conv => whnf); all_goals (try simp only [])))
      all_goals (have e : ¬ xs.length = w := by omega)
      all_goals simp [‹¬ rgood s h < 0›, e]
    · have h1 := (hq ‹_›).2
      simp only [Nat.zero_add, Ty.dflt, h1] at hh
      (refine RetN.intro () [0, 1, 2, 3, 4] rfl rfl ?_ ?_ ?_; ((repeat' (first | exact rfl | exact trivial | refine And.intro ?_ ?_ | ((conv => whnf); first | exact rfl | exact trivial | refine And.intro ?_ ?_)))); ((repeat' (first | exact rfl | exact trivial | refine And.intro ?_ ?_ | ((conv => whnf); first | exact rfl | exact trivial | refine And.intro ?_ ?_))); all_goals (conv => whnf); all_goals (try simp only [])))
      all_goals (have e : xs.length = w := by omega)
      all_goals simp [‹¬ rgood s h < 0›, e, rwriteS]
      rw [List.take_of_length_le (by omega)]
theorem rfree (s : Ref) : Meets Try.prog 24 [.ptr 0 0] (rch s) (Y := Unit) (fun _ => True) (fun _ => .int .i64 fun _ => s.row.length) (fun _ => rch s) := by
  refine Meets.intro hm (fn := Try.f24) Try.func24 rfl (by decide) (Nat.le_of_ble_eq_true rfl) (fun _ => rfl) ?_; intro S hok; (conv => whnf)
  (repeat' ((conv => whnf); first | refine And.intro ?_ ?_ | exact Cl.mk (by kernel_rfl) | exact trivial | exact rfl | (intro hh; try simp only [decide_eq_true_eq, decide_eq_false_iff_not, beq_iff_eq, beq_eq_false_iff_ne, bne_iff_ne, bne_eq_false_iff_eq, Bool.not_eq_true', Bool.not_eq_false', Bool.not_true, Bool.not_false] at hh))); all_goals (conv => whnf)
  · (refine RetN.intro () [0, 1, 2, 3, 4] rfl rfl ?_ ?_ ?_; ((repeat' (first | exact rfl | exact trivial | refine And.intro ?_ ?_ | ((conv => whnf); first | exact rfl | exact trivial | refine And.intro ?_ ?_)))); ((repeat' (first | exact rfl | exact trivial | refine And.intro ?_ ?_ | ((conv => whnf); first | exact rfl | exact trivial | refine And.intro ?_ ?_))); all_goals (conv => whnf); all_goals (try simp only [])))
end Go.Proofs.Ytadmgicmmnbdcaa.Sl
set_option linter.unusedVariables false
set_option linter.unusedSimpArgs false
namespace Go.Proofs.Ytadmgicmmnbdcaa.Sl
open Go Go.RowKit Fw
theorem intsM (a b : List Int) (ha : a.length ≤ 1000000) : Meets Try.prog 25 [.lst (.int .i64) fun _ => a, .lst (.int .i64) fun _ => b] [] (Y := Unit) (fun _ => True) (fun _ => .bool fun _ => decide (a = b)) (fun _ => []) := by
  refine Meets.intro hm (fn := Try.f25) Try.func25 rfl (by decide) (Nat.le_of_ble_eq_true rfl) (fun _ => rfl) ?_; intro S hok; (conv => whnf)
  (repeat' ((conv => whnf); first | refine And.intro ?_ ?_ | exact Cl.mk (by kernel_rfl) | exact trivial | exact rfl | (intro hh; try simp only [decide_eq_true_eq, decide_eq_false_iff_not, beq_iff_eq, beq_eq_false_iff_ne, bne_iff_ne, bne_eq_false_iff_eq, Bool.not_eq_true', Bool.not_eq_false', Bool.not_true, Bool.not_false] at hh))); all_goals (conv => whnf)
  · (refine RetN.intro () [] rfl rfl ?_ ?_ ?_; ((repeat' (first | exact rfl | exact trivial | refine And.intro ?_ ?_ | ((conv => whnf); first | exact rfl | exact trivial | refine And.intro ?_ ?_)))); ((repeat' (first | exact rfl | exact trivial | refine And.intro ?_ ?_ | ((conv => whnf); first | exact rfl | exact trivial | refine And.intro ?_ ?_))); all_goals (conv => whnf); all_goals (try simp only [])))
    have : a ≠ b := fun e => by rw [e] at hh; exact hh rfl
    simp [this]
  · have hl : a.length = b.length := by omega
    refine LoopN.intro hm (X := Nat) (fun i => i ≤ a.length ∧ a.take i = b.take i) (fun i => a.length - i)
      (fun i => [(5, .int .i64 fun _ => (i : Int)), (0, .lst (.int .i64) fun _ => a), (1, .lst (.int .i64) fun _ => b)]) (fun _ => []) 0 [] ⟨rfl, rfl, ?_, ?_⟩ ⟨Nat.zero_le _, rfl⟩ (fun i hi => ?_)
    · (repeat' (first | exact rfl | exact trivial | refine And.intro ?_ ?_ | ((conv => whnf); first | exact rfl | exact trivial | refine And.intro ?_ ?_)))
    · (repeat' (first | exact rfl | exact trivial | refine And.intro ?_ ?_ | ((conv => whnf); first | exact rfl | exact trivial | refine And.intro ?_ ?_)))
    · (repeat' ((conv => whnf); first | refine And.intro ?_ ?_ | exact Cl.mk (by kernel_rfl) | exact trivial | exact rfl | (intro hh; try simp only [decide_eq_true_eq, decide_eq_false_iff_not, beq_iff_eq, beq_eq_false_iff_ne, bne_iff_ne, bne_eq_false_iff_eq, Bool.not_eq_true', Bool.not_eq_false', Bool.not_true, Bool.not_false] at hh))); all_goals (conv => whnf)
      · (refine Ob.mk ?_; (try simp only [Ty.dflt, Nat.zero_add, Nat.add_zero, Int.toNat_natCast, Int.toNat_zero, Int.toNat_one, List.length_take, List.length_drop, List.length_append, List.length_replicate, List.length_cons, List.length_nil, List.length_set, List.length_map, true_and, and_true]); omega)
      · (refine Ob.mk ?_; (try simp only [Ty.dflt, Nat.zero_add, Nat.add_zero, Int.toNat_natCast, Int.toNat_zero, Int.toNat_one, List.length_take, List.length_drop, List.length_append, List.length_replicate, List.length_cons, List.length_nil, List.length_set, List.length_map, true_and, and_true]); omega)
      · have hne : a ≠ b := by rintro rfl; exact hh rfl
        (refine RetN.intro () [] rfl rfl ?_ ?_ ?_; ((repeat' (first | exact rfl | exact trivial | refine And.intro ?_ ?_ | ((conv => whnf); first | exact rfl | exact trivial | refine And.intro ?_ ?_)))); ((repeat' (first | exact rfl | exact trivial | refine And.intro ?_ ?_ | ((conv => whnf); first | exact rfl | exact trivial | refine And.intro ?_ ?_))); all_goals (conv => whnf); all_goals (try simp only [])))
        simp [hne]
      · have hi1 : i < a.length := by omega
        refine ⟨i + 1, [], ⟨rfl, rfl, ?_, ?_⟩, ⟨hi1, ?_⟩, by omega⟩
        · (repeat' (first | exact rfl | exact trivial | refine And.intro ?_ ?_ | ((conv => whnf); first | exact rfl | exact trivial | refine And.intro ?_ ?_)))
        · (repeat' (first | exact rfl | exact trivial | refine And.intro ?_ ?_ | ((conv => whnf); first | exact rfl | exact trivial | refine And.intro ?_ ?_))); all_goals (conv => whnf); all_goals (try simp only [])
          rw [wr (by omega)]; omega
        · simp only [Int.toNat_natCast, Ty.dflt] at hh
          rw [List.getD_eq_getElem?_getD, List.getD_eq_getElem?_getD, List.getElem?_eq_getElem hi1, List.getElem?_eq_getElem (by omega)] at hh
          rw [List.take_add_one, List.take_add_one, hi.2, List.getElem?_eq_getElem hi1, List.getElem?_eq_getElem (by omega)]
          have hh : a[i]'hi1 = b[i]'(by omega) := hh
          simp [hh]
      · have e : i = a.length := by omega
        have hab : a = b := by
          have := hi.2
          rw [e, List.take_length, hl, List.take_length] at this
          exact this
        (refine RetN.intro () [] rfl rfl ?_ ?_ ?_; ((repeat' (first | exact rfl | exact trivial | refine And.intro ?_ ?_ | ((conv => whnf); first | exact rfl | exact trivial | refine And.intro ?_ ?_)))); ((repeat' (first | exact rfl | exact trivial | refine And.intro ?_ ?_ | ((conv => whnf); first | exact rfl | exact trivial | refine And.intro ?_ ?_))); all_goals (conv => whnf); all_goals (try simp only [])))
        simp [hab]
theorem sameM (a b : List Int) (ha : a.length ≤ 1000000) : Meets Try.prog 20 [.lst (.int .u64) fun _ => a, .lst (.int .u64) fun _ => b] [] (Y := Unit) (fun _ => True) (fun _ => .bool fun _ => decide (a = b)) (fun _ => []) := by
  refine Meets.intro hm (fn := Try.f20) Try.func20 rfl (by decide) (Nat.le_of_ble_eq_true rfl) (fun _ => rfl) ?_; intro S hok; (conv => whnf)
  (repeat' ((conv => whnf); first | refine And.intro ?_ ?_ | exact Cl.mk (by kernel_rfl) | exact trivial | exact rfl | (intro hh; try simp only [decide_eq_true_eq, decide_eq_false_iff_not, beq_iff_eq, beq_eq_false_iff_ne, bne_iff_ne, bne_eq_false_iff_eq, Bool.not_eq_true', Bool.not_eq_false', Bool.not_true, Bool.not_false] at hh))); all_goals (conv => whnf)
  · (refine RetN.intro () [] rfl rfl ?_ ?_ ?_; ((repeat' (first | exact rfl | exact trivial | refine And.intro ?_ ?_ | ((conv => whnf); first | exact rfl | exact trivial | refine And.intro ?_ ?_)))); ((repeat' (first | exact rfl | exact trivial | refine And.intro ?_ ?_ | ((conv => whnf); first | exact rfl | exact trivial | refine And.intro ?_ ?_))); all_goals (conv => whnf); all_goals (try simp only [])))
    have : a ≠ b := fun e => by rw [e] at hh; exact hh rfl
    simp [this]
  · have hl : a.length = b.length := by omega
    refine LoopN.intro hm (X := Nat) (fun i => i ≤ a.length ∧ a.take i = b.take i) (fun i => a.length - i)
      (fun i => [(5, .int .i64 fun _ => (i : Int)), (0, .lst (.int .u64) fun _ => a), (1, .lst (.int .u64) fun _ => b)]) (fun _ => []) 0 [] ⟨rfl, rfl, ?_, ?_⟩ ⟨Nat.zero_le _, rfl⟩ (fun i hi => ?_)
    · (repeat' (first | exact rfl | exact trivial | refine And.intro ?_ ?_ | ((conv => whnf); first | exact rfl | exact trivial | refine And.intro ?_ ?_)))
    · (repeat' (first | exact rfl | exact trivial | refine And.intro ?_ ?_ | ((conv => whnf); first | exact rfl | exact trivial | refine And.intro ?_ ?_)))
    · (repeat' ((conv => whnf); first | refine And.intro ?_ ?_ | exact Cl.mk (by kernel_rfl) | exact trivial | exact rfl | (intro hh; try simp only [decide_eq_true_eq, decide_eq_false_iff_not, beq_iff_eq, beq_eq_false_iff_ne, bne_iff_ne, bne_eq_false_iff_eq, Bool.not_eq_true', Bool.not_eq_false', Bool.not_true, Bool.not_false] at hh))); all_goals (conv => whnf)
      · (refine Ob.mk ?_; (try simp only [Ty.dflt, Nat.zero_add, Nat.add_zero, Int.toNat_natCast, Int.toNat_zero, Int.toNat_one, List.length_take, List.length_drop, List.length_append, List.length_replicate, List.length_cons, List.length_nil, List.length_set, List.length_map, true_and, and_true]); omega)
      · (refine Ob.mk ?_; (try simp only [Ty.dflt, Nat.zero_add, Nat.add_zero, Int.toNat_natCast, Int.toNat_zero, Int.toNat_one, List.length_take, List.length_drop, List.length_append, List.length_replicate, List.length_cons, List.length_nil, List.length_set, List.length_map, true_and, and_true]); omega)
      · have hne : a ≠ b := by rintro rfl; exact hh rfl
        (refine RetN.intro () [] rfl rfl ?_ ?_ ?_; ((repeat' (first | exact rfl | exact trivial | refine And.intro ?_ ?_ | ((conv => whnf); first | exact rfl | exact trivial | refine And.intro ?_ ?_)))); ((repeat' (first | exact rfl | exact trivial | refine And.intro ?_ ?_ | ((conv => whnf); first | exact rfl | exact trivial | refine And.intro ?_ ?_))); all_goals (conv => whnf); all_goals (try simp only [])))
        simp [hne]
      · have hi1 : i < a.length := by omega
        refine ⟨i + 1, [], ⟨rfl, rfl, ?_, ?_⟩, ⟨hi1, ?_⟩, by omega⟩
        · (repeat' (first | exact rfl | exact trivial | refine And.intro ?_ ?_ | ((conv => whnf); first | exact rfl | exact trivial | refine And.intro ?_ ?_)))
        · (repeat' (first | exact rfl | exact trivial | refine And.intro ?_ ?_ | ((conv => whnf); first | exact rfl | exact trivial | refine And.intro ?_ ?_))); all_goals (conv => whnf); all_goals (try simp only [])
          rw [wr (by omega)]; omega
        · simp only [Int.toNat_natCast, Ty.dflt] at hh
          rw [List.getD_eq_getElem?_getD, List.getD_eq_getElem?_getD, List.getElem?_eq_getElem hi1, List.getElem?_eq_getElem (by omega)] at hh
          rw [List.take_add_one, List.take_add_one, hi.2, List.getElem?_eq_getElem hi1, List.getElem?_eq_getElem (by omega)]
          have hh : a[i]'hi1 = b[i]'(by omega) := hh
          simp [hh]
      · have e : i = a.length := by omega
        have hab : a = b := by
          have := hi.2
          rw [e, List.take_length, hl, List.take_length] at this
          exact this
        (refine RetN.intro () [] rfl rfl ?_ ?_ ?_; ((repeat' (first | exact rfl | exact trivial | refine And.intro ?_ ?_ | ((conv => whnf); first | exact rfl | exact trivial | refine And.intro ?_ ?_)))); ((repeat' (first | exact rfl | exact trivial | refine And.intro ?_ ?_ | ((conv => whnf); first | exact rfl | exact trivial | refine And.intro ?_ ?_))); all_goals (conv => whnf); all_goals (try simp only [])))
        simp [hab]
def rtakenTo (s : Ref) : Nat → List Int
  | 0 => [] | i + 1 => rtakenTo s i ++ (if s.taken.getD i false then [rhnd s i] else [])
def rtaken (s : Ref) : List Int := rtakenTo s s.gen.length
theorem rtakenTo_len (s : Ref) : ∀ i, (rtakenTo s i).length ≤ i
  | 0 => Nat.le_refl _
  | i + 1 => by have := rtakenTo_len s i; simp only [rtakenTo, List.length_append]; split <;> simp <;> omega
theorem rlive (s : Ref) {n w : Nat} (ok : ROk s n w) : Meets Try.prog 27 [.ptr 0 0] (rch s) (Y := Unit) (fun _ => True) (fun _ => .lst (.int .i64) fun _ => rtaken s) (fun _ => rch s) := by
  have hg := ok.gen
  have ht := ok.taken
  have hc := ok.cap
  have b1 : Try.t3.bytes = 8 := rfl
  refine Meets.intro hm (fn := Try.f27) Try.func27 rfl (by decide) (Nat.le_of_ble_eq_true rfl) (fun _ => rfl) ?_; intro S hok; (conv => whnf)
  (repeat' ((conv => whnf); first | refine And.intro ?_ ?_ | exact Cl.mk (by kernel_rfl) | exact trivial | exact rfl | (intro hh; try simp only [decide_eq_true_eq, decide_eq_false_iff_not, beq_iff_eq, beq_eq_false_iff_ne, bne_iff_ne, bne_eq_false_iff_eq, Bool.not_eq_true', Bool.not_eq_false', Bool.not_true, Bool.not_false] at hh))); all_goals (conv => whnf)
  refine LoopN.nil 3 (.int .i64) none [3] ?_
  (conv => whnf)
  refine LoopN.intro hm (X := Nat) (fun i => i ≤ n) (fun i => n - i)
      (fun i => [(4, .int .i64 fun _ => (i : Int)), (3, .vec 5 1 (fun _ => 0) fun _ => (rtakenTo s i).length), (0, .ptr 0 0)]) (fun i => rch s ++ [.vect 3 (.int .i64) fun _ => rtakenTo s i]) 0 [0, 1, 2, 3, 4, 5] ⟨rfl, rfl, ?_, ?_⟩ (Nat.zero_le _) (fun i hi => ?_)
  · (repeat' (first | exact rfl | exact trivial | refine And.intro ?_ ?_ | ((conv => whnf); first | exact rfl | exact trivial | refine And.intro ?_ ?_)))
  · (repeat' (first | exact rfl | exact trivial | refine And.intro ?_ ?_ | ((conv => whnf); first | exact rfl | exact trivial | refine And.intro ?_ ?_)))
  · have hrl := rtakenTo_len s i
    (repeat' ((conv => whnf); first | refine And.intro ?_ ?_ | exact Cl.mk (by kernel_rfl) | exact trivial | exact rfl | (intro hh; try simp only [decide_eq_true_eq, decide_eq_false_iff_not, beq_iff_eq, beq_eq_false_iff_ne, bne_iff_ne, bne_eq_false_iff_eq, Bool.not_eq_true', Bool.not_eq_false', Bool.not_true, Bool.not_false] at hh))); all_goals (conv => whnf)
    · (refine Ob.mk ?_; (try simp only [Ty.dflt, Nat.zero_add, Nat.add_zero, Int.toNat_natCast, Int.toNat_zero, Int.toNat_one, List.length_take, List.length_drop, List.length_append, List.length_replicate, List.length_cons, List.length_nil, List.length_set, List.length_map, true_and, and_true]); omega)
    · (refine Ob.mk ?_; (try simp only [Ty.dflt, Nat.zero_add, Nat.add_zero, Int.toNat_natCast, Int.toNat_zero, Int.toNat_one, List.length_take, List.length_drop, List.length_append, List.length_replicate, List.length_cons, List.length_nil, List.length_set, List.length_map, true_and, and_true]); omega)
    · (refine Ob.mk ?_; (try simp only [Ty.dflt, Nat.zero_add, Nat.add_zero, Int.toNat_natCast, Int.toNat_zero, Int.toNat_one, List.length_take, List.length_drop, List.length_append, List.length_replicate, List.length_cons, List.length_nil, List.length_set, List.length_map, true_and, and_true, b1]); omega)
    · have hi1 : i < n := by omega
      refine ⟨i + 1, [0, 1, 2, 3, 4, 5], ⟨rfl, rfl, ?_, ?_⟩, hi1, by omega⟩
      · (repeat' (first | exact rfl | exact trivial | refine And.intro ?_ ?_ | ((conv => whnf); first | exact rfl | exact trivial | refine And.intro ?_ ?_))); all_goals (conv => whnf); all_goals (try simp only [])
        all_goals (simp only [Nat.zero_add, Int.toNat_natCast, Ty.dflt, List.getD_eq_getElem?_getD] at hh ⊢)
        all_goals simp [rtakenTo, hh, rhnd]
      · (repeat' (first | exact rfl | exact trivial | refine And.intro ?_ ?_ | ((conv => whnf); first | exact rfl | exact trivial | refine And.intro ?_ ?_))); all_goals (conv => whnf); all_goals (try simp only [])
        · exact wr1 i hi1 (by omega)
        · simp only [Nat.zero_add, Int.toNat_natCast, Ty.dflt, List.getD_eq_getElem?_getD] at hh ⊢
          simp [rtakenTo, hh]
    · have hi1 : i < n := by omega
      simp only [Nat.zero_add, Int.toNat_natCast, Ty.dflt, List.getD_eq_getElem?_getD] at hh
      have e : rtakenTo s (i + 1) = rtakenTo s i := by simp [rtakenTo, hh]
      refine ⟨i + 1, [0, 1, 2, 3, 4, 5], ⟨rfl, rfl, ?_, ?_⟩, hi1, by omega⟩
      · (repeat' (first | exact rfl | exact trivial | refine And.intro ?_ ?_ | ((conv => whnf); first | exact rfl | exact trivial | refine And.intro ?_ ?_))); all_goals (conv => whnf); all_goals (try simp only [])
        all_goals rw [e]
      · (repeat' (first | exact rfl | exact trivial | refine And.intro ?_ ?_ | ((conv => whnf); first | exact rfl | exact trivial | refine And.intro ?_ ?_))); all_goals (conv => whnf); all_goals (try simp only [])
        · exact wr1 i hi1 (by omega)
        · rw [e]
    · have e : i = s.gen.length := by omega
      (refine RetN.frz 5 ?_; (conv => whnf))
      (refine RetN.intro () [0, 1, 2, 3, 4] rfl rfl ?_ ?_ ?_; ((repeat' (first | exact rfl | exact trivial | refine And.intro ?_ ?_ | ((conv => whnf); first | exact rfl | exact trivial | refine And.intro ?_ ?_)))); ((repeat' (first | exact rfl | exact trivial | refine And.intro ?_ ?_ | ((conv => whnf); first | exact rfl | exact trivial | refine And.intro ?_ ?_))); all_goals (conv => whnf); all_goals (try simp only [])))
      simp [rtaken, e]
def rnewS (c w : Nat) : Ref := { gen := List.replicate c 0, taken := List.replicate c false, words := List.replicate c (List.replicate w 0), row := (List.range c).map fun j : Nat => (j : Int) }
theorem rnew (c w : Nat) (hc : 1 ≤ c ∧ c ≤ 64) (hw : w ≤ 32) : Meets Try.prog 12 [.int .i64 fun _ => (c : Int), .int .i64 fun _ => (w : Int)] [] (Y := Unit) (fun _ => True)
    (fun _ => .tup [.ptr 0 0, .int .i64 fun _ => 0]) (fun _ => rch (rnewS c w)) := by
  have b1 : Try.t3.bytes = 8 := rfl
  have b2 : Try.t4.bytes = 1 := rfl
  have b3 : Try.t33.bytes = 24 := rfl
  have b4 : Try.t49.bytes = 8 := rfl
  refine Meets.intro hm (fn := Try.f12) Try.func12 rfl (by decide) (Nat.le_of_ble_eq_true rfl) (fun _ => rfl) ?_; intro S hok; (conv => whnf)
  (repeat' ((conv => whnf); first | refine And.intro ?_ ?_ | exact Cl.mk (by kernel_rfl) | exact trivial | exact rfl | (intro hh; try simp only [decide_eq_true_eq, decide_eq_false_iff_not, beq_iff_eq, beq_eq_false_iff_ne, bne_iff_ne, bne_eq_false_iff_eq, Bool.not_eq_true', Bool.not_eq_false', Bool.not_true, Bool.not_false] at hh))); all_goals (conv => whnf)
  all_goals first | (exfalso; omega) | skip
  refine LoopN.nil 3 (.int .i64) (some (0, 0)) [] ?_
  (conv => whnf)
  refine LoopN.nil 4 .bool (some (0, 1)) [] ?_
  (conv => whnf)
  refine LoopN.nil 33 (.list (.int .u64)) (some (0, 2)) [] ?_
  (conv => whnf)
  refine LoopN.nil 3 (.int .i64) (some (0, 3)) [] ?_
  (conv => whnf)
  refine LoopN.intro hm (X := Nat) (fun i => i ≤ c) (fun i => c - i)
      (fun i => [(7, .int .i64 fun _ => (i : Int)), (6, .ptr 0 0), (0, .int .i64 fun _ => (c : Int)), (1, .int .i64 fun _ => (w : Int))]) (fun i => rch (rnewS i w)) 0 [0, 1, 2, 3, 4] ⟨rfl, rfl, ?_, ?_⟩ (Nat.zero_le _) (fun i hi => ?_)
  · (repeat' (first | exact rfl | exact trivial | refine And.intro ?_ ?_ | ((conv => whnf); first | exact rfl | exact trivial | refine And.intro ?_ ?_))); all_goals (conv => whnf); all_goals (try simp only [])
    all_goals simp [rnewS]
  · (repeat' (first | exact rfl | exact trivial | refine And.intro ?_ ?_ | ((conv => whnf); first | exact rfl | exact trivial | refine And.intro ?_ ?_)))
  · have e1 : (rnewS i w).gen.length = i := by simp [rnewS]
    have e2 : (rnewS i w).taken.length = i := by simp [rnewS]
    have e3 : (rnewS i w).words.length = i := by simp [rnewS]
    have e4 : (rnewS i w).row.length = i := by simp [rnewS]
    have e5 := wr1 i (n := 65) (by omega)
    (repeat' ((conv => whnf); first | refine And.intro ?_ ?_ | exact Cl.mk (by kernel_rfl) | exact trivial | exact rfl | (intro hh; try simp only [decide_eq_true_eq, decide_eq_false_iff_not, beq_iff_eq, beq_eq_false_iff_ne, bne_iff_ne, bne_eq_false_iff_eq, Bool.not_eq_true', Bool.not_eq_false', Bool.not_true, Bool.not_false] at hh))); all_goals (conv => whnf)
    all_goals try (refine Ob.mk ?_; (try simp only [Ty.dflt, Nat.zero_add, Nat.add_zero, Int.toNat_natCast, Int.toNat_zero, Int.toNat_one, List.length_take, List.length_drop, List.length_append, List.length_replicate, List.length_cons, List.length_nil, List.length_set, List.length_map, true_and, and_true, b1, b2, b3, b4, e1, e2, e3, e4]); omega)
    · refine ⟨i + 1, [0, 1, 2, 3, 4], ⟨rfl, rfl, ?_, ?_⟩, by omega, by omega⟩
      · (repeat' (first | exact rfl | exact trivial | refine And.intro ?_ ?_ | ((conv => whnf); first | exact rfl | exact trivial | refine And.intro ?_ ?_))); all_goals (conv => whnf); all_goals (try simp only [])
        all_goals simp [rnewS, List.replicate_succ', List.range_succ]
        rw [List.take_of_length_le (by simp)]
      · (repeat' (first | exact rfl | exact trivial | refine And.intro ?_ ?_ | ((conv => whnf); first | exact rfl | exact trivial | refine And.intro ?_ ?_))); all_goals (conv => whnf); all_goals (try simp only [])
        exact wr1 i (n := c) (by omega) (by omega)
    · have e : i = c := by omega
      subst e
      (refine RetN.intro () [0, 1, 2, 3, 4] rfl rfl ?_ ?_ ?_; ((repeat' (first | exact rfl | exact trivial | refine And.intro ?_ ?_ | ((conv => whnf); first | exact rfl | exact trivial | refine And.intro ?_ ?_)))); ((repeat' (first | exact rfl | exact trivial | refine And.intro ?_ ?_ | ((conv => whnf); first | exact rfl | exact trivial | refine And.intro ?_ ?_))); all_goals (conv => whnf); all_goals (try simp only [])))
theorem rnewBad (c w : Int) (h : c < 1 ∨ 64 < c ∨ w < 0 ∨ 32 < w) : Meets Try.prog 12 [.int .i64 fun _ => c, .int .i64 fun _ => w] [] (Y := Unit) (fun _ => True)
    (fun _ => .tup [.pnil, .int .i64 fun _ => 1]) (fun _ => []) := by
  refine Meets.intro hm (fn := Try.f12) Try.func12 rfl (by decide) (Nat.le_of_ble_eq_true rfl) (fun _ => rfl) ?_; intro S hok; (conv => whnf)
  (repeat' ((conv => whnf); first | refine And.intro ?_ ?_ | exact Cl.mk (by kernel_rfl) | exact trivial | exact rfl | (intro hh; try simp only [decide_eq_true_eq, decide_eq_false_iff_not, beq_iff_eq, beq_eq_false_iff_ne, bne_iff_ne, bne_eq_false_iff_eq, Bool.not_eq_true', Bool.not_eq_false', Bool.not_true, Bool.not_false] at hh))); all_goals (conv => whnf)
  all_goals first | (exfalso; omega) | skip
  all_goals (refine RetN.intro () [] rfl rfl ?_ ?_ ?_; ((repeat' (first | exact rfl | exact trivial | refine And.intro ?_ ?_ | ((conv => whnf); first | exact rfl | exact trivial | refine And.intro ?_ ?_)))); ((repeat' (first | exact rfl | exact trivial | refine And.intro ?_ ?_ | ((conv => whnf); first | exact rfl | exact trivial | refine And.intro ?_ ?_))); all_goals (conv => whnf); all_goals (try simp only [])))
abbrev OpT : Ty := .pair (.int .i64) (.pair (.int .i64) (.pair .bool (.list (.int .u64))))
theorem fewM (l : List (Int × Int × Bool × List Int)) : Meets Try.prog 9 [.lst OpT fun _ => l] [] (Y := Unit) (fun _ => True)
    (fun _ => .bool fun _ => decide (l.length ≤ 60) && l.all fun o => decide (o.2.2.2.length ≤ 40)) (fun _ => []) := by
  refine Meets.intro hm (fn := Try.f9) Try.func9 rfl (by decide) (Nat.le_of_ble_eq_true rfl) (fun _ => rfl) ?_; intro S hok; (conv => whnf)
  (repeat' ((conv => whnf); first | refine And.intro ?_ ?_ | exact Cl.mk (by kernel_rfl) | exact trivial | exact rfl | (intro hh; try simp only [decide_eq_true_eq, decide_eq_false_iff_not, beq_iff_eq, beq_eq_false_iff_ne, bne_iff_ne, bne_eq_false_iff_eq, Bool.not_eq_true', Bool.not_eq_false', Bool.not_true, Bool.not_false] at hh))); all_goals (conv => whnf)
  · (refine RetN.intro () [] rfl rfl ?_ ?_ ?_; ((repeat' (first | exact rfl | exact trivial | refine And.intro ?_ ?_ | ((conv => whnf); first | exact rfl | exact trivial | refine And.intro ?_ ?_)))); ((repeat' (first | exact rfl | exact trivial | refine And.intro ?_ ?_ | ((conv => whnf); first | exact rfl | exact trivial | refine And.intro ?_ ?_))); all_goals (conv => whnf); all_goals (try simp only [])))
    simp; omega
  · refine LoopN.intro hm (X := Nat) (fun i => i ≤ l.length ∧ (l.take i).all (fun o => decide (o.2.2.2.length ≤ 40)) = true) (fun i => l.length - i)
      (fun i => [(3, .int .i64 fun _ => (i : Int)), (0, .lst OpT fun _ => l)]) (fun i => []) 0 [] ⟨rfl, rfl, ?_, ?_⟩ ⟨Nat.zero_le _, rfl⟩ (fun i hi => ?_)
    · (repeat' (first | exact rfl | exact trivial | refine And.intro ?_ ?_ | ((conv => whnf); first | exact rfl | exact trivial | refine And.intro ?_ ?_)))
    · (repeat' (first | exact rfl | exact trivial | refine And.intro ?_ ?_ | ((conv => whnf); first | exact rfl | exact trivial | refine And.intro ?_ ?_)))
    · (repeat' ((conv => whnf); first | refine And.intro ?_ ?_ | exact Cl.mk (by kernel_rfl) | exact trivial | exact rfl | (intro hh; try simp only [decide_eq_true_eq, decide_eq_false_iff_not, beq_iff_eq, beq_eq_false_iff_ne, bne_iff_ne, bne_eq_false_iff_eq, Bool.not_eq_true', Bool.not_eq_false', Bool.not_true, Bool.not_false] at hh))); all_goals (conv => whnf)
      · (refine Ob.mk ?_; (try simp only [Ty.dflt, Nat.zero_add, Nat.add_zero, Int.toNat_natCast, Int.toNat_zero, Int.toNat_one, List.length_take, List.length_drop, List.length_append, List.length_replicate, List.length_cons, List.length_nil, List.length_set, List.length_map, true_and, and_true]); omega)
      · have hi1 : i < l.length := by omega
        simp only [Int.toNat_natCast] at hh
        rw [List.getD_eq_getElem?_getD, List.getElem?_eq_getElem hi1] at hh
        (refine RetN.intro () [] rfl rfl ?_ ?_ ?_; ((repeat' (first | exact rfl | exact trivial | refine And.intro ?_ ?_ | ((conv => whnf); first | exact rfl | exact trivial | refine And.intro ?_ ?_)))); ((repeat' (first | exact rfl | exact trivial | refine And.intro ?_ ?_ | ((conv => whnf); first | exact rfl | exact trivial | refine And.intro ?_ ?_))); all_goals (conv => whnf); all_goals (try simp only [])))
        have : l.all (fun o => decide (o.2.2.2.length ≤ 40)) = false := by
          rw [List.all_eq_false]
          exact ⟨_, List.getElem_mem hi1, by simp only [decide_eq_true_eq]; simp only [Option.getD_some] at hh; omega⟩
        simp [this]
      · have hi1 : i < l.length := by omega
        simp only [Int.toNat_natCast] at hh
        rw [List.getD_eq_getElem?_getD, List.getElem?_eq_getElem hi1] at hh
        simp only [Option.getD_some] at hh
        refine ⟨i + 1, [], ⟨rfl, rfl, ?_, ?_⟩, ⟨hi1, ?_⟩, by omega⟩
        · (repeat' (first | exact rfl | exact trivial | refine And.intro ?_ ?_ | ((conv => whnf); first | exact rfl | exact trivial | refine And.intro ?_ ?_)))
        · (repeat' (first | exact rfl | exact trivial | refine And.intro ?_ ?_ | ((conv => whnf); first | exact rfl | exact trivial | refine And.intro ?_ ?_))); all_goals (conv => whnf); all_goals (try simp only [])
          exact wr1 i (n := 60) (by omega) (by omega)
        · rw [List.take_add_one, List.all_append, hi.2, List.getElem?_eq_getElem hi1]
          simp; omega
      · have e : i = l.length := by omega
        have := hi.2
        rw [e, List.take_length] at this
        (refine RetN.intro () [] rfl rfl ?_ ?_ ?_; ((repeat' (first | exact rfl | exact trivial | refine And.intro ?_ ?_ | ((conv => whnf); first | exact rfl | exact trivial | refine And.intro ?_ ?_)))); ((repeat' (first | exact rfl | exact trivial | refine And.intro ?_ ?_ | ((conv => whnf); first | exact rfl | exact trivial | refine And.intro ?_ ?_))); all_goals (conv => whnf); all_goals (try simp only [])))
        simp only [this]
        simp; omega
theorem opOf (d h : Int) (own : Bool) (w : List Int) (l : List Int) (hl : l.length ≤ 1000) : Meets Try.prog 13 [.agg [.int .i64 fun _ => d, .int .i64 fun _ => h, .bool fun _ => own, .lst (.int .u64) fun _ => w], .lst (.int .i64) fun _ => l] [] (Y := Unit) (fun _ => True)
    (fun _ => .int .i64 fun _ => if own = true ∧ 0 ≤ h ∧ h < l.length then l.getD (l.length - 1 - h.toNat) 0 else h) (fun _ => []) := by
  refine Meets.intro hm (fn := Try.f13) Try.func13 rfl (by decide) (Nat.le_of_ble_eq_true rfl) (fun _ => rfl) ?_; intro S hok; (conv => whnf)
  (repeat' ((conv => whnf); first | refine And.intro ?_ ?_ | exact Cl.mk (by kernel_rfl) | exact trivial | exact rfl | (intro hh; try simp only [decide_eq_true_eq, decide_eq_false_iff_not, beq_iff_eq, beq_eq_false_iff_ne, bne_iff_ne, bne_eq_false_iff_eq, Bool.not_eq_true', Bool.not_eq_false', Bool.not_true, Bool.not_false] at hh))); all_goals (conv => whnf)
  · refine Ob.mk ?_
    simp only []
    rw [wr (x := (l.length : Int) - 1) (by omega), wr (by omega)]; omega
  · (refine RetN.intro () [] rfl rfl ?_ ?_ ?_; ((repeat' (first | exact rfl | exact trivial | refine And.intro ?_ ?_ | ((conv => whnf); first | exact rfl | exact trivial | refine And.intro ?_ ?_)))); ((repeat' (first | exact rfl | exact trivial | refine And.intro ?_ ?_ | ((conv => whnf); first | exact rfl | exact trivial | refine And.intro ?_ ?_))); all_goals (conv => whnf); all_goals (try simp only [])))
    rw [wr (x := (l.length : Int) - 1) (by omega), wr (by omega), if_pos ⟨‹_›, ‹_›, ‹_›⟩]
    congr 1; omega
  · (refine RetN.intro () [] rfl rfl ?_ ?_ ?_; ((repeat' (first | exact rfl | exact trivial | refine And.intro ?_ ?_ | ((conv => whnf); first | exact rfl | exact trivial | refine And.intro ?_ ?_)))); ((repeat' (first | exact rfl | exact trivial | refine And.intro ?_ ?_ | ((conv => whnf); first | exact rfl | exact trivial | refine And.intro ?_ ?_))); all_goals (conv => whnf); all_goals (try simp only [])))
    rw [if_neg (fun h => hh h.2.2)]
  · (refine RetN.intro () [] rfl rfl ?_ ?_ ?_; ((repeat' (first | exact rfl | exact trivial | refine And.intro ?_ ?_ | ((conv => whnf); first | exact rfl | exact trivial | refine And.intro ?_ ?_)))); ((repeat' (first | exact rfl | exact trivial | refine And.intro ?_ ?_ | ((conv => whnf); first | exact rfl | exact trivial | refine And.intro ?_ ?_))); all_goals (conv => whnf); all_goals (try simp only [])))
    rw [if_neg (fun h => hh h.2.1)]
  · (refine RetN.intro () [] rfl rfl ?_ ?_ ?_; ((repeat' (first | exact rfl | exact trivial | refine And.intro ?_ ?_ | ((conv => whnf); first | exact rfl | exact trivial | refine And.intro ?_ ?_)))); ((repeat' (first | exact rfl | exact trivial | refine And.intro ?_ ?_ | ((conv => whnf); first | exact rfl | exact trivial | refine And.intro ?_ ?_))); all_goals (conv => whnf); all_goals (try simp only [])))
    rw [if_neg (fun h => by rw [hh] at h; cases h.1)]
end Go.Proofs.Ytadmgicmmnbdcaa.Sl
set_option linter.unusedVariables false
set_option linter.unusedSimpArgs false
namespace Go.Proofs.Ytadmgicmmnbdcaa.Sl
open Go Go.RowKit Fw
theorem goodNil (h : Int) : Meets Try.prog 30 [.pnil, .int .i64 fun _ => h] [] (Y := Unit) (fun _ => True) (fun _ => .tup [.int .i64 fun _ => -1, .ff]) (fun _ => []) := by
  refine Meets.intro hm (fn := Try.f30) Try.func30 rfl (by decide) (Nat.le_of_ble_eq_true rfl) (fun _ => rfl) ?_; intro S hok; (conv => whnf)
  (repeat' ((conv => whnf); first | refine And.intro ?_ ?_ | exact Cl.mk (by kernel_rfl) | exact trivial | exact rfl | (intro hh; try simp only [decide_eq_true_eq, decide_eq_false_iff_not, beq_iff_eq, beq_eq_false_iff_ne, bne_iff_ne, bne_eq_false_iff_eq, Bool.not_eq_true', Bool.not_eq_false', Bool.not_true, Bool.not_false] at hh))); all_goals (conv => whnf)
  · (refine RetN.intro () [] rfl rfl ?_ ?_ ?_; ((repeat' (first | exact rfl | exact trivial | refine And.intro ?_ ?_ | ((conv => whnf); first | exact rfl | exact trivial | refine And.intro ?_ ?_)))); ((repeat' (first | exact rfl | exact trivial | refine And.intro ?_ ?_ | ((conv => whnf); first | exact rfl | exact trivial | refine And.intro ?_ ?_))); all_goals (conv => whnf); all_goals (try simp only [])))
theorem giveNil (h : Int) : Meets Try.prog 16 [.pnil, .int .i64 fun _ => h] [] (Y := Unit) (fun _ => True) (fun _ => .int .i64 fun _ => 6) (fun _ => []) := by
  refine Meets.intro hm (fn := Try.f16) Try.func16 rfl (by decide) (Nat.le_of_ble_eq_true rfl) (fun _ => rfl) ?_; intro S hok; (conv => whnf)
  (repeat' ((conv => whnf); first | refine And.intro ?_ ?_ | exact Cl.mk (by kernel_rfl) | exact trivial | exact rfl | (intro hh; try simp only [decide_eq_true_eq, decide_eq_false_iff_not, beq_iff_eq, beq_eq_false_iff_ne, bne_iff_ne, bne_eq_false_iff_eq, Bool.not_eq_true', Bool.not_eq_false', Bool.not_true, Bool.not_false] at hh))); all_goals (conv => whnf)
  · (refine CallN.intro (goodNil h) [] rfl rfl ?_ ?_ ?_; ((repeat' (first | exact rfl | exact trivial | refine And.intro ?_ ?_ | ((conv => whnf); first | exact rfl | exact trivial | refine And.intro ?_ ?_)))); ((repeat' (first | exact rfl | exact trivial | refine And.intro ?_ ?_ | ((conv => whnf); first | exact rfl | exact trivial | refine And.intro ?_ ?_)))); (intro y hy; (repeat' ((conv => whnf); first | refine And.intro ?_ ?_ | exact Cl.mk (by kernel_rfl) | exact trivial | exact rfl | (intro hh; try simp only [decide_eq_true_eq, decide_eq_false_iff_not, beq_iff_eq, beq_eq_false_iff_ne, bne_iff_ne, bne_eq_false_iff_eq, Bool.not_eq_true', Bool.not_eq_false', Bool.not_true, Bool.not_false] at hh))); all_goals (conv => whnf)))
    (refine RetN.intro () [] rfl rfl ?_ ?_ ?_; ((repeat' (first | exact rfl | exact trivial | refine And.intro ?_ ?_ | ((conv => whnf); first | exact rfl | exact trivial | refine And.intro ?_ ?_)))); ((repeat' (first | exact rfl | exact trivial | refine And.intro ?_ ?_ | ((conv => whnf); first | exact rfl | exact trivial | refine And.intro ?_ ?_))); all_goals (conv => whnf); all_goals (try simp only [])))
theorem readNil (h : Int) : Meets Try.prog 18 [.pnil, .int .i64 fun _ => h] [] (Y := Unit) (fun _ => True) (fun _ => .tup [.snil, .int .i64 fun _ => 6]) (fun _ => []) := by
  refine Meets.intro hm (fn := Try.f18) Try.func18 rfl (by decide) (Nat.le_of_ble_eq_true rfl) (fun _ => rfl) ?_; intro S hok; (conv => whnf)
  (repeat' ((conv => whnf); first | refine And.intro ?_ ?_ | exact Cl.mk (by kernel_rfl) | exact trivial | exact rfl | (intro hh; try simp only [decide_eq_true_eq, decide_eq_false_iff_not, beq_iff_eq, beq_eq_false_iff_ne, bne_iff_ne, bne_eq_false_iff_eq, Bool.not_eq_true', Bool.not_eq_false', Bool.not_true, Bool.not_false] at hh))); all_goals (conv => whnf)
  · (refine CallN.intro (goodNil h) [] rfl rfl ?_ ?_ ?_; ((repeat' (first | exact rfl | exact trivial | refine And.intro ?_ ?_ | ((conv => whnf); first | exact rfl | exact trivial | refine And.intro ?_ ?_)))); ((repeat' (first | exact rfl | exact trivial | refine And.intro ?_ ?_ | ((conv => whnf); first | exact rfl | exact trivial | refine And.intro ?_ ?_)))); (intro y hy; (repeat' ((conv => whnf); first | refine And.intro ?_ ?_ | exact Cl.mk (by kernel_rfl) | exact trivial | exact rfl | (intro hh; try simp only [decide_eq_true_eq, decide_eq_false_iff_not, beq_iff_eq, beq_eq_false_iff_ne, bne_iff_ne, bne_eq_false_iff_eq, Bool.not_eq_true', Bool.not_eq_false', Bool.not_true, Bool.not_false] at hh))); all_goals (conv => whnf)))
    (refine RetN.intro () [] rfl rfl ?_ ?_ ?_; ((repeat' (first | exact rfl | exact trivial | refine And.intro ?_ ?_ | ((conv => whnf); first | exact rfl | exact trivial | refine And.intro ?_ ?_)))); ((repeat' (first | exact rfl | exact trivial | refine And.intro ?_ ?_ | ((conv => whnf); first | exact rfl | exact trivial | refine And.intro ?_ ?_))); all_goals (conv => whnf); all_goals (try simp only [])))
theorem writeNil (h : Int) (xs : List Int) : Meets Try.prog 21 [.pnil, .int .i64 fun _ => h, .lst (.int .u64) fun _ => xs] [] (Y := Unit) (fun _ => True) (fun _ => .int .i64 fun _ => 6) (fun _ => []) := by
  refine Meets.intro hm (fn := Try.f21) Try.func21 rfl (by decide) (Nat.le_of_ble_eq_true rfl) (fun _ => rfl) ?_; intro S hok; (conv => whnf)
  (repeat' ((conv => whnf); first | refine And.intro ?_ ?_ | exact Cl.mk (by kernel_rfl) | exact trivial | exact rfl | (intro hh; try simp only [decide_eq_true_eq, decide_eq_false_iff_not, beq_iff_eq, beq_eq_false_iff_ne, bne_iff_ne, bne_eq_false_iff_eq, Bool.not_eq_true', Bool.not_eq_false', Bool.not_true, Bool.not_false] at hh))); all_goals (conv => whnf)
  · (refine CallN.intro (goodNil h) [] rfl rfl ?_ ?_ ?_; ((repeat' (first | exact rfl | exact trivial | refine And.intro ?_ ?_ | ((conv => whnf); first | exact rfl | exact trivial | refine And.intro ?_ ?_)))); ((repeat' (first | exact rfl | exact trivial | refine And.intro ?_ ?_ | ((conv => whnf); first | exact rfl | exact trivial | refine And.intro ?_ ?_)))); (intro y hy; (repeat' ((conv => whnf); first | refine And.intro ?_ ?_ | exact Cl.mk (by kernel_rfl) | exact trivial | exact rfl | (intro hh; try simp only [decide_eq_true_eq, decide_eq_false_iff_not, beq_iff_eq, beq_eq_false_iff_ne, bne_iff_ne, bne_eq_false_iff_eq, Bool.not_eq_true', Bool.not_eq_false', Bool.not_true, Bool.not_false] at hh))); all_goals (conv => whnf)))
    (refine RetN.intro () [] rfl rfl ?_ ?_ ?_; ((repeat' (first | exact rfl | exact trivial | refine And.intro ?_ ?_ | ((conv => whnf); first | exact rfl | exact trivial | refine And.intro ?_ ?_)))); ((repeat' (first | exact rfl | exact trivial | refine And.intro ?_ ?_ | ((conv => whnf); first | exact rfl | exact trivial | refine And.intro ?_ ?_))); all_goals (conv => whnf); all_goals (try simp only [])))
/-! ### What is kept -/
theorem Ok.new {c w : Nat} (hc : 1 ≤ c ∧ c ≤ 64) (hw : w ≤ 32) : Ok (newS c w) c := by
  refine ⟨by simp [newS, cellsI_len], hc, ⟨by simp [newS], by simp only [newS]; omega⟩, by simp [newS], ⟨by simp [newS], by simp only [newS]; omega⟩, fun i d hd => ?_⟩
  simp only [newS] at hd
  rw [List.getElem?_set] at hd
  split at hd
  · split at hd
    · cases hd; exact ⟨by simp, by simp only []; omega⟩
    · cases hd
  · rename_i hne
    simp only [cellsI, List.getElem?_map] at hd
    cases hr : (List.range c)[i]? with
    | none => rw [hr] at hd; cases hd
    | some j =>
      rw [hr] at hd
      have hj := (List.getElem?_eq_some_iff.1 hr)
      obtain ⟨h1, h2⟩ := hj
      simp at h1 h2
      simp only [Option.map_some, Option.some.injEq] at hd
      subst hd
      subst h2
      simp only [h1, if_true]
      omega
theorem Ok.take {s : Slab} {n : Nat} (h : Ok s n) (hf : s.first ≠ -1) : Ok (takeS s) n := by
  have h0 : 0 ≤ s.first ∧ s.first < n := by have := h.first; omega
  have h1 := h.at_ h0
  have h2 := h.each
  have h3 := h.words
  exact ⟨by simpa [takeS] using h.len, h.cap, h.each, by simp only [takeS, List.length_append, List.length_take, List.length_drop, List.length_replicate]; omega, cell_next h _, set_next h _ (fun c hc => by subst hc; exact cell_next h _)⟩
theorem Ok.give {s : Slab} {n : Nat} (h : Ok s n) {i : Nat} (hi : i < n) : Ok (giveS s i) n :=
  ⟨by simpa [giveS] using h.len, h.cap, h.each, h.words, ⟨by simp only [giveS]; omega, by simp only [giveS]; omega⟩, set_next h _ (fun c hc => by subst hc; exact h.first)⟩
theorem Ok.write {s : Slab} {n : Nat} (h : Ok s n) {i : Int} {xs : List Int} (hi : 0 ≤ i ∧ i < n) (hx : (xs.length : Int) = s.each) : Ok (writeS s i xs) n := by
  have h1 := h.at_ hi
  have h2 := h.each
  have h3 := h.words
  exact ⟨h.len, h.cap, h.each, by simp only [writeS, List.length_append, List.length_take, List.length_drop]; omega, h.first, h.next⟩
/-! ### The law's 'live' -/
def l0 : Slab := ⟨[(0, false, 1), (0, false, -1)], [0, 0], 1, 0, 2⟩
theorem l0_eq : newS 2 1 = l0 := by rfl
theorem ok0 : Ok l0 2 := l0_eq ▸ Ok.new (by decide) (by decide)
def l1 : Slab := takeS l0
def l2 : Slab := writeS l1 0 [7]
def l3 : Slab := giveS l2 0
def l4 : Slab := takeS l3
def l5 : Slab := takeS l4
theorem ok1 : Ok l1 2 := ok0.take (by decide)
theorem ok2 : Ok l2 2 := ok1.write (by decide) (by decide)
theorem ok3 : Ok l3 2 := ok2.give (by decide)
theorem ok4 : Ok l4 2 := ok3.take (by decide)
theorem ok5 : Ok l5 2 := ok4.take (by decide)
theorem lawLive : Meets Try.prog 10 [] [] (Y := Unit) (fun _ => True) (fun _ => .tt) (fun _ => []) := by
  refine Meets.intro hm (fn := Try.f10) Try.func10 rfl (by decide) (Nat.le_of_ble_eq_true rfl) (fun _ => rfl) ?_; intro S hok; (conv => whnf)
  (repeat' ((conv => whnf); first | refine And.intro ?_ ?_ | exact Cl.mk (by kernel_rfl) | exact trivial | exact rfl | (intro hh; try simp only [decide_eq_true_eq, decide_eq_false_iff_not, beq_iff_eq, beq_eq_false_iff_ne, bne_iff_ne, bne_eq_false_iff_eq, Bool.not_eq_true', Bool.not_eq_false', Bool.not_true, Bool.not_false] at hh))); all_goals (conv => whnf)
  (refine CallN.intro (newM 2 1 (by decide) (by decide)) [] rfl rfl ?_ ?_ ?_; ((repeat' (first | exact rfl | exact trivial | refine And.intro ?_ ?_ | ((conv => whnf); first | exact rfl | exact trivial | refine And.intro ?_ ?_)))); ((repeat' (first | exact rfl | exact trivial | refine And.intro ?_ ?_ | ((conv => whnf); first | exact rfl | exact trivial | refine And.intro ?_ ?_)))); (intro y hy; clear y hy; (repeat' ((conv => whnf); first | refine And.intro ?_ ?_ | exact Cl.mk (by kernel_rfl) | exact trivial | exact rfl | (intro hh; try simp only [decide_eq_true_eq, decide_eq_false_iff_not, beq_iff_eq, beq_eq_false_iff_ne, bne_iff_ne, bne_eq_false_iff_eq, Bool.not_eq_true', Bool.not_eq_false', Bool.not_true, Bool.not_false] at hh))); all_goals (conv => whnf); (all_goals first | (exact absurd hh (by decide)) | (exact Ob.mk (by decide)) | skip); all_goals (try clear hh)))
  (refine CallN.intro (newBad 0 1 (by decide)) [] rfl rfl ?_ ?_ ?_; ((repeat' (first | exact rfl | exact trivial | refine And.intro ?_ ?_ | ((conv => whnf); first | exact rfl | exact trivial | refine And.intro ?_ ?_)))); ((repeat' (first | exact rfl | exact trivial | refine And.intro ?_ ?_ | ((conv => whnf); first | exact rfl | exact trivial | refine And.intro ?_ ?_)))); (intro y hy; clear y hy; (repeat' ((conv => whnf); first | refine And.intro ?_ ?_ | exact Cl.mk (by kernel_rfl) | exact trivial | exact rfl | (intro hh; try simp only [decide_eq_true_eq, decide_eq_false_iff_not, beq_iff_eq, beq_eq_false_iff_ne, bne_iff_ne, bne_eq_false_iff_eq, Bool.not_eq_true', Bool.not_eq_false', Bool.not_true, Bool.not_false] at hh))); all_goals (conv => whnf); (all_goals first | (exact absurd hh (by decide)) | (exact Ob.mk (by decide)) | skip); all_goals (try clear hh)))
  (refine CallN.intro (takeM l0 2 ok0 (by decide)) [0, 1, 2] rfl rfl ?_ ?_ ?_; ((repeat' (first | exact rfl | exact trivial | refine And.intro ?_ ?_ | ((conv => whnf); first | exact rfl | exact trivial | refine And.intro ?_ ?_)))); ((repeat' (first | exact rfl | exact trivial | refine And.intro ?_ ?_ | ((conv => whnf); first | exact rfl | exact trivial | refine And.intro ?_ ?_)))); (intro y hy; clear y hy; (repeat' ((conv => whnf); first | refine And.intro ?_ ?_ | exact Cl.mk (by kernel_rfl) | exact trivial | exact rfl | (intro hh; try simp only [decide_eq_true_eq, decide_eq_false_iff_not, beq_iff_eq, beq_eq_false_iff_ne, bne_iff_ne, bne_eq_false_iff_eq, Bool.not_eq_true', Bool.not_eq_false', Bool.not_true, Bool.not_false] at hh))); all_goals (conv => whnf); (all_goals first | (exact absurd hh (by decide)) | (exact Ob.mk (by decide)) | skip); all_goals (try clear hh)))
  refine CallN.frz 3 ?_ (writeM l1 2 ok1 0 [7]).callable
  (conv => whnf)
  (refine CallN.intro (writeM l1 2 ok1 0 [7]) [0, 1, 2] rfl rfl ?_ ?_ ?_; ((repeat' (first | exact rfl | exact trivial | refine And.intro ?_ ?_ | ((conv => whnf); first | exact rfl | exact trivial | refine And.intro ?_ ?_)))); ((repeat' (first | exact rfl | exact trivial | refine And.intro ?_ ?_ | ((conv => whnf); first | exact rfl | exact trivial | refine And.intro ?_ ?_)))); (intro y hy; clear y hy; (repeat' ((conv => whnf); first | refine And.intro ?_ ?_ | exact Cl.mk (by kernel_rfl) | exact trivial | exact rfl | (intro hh; try simp only [decide_eq_true_eq, decide_eq_false_iff_not, beq_iff_eq, beq_eq_false_iff_ne, bne_iff_ne, bne_eq_false_iff_eq, Bool.not_eq_true', Bool.not_eq_false', Bool.not_true, Bool.not_false] at hh))); all_goals (conv => whnf); (all_goals first | (exact absurd hh (by decide)) | (exact Ob.mk (by decide)) | skip); all_goals (try clear hh)))
  (refine CallN.intro (readM l2 2 ok2 0 (by decide)) [0, 1, 2] rfl rfl ?_ ?_ ?_; ((repeat' (first | exact rfl | exact trivial | refine And.intro ?_ ?_ | ((conv => whnf); first | exact rfl | exact trivial | refine And.intro ?_ ?_)))); ((repeat' (first | exact rfl | exact trivial | refine And.intro ?_ ?_ | ((conv => whnf); first | exact rfl | exact trivial | refine And.intro ?_ ?_)))); (intro y hy; clear y hy; (repeat' ((conv => whnf); first | refine And.intro ?_ ?_ | exact Cl.mk (by kernel_rfl) | exact trivial | exact rfl | (intro hh; try simp only [decide_eq_true_eq, decide_eq_false_iff_not, beq_iff_eq, beq_eq_false_iff_ne, bne_iff_ne, bne_eq_false_iff_eq, Bool.not_eq_true', Bool.not_eq_false', Bool.not_true, Bool.not_false] at hh))); all_goals (conv => whnf); (all_goals first | (exact absurd hh (by decide)) | (exact Ob.mk (by decide)) | skip); all_goals (try clear hh)))
  (refine CallN.intro (giveM l2 0) [0, 1, 2] rfl rfl ?_ ?_ ?_; ((repeat' (first | exact rfl | exact trivial | refine And.intro ?_ ?_ | ((conv => whnf); first | exact rfl | exact trivial | refine And.intro ?_ ?_)))); ((repeat' (first | exact rfl | exact trivial | refine And.intro ?_ ?_ | ((conv => whnf); first | exact rfl | exact trivial | refine And.intro ?_ ?_)))); (intro y hy; clear y hy; (repeat' ((conv => whnf); first | refine And.intro ?_ ?_ | exact Cl.mk (by kernel_rfl) | exact trivial | exact rfl | (intro hh; try simp only [decide_eq_true_eq, decide_eq_false_iff_not, beq_iff_eq, beq_eq_false_iff_ne, bne_iff_ne, bne_eq_false_iff_eq, Bool.not_eq_true', Bool.not_eq_false', Bool.not_true, Bool.not_false] at hh))); all_goals (conv => whnf); (all_goals first | (exact absurd hh (by decide)) | (exact Ob.mk (by decide)) | skip); all_goals (try clear hh)))
  (refine CallN.intro (giveM l3 0) [0, 1, 2] rfl rfl ?_ ?_ ?_; ((repeat' (first | exact rfl | exact trivial | refine And.intro ?_ ?_ | ((conv => whnf); first | exact rfl | exact trivial | refine And.intro ?_ ?_)))); ((repeat' (first | exact rfl | exact trivial | refine And.intro ?_ ?_ | ((conv => whnf); first | exact rfl | exact trivial | refine And.intro ?_ ?_)))); (intro y hy; clear y hy; (repeat' ((conv => whnf); first | refine And.intro ?_ ?_ | exact Cl.mk (by kernel_rfl) | exact trivial | exact rfl | (intro hh; try simp only [decide_eq_true_eq, decide_eq_false_iff_not, beq_iff_eq, beq_eq_false_iff_ne, bne_iff_ne, bne_eq_false_iff_eq, Bool.not_eq_true', Bool.not_eq_false', Bool.not_true, Bool.not_false] at hh))); all_goals (conv => whnf); (all_goals first | (exact absurd hh (by decide)) | (exact Ob.mk (by decide)) | skip); all_goals (try clear hh)))
  (refine CallN.intro (takeM l3 2 ok3 (by decide)) [0, 1, 2] rfl rfl ?_ ?_ ?_; ((repeat' (first | exact rfl | exact trivial | refine And.intro ?_ ?_ | ((conv => whnf); first | exact rfl | exact trivial | refine And.intro ?_ ?_)))); ((repeat' (first | exact rfl | exact trivial | refine And.intro ?_ ?_ | ((conv => whnf); first | exact rfl | exact trivial | refine And.intro ?_ ?_)))); (intro y hy; clear y hy; (repeat' ((conv => whnf); first | refine And.intro ?_ ?_ | exact Cl.mk (by kernel_rfl) | exact trivial | exact rfl | (intro hh; try simp only [decide_eq_true_eq, decide_eq_false_iff_not, beq_iff_eq, beq_eq_false_iff_ne, bne_iff_ne, bne_eq_false_iff_eq, Bool.not_eq_true', Bool.not_eq_false', Bool.not_true, Bool.not_false] at hh))); all_goals (conv => whnf); (all_goals first | (exact absurd hh (by decide)) | (exact Ob.mk (by decide)) | skip); all_goals (try clear hh)))
  (refine CallN.intro (readM l4 2 ok4 64 (by decide)) [0, 1, 2] rfl rfl ?_ ?_ ?_; ((repeat' (first | exact rfl | exact trivial | refine And.intro ?_ ?_ | ((conv => whnf); first | exact rfl | exact trivial | refine And.intro ?_ ?_)))); ((repeat' (first | exact rfl | exact trivial | refine And.intro ?_ ?_ | ((conv => whnf); first | exact rfl | exact trivial | refine And.intro ?_ ?_)))); (intro y hy; clear y hy; (repeat' ((conv => whnf); first | refine And.intro ?_ ?_ | exact Cl.mk (by kernel_rfl) | exact trivial | exact rfl | (intro hh; try simp only [decide_eq_true_eq, decide_eq_false_iff_not, beq_iff_eq, beq_eq_false_iff_ne, bne_iff_ne, bne_eq_false_iff_eq, Bool.not_eq_true', Bool.not_eq_false', Bool.not_true, Bool.not_false] at hh))); all_goals (conv => whnf); (all_goals first | (exact absurd hh (by decide)) | (exact Ob.mk (by decide)) | skip); all_goals (try clear hh)))
  (refine CallN.intro (takeM l4 2 ok4 (by decide)) [0, 1, 2] rfl rfl ?_ ?_ ?_; ((repeat' (first | exact rfl | exact trivial | refine And.intro ?_ ?_ | ((conv => whnf); first | exact rfl | exact trivial | refine And.intro ?_ ?_)))); ((repeat' (first | exact rfl | exact trivial | refine And.intro ?_ ?_ | ((conv => whnf); first | exact rfl | exact trivial | refine And.intro ?_ ?_)))); (intro y hy; clear y hy; (repeat' ((conv => whnf); first | refine And.intro ?_ ?_ | exact Cl.mk (by kernel_rfl) | exact trivial | exact rfl | (intro hh; try simp only [decide_eq_true_eq, decide_eq_false_iff_not, beq_iff_eq, beq_eq_false_iff_ne, bne_iff_ne, bne_eq_false_iff_eq, Bool.not_eq_true', Bool.not_eq_false', Bool.not_true, Bool.not_false] at hh))); all_goals (conv => whnf); (all_goals first | (exact absurd hh (by decide)) | (exact Ob.mk (by decide)) | skip); all_goals (try clear hh)))
  (refine CallN.intro (takeM0 l5 (by decide)) [0, 1, 2] rfl rfl ?_ ?_ ?_; ((repeat' (first | exact rfl | exact trivial | refine And.intro ?_ ?_ | ((conv => whnf); first | exact rfl | exact trivial | refine And.intro ?_ ?_)))); ((repeat' (first | exact rfl | exact trivial | refine And.intro ?_ ?_ | ((conv => whnf); first | exact rfl | exact trivial | refine And.intro ?_ ?_)))); (intro y hy; clear y hy; (repeat' ((conv => whnf); first | refine And.intro ?_ ?_ | exact Cl.mk (by kernel_rfl) | exact trivial | exact rfl | (intro hh; try simp only [decide_eq_true_eq, decide_eq_false_iff_not, beq_iff_eq, beq_eq_false_iff_ne, bne_iff_ne, bne_eq_false_iff_eq, Bool.not_eq_true', Bool.not_eq_false', Bool.not_true, Bool.not_false] at hh))); all_goals (conv => whnf); (all_goals first | (exact absurd hh (by decide)) | (exact Ob.mk (by decide)) | skip); all_goals (try clear hh)))
  (refine CallN.intro (liveM l5 (by decide)) [0, 1, 2] rfl rfl ?_ ?_ ?_; ((repeat' (first | exact rfl | exact trivial | refine And.intro ?_ ?_ | ((conv => whnf); first | exact rfl | exact trivial | refine And.intro ?_ ?_)))); ((repeat' (first | exact rfl | exact trivial | refine And.intro ?_ ?_ | ((conv => whnf); first | exact rfl | exact trivial | refine And.intro ?_ ?_)))); (intro y hy; clear y hy; (repeat' ((conv => whnf); first | refine And.intro ?_ ?_ | exact Cl.mk (by kernel_rfl) | exact trivial | exact rfl | (intro hh; try simp only [decide_eq_true_eq, decide_eq_false_iff_not, beq_iff_eq, beq_eq_false_iff_ne, bne_iff_ne, bne_eq_false_iff_eq, Bool.not_eq_true', Bool.not_eq_false', Bool.not_true, Bool.not_false] at hh))); all_goals (conv => whnf); (all_goals first | (exact absurd hh (by decide)) | (exact Ob.mk (by decide)) | skip); all_goals (try clear hh)))
  (refine CallN.intro (freeM l5) [0, 1, 2] rfl rfl ?_ ?_ ?_; ((repeat' (first | exact rfl | exact trivial | refine And.intro ?_ ?_ | ((conv => whnf); first | exact rfl | exact trivial | refine And.intro ?_ ?_)))); ((repeat' (first | exact rfl | exact trivial | refine And.intro ?_ ?_ | ((conv => whnf); first | exact rfl | exact trivial | refine And.intro ?_ ?_)))); (intro y hy; clear y hy; (repeat' ((conv => whnf); first | refine And.intro ?_ ?_ | exact Cl.mk (by kernel_rfl) | exact trivial | exact rfl | (intro hh; try simp only [decide_eq_true_eq, decide_eq_false_iff_not, beq_iff_eq, beq_eq_false_iff_ne, bne_iff_ne, bne_eq_false_iff_eq, Bool.not_eq_true', Bool.not_eq_false', Bool.not_true, Bool.not_false] at hh))); all_goals (conv => whnf); (all_goals first | (exact absurd hh (by decide)) | (exact Ob.mk (by decide)) | skip); all_goals (try clear hh)))
  (refine CallN.intro (writeM l5 2 ok5 1 []) [0, 1, 2] rfl rfl ?_ ?_ ?_; ((repeat' (first | exact rfl | exact trivial | refine And.intro ?_ ?_ | ((conv => whnf); first | exact rfl | exact trivial | refine And.intro ?_ ?_)))); ((repeat' (first | exact rfl | exact trivial | refine And.intro ?_ ?_ | ((conv => whnf); first | exact rfl | exact trivial | refine And.intro ?_ ?_)))); (intro y hy; clear y hy; (repeat' ((conv => whnf); first | refine And.intro ?_ ?_ | exact Cl.mk (by kernel_rfl) | exact trivial | exact rfl | (intro hh; try simp only [decide_eq_true_eq, decide_eq_false_iff_not, beq_iff_eq, beq_eq_false_iff_ne, bne_iff_ne, bne_eq_false_iff_eq, Bool.not_eq_true', Bool.not_eq_false', Bool.not_true, Bool.not_false] at hh))); all_goals (conv => whnf); (all_goals first | (exact absurd hh (by decide)) | (exact Ob.mk (by decide)) | skip); all_goals (try clear hh)))
  (refine RetN.intro () [] rfl rfl ?_ ?_ ?_; ((repeat' (first | exact rfl | exact trivial | refine And.intro ?_ ?_ | ((conv => whnf); first | exact rfl | exact trivial | refine And.intro ?_ ?_)))); ((repeat' (first | exact rfl | exact trivial | refine And.intro ?_ ?_ | ((conv => whnf); first | exact rfl | exact trivial | refine And.intro ?_ ?_))); all_goals (conv => whnf); all_goals (try simp only [])))
  all_goals decide
theorem lawNil (h : Int) (xs : List Int) : Meets Try.prog 7 [.int .i64 fun _ => h, .lst (.int .u64) fun _ => xs] [] (Y := Unit) (fun _ => True) (fun _ => .tt) (fun _ => []) := by
  refine Meets.intro hm (fn := Try.f7) Try.func7 rfl (by decide) (Nat.le_of_ble_eq_true rfl) (fun _ => rfl) ?_; intro S hok; (conv => whnf)
  (repeat' ((conv => whnf); first | refine And.intro ?_ ?_ | exact Cl.mk (by kernel_rfl) | exact trivial | exact rfl | (intro hh; try simp only [decide_eq_true_eq, decide_eq_false_iff_not, beq_iff_eq, beq_eq_false_iff_ne, bne_iff_ne, bne_eq_false_iff_eq, Bool.not_eq_true', Bool.not_eq_false', Bool.not_true, Bool.not_false] at hh))); all_goals (conv => whnf)
  (refine CallN.intro takeNil [] rfl rfl ?_ ?_ ?_; ((repeat' (first | exact rfl | exact trivial | refine And.intro ?_ ?_ | ((conv => whnf); first | exact rfl | exact trivial | refine And.intro ?_ ?_)))); ((repeat' (first | exact rfl | exact trivial | refine And.intro ?_ ?_ | ((conv => whnf); first | exact rfl | exact trivial | refine And.intro ?_ ?_)))); (intro y hy; clear y hy; (repeat' ((conv => whnf); first | refine And.intro ?_ ?_ | exact Cl.mk (by kernel_rfl) | exact trivial | exact rfl | (intro hh; try simp only [decide_eq_true_eq, decide_eq_false_iff_not, beq_iff_eq, beq_eq_false_iff_ne, bne_iff_ne, bne_eq_false_iff_eq, Bool.not_eq_true', Bool.not_eq_false', Bool.not_true, Bool.not_false] at hh))); all_goals (conv => whnf); (all_goals first | (exact absurd hh (by decide)) | (exact Ob.mk (by decide)) | skip); all_goals (try clear hh)))
  (refine CallN.intro (readNil h) [] rfl rfl ?_ ?_ ?_; ((repeat' (first | exact rfl | exact trivial | refine And.intro ?_ ?_ | ((conv => whnf); first | exact rfl | exact trivial | refine And.intro ?_ ?_)))); ((repeat' (first | exact rfl | exact trivial | refine And.intro ?_ ?_ | ((conv => whnf); first | exact rfl | exact trivial | refine And.intro ?_ ?_)))); (intro y hy; clear y hy; (repeat' ((conv => whnf); first | refine And.intro ?_ ?_ | exact Cl.mk (by kernel_rfl) | exact trivial | exact rfl | (intro hh; try simp only [decide_eq_true_eq, decide_eq_false_iff_not, beq_iff_eq, beq_eq_false_iff_ne, bne_iff_ne, bne_eq_false_iff_eq, Bool.not_eq_true', Bool.not_eq_false', Bool.not_true, Bool.not_false] at hh))); all_goals (conv => whnf); (all_goals first | (exact absurd hh (by decide)) | (exact Ob.mk (by decide)) | skip); all_goals (try clear hh)))
  (refine CallN.intro (giveNil h) [] rfl rfl ?_ ?_ ?_; ((repeat' (first | exact rfl | exact trivial | refine And.intro ?_ ?_ | ((conv => whnf); first | exact rfl | exact trivial | refine And.intro ?_ ?_)))); ((repeat' (first | exact rfl | exact trivial | refine And.intro ?_ ?_ | ((conv => whnf); first | exact rfl | exact trivial | refine And.intro ?_ ?_)))); (intro y hy; clear y hy; (repeat' ((conv => whnf); first | refine And.intro ?_ ?_ | exact Cl.mk (by kernel_rfl) | exact trivial | exact rfl | (intro hh; try simp only [decide_eq_true_eq, decide_eq_false_iff_not, beq_iff_eq, beq_eq_false_iff_ne, bne_iff_ne, bne_eq_false_iff_eq, Bool.not_eq_true', Bool.not_eq_false', Bool.not_true, Bool.not_false] at hh))); all_goals (conv => whnf); (all_goals first | (exact absurd hh (by decide)) | (exact Ob.mk (by decide)) | skip); all_goals (try clear hh)))
  (refine CallN.intro (writeNil h xs) [] rfl rfl ?_ ?_ ?_; ((repeat' (first | exact rfl | exact trivial | refine And.intro ?_ ?_ | ((conv => whnf); first | exact rfl | exact trivial | refine And.intro ?_ ?_)))); ((repeat' (first | exact rfl | exact trivial | refine And.intro ?_ ?_ | ((conv => whnf); first | exact rfl | exact trivial | refine And.intro ?_ ?_)))); (intro y hy; clear y hy; (repeat' ((conv => whnf); first | refine And.intro ?_ ?_ | exact Cl.mk (by kernel_rfl) | exact trivial | exact rfl | (intro hh; try simp only [decide_eq_true_eq, decide_eq_false_iff_not, beq_iff_eq, beq_eq_false_iff_ne, bne_iff_ne, bne_eq_false_iff_eq, Bool.not_eq_true', Bool.not_eq_false', Bool.not_true, Bool.not_false] at hh))); all_goals (conv => whnf); (all_goals first | (exact absurd hh (by decide)) | (exact Ob.mk (by decide)) | skip); all_goals (try clear hh)))
  (refine CallN.intro freeNil [] rfl rfl ?_ ?_ ?_; ((repeat' (first | exact rfl | exact trivial | refine And.intro ?_ ?_ | ((conv => whnf); first | exact rfl | exact trivial | refine And.intro ?_ ?_)))); ((repeat' (first | exact rfl | exact trivial | refine And.intro ?_ ?_ | ((conv => whnf); first | exact rfl | exact trivial | refine And.intro ?_ ?_)))); (intro y hy; clear y hy; (repeat' ((conv => whnf); first | refine And.intro ?_ ?_ | exact Cl.mk (by kernel_rfl) | exact trivial | exact rfl | (intro hh; try simp only [decide_eq_true_eq, decide_eq_false_iff_not, beq_iff_eq, beq_eq_false_iff_ne, bne_iff_ne, bne_eq_false_iff_eq, Bool.not_eq_true', Bool.not_eq_false', Bool.not_true, Bool.not_false] at hh))); all_goals (conv => whnf); (all_goals first | (exact absurd hh (by decide)) | (exact Ob.mk (by decide)) | skip); all_goals (try clear hh)))
  (refine CallN.intro liveNil [] rfl rfl ?_ ?_ ?_; ((repeat' (first | exact rfl | exact trivial | refine And.intro ?_ ?_ | ((conv => whnf); first | exact rfl | exact trivial | refine And.intro ?_ ?_)))); ((repeat' (first | exact rfl | exact trivial | refine And.intro ?_ ?_ | ((conv => whnf); first | exact rfl | exact trivial | refine And.intro ?_ ?_)))); (intro y hy; clear y hy; (repeat' ((conv => whnf); first | refine And.intro ?_ ?_ | exact Cl.mk (by kernel_rfl) | exact trivial | exact rfl | (intro hh; try simp only [decide_eq_true_eq, decide_eq_false_iff_not, beq_iff_eq, beq_eq_false_iff_ne, bne_iff_ne, bne_eq_false_iff_eq, Bool.not_eq_true', Bool.not_eq_false', Bool.not_true, Bool.not_false] at hh))); all_goals (conv => whnf); (all_goals first | (exact absurd hh (by decide)) | (exact Ob.mk (by decide)) | skip); all_goals (try clear hh)))
  (refine CallN.intro lawLive [] rfl rfl ?_ ?_ ?_; ((repeat' (first | exact rfl | exact trivial | refine And.intro ?_ ?_ | ((conv => whnf); first | exact rfl | exact trivial | refine And.intro ?_ ?_)))); ((repeat' (first | exact rfl | exact trivial | refine And.intro ?_ ?_ | ((conv => whnf); first | exact rfl | exact trivial | refine And.intro ?_ ?_)))); (intro y hy; clear y hy; (repeat' ((conv => whnf); first | refine And.intro ?_ ?_ | exact Cl.mk (by kernel_rfl) | exact trivial | exact rfl | (intro hh; try simp only [decide_eq_true_eq, decide_eq_false_iff_not, beq_iff_eq, beq_eq_false_iff_ne, bne_iff_ne, bne_eq_false_iff_eq, Bool.not_eq_true', Bool.not_eq_false', Bool.not_true, Bool.not_false] at hh))); all_goals (conv => whnf); (all_goals first | (exact absurd hh (by decide)) | (exact Ob.mk (by decide)) | skip); all_goals (try clear hh)))
  (refine RetN.intro () [] rfl rfl ?_ ?_ ?_; ((repeat' (first | exact rfl | exact trivial | refine And.intro ?_ ?_ | ((conv => whnf); first | exact rfl | exact trivial | refine And.intro ?_ ?_)))); ((repeat' (first | exact rfl | exact trivial | refine And.intro ?_ ?_ | ((conv => whnf); first | exact rfl | exact trivial | refine And.intro ?_ ?_))); all_goals (conv => whnf); all_goals (try simp only [])))
end Go.Proofs.Ytadmgicmmnbdcaa.Sl
set_option linter.unusedVariables false
set_option linter.unusedSimpArgs false
namespace Go.Proofs.Ytadmgicmmnbdcaa.Sl
open Go Go.RowKit Fw
def wordsOf (s : Slab) (h : Int) : List Int := (s.words.drop (h.tmod 64 * s.each).toNat).take s.each.toNat
theorem wordsOf_len {s : Slab} {n : Nat} (ok : Ok s n) {h : Int} (hg : good s h = true) : (wordsOf s h).length = s.each.toNat := by
  have hq := good_iff hg
  have hl := ok.len
  have h1 := ok.at_ (i := h.tmod 64) (by omega)
  have h2 := ok.each
  have h3 := ok.words
  simp only [wordsOf, List.length_take, List.length_drop]; omega
theorem readV (s : Slab) (n : Nat) (ok : Ok s n) (h : Int) (hg : good s h = true) : Meets Try.prog 18 [.ptr 0 0, .int .i64 fun _ => h] (ch s) (Y := Unit) (fun _ => True)
    (fun _ => .tup [.vec 3 1 (fun _ => 0) (fun _ => (wordsOf s h).length), .int .i64 fun _ => 0]) (fun _ => ch s ++ [.vect 49 (.int .u64) fun _ => wordsOf s h]) := by
  have hq := good_iff hg
  have hl := ok.len
  have h1 := ok.at_ (i := h.tmod 64) (by omega)
  have h2 := ok.each
  have h3 := ok.words
  have h4 := wordsOf_len ok hg
  refine Meets.intro hm (fn := Try.f18) Try.func18 rfl (by decide) (Nat.le_of_ble_eq_true rfl) (fun _ => rfl) ?_; intro S hok; (conv => whnf)
  (repeat' ((conv => whnf); first | refine And.intro ?_ ?_ | exact Cl.mk (by kernel_rfl) | exact trivial | exact rfl | (intro hh; try simp only [decide_eq_true_eq, decide_eq_false_iff_not, beq_iff_eq, beq_eq_false_iff_ne, bne_iff_ne, bne_eq_false_iff_eq, Bool.not_eq_true', Bool.not_eq_false', Bool.not_true, Bool.not_false] at hh))); all_goals (conv => whnf)
  · (refine CallN.intro (goodM s h) [0, 1, 2] rfl rfl ?_ ?_ ?_; ((repeat' (first | exact rfl | exact trivial | refine And.intro ?_ ?_ | ((conv => whnf); first | exact rfl | exact trivial | refine And.intro ?_ ?_)))); ((repeat' (first | exact rfl | exact trivial | refine And.intro ?_ ?_ | ((conv => whnf); first | exact rfl | exact trivial | refine And.intro ?_ ?_)))); (intro y hy; (repeat' ((conv => whnf); first | refine And.intro ?_ ?_ | exact Cl.mk (by kernel_rfl) | exact trivial | exact rfl | (intro hh; try simp only [decide_eq_true_eq, decide_eq_false_iff_not, beq_iff_eq, beq_eq_false_iff_ne, bne_iff_ne, bne_eq_false_iff_eq, Bool.not_eq_true', Bool.not_eq_false', Bool.not_true, Bool.not_false] at hh))); all_goals (conv => whnf)))
    · rw [hg] at hh; cases hh
    · refine CallN.intro (ofM s n (h.tmod 64) ok (by omega)) [0, 1, 2] rfl rfl ?_ ?_ ?_
      · (repeat' (first | exact rfl | exact trivial | refine And.intro ?_ ?_ | ((conv => whnf); first | exact rfl | exact trivial | refine And.intro ?_ ?_))); all_goals (conv => whnf); all_goals (try simp only [])
        rw [if_pos hq.1]
      · (repeat' (first | exact rfl | exact trivial | refine And.intro ?_ ?_ | ((conv => whnf); first | exact rfl | exact trivial | refine And.intro ?_ ?_)))
      · intro y hy
        (repeat' ((conv => whnf); first | refine And.intro ?_ ?_ | exact Cl.mk (by kernel_rfl) | exact trivial | exact rfl | (intro hh; try simp only [decide_eq_true_eq, decide_eq_false_iff_not, beq_iff_eq, beq_eq_false_iff_ne, bne_iff_ne, bne_eq_false_iff_eq, Bool.not_eq_true', Bool.not_eq_false', Bool.not_true, Bool.not_false] at hh))); all_goals (conv => whnf)
        refine CallN.rest (cloneV (wordsOf s h) (by omega)) [2] ?_ (fun _ _ => ⟨rfl, rfl⟩) ?_
        · (repeat' (first | exact rfl | exact trivial | refine And.intro ?_ ?_ | ((conv => whnf); first | exact rfl | exact trivial | refine And.intro ?_ ?_))); all_goals (conv => whnf); all_goals (try simp only [])
        · intro y hy
          (repeat' ((conv => whnf); first | refine And.intro ?_ ?_ | exact Cl.mk (by kernel_rfl) | exact trivial | exact rfl | (intro hh; try simp only [decide_eq_true_eq, decide_eq_false_iff_not, beq_iff_eq, beq_eq_false_iff_ne, bne_iff_ne, bne_eq_false_iff_eq, Bool.not_eq_true', Bool.not_eq_false', Bool.not_true, Bool.not_false] at hh))); all_goals (conv => whnf)
          (refine RetN.intro () [0, 1, 2, 3] rfl rfl ?_ ?_ ?_; ((repeat' (first | exact rfl | exact trivial | refine And.intro ?_ ?_ | ((conv => whnf); first | exact rfl | exact trivial | refine And.intro ?_ ?_)))); ((repeat' (first | exact rfl | exact trivial | refine And.intro ?_ ?_ | ((conv => whnf); first | exact rfl | exact trivial | refine And.intro ?_ ?_))); all_goals (conv => whnf); all_goals (try simp only [])))
theorem lawOwn (w : Int) (n : Int) (a : Int) : Meets Try.prog 5 [.int .i64 fun _ => w, .int .u64 fun _ => n, .int .i64 fun _ => a] [] (Y := Unit) (fun _ => True) (fun _ => .tt) (fun _ => []) := by
  by_cases hw : w < 0 ∨ 32 < w
  · refine Meets.intro hm (fn := Try.f5) Try.func5 rfl (by decide) (Nat.le_of_ble_eq_true rfl) (fun _ => rfl) ?_; intro S hok; (conv => whnf)
    (repeat' ((conv => whnf); first | refine And.intro ?_ ?_ | exact Cl.mk (by kernel_rfl) | exact trivial | exact rfl | (intro hh; try simp only [decide_eq_true_eq, decide_eq_false_iff_not, beq_iff_eq, beq_eq_false_iff_ne, bne_iff_ne, bne_eq_false_iff_eq, Bool.not_eq_true', Bool.not_eq_false', Bool.not_true, Bool.not_false] at hh))); all_goals (conv => whnf)
    (refine CallN.intro (newBad 3 w (by omega)) [] rfl rfl ?_ ?_ ?_; ((repeat' (first | exact rfl | exact trivial | refine And.intro ?_ ?_ | ((conv => whnf); first | exact rfl | exact trivial | refine And.intro ?_ ?_)))); ((repeat' (first | exact rfl | exact trivial | refine And.intro ?_ ?_ | ((conv => whnf); first | exact rfl | exact trivial | refine And.intro ?_ ?_)))); (intro y hy; clear y hy; (repeat' ((conv => whnf); first | refine And.intro ?_ ?_ | exact Cl.mk (by kernel_rfl) | exact trivial | exact rfl | (intro hh; try simp only [decide_eq_true_eq, decide_eq_false_iff_not, beq_iff_eq, beq_eq_false_iff_ne, bne_iff_ne, bne_eq_false_iff_eq, Bool.not_eq_true', Bool.not_eq_false', Bool.not_true, Bool.not_false] at hh; try exact absurd hh (by decide)))); all_goals (conv => whnf); (all_goals first | (exact Ob.mk (by decide)) | skip)))
    all_goals ((refine CallN.intro lawLive [] rfl rfl ?_ ?_ ?_; ((repeat' (first | exact rfl | exact trivial | refine And.intro ?_ ?_ | ((conv => whnf); first | exact rfl | exact trivial | refine And.intro ?_ ?_)))); ((repeat' (first | exact rfl | exact trivial | refine And.intro ?_ ?_ | ((conv => whnf); first | exact rfl | exact trivial | refine And.intro ?_ ?_)))); (intro y hy; clear y hy; (repeat' ((conv => whnf); first | refine And.intro ?_ ?_ | exact Cl.mk (by kernel_rfl) | exact trivial | exact rfl | (intro hh; try simp only [decide_eq_true_eq, decide_eq_false_iff_not, beq_iff_eq, beq_eq_false_iff_ne, bne_iff_ne, bne_eq_false_iff_eq, Bool.not_eq_true', Bool.not_eq_false', Bool.not_true, Bool.not_false] at hh; try exact absurd hh (by decide)))); all_goals (conv => whnf); (all_goals first | (exact Ob.mk (by decide)) | skip))); all_goals (refine RetN.intro () [] rfl rfl ?_ ?_ ?_; ((repeat' (first | exact rfl | exact trivial | refine And.intro ?_ ?_ | ((conv => whnf); first | exact rfl | exact trivial | refine And.intro ?_ ?_)))); ((repeat' (first | exact rfl | exact trivial | refine And.intro ?_ ?_ | ((conv => whnf); first | exact rfl | exact trivial | refine And.intro ?_ ?_))); all_goals (conv => whnf); all_goals (try simp only []))))
  · obtain ⟨k, rfl⟩ : ∃ k : Nat, w = k := ⟨w.toNat, by omega⟩
    have hk : k ≤ 32 := by omega
    have ok0 : Ok (newS 3 k) 3 := Ok.new (by decide) hk
    have ok1 := ok0.take (show (0 : Int) ≠ -1 by decide)
    have e1 : (newS 3 k).each = k := rfl
    have e2 : (takeS (newS 3 k)).each = k := rfl
    have b2 : Try.t49.bytes = 8 := rfl
    have hg1 : good (takeS (newS 3 k)) 0 = true := rfl
    refine Meets.intro hm (fn := Try.f5) Try.func5 rfl (by decide) (Nat.le_of_ble_eq_true rfl) (fun _ => rfl) ?_; intro S hok; (conv => whnf)
    (repeat' ((conv => whnf); first | refine And.intro ?_ ?_ | exact Cl.mk (by kernel_rfl) | exact trivial | exact rfl | (intro hh; try simp only [decide_eq_true_eq, decide_eq_false_iff_not, beq_iff_eq, beq_eq_false_iff_ne, bne_iff_ne, bne_eq_false_iff_eq, Bool.not_eq_true', Bool.not_eq_false', Bool.not_true, Bool.not_false] at hh))); all_goals (conv => whnf)
    (refine CallN.intro (newM 3 k (by decide) hk) [] rfl rfl ?_ ?_ ?_; ((repeat' (first | exact rfl | exact trivial | refine And.intro ?_ ?_ | ((conv => whnf); first | exact rfl | exact trivial | refine And.intro ?_ ?_)))); ((repeat' (first | exact rfl | exact trivial | refine And.intro ?_ ?_ | ((conv => whnf); first | exact rfl | exact trivial | refine And.intro ?_ ?_)))); (intro y hy; clear y hy; (repeat' ((conv => whnf); first | refine And.intro ?_ ?_ | exact Cl.mk (by kernel_rfl) | exact trivial | exact rfl | (intro hh; try simp only [decide_eq_true_eq, decide_eq_false_iff_not, beq_iff_eq, beq_eq_false_iff_ne, bne_iff_ne, bne_eq_false_iff_eq, Bool.not_eq_true', Bool.not_eq_false', Bool.not_true, Bool.not_false] at hh; try exact absurd hh (by decide)))); all_goals (conv => whnf); (all_goals first | (exact Ob.mk (by decide)) | skip)))
    all_goals first | ((refine CallN.intro lawLive [] rfl rfl ?_ ?_ ?_; ((repeat' (first | exact rfl | exact trivial | refine And.intro ?_ ?_ | ((conv => whnf); first | exact rfl | exact trivial | refine And.intro ?_ ?_)))); ((repeat' (first | exact rfl | exact trivial | refine And.intro ?_ ?_ | ((conv => whnf); first | exact rfl | exact trivial | refine And.intro ?_ ?_)))); (intro y hy; clear y hy; (repeat' ((conv => whnf); first | refine And.intro ?_ ?_ | exact Cl.mk (by kernel_rfl) | exact trivial | exact rfl | (intro hh; try simp only [decide_eq_true_eq, decide_eq_false_iff_not, beq_iff_eq, beq_eq_false_iff_ne, bne_iff_ne, bne_eq_false_iff_eq, Bool.not_eq_true', Bool.not_eq_false', Bool.not_true, Bool.not_false] at hh; try exact absurd hh (by decide)))); all_goals (conv => whnf); (all_goals first | (exact Ob.mk (by decide)) | skip))); all_goals (refine RetN.intro () [] rfl rfl ?_ ?_ ?_; ((repeat' (first | exact rfl | exact trivial | refine And.intro ?_ ?_ | ((conv => whnf); first | exact rfl | exact trivial | refine And.intro ?_ ?_)))); ((repeat' (first | exact rfl | exact trivial | refine And.intro ?_ ?_ | ((conv => whnf); first | exact rfl | exact trivial | refine And.intro ?_ ?_))); all_goals (conv => whnf); all_goals (try simp only []))); done) | skip
    have hl1 : ((List.replicate k (0 : Int)).set a.toNat n).length = k := by simp
    have e3 : hnd (newS 3 k) (newS 3 k).first = 0 := rfl
    have e4 : (takeS (newS 3 k)).each.toNat = k := by rw [e2]; exact Int.toNat_natCast k
    have e5 : (if good (takeS (newS 3 k)) 0 = true ∧ ((((List.replicate k (0 : Int)).set a.toNat n).length : Nat) : Int) = (takeS (newS 3 k)).each then writeS (takeS (newS 3 k)) (Int.tmod 0 64) ((List.replicate k 0).set a.toNat n) else takeS (newS 3 k)) =
        writeS (takeS (newS 3 k)) 0 ((List.replicate k 0).set a.toNat n) := by rw [if_pos ⟨hg1, by rw [hl1, e2]⟩]; rfl
    have e6 : (if good (takeS (newS 3 k)) 0 = true then (if ((((List.replicate k (0 : Int)).set a.toNat n).length : Nat) : Int) = (takeS (newS 3 k)).each then (0 : Int) else 1) else 6) = 0 := by rw [if_pos hg1, if_pos (by rw [hl1, e2])]
    obtain ⟨s2, hs2⟩ : ∃ s2, s2 = writeS (takeS (newS 3 k)) 0 ((List.replicate k 0).set a.toNat n) := ⟨_, rfl⟩
    have ok2 : Ok s2 3 := by rw [hs2]; exact ok1.write (by decide) (by rw [hl1, e2])
    have hg2 : good s2 0 = true := by rw [hs2]; rfl
    have hw2 : wordsOf s2 0 = (List.replicate k 0).set a.toNat n := by
      have ez : (0 * (takeS (newS 3 k)).each).toNat = 0 := by simp
      rw [hs2]
      simp only [wordsOf, writeS, e4]
      rw [show Int.tmod 0 64 = 0 from rfl, ez]
      simp
    have hlen2 : (wordsOf s2 0).length = k := by rw [hw2, hl1]
    refine CallN.intro (takeM (newS 3 k) 3 ok0 (show (0 : Int) ≠ -1 by decide)) [0, 1, 2] rfl rfl ?_ ?_ ?_
    · (repeat' (first | exact rfl | exact trivial | refine And.intro ?_ ?_ | ((conv => whnf); first | exact rfl | exact trivial | refine And.intro ?_ ?_)))
    · (repeat' (first | exact rfl | exact trivial | refine And.intro ?_ ?_ | ((conv => whnf); first | exact rfl | exact trivial | refine And.intro ?_ ?_)))
    intro y hy
    (repeat' ((conv => whnf); first | refine And.intro ?_ ?_ | exact Cl.mk (by kernel_rfl) | exact trivial | exact rfl | (intro hh; try simp only [decide_eq_true_eq, decide_eq_false_iff_not, beq_iff_eq, beq_eq_false_iff_ne, bne_iff_ne, bne_eq_false_iff_eq, Bool.not_eq_true', Bool.not_eq_false', Bool.not_true, Bool.not_false] at hh; try exact absurd hh (by decide)))); all_goals (conv => whnf)
    · (refine Ob.mk ?_; (try simp only [Ty.dflt, Nat.zero_add, Nat.add_zero, Int.toNat_natCast, Int.toNat_zero, Int.toNat_one, List.length_take, List.length_drop, List.length_append, List.length_replicate, List.length_cons, List.length_nil, List.length_set, List.length_map, true_and, and_true, b2]); omega)
    · (refine Ob.mk ?_; (try simp only [Ty.dflt, Nat.zero_add, Nat.add_zero, Int.toNat_natCast, Int.toNat_zero, Int.toNat_one, List.length_take, List.length_drop, List.length_append, List.length_replicate, List.length_cons, List.length_nil, List.length_set, List.length_map, true_and, and_true]); omega)
    · refine CallN.borrow (writeM (takeS (newS 3 k)) 3 ok1 0 (((List.replicate k 0).set a.toNat n))) [3] [0, 1, 2] rfl rfl rfl ?_ ?_ (fun _ _ => ⟨rfl, rfl⟩) ?_
      · (repeat' (first | exact rfl | exact trivial | refine And.intro ?_ ?_ | ((conv => whnf); first | exact rfl | exact trivial | refine And.intro ?_ ?_))); all_goals (conv => whnf); all_goals (try simp only [])
        all_goals simp [hnd, gen, newS]
        exact List.take_of_length_le (by rw [hl1]; exact Nat.le_refl _)
      · (repeat' (first | exact rfl | exact trivial | refine And.intro ?_ ?_ | ((conv => whnf); first | exact rfl | exact trivial | refine And.intro ?_ ?_)))
      · intro y hy
        rw [e5, e6, ← hs2]
        (repeat' ((conv => whnf); first | refine And.intro ?_ ?_ | exact Cl.mk (by kernel_rfl) | exact trivial | exact rfl | (intro hh; try simp only [decide_eq_true_eq, decide_eq_false_iff_not, beq_iff_eq, beq_eq_false_iff_ne, bne_iff_ne, bne_eq_false_iff_eq, Bool.not_eq_true', Bool.not_eq_false', Bool.not_true, Bool.not_false] at hh; try exact absurd hh (by decide)))); all_goals (conv => whnf)
        · (refine Ob.mk ?_; (try simp only [Ty.dflt, Nat.zero_add, Nat.add_zero, Int.toNat_natCast, Int.toNat_zero, Int.toNat_one, List.length_take, List.length_drop, List.length_append, List.length_replicate, List.length_cons, List.length_nil, List.length_set, List.length_map, true_and, and_true]); omega)
        · refine CallN.intro (readV s2 3 ok2 0 hg2) [0, 1, 2] rfl rfl ?_ ?_ ?_
          · (repeat' (first | exact rfl | exact trivial | refine And.intro ?_ ?_ | ((conv => whnf); first | exact rfl | exact trivial | refine And.intro ?_ ?_)))
          · (repeat' (first | exact rfl | exact trivial | refine And.intro ?_ ?_ | ((conv => whnf); first | exact rfl | exact trivial | refine And.intro ?_ ?_)))
          · intro y hy
            have ha : (wordsOf s2 0).getD a.toNat 0 = n := by
              rw [hw2, List.getD_eq_getElem?_getD, List.getElem?_set_self (by simp; omega)]; rfl
            have ez : 0 + a.toNat = a.toNat := Nat.zero_add _
            (repeat' ((conv => whnf); first | refine And.intro ?_ ?_ | exact Cl.mk (by kernel_rfl) | exact trivial | exact rfl | (intro hh; try simp only [decide_eq_true_eq, decide_eq_false_iff_not, beq_iff_eq, beq_eq_false_iff_ne, bne_iff_ne, bne_eq_false_iff_eq, Bool.not_eq_true', Bool.not_eq_false', Bool.not_true, Bool.not_false] at hh; try exact absurd hh (by decide)))); all_goals (conv => whnf)
            all_goals first
              | (refine Ob.mk ?_; (try simp only [Ty.dflt, Nat.zero_add, Nat.add_zero, Int.toNat_natCast, Int.toNat_zero, Int.toNat_one, List.length_take, List.length_drop, List.length_append, List.length_replicate, List.length_cons, List.length_nil, List.length_set, List.length_map, true_and, and_true, hlen2]); omega)
              | (exact absurd ha (by rw [ez] at hh; exact hh))
              | (exfalso; rw [hlen2] at hh; exact hh rfl)
              | skip
            refine CallN.intro (readV s2 3 ok2 0 hg2) [0, 1, 2] rfl rfl ?_ ?_ ?_
            · (repeat' (first | exact rfl | exact trivial | refine And.intro ?_ ?_ | ((conv => whnf); first | exact rfl | exact trivial | refine And.intro ?_ ?_)))
            · (repeat' (first | exact rfl | exact trivial | refine And.intro ?_ ?_ | ((conv => whnf); first | exact rfl | exact trivial | refine And.intro ?_ ?_)))
            · intro y hy
              (repeat' ((conv => whnf); first | refine And.intro ?_ ?_ | exact Cl.mk (by kernel_rfl) | exact trivial | exact rfl | (intro hh; try simp only [decide_eq_true_eq, decide_eq_false_iff_not, beq_iff_eq, beq_eq_false_iff_ne, bne_iff_ne, bne_eq_false_iff_eq, Bool.not_eq_true', Bool.not_eq_false', Bool.not_true, Bool.not_false] at hh; try exact absurd hh (by decide)))); all_goals (conv => whnf)
              all_goals first
                | (refine Ob.mk ?_; (try simp only [Ty.dflt, Nat.zero_add, Nat.add_zero, Int.toNat_natCast, Int.toNat_zero, Int.toNat_one, List.length_take, List.length_drop, List.length_append, List.length_replicate, List.length_cons, List.length_nil, List.length_set, List.length_map, true_and, and_true, hlen2]); omega)
                | (exact absurd ha (by rw [ez] at hh; exact hh))
                | (exfalso; rw [hlen2] at hh; exact hh rfl)
                | skip
              (refine CallN.intro lawLive [] rfl rfl ?_ ?_ ?_; ((repeat' (first | exact rfl | exact trivial | refine And.intro ?_ ?_ | ((conv => whnf); first | exact rfl | exact trivial | refine And.intro ?_ ?_)))); ((repeat' (first | exact rfl | exact trivial | refine And.intro ?_ ?_ | ((conv => whnf); first | exact rfl | exact trivial | refine And.intro ?_ ?_)))); (intro y hy; clear y hy; (repeat' ((conv => whnf); first | refine And.intro ?_ ?_ | exact Cl.mk (by kernel_rfl) | exact trivial | exact rfl | (intro hh; try simp only [decide_eq_true_eq, decide_eq_false_iff_not, beq_iff_eq, beq_eq_false_iff_ne, bne_iff_ne, bne_eq_false_iff_eq, Bool.not_eq_true', Bool.not_eq_false', Bool.not_true, Bool.not_false] at hh; try exact absurd hh (by decide)))); all_goals (conv => whnf); (all_goals first | (exact Ob.mk (by decide)) | skip)))
              (refine RetN.intro () [] rfl rfl ?_ ?_ ?_; ((repeat' (first | exact rfl | exact trivial | refine And.intro ?_ ?_ | ((conv => whnf); first | exact rfl | exact trivial | refine And.intro ?_ ?_)))); ((repeat' (first | exact rfl | exact trivial | refine And.intro ?_ ?_ | ((conv => whnf); first | exact rfl | exact trivial | refine And.intro ?_ ?_))); all_goals (conv => whnf); all_goals (try simp only [])))
end Go.Proofs.Ytadmgicmmnbdcaa.Sl
set_option linter.unusedVariables false
set_option linter.unusedSimpArgs false
namespace Go.Proofs.Ytadmgicmmnbdcaa.Sl
open Go Go.RowKit Fw

def Chain (s : Slab) : Int → List Int → Prop
  | f, [] => f = -1
  | f, i :: r => f = i ∧ 0 ≤ i ∧ Chain s (cellAt s i.toNat).2.2 r
structure Rel (s : Slab) (r : Ref) (n w b : Nat) : Prop where
  ok : Ok s n
  rok : ROk r n w
  each : s.each = w
  gen : ∀ i, i < n → (cellAt s i).1 = r.gen.getD i 0 ∧ (cellAt s i).2.1 = r.taken.getD i false
  bound : ∀ i, i < n → 0 ≤ r.gen.getD i 0 ∧ r.gen.getD i 0 ≤ b
  words : ∀ i, i < n → ∀ k, k < w → s.words[i * w + k]? = (r.words.getD i [])[k]?
  chain : Chain s s.first r.row
  free : s.free = r.row.length
  nodup : r.row.Nodup
  row : ∀ i : Nat, i < n → ((i : Int) ∈ r.row ↔ r.taken.getD i false = false)
theorem getD_set {α : Type} (l : List α) (i j : Nat) (x d : α) (h : i < l.length) : (l.set i x).getD j d = if i = j then x else l.getD j d := by
  rw [List.getD_eq_getElem?_getD, List.getD_eq_getElem?_getD, List.getElem?_set]
  by_cases e : i = j
  · subst e; simp [h]
  · simp [e]
section
variable {s : Slab} {r : Ref} {n w b : Nat}
theorem Rel.hnd (h : Rel s r n w b) (hb : b ≤ 100000) {i : Nat} (hi : i < n) : hnd s i = 64 * r.gen.getD i 0 + i ∧ rhnd r i = 64 * r.gen.getD i 0 + i := by
  have h1 := (h.gen i hi).1
  have h2 := h.bound i hi
  have h3 := h.ok.cap
  have e : Sl.gen s ((i : Int).toNat) = r.gen.getD i 0 := by rw [Int.toNat_natCast]; exact h1
  unfold Sl.hnd rhnd
  rw [e, wr (x := r.gen.getD i 0 * 64) (by omega), wr (x := 64 * r.gen.getD i 0) (by omega), wr (by omega), wr (by omega)]
  omega
theorem Rel.good_iff (h : Rel s r n w b) (hb : b ≤ 100000) (x : Int) : good s x = true ↔ ¬ rgood r x < 0 := by
  have hl := h.ok.len
  have hg := h.rok.gen
  by_cases hx : x < 0
  · have : rgood r x = -1 := by unfold rgood; rw [if_pos hx]
    simp only [good, this]
    rw [decide_eq_false (by omega)]
    simp
  · have ht := tmod64 hx
    have hdm : x = 64 * (x.tdiv 64) + x.tmod 64 := (Int.mul_tdiv_add_tmod x 64).symm
    by_cases hlt : x.tmod 64 < s.cells.length
    · have hi : (x.tmod 64).toNat < n := by omega
      have e : ((x.tmod 64).toNat : Int) = x.tmod 64 := by omega
      have hh := h.hnd hb hi
      rw [e] at hh
      have h2 := h.gen _ hi
      simp only [good, rgood, if_neg hx]
      have ec : (s.cells.getD (x.tmod 64).toNat (0, false, 0)).2.1 = r.taken.getD (x.tmod 64).toNat false := h2.2
      rw [ec, decide_eq_true (show 0 ≤ x by omega), decide_eq_true hlt]
      by_cases h3 : r.taken.getD (x.tmod 64).toNat false = false
      · rw [if_pos (.inr (.inl h3)), h3]; simp
      · by_cases h4 : r.gen.getD (x.tmod 64).toNat 0 = x.tdiv 64
        · rw [if_neg (by rintro (h5 | h5 | h5); omega; exact h3 h5; exact h5 h4)]
          have h3' : r.taken.getD (x.tmod 64).toNat false = true := by simpa using h3
          have h6 : Sl.hnd s (x.tmod 64) = x := by rw [hh.1]; omega
          rw [h3', h6]; simp; omega
        · rw [if_pos (.inr (.inr h4))]
          have h6 : Sl.hnd s (x.tmod 64) ≠ x := by rw [hh.1]; omega
          simp [h6]
    · have : rgood r x = -1 := by unfold rgood; rw [if_neg hx, if_pos (.inl (by omega))]
      simp only [good, this]
      rw [decide_eq_false hlt]; simp
theorem Rel.good_false (h : Rel s r n w b) (hb : b ≤ 100000) {x : Int} (hr : rgood r x < 0) : good s x = false := by
  have := (h.good_iff hb x)
  cases hg : good s x
  · rfl
  · exact (this.1 hg hr).elim
theorem rgood_val {x : Int} (hr : ¬ rgood r x < 0) : rgood r x = x.tmod 64 ∧ 0 ≤ x.tmod 64 ∧ x.tmod 64 < r.gen.length ∧ r.taken.getD (x.tmod 64).toNat false = true ∧ r.gen.getD (x.tmod 64).toNat 0 = x.tdiv 64 := by
  unfold rgood at hr ⊢
  by_cases hx : x < 0
  · rw [if_pos hx] at hr; omega
  · rw [if_neg hx] at hr ⊢
    have := tmod64 hx
    split at hr
    · omega
    · rename_i hc
      rw [if_neg hc]
      have h1 : ¬ (r.gen.length : Int) ≤ x.tmod 64 := fun h => hc (.inl h)
      have h2 : ¬ r.taken.getD (x.tmod 64).toNat false = false := fun h => hc (.inr (.inl h))
      have h3 : r.gen.getD (x.tmod 64).toNat 0 = x.tdiv 64 := Classical.byContradiction fun h => hc (.inr (.inr h))
      exact ⟨rfl, this.1, by omega, by simpa using h2, h3⟩
theorem Rel.taken_eq (h : Rel s r n w b) (hb : b ≤ 100000) : taken s = rtaken r := by
  have hl := h.ok.len
  have hg := h.rok.gen
  have key : ∀ i, i ≤ n → takenTo s i = rtakenTo r i := by
    intro i
    induction i with
    | zero => intro _; rfl
    | succ i ih =>
      intro hi
      have h1 := h.gen i (by omega)
      have h2 := h.hnd hb (i := i) (by omega)
      simp only [takenTo, rtakenTo, ih (by omega), h1.2, h2.1, h2.2]
  unfold taken rtaken
  rw [hl, hg]
  exact key n (Nat.le_refl _)
theorem Rel.first_nil (h : Rel s r n w b) (hr : r.row = []) : s.first = -1 := by
  have := h.chain; rw [hr] at this; exact this
theorem Rel.first_cons (h : Rel s r n w b) {i : Int} {l : List Int} (hr : r.row = i :: l) : s.first = i ∧ 0 ≤ i ∧ i < n := by
  have := h.chain; rw [hr] at this
  exact ⟨this.1, h.rok.row.2 i (by rw [hr]; exact List.mem_cons_self ..)⟩
theorem chain_same {s s' : Slab} (he : ∀ i, (cellAt s' i).2.2 = (cellAt s i).2.2) : ∀ (l : List Int) (f : Int), Chain s f l → Chain s' f l
  | [], _, h => h
  | i :: l, f, h => ⟨h.1, h.2.1, by rw [he]; exact chain_same he l _ h.2.2⟩
theorem chain_but {s s' : Slab} {j : Nat} (he : ∀ i, i ≠ j → (cellAt s' i).2.2 = (cellAt s i).2.2) : ∀ (l : List Int) (f : Int), (j : Int) ∉ l → (∀ x ∈ l, 0 ≤ x) → Chain s f l → Chain s' f l
  | [], _, _, _, h => h
  | i :: l, f, hj, hp, h => ⟨h.1, h.2.1, by
      have h1 : i.toNat ≠ j := fun e => hj (by have := hp i (List.mem_cons_self ..); rw [← e, Int.toNat_of_nonneg this]; exact List.mem_cons_self ..)
      rw [he _ h1]; exact chain_but he l _ (fun h => hj (List.mem_cons_of_mem _ h)) (fun x hx => hp x (List.mem_cons_of_mem _ hx)) h.2.2⟩
theorem seg_lt {w i j k k' : Nat} (hk : k < w) (hk' : k' < w) (h : i < j) : i * w + k < j * w := by
  have : (i + 1) * w ≤ j * w := Nat.mul_le_mul_right w h
  rw [Nat.add_mul, Nat.one_mul] at this; omega
theorem seg_get {ws xs : List Int} {w i : Nat} (hl : i * w + w ≤ ws.length) (hx : xs.length = w) {j k : Nat} (hk : k < w) :
    (ws.take (i * w) ++ xs ++ ws.drop (i * w + w))[j * w + k]? = if j = i then xs[k]? else ws[j * w + k]? := by
  have e1 : (ws.take (i * w)).length = i * w := by rw [List.length_take]; omega
  rw [List.append_assoc, List.getElem?_append, e1]
  rcases Nat.lt_trichotomy j i with h | h | h
  · have := seg_lt (k' := k) hk hk h
    rw [if_pos this, if_neg (by omega), List.getElem?_take, if_pos this]
  · subst h
    rw [if_neg (by omega), if_pos rfl, List.getElem?_append, if_pos (by omega)]
    congr 1; omega
  · have h1 : (i + 1) * w ≤ j * w := Nat.mul_le_mul_right w h
    rw [Nat.add_mul, Nat.one_mul] at h1
    rw [if_neg (by omega), if_neg (by omega), List.getElem?_append, if_neg (by omega), List.getElem?_drop]
    congr 1; omega
theorem toNat_mul {s : Slab} {w : Nat} (he : s.each = w) (i : Nat) : ((i : Int) * s.each).toNat = i * w ∧ s.each.toNat = w := by
  rw [he]; exact ⟨by rw [← Int.natCast_mul]; exact Int.toNat_natCast _, Int.toNat_natCast _⟩
theorem Rel.take (h : Rel s r n w b) {i : Nat} {l : List Int} (hr : r.row = (i : Int) :: l) : Rel (takeS s) (rtakeS r i l) n w b := by
  obtain ⟨hf, _, hin⟩ := h.first_cons hr
  have hi : i < n := by omega
  have hl := h.ok.len
  have hg := h.rok.gen
  have ht := h.rok.taken
  have hw := h.rok.words
  have hne : s.first ≠ -1 := by omega
  have hok := h.ok.take hne
  have hen : ∀ j, cellAt (takeS s) j = if i = j then ((cellAt s i).1, true, (cellAt s i).2.2) else cellAt s j := by
    intro j
    have e : s.first.toNat = i := by rw [hf]; exact Int.toNat_natCast i
    show (s.cells.set s.first.toNat _).getD j (0, false, 0) = _
    rw [getD_set _ _ _ _ _ (by omega), e]; rfl
  have hnx : ∀ j, (cellAt (takeS s) j).2.2 = (cellAt s j).2.2 := by
    intro j; rw [hen]; split
    · rename_i e; subst e; rfl
    · rfl
  have hm := toNat_mul h.each i
  have hat := h.ok.at_ (i := (i : Int)) (by omega)
  have hch := h.chain
  rw [hr] at hch
  have hlen : (r.words.getD i []).length = w := h.rok.each_at hi
  have hnd := h.nodup
  rw [hr] at hnd
  have hrow := h.rok.row
  rw [hr] at hrow
  have hww := h.ok.words
  rw [h.each] at hww
  have hnw : n * w = s.words.length := by
    have : ((n * w : Nat) : Int) = s.words.length := by rw [hww]; exact Int.natCast_mul n w
    omega
  refine ⟨hok, ⟨hg, by simpa [rtakeS] using ht, by simpa [rtakeS] using hw, h.rok.cap, fun x hx => ?_, ⟨by simp only [rtakeS, List.length_cons] at hrow ⊢; omega, fun x hx => hrow.2 x (List.mem_cons_of_mem _ hx)⟩⟩, h.each, fun j hj => ?_, h.bound, fun j hj k hk => ?_, ?_, ?_, (List.nodup_cons.1 hnd).2, fun j hj => ?_⟩
  · rcases List.mem_or_eq_of_mem_set hx with h1 | h1
    · exact h.rok.each x h1
    · rw [h1, List.length_replicate]; exact hlen
  · have h1 := h.gen j hj
    rw [hen]
    simp only [rtakeS]
    rw [getD_set _ _ _ _ _ (by omega)]
    split
    · rename_i e; subst e; exact ⟨h1.1, rfl⟩
    · exact h1
  · have h1 := h.words j hj k hk
    simp only [takeS, rtakeS]
    rw [hf, hm.1, hm.2, seg_get (by rw [← hnw]; have := Nat.mul_le_mul_right w (show i + 1 ≤ n by omega); rw [Nat.add_mul, Nat.one_mul] at this; exact this) (by simp) hk, getD_set _ _ _ _ _ (by omega)]
    by_cases e : j = i
    · subst e; simp only [if_true, hlen]
    · rw [if_neg e, if_neg (fun e2 => e e2.symm)]; exact h1
  · show Chain (takeS s) (cellAt s s.first.toNat).2.2 l
    rw [hf, Int.toNat_natCast]
    have h5 := hch.2.2
    rw [Int.toNat_natCast] at h5
    exact chain_same hnx _ _ h5
  · show IntKind.i64.wrap (s.free - 1) = _
    have h1 := h.free
    rw [hr] at h1
    have h2 := hrow.1
    have h3 := h.ok.cap
    simp only [List.length_cons] at h1 h2
    rw [wr (by omega)]
    simp only [rtakeS]; omega
  · have h1 := h.row j hj
    rw [hr] at h1
    simp only [rtakeS]
    rw [getD_set _ _ _ _ _ (by omega)]
    by_cases e : i = j
    · subst e
      rw [if_pos rfl]
      simp only [Bool.true_eq_false, iff_false]
      exact (List.nodup_cons.1 hnd).1
    · rw [if_neg e, ← h1, List.mem_cons]
      constructor
      · exact .inr
      · rintro (h2 | h2)
        · omega
        · exact h2
theorem Rel.give (h : Rel s r n w b) (hb : b ≤ 1000) {x : Int} (hx : ¬ rgood r x < 0) : Rel (giveS s (x.tmod 64).toNat) (rgiveS r x) n w (b + 1) := by
  obtain ⟨hv, h0, hlt, htk, _⟩ := rgood_val hx
  have hg := h.rok.gen
  have ht := h.rok.taken
  have hw := h.rok.words
  have hl := h.ok.len
  obtain ⟨i, hi⟩ : ∃ i : Nat, x.tmod 64 = i := ⟨(x.tmod 64).toNat, by omega⟩
  have hin : i < n := by omega
  have hrg : rgiveS r x = { r with taken := r.taken.set i false, gen := r.gen.set i (IntKind.i64.wrap (r.gen.getD i 0 + 1)), row := (i : Int) :: r.row } := by
    unfold rgiveS; rw [if_neg hx, hv, hi, Int.toNat_natCast]
  rw [hrg, hi, Int.toNat_natCast]
  rw [hi, Int.toNat_natCast] at htk
  have hbi := h.bound i hin
  have hwr : IntKind.i64.wrap (r.gen.getD i 0 + 1) = r.gen.getD i 0 + 1 := wr (by omega)
  have hcg := (h.gen i hin).1
  have hen : ∀ j, cellAt (giveS s i) j = if i = j then (r.gen.getD i 0 + 1, false, s.first) else cellAt s j := by
    intro j
    show (s.cells.set i _).getD j (0, false, 0) = _
    rw [getD_set _ _ _ _ _ (by omega), hcg, hwr]; rfl
  have hnot : (i : Int) ∉ r.row := fun hm => by rw [(h.row i hin).1 hm] at htk; cases htk
  have hlen : r.row.length < n := by
    -- the row has no i, and all below n
    have hsub : r.row.length ≤ ((List.range n).filter (fun j => decide (j ≠ i))).length := by
      have : r.row.map Int.toNat ⊆ (List.range n).filter (fun j => decide (j ≠ i)) := by
        intro y hy
        obtain ⟨z, hz, rfl⟩ := List.mem_map.1 hy
        have hz' := h.rok.row.2 z hz
        refine List.mem_filter.2 ⟨List.mem_range.2 (by omega), ?_⟩
        simp only [decide_eq_true_eq]
        intro e
        exact hnot (by rw [← e, Int.toNat_of_nonneg hz'.1]; exact hz)
      have hnd : (r.row.map Int.toNat).Nodup := by
        have := h.nodup
        refine (List.pairwise_map).2 (List.Pairwise.imp_of_mem (fun {a c} ha hc hac => ?_) this)
        have h1 := h.rok.row.2 a ha
        have h2 := h.rok.row.2 c hc
        intro e; exact hac (by omega)
      have := List.Nodup.length_le_of_subset hnd this
      simpa using this
    have hf : ((List.range n).filter (fun j => decide (j ≠ i))).length < n := by
      have h1 : ((List.range n).filter (fun j => decide (j ≠ i))).length < (List.range n).length := by
        refine List.length_filter_lt_length_iff_exists.2 ⟨i, List.mem_range.2 hin, by simp⟩
      simpa using h1
    omega
  refine ⟨h.ok.give hin, ⟨by simpa using hg, by simpa using ht, hw, h.rok.cap, h.rok.each, ⟨by simp only [List.length_cons]; omega, fun y hy => ?_⟩⟩, h.each, fun j hj => ?_, fun j hj => ?_, h.words, ?_, ?_, List.nodup_cons.2 ⟨hnot, h.nodup⟩, fun j hj => ?_⟩
  · rcases List.mem_cons.1 hy with rfl | hy
    · omega
    · exact h.rok.row.2 y hy
  · rw [hen]
    simp only []
    rw [getD_set _ _ _ _ _ (by omega), getD_set _ _ _ _ _ (by omega), hwr]
    split
    · exact ⟨rfl, rfl⟩
    · exact h.gen j hj
  · have := h.bound j hj
    simp only []
    rw [getD_set _ _ _ _ _ (by omega), hwr]
    split <;> omega
  · show Chain (giveS s i) (i : Int) ((i : Int) :: r.row)
    refine ⟨rfl, by omega, ?_⟩
    rw [Int.toNat_natCast, hen, if_pos rfl]
    exact chain_but (j := i) (fun j hj => by rw [hen, if_neg (fun e => hj e.symm)]) _ _ hnot (fun y hy => (h.rok.row.2 y hy).1) h.chain
  · show IntKind.i64.wrap (s.free + 1) = _
    have h1 := h.free
    have h3 := h.ok.cap
    rw [wr (by omega), h1]; simp
  · simp only []
    rw [getD_set _ _ _ _ _ (by omega), List.mem_cons]
    by_cases e : i = j
    · subst e; simp
    · rw [if_neg e, ← h.row j hj]
      constructor
      · rintro (h2 | h2)
        · omega
        · exact h2
      · exact .inr
theorem Rel.read (h : Rel s r n w b) {x : Int} (hx : ¬ rgood r x < 0) : wordsOf s x = r.words.getD (rgood r x).toNat [] := by
  obtain ⟨hv, h0, hlt, _, _⟩ := rgood_val hx
  have hg := h.rok.gen
  obtain ⟨i, hi⟩ : ∃ i : Nat, x.tmod 64 = i := ⟨(x.tmod 64).toNat, by omega⟩
  have hin : i < n := by omega
  rw [hv, hi, Int.toNat_natCast]
  have hm := toNat_mul h.each i
  have hlen : (r.words.getD i []).length = w := h.rok.each_at hin
  unfold wordsOf
  rw [hi, hm.1, hm.2]
  apply List.ext_getElem?
  intro k
  rw [List.getElem?_take]
  split
  · rename_i hk
    rw [List.getElem?_drop]; exact h.words i hin k hk
  · rename_i hk
    rw [List.getElem?_eq_none (by omega)]
theorem Rel.write (h : Rel s r n w b) {x : Int} (hx : ¬ rgood r x < 0) {xs : List Int} (hl : xs.length = w) : Rel (writeS s (x.tmod 64) xs) (rwriteS r x xs) n w b := by
  obtain ⟨hv, h0, hlt, _, _⟩ := rgood_val hx
  have hg := h.rok.gen
  have hw := h.rok.words
  obtain ⟨i, hi⟩ : ∃ i : Nat, x.tmod 64 = i := ⟨(x.tmod 64).toNat, by omega⟩
  have hin : i < n := by omega
  have hm := toNat_mul h.each i
  have hww := h.ok.words
  rw [h.each] at hww
  have hnw : n * w = s.words.length := by
    have : ((n * w : Nat) : Int) = s.words.length := by rw [hww]; exact Int.natCast_mul n w
    omega
  have hrw : rwriteS r x xs = { r with words := r.words.set i xs } := by unfold rwriteS; rw [hv, hi, Int.toNat_natCast]
  rw [hrw, hi]
  have hcell : ∀ j, cellAt (writeS s (i : Int) xs) j = cellAt s j := fun j => rfl
  refine ⟨h.ok.write (by omega) (by rw [h.each, hl]), ⟨hg, h.rok.taken, by simpa using hw, h.rok.cap, fun y hy => ?_, h.rok.row⟩, h.each, h.gen, h.bound, fun j hj k hk => ?_, chain_same (fun j => by rw [hcell]) _ _ h.chain, h.free, h.nodup, h.row⟩
  · rcases List.mem_or_eq_of_mem_set hy with h1 | h1
    · exact h.rok.each y h1
    · rw [h1]; exact hl
  · have h1 := h.words j hj k hk
    simp only [writeS]
    rw [hm.1, hm.2, seg_get (by rw [← hnw]; have := Nat.mul_le_mul_right w (show i + 1 ≤ n by omega); rw [Nat.add_mul, Nat.one_mul] at this; exact this) hl hk, getD_set _ _ _ _ _ (by omega)]
    by_cases e : j = i
    · subst e; simp
    · rw [if_neg e, if_neg (fun e2 => e e2.symm)]; exact h1
theorem newS_cell (c w i : Nat) (hi : i < c) : cellAt (newS c w) i = (0, false, if i + 1 < c then ((i + 1 : Nat) : Int) else -1) := by
  show ((cellsI c c).set (c - 1) (0, false, -1)).getD i (0, false, 0) = _
  rw [getD_set _ _ _ _ _ (by rw [cellsI_len]; omega), cellsI_lt c c i hi hi]
  by_cases h : c - 1 = i
  · rw [if_pos h, if_neg (by omega)]
  · rw [if_neg h, if_pos (by omega)]; simp
theorem Rel.new {c w : Nat} (hc : 1 ≤ c ∧ c ≤ 64) (hw : w ≤ 32) : Rel (newS c w) (rnewS c w) c w 0 := by
  have hgd : ∀ {α : Type} (x d : α) (i : Nat), i < c → (List.replicate c x).getD i d = x := fun x d i hi => by
    rw [List.getD_eq_getElem?_getD, List.getElem?_replicate, if_pos hi]; rfl
  have hrow : ∀ k, k ≤ c → ∀ l : List Int, l = ((List.range c).drop k).map (fun j : Nat => (j : Int)) → Chain (newS c w) (if k < c then (k : Int) else -1) l := by
    intro k
    induction hk : c - k generalizing k with
    | zero => intro _ l hl; subst hl; rw [if_neg (by omega), List.drop_eq_nil_of_le (by simp; omega)]; rfl
    | succ m ih =>
      intro hkc l hl
      subst hl
      rw [if_pos (by omega), List.drop_eq_getElem_cons (by simp; omega)]
      simp only [List.getElem_range, List.map_cons]
      refine ⟨rfl, by omega, ?_⟩
      rw [Int.toNat_natCast, newS_cell c w k (by omega)]
      exact ih (k + 1) (by omega) (by omega) _ rfl
  refine ⟨Ok.new hc hw, ⟨by simp [rnewS], by simp [rnewS], by simp [rnewS], ⟨hc.1, hc.2, hw⟩, fun x hx => ?_, ⟨by simp [rnewS], fun x hx => ?_⟩⟩, rfl, fun i hi => ?_, fun i hi => ?_, fun i hi k hk => ?_, ?_, by simp [newS, rnewS], ?_, fun i hi => ?_⟩
  · rw [List.eq_of_mem_replicate hx]; simp
  · simp only [rnewS, List.mem_map, List.mem_range] at hx
    obtain ⟨j, hj, rfl⟩ := hx
    omega
  · rw [newS_cell c w i hi]
    simp only [rnewS]
    rw [hgd _ _ i hi, hgd _ _ i hi]; exact ⟨rfl, rfl⟩
  · simp only [rnewS]
    rw [hgd _ _ i hi]; omega
  · simp only [newS, rnewS]
    rw [hgd _ _ i hi, List.getElem?_replicate, List.getElem?_replicate, if_pos hk, if_pos]
    have := Nat.mul_le_mul_right w (show i + 1 ≤ c by omega)
    rw [Nat.add_mul, Nat.one_mul] at this; omega
  · have := hrow 0 (Nat.zero_le _) _ rfl
    rw [if_pos (by omega), List.drop_zero] at this
    exact this
  · simp only [rnewS]
    refine List.pairwise_map.2 (List.Pairwise.imp (fun {a c} h => ?_) List.nodup_range)
    omega
  · simp only [rnewS]
    rw [hgd _ _ i hi]
    simp only [List.mem_map, List.mem_range, iff_true]
    exact ⟨i, hi, rfl⟩
end
end Go.Proofs.Ytadmgicmmnbdcaa.Sl
set_option linter.unusedVariables false
set_option linter.unusedSimpArgs false
namespace Go.Proofs.Ytadmgicmmnbdcaa.Fw
open Go Go.RowKit

/-- A contract that says less. -/
theorem Meets.le {P : Program} {f : FuncId} {args : List AV} {E : List Chunk} {Y Y' : Type} {Q : Y → Prop} {res : Y → AV} {out : Y → List Chunk} {Q' : Y' → Prop} {res' : Y' → AV} {out' : Y' → List Chunk} (π : List Nat)
    (hm : Meets P f args E Q res out) (hn : nodupB π = true) (hh : headB (cellsL E) 0 π = true)
    (h : ∀ y, Q y → ∃ y', Q' y' ∧ LeV π (res y) (res' y') ∧ LeE π (out y) π (out' y')) : Meets P f args E Q' res' out' where
  callable := hm.callable
  h := by
    intro g w vals hS hr
    refine (hm.h g w vals hS hr).mono ?_
    rintro e w' ⟨y, c, g', hq, rfl, h1, h2, h3⟩
    obtain ⟨y', hq', hv, hE⟩ := h y hq
    have hI : Inv ⟨g, E, w⟩ g' [] (out y) #[] w' := ⟨fun t => .undef _, h2, h3⟩
    have hI' := hI.ren (env' := []) trivial hE hn hh
    exact ⟨y', c, g'.ren π, hq', rfl, LeV_ok _ _ _ hv h1, hI'.sim, hI'.ext⟩
end Go.Proofs.Ytadmgicmmnbdcaa.Fw
set_option linter.unusedVariables false
set_option linter.unusedSimpArgs false
namespace Go.Proofs.Ytadmgicmmnbdcaa.Sl
open Go Go.RowKit Fw

def takeR (s : Slab) : Int × Int := if s.first = -1 then (0, 4) else (hnd s s.first, 0)
def takeT (s : Slab) : Slab := if s.first = -1 then s else takeS s
theorem takeU (s : Slab) (n : Nat) (ok : Ok s n) : Meets Try.prog 14 [.ptr 0 0] (ch s) (Y := Unit) (fun _ => True)
    (fun _ => .tup [.int .i64 fun _ => (takeR s).1, .int .i64 fun _ => (takeR s).2]) (fun _ => ch (takeT s)) := by
  by_cases h : s.first = -1
  · simp only [takeR, takeT, if_pos h]; exact takeM0 s h
  · simp only [takeR, takeT, if_neg h]; exact takeM s n ok h
def rtakeR (s : Ref) : Int × Int := match s.row with | [] => (0, 4) | i :: _ => (rhnd s i.toNat, 0)
def rtakeT (s : Ref) : Ref := match s.row with | [] => s | i :: r => rtakeS s i.toNat r
theorem rtakeU (s : Ref) {n w : Nat} (ok : ROk s n w) : Meets Try.prog 15 [.ptr 0 0] (rch s) (Y := Unit) (fun _ => True)
    (fun _ => .tup [.int .i64 fun _ => (rtakeR s).1, .int .i64 fun _ => (rtakeR s).2]) (fun _ => rch (rtakeT s)) := by
  cases h : s.row with
  | nil => simp only [rtakeR, rtakeT, h]; exact rtake0 s h
  | cons i r =>
    have hi := ok.row.2 i (by rw [h]; exact List.mem_cons_self ..)
    simp only [rtakeR, rtakeT, h]; exact rtake s ok i.toNat r (by rw [Int.toNat_of_nonneg hi.1]; exact h)
def readR (s : Slab) (h : Int) : List Int × Int := if good s h = true then (wordsOf s h, 0) else ([], 6)
theorem readU (s : Slab) (n : Nat) (ok : Ok s n) (h : Int) : Meets Try.prog 18 [.ptr 0 0, .int .i64 fun _ => h] (ch s) (Y := Unit) (fun _ => True)
    (fun _ => .tup [.lst (.int .u64) fun _ => (readR s h).1, .int .i64 fun _ => (readR s h).2]) (fun _ => ch s) := by
  by_cases hg : good s h = true
  · simp only [readR, if_pos hg]; exact readM s n ok h hg
  · simp only [readR, if_neg hg]
    refine Meets.le [0, 1, 2] (readBad s h (by simpa using hg)) rfl rfl (fun y hy => ⟨(), trivial, ?_, ?_⟩)
    · (repeat' (first | exact rfl | exact trivial | refine And.intro ?_ ?_ | ((conv => whnf); first | exact rfl | exact trivial | refine And.intro ?_ ?_)))
    · (repeat' (first | exact rfl | exact trivial | refine And.intro ?_ ?_ | ((conv => whnf); first | exact rfl | exact trivial | refine And.intro ?_ ?_)))
theorem rread_val (r : Ref) (h : Int) : (if rgood r h < 0 then ([] : List Int) else r.words.getD (rgood r h).toNat [], if rgood r h < 0 then (6 : Int) else 0) = if rgood r h < 0 then ([], 6) else (r.words.getD (rgood r h).toNat [], 0) := by split <;> rfl
section
variable {s : Slab} {r : Ref} {n w b : Nat}
theorem Rel.takeR (h : Rel s r n w b) (hb : b ≤ 100000) : takeR s = rtakeR r := by
  unfold Sl.takeR rtakeR
  cases hr : r.row with
  | nil => rw [if_pos (h.first_nil hr)]
  | cons i l =>
    obtain ⟨h1, h2, h3⟩ := h.first_cons hr
    rw [if_neg (by omega), h1]
    have := h.hnd hb (i := i.toNat) (by omega)
    rw [Int.toNat_of_nonneg h2] at this
    simp only []
    rw [this.1, this.2]
theorem Rel.takeT (h : Rel s r n w b) : Rel (takeT s) (rtakeT r) n w b := by
  unfold Sl.takeT rtakeT
  cases hr : r.row with
  | nil => rw [if_pos (h.first_nil hr)]; exact h
  | cons i l =>
    obtain ⟨h1, h2, h3⟩ := h.first_cons hr
    rw [if_neg (by omega)]
    exact h.take (by rw [Int.toNat_of_nonneg h2]; exact hr)
theorem Rel.up (h : Rel s r n w b) {b' : Nat} (hb : b ≤ b') : Rel s r n w b' := ⟨h.ok, h.rok, h.each, h.gen, fun i hi => by have := h.bound i hi; omega, h.words, h.chain, h.free, h.nodup, h.row⟩
theorem Rel.giveT (h : Rel s r n w b) (hb : b ≤ 1000) (x : Int) : Rel (if good s x = true then giveS s (x.tmod 64).toNat else s) (rgiveS r x) n w (b + 1) := by
  by_cases hx : rgood r x < 0
  · rw [h.good_false (by omega) hx]
    simp only [Bool.false_eq_true, if_false, rgiveS, if_pos hx]
    exact h.up (by omega)
  · rw [if_pos ((h.good_iff (by omega) x).2 hx)]
    exact h.give hb hx
theorem Rel.giveR (h : Rel s r n w b) (hb : b ≤ 1000) (x : Int) : (if good s x = true then (0 : Int) else 6) = if rgood r x < 0 then 6 else 0 := by
  by_cases hx : rgood r x < 0
  · rw [h.good_false (by omega) hx, if_pos hx]; simp
  · rw [if_pos ((h.good_iff (by omega) x).2 hx), if_neg hx]
theorem Rel.readR (h : Rel s r n w b) (hb : b ≤ 1000) (x : Int) : (readR s x).1 = (if rgood r x < 0 then [] else r.words.getD (rgood r x).toNat []) ∧ (readR s x).2 = if rgood r x < 0 then 6 else 0 := by
  unfold Sl.readR
  by_cases hx : rgood r x < 0
  · rw [h.good_false (by omega) hx, if_pos hx, if_pos hx]; simp
  · rw [if_pos ((h.good_iff (by omega) x).2 hx), if_neg hx, if_neg hx]
    exact ⟨h.read hx, rfl⟩
theorem Rel.writeR (h : Rel s r n w b) (hb : b ≤ 1000) (x : Int) (xs : List Int) : (if good s x = true then (if (xs.length : Int) = s.each then (0 : Int) else 1) else 6) = if rgood r x < 0 then 6 else if xs.length = w then 0 else 1 := by
  have e : ((xs.length : Int) = s.each) = (xs.length = w) := by rw [h.each]; apply propext; omega
  by_cases hx : rgood r x < 0
  · rw [h.good_false (by omega) hx, if_pos hx]; simp
  · rw [if_pos ((h.good_iff (by omega) x).2 hx), if_neg hx]; simp only [e]
theorem Rel.writeT (h : Rel s r n w b) (hb : b ≤ 1000) (x : Int) (xs : List Int) : Rel (if good s x = true ∧ (xs.length : Int) = s.each then writeS s (x.tmod 64) xs else s) (if rgood r x < 0 ∨ xs.length ≠ w then r else rwriteS r x xs) n w b := by
  have e : ((xs.length : Int) = s.each) = (xs.length = w) := by rw [h.each]; apply propext; omega
  by_cases hx : rgood r x < 0
  · rw [h.good_false (by omega) hx, if_pos (Or.inl hx), if_neg (fun h => by cases h.1)]; exact h
  · have hg := (h.good_iff (by omega) x).2 hx
    by_cases hl : xs.length = w
    · rw [if_pos ⟨hg, by rw [e]; exact hl⟩, if_neg (by rintro (h | h); exact hx h; exact h hl)]
      exact h.write hx hl
    · rw [if_neg (by rw [e]; exact fun h => hl h.2), if_pos (.inr hl)]; exact h
end
def rchA (s : Ref) : List Chunk :=
  [.cells 61 [.vec 4 1 (fun _ => 0) (fun _ => s.gen.length), .vec 5 1 (fun _ => 0) (fun _ => s.taken.length), .vec 6 1 (fun _ => 0) (fun _ => s.words.length), .vec 7 1 (fun _ => 0) (fun _ => s.row.length)],
   .vect 3 (.int .i64) fun _ => s.gen, .vect 4 .bool fun _ => s.taken, .vect 33 (.list (.int .u64)) fun _ => s.words, .vect 3 (.int .i64) fun _ => s.row]
structure Sx where
  s : Slab
  r : Ref
  all : List Int
  i : Nat
theorem lawScripts (c w : Int) (l : List (Int × Int × Bool × List Int)) (hl : ∀ o ∈ l, o.2.1 ≤ 9223372036854775807) : Meets Try.prog 3 [.int .i64 fun _ => c, .int .i64 fun _ => w, .lst OpT fun _ => l] [] (Y := Unit) (fun _ => True) (fun _ => .tt) (fun _ => []) := by
  by_cases hw : c < 1 ∨ 64 < c ∨ w < 0 ∨ 32 < w
  · refine Meets.intro hm (fn := Try.f3) Try.func3 rfl (by decide) (Nat.le_of_ble_eq_true rfl) (fun _ => rfl) ?_; intro S hok; (conv => whnf)
    (repeat' ((conv => whnf); first | refine And.intro ?_ ?_ | exact Cl.mk (by kernel_rfl) | exact trivial | exact rfl | (intro hh; try simp only [decide_eq_true_eq, decide_eq_false_iff_not, beq_iff_eq, beq_eq_false_iff_ne, bne_iff_ne, bne_eq_false_iff_eq, Bool.not_eq_true', Bool.not_eq_false', Bool.not_true, Bool.not_false] at hh))); all_goals (conv => whnf)
    (refine CallN.intro (fewM l) [] rfl rfl ?_ ?_ ?_; ((repeat' (first | exact rfl | exact trivial | refine And.intro ?_ ?_ | ((conv => whnf); first | exact rfl | exact trivial | refine And.intro ?_ ?_)))); ((repeat' (first | exact rfl | exact trivial | refine And.intro ?_ ?_ | ((conv => whnf); first | exact rfl | exact trivial | refine And.intro ?_ ?_)))); (intro y hy; clear y hy; (repeat' ((conv => whnf); first | refine And.intro ?_ ?_ | exact Cl.mk (by kernel_rfl) | exact trivial | exact rfl | (intro hh; try simp only [decide_eq_true_eq, decide_eq_false_iff_not, beq_iff_eq, beq_eq_false_iff_ne, bne_iff_ne, bne_eq_false_iff_eq, Bool.not_eq_true', Bool.not_eq_false', Bool.not_true, Bool.not_false] at hh; try exact absurd hh (by decide)))); all_goals (conv => whnf); (all_goals first | (exact Ob.mk (by decide)) | skip)))
    all_goals first | ((refine CallN.intro lawLive [] rfl rfl ?_ ?_ ?_; ((repeat' (first | exact rfl | exact trivial | refine And.intro ?_ ?_ | ((conv => whnf); first | exact rfl | exact trivial | refine And.intro ?_ ?_)))); ((repeat' (first | exact rfl | exact trivial | refine And.intro ?_ ?_ | ((conv => whnf); first | exact rfl | exact trivial | refine And.intro ?_ ?_)))); (intro y hy; clear y hy; (repeat' ((conv => whnf); first | refine And.intro ?_ ?_ | exact Cl.mk (by kernel_rfl) | exact trivial | exact rfl | (intro hh; try simp only [decide_eq_true_eq, decide_eq_false_iff_not, beq_iff_eq, beq_eq_false_iff_ne, bne_iff_ne, bne_eq_false_iff_eq, Bool.not_eq_true', Bool.not_eq_false', Bool.not_true, Bool.not_false] at hh; try exact absurd hh (by decide)))); all_goals (conv => whnf); (all_goals first | (exact Ob.mk (by decide)) | skip))); all_goals (refine RetN.intro () [] rfl rfl ?_ ?_ ?_; ((repeat' (first | exact rfl | exact trivial | refine And.intro ?_ ?_ | ((conv => whnf); first | exact rfl | exact trivial | refine And.intro ?_ ?_)))); ((repeat' (first | exact rfl | exact trivial | refine And.intro ?_ ?_ | ((conv => whnf); first | exact rfl | exact trivial | refine And.intro ?_ ?_))); all_goals (conv => whnf); all_goals (try simp only []))); done) | skip
    (refine CallN.intro (newBad c w hw) [] rfl rfl ?_ ?_ ?_; ((repeat' (first | exact rfl | exact trivial | refine And.intro ?_ ?_ | ((conv => whnf); first | exact rfl | exact trivial | refine And.intro ?_ ?_)))); ((repeat' (first | exact rfl | exact trivial | refine And.intro ?_ ?_ | ((conv => whnf); first | exact rfl | exact trivial | refine And.intro ?_ ?_)))); (intro y hy; clear y hy; (repeat' ((conv => whnf); first | refine And.intro ?_ ?_ | exact Cl.mk (by kernel_rfl) | exact trivial | exact rfl | (intro hh; try simp only [decide_eq_true_eq, decide_eq_false_iff_not, beq_iff_eq, beq_eq_false_iff_ne, bne_iff_ne, bne_eq_false_iff_eq, Bool.not_eq_true', Bool.not_eq_false', Bool.not_true, Bool.not_false] at hh; try exact absurd hh (by decide)))); all_goals (conv => whnf); (all_goals first | (exact Ob.mk (by decide)) | skip)))
    (refine CallN.intro (rnewBad c w hw) [] rfl rfl ?_ ?_ ?_; ((repeat' (first | exact rfl | exact trivial | refine And.intro ?_ ?_ | ((conv => whnf); first | exact rfl | exact trivial | refine And.intro ?_ ?_)))); ((repeat' (first | exact rfl | exact trivial | refine And.intro ?_ ?_ | ((conv => whnf); first | exact rfl | exact trivial | refine And.intro ?_ ?_)))); (intro y hy; clear y hy; (repeat' ((conv => whnf); first | refine And.intro ?_ ?_ | exact Cl.mk (by kernel_rfl) | exact trivial | exact rfl | (intro hh; try simp only [decide_eq_true_eq, decide_eq_false_iff_not, beq_iff_eq, beq_eq_false_iff_ne, bne_iff_ne, bne_eq_false_iff_eq, Bool.not_eq_true', Bool.not_eq_false', Bool.not_true, Bool.not_false] at hh; try exact absurd hh (by decide)))); all_goals (conv => whnf); (all_goals first | (exact Ob.mk (by decide)) | skip)))
    (refine CallN.intro lawLive [] rfl rfl ?_ ?_ ?_; ((repeat' (first | exact rfl | exact trivial | refine And.intro ?_ ?_ | ((conv => whnf); first | exact rfl | exact trivial | refine And.intro ?_ ?_)))); ((repeat' (first | exact rfl | exact trivial | refine And.intro ?_ ?_ | ((conv => whnf); first | exact rfl | exact trivial | refine And.intro ?_ ?_)))); (intro y hy; clear y hy; (repeat' ((conv => whnf); first | refine And.intro ?_ ?_ | exact Cl.mk (by kernel_rfl) | exact trivial | exact rfl | (intro hh; try simp only [decide_eq_true_eq, decide_eq_false_iff_not, beq_iff_eq, beq_eq_false_iff_ne, bne_iff_ne, bne_eq_false_iff_eq, Bool.not_eq_true', Bool.not_eq_false', Bool.not_true, Bool.not_false] at hh; try exact absurd hh (by decide)))); all_goals (conv => whnf); (all_goals first | (exact Ob.mk (by decide)) | skip)))
    (refine RetN.intro () [] rfl rfl ?_ ?_ ?_; ((repeat' (first | exact rfl | exact trivial | refine And.intro ?_ ?_ | ((conv => whnf); first | exact rfl | exact trivial | refine And.intro ?_ ?_)))); ((repeat' (first | exact rfl | exact trivial | refine And.intro ?_ ?_ | ((conv => whnf); first | exact rfl | exact trivial | refine And.intro ?_ ?_))); all_goals (conv => whnf); all_goals (try simp only [])))
  · obtain ⟨n, rfl⟩ : ∃ k : Nat, c = k := ⟨c.toNat, by omega⟩
    obtain ⟨w, rfl⟩ : ∃ k : Nat, w = k := ⟨w.toNat, by omega⟩
    have hn : 1 ≤ n ∧ n ≤ 64 := by omega
    have hww : w ≤ 32 := by omega
    refine Meets.intro hm (fn := Try.f3) Try.func3 rfl (by decide) (Nat.le_of_ble_eq_true rfl) (fun _ => rfl) ?_; intro S hok; (conv => whnf)
    (repeat' ((conv => whnf); first | refine And.intro ?_ ?_ | exact Cl.mk (by kernel_rfl) | exact trivial | exact rfl | (intro hh; try simp only [decide_eq_true_eq, decide_eq_false_iff_not, beq_iff_eq, beq_eq_false_iff_ne, bne_iff_ne, bne_eq_false_iff_eq, Bool.not_eq_true', Bool.not_eq_false', Bool.not_true, Bool.not_false] at hh))); all_goals (conv => whnf)
    (refine CallN.intro (fewM l) [] rfl rfl ?_ ?_ ?_; ((repeat' (first | exact rfl | exact trivial | refine And.intro ?_ ?_ | ((conv => whnf); first | exact rfl | exact trivial | refine And.intro ?_ ?_)))); ((repeat' (first | exact rfl | exact trivial | refine And.intro ?_ ?_ | ((conv => whnf); first | exact rfl | exact trivial | refine And.intro ?_ ?_)))); (intro y hy; clear y hy; (repeat' ((conv => whnf); first | refine And.intro ?_ ?_ | exact Cl.mk (by kernel_rfl) | exact trivial | exact rfl | (intro hh; try simp only [decide_eq_true_eq, decide_eq_false_iff_not, beq_iff_eq, beq_eq_false_iff_ne, bne_iff_ne, bne_eq_false_iff_eq, Bool.not_eq_true', Bool.not_eq_false', Bool.not_true, Bool.not_false] at hh; try exact absurd hh (by decide)))); all_goals (conv => whnf); (all_goals first | (exact Ob.mk (by decide)) | skip)))
    all_goals first | ((refine CallN.intro lawLive [] rfl rfl ?_ ?_ ?_; ((repeat' (first | exact rfl | exact trivial | refine And.intro ?_ ?_ | ((conv => whnf); first | exact rfl | exact trivial | refine And.intro ?_ ?_)))); ((repeat' (first | exact rfl | exact trivial | refine And.intro ?_ ?_ | ((conv => whnf); first | exact rfl | exact trivial | refine And.intro ?_ ?_)))); (intro y hy; clear y hy; (repeat' ((conv => whnf); first | refine And.intro ?_ ?_ | exact Cl.mk (by kernel_rfl) | exact trivial | exact rfl | (intro hh; try simp only [decide_eq_true_eq, decide_eq_false_iff_not, beq_iff_eq, beq_eq_false_iff_ne, bne_iff_ne, bne_eq_false_iff_eq, Bool.not_eq_true', Bool.not_eq_false', Bool.not_true, Bool.not_false] at hh; try exact absurd hh (by decide)))); all_goals (conv => whnf); (all_goals first | (exact Ob.mk (by decide)) | skip))); all_goals (refine RetN.intro () [] rfl rfl ?_ ?_ ?_; ((repeat' (first | exact rfl | exact trivial | refine And.intro ?_ ?_ | ((conv => whnf); first | exact rfl | exact trivial | refine And.intro ?_ ?_)))); ((repeat' (first | exact rfl | exact trivial | refine And.intro ?_ ?_ | ((conv => whnf); first | exact rfl | exact trivial | refine And.intro ?_ ?_))); all_goals (conv => whnf); all_goals (try simp only []))); done) | skip
    (refine CallN.intro (newM n w hn hww) [] rfl rfl ?_ ?_ ?_; ((repeat' (first | exact rfl | exact trivial | refine And.intro ?_ ?_ | ((conv => whnf); first | exact rfl | exact trivial | refine And.intro ?_ ?_)))); ((repeat' (first | exact rfl | exact trivial | refine And.intro ?_ ?_ | ((conv => whnf); first | exact rfl | exact trivial | refine And.intro ?_ ?_)))); (intro y hy; clear y hy; (repeat' ((conv => whnf); first | refine And.intro ?_ ?_ | exact Cl.mk (by kernel_rfl) | exact trivial | exact rfl | (intro hh; try simp only [decide_eq_true_eq, decide_eq_false_iff_not, beq_iff_eq, beq_eq_false_iff_ne, bne_iff_ne, bne_eq_false_iff_eq, Bool.not_eq_true', Bool.not_eq_false', Bool.not_true, Bool.not_false] at hh; try exact absurd hh (by decide)))); all_goals (conv => whnf); (all_goals first | (exact Ob.mk (by decide)) | skip)))
    (refine CallN.intro (rnew n w hn hww) [] rfl rfl ?_ ?_ ?_; ((repeat' (first | exact rfl | exact trivial | refine And.intro ?_ ?_ | ((conv => whnf); first | exact rfl | exact trivial | refine And.intro ?_ ?_)))); ((repeat' (first | exact rfl | exact trivial | refine And.intro ?_ ?_ | ((conv => whnf); first | exact rfl | exact trivial | refine And.intro ?_ ?_)))); (intro y hy; clear y hy; (repeat' ((conv => whnf); first | refine And.intro ?_ ?_ | exact Cl.mk (by kernel_rfl) | exact trivial | exact rfl | (intro hh; try simp only [decide_eq_true_eq, decide_eq_false_iff_not, beq_iff_eq, beq_eq_false_iff_ne, bne_iff_ne, bne_eq_false_iff_eq, Bool.not_eq_true', Bool.not_eq_false', Bool.not_true, Bool.not_false] at hh; try exact absurd hh (by decide)))); all_goals (conv => whnf); (all_goals first | (exact Ob.mk (by decide)) | skip)))
    have hlen : l.length ≤ 60 ∧ ∀ o ∈ l, o.2.2.2.length ≤ 40 := by simpa using ‹(decide (l.length ≤ 60) && l.all fun o => decide (o.2.2.2.length ≤ 40)) = true›
    have b1 : Try.t3.bytes = 8 := rfl
    refine LoopN.nil 3 (.int .i64) none [11] ?_
    (conv => whnf)
    refine LoopN.intro hm (X := Sx) (fun x => x.i ≤ l.length ∧ Rel x.s x.r n w x.i ∧ x.all.length ≤ x.i ∧ ∀ z ∈ x.all, z ≤ 9223372036854775807) (fun x => l.length - x.i)
      (fun x => [(12, .int .i64 fun _ => (x.i : Int)), (11, .vec 8 1 (fun _ => 0) fun _ => x.all.length), (9, .ptr 3 0), (7, .ptr 0 0), (2, .lst OpT fun _ => l)])
      (fun x => ch x.s ++ rchA x.r ++ [.vect 3 (.int .i64) fun _ => x.all]) ⟨newS n w, rnewS n w, [], 0⟩ [0, 1, 2, 3, 4, 5, 6, 7, 8] ⟨rfl, rfl, ?_, ?_⟩ ⟨Nat.zero_le _, Rel.new hn hww, Nat.le_refl _, by simp⟩ (fun x hx => ?_)
    · (repeat' (first | exact rfl | exact trivial | refine And.intro ?_ ?_ | ((conv => whnf); first | exact rfl | exact trivial | refine And.intro ?_ ?_)))
    · (repeat' (first | exact rfl | exact trivial | refine And.intro ?_ ?_ | ((conv => whnf); first | exact rfl | exact trivial | refine And.intro ?_ ?_)))
    · obtain ⟨s, r, all, i⟩ := x
      obtain ⟨hi, hrel, hal, hall⟩ := hx
      simp only [] at hi hrel hal hall
      have hok := hrel.ok
      have hrok := hrel.rok
      have hin : (i : Int) < l.length → l.getD i OpT.dflt ∈ l := fun h => by
        rw [List.getD_eq_getElem?_getD, List.getElem?_eq_getElem (by omega)]; exact List.getElem_mem _
      (repeat' ((conv => whnf); first | refine And.intro ?_ ?_ | exact Cl.mk (by kernel_rfl) | exact trivial | exact rfl | (intro hh; try simp only [decide_eq_true_eq, decide_eq_false_iff_not, beq_iff_eq, beq_eq_false_iff_ne, bne_iff_ne, bne_eq_false_iff_eq, Bool.not_eq_true', Bool.not_eq_false', Bool.not_true, Bool.not_false] at hh))); all_goals (conv => whnf)
      · (refine Ob.mk ?_; (try simp only [Ty.dflt, Nat.zero_add, Nat.add_zero, Int.toNat_natCast, Int.toNat_zero, Int.toNat_one, List.length_take, List.length_drop, List.length_append, List.length_replicate, List.length_cons, List.length_nil, List.length_set, List.length_map, true_and, and_true]); omega)
      · have hm1 := hin hh
        have e0 : ((i : Int)).toNat = i := Int.toNat_natCast i
        simp only [e0]
        obtain ⟨o, ho⟩ : ∃ o, o = l.getD i OpT.dflt := ⟨_, rfl⟩
        rw [← ho] at hm1 ⊢
        obtain ⟨d, h0, own, ws⟩ := o
        have hws := hlen.2 _ hm1
        have hh0 := hl _ hm1
        simp only [] at hws hh0
        refine CallN.rest (opOf d h0 own ws all (by omega)) [8] ?_ (fun _ _ => ⟨rfl, rfl⟩) ?_
        · (repeat' (first | exact rfl | exact trivial | refine And.intro ?_ ?_ | ((conv => whnf); first | exact rfl | exact trivial | refine And.intro ?_ ?_))); all_goals (conv => whnf); all_goals (try simp only [])
          simp
        · intro y hy
          obtain ⟨H, hH⟩ : ∃ H, H = (if own = true ∧ 0 ≤ h0 ∧ h0 < all.length then all.getD (all.length - 1 - h0.toNat) 0 else h0) := ⟨_, rfl⟩
          have hHb : H ≤ 9223372036854775807 := by
            rw [hH]; split
            · rw [List.getD_eq_getElem?_getD]
              cases hz : all[all.length - 1 - h0.toNat]? with
              | none => simp
              | some z => exact hall z (List.mem_of_getElem? hz)
            · exact hh0
          rw [← hH]
          (repeat' ((conv => whnf); first | refine And.intro ?_ ?_ | exact Cl.mk (by kernel_rfl) | exact trivial | exact rfl | (intro hh; try simp only [decide_eq_true_eq, decide_eq_false_iff_not, beq_iff_eq, beq_eq_false_iff_ne, bne_iff_ne, bne_eq_false_iff_eq, Bool.not_eq_true', Bool.not_eq_false', Bool.not_true, Bool.not_false] at hh))); all_goals (conv => whnf)
          all_goals try (refine Ob.mk ?_; (try simp only [Ty.dflt, Nat.zero_add, Nat.add_zero, Int.toNat_natCast, Int.toNat_zero, Int.toNat_one, List.length_take, List.length_drop, List.length_append, List.length_replicate, List.length_cons, List.length_nil, List.length_set, List.length_map, true_and, and_true]); omega)
          all_goals (try simp only [e0]); all_goals (try rw [← ho])
          · refine CallN.intro (takeU s n hok) [0, 1, 2] rfl rfl ?_ ?_ ?_
            · (repeat' (first | exact rfl | exact trivial | refine And.intro ?_ ?_ | ((conv => whnf); first | exact rfl | exact trivial | refine And.intro ?_ ?_)))
            · (repeat' (first | exact rfl | exact trivial | refine And.intro ?_ ?_ | ((conv => whnf); first | exact rfl | exact trivial | refine And.intro ?_ ?_)))
            intro y hy
            (repeat' ((conv => whnf); first | refine And.intro ?_ ?_ | exact Cl.mk (by kernel_rfl) | exact trivial | exact rfl | (intro hh; try simp only [decide_eq_true_eq, decide_eq_false_iff_not, beq_iff_eq, beq_eq_false_iff_ne, bne_iff_ne, bne_eq_false_iff_eq, Bool.not_eq_true', Bool.not_eq_false', Bool.not_true, Bool.not_false] at hh; try exact absurd hh (by decide)))); all_goals (conv => whnf)
            refine CallN.intro (rtakeU r hrok) [3, 4, 5, 6, 7] rfl rfl ?_ ?_ ?_
            · (repeat' (first | exact rfl | exact trivial | refine And.intro ?_ ?_ | ((conv => whnf); first | exact rfl | exact trivial | refine And.intro ?_ ?_)))
            · (repeat' (first | exact rfl | exact trivial | refine And.intro ?_ ?_ | ((conv => whnf); first | exact rfl | exact trivial | refine And.intro ?_ ?_)))
            intro y hy
            have htr := hrel.takeR (by omega)
            rw [← htr]
            (repeat' ((conv => whnf); first | refine And.intro ?_ ?_ | exact Cl.mk (by kernel_rfl) | exact trivial | exact rfl | (intro hh; try simp only [decide_eq_true_eq, decide_eq_false_iff_not, beq_iff_eq, beq_eq_false_iff_ne, bne_iff_ne, bne_eq_false_iff_eq, Bool.not_eq_true', Bool.not_eq_false', Bool.not_true, Bool.not_false] at hh; try exact absurd hh (by decide)))); all_goals (conv => whnf)
            all_goals try (exfalso; exact hh rfl)
            · (refine Ob.mk ?_; (try simp only [Ty.dflt, Nat.zero_add, Nat.add_zero, Int.toNat_natCast, Int.toNat_zero, Int.toNat_one, List.length_take, List.length_drop, List.length_append, List.length_replicate, List.length_cons, List.length_nil, List.length_set, List.length_map, true_and, and_true, b1]); omega)
            have hrel1 := hrel.takeT.up (Nat.le_succ i)
            have hbd : (takeR s).1 ≤ 9223372036854775807 := by
              unfold takeR
              split
              · decide
              · rename_i hne
                have h1 := hrel.ok.first
                have h2 := hrel.hnd (by omega) (i := s.first.toNat) (by omega)
                have h3 := hrel.bound s.first.toNat (by omega)
                rw [Int.toNat_of_nonneg (by omega)] at h2
                simp only []
                rw [h2.1]; omega
            have hok1 := hrel1.ok
            have hrok1 := hrel1.rok
            refine CallN.intro (freeM (takeT s)) [0, 1, 2] rfl rfl ?_ ?_ ?_
            · (repeat' (first | exact rfl | exact trivial | refine And.intro ?_ ?_ | ((conv => whnf); first | exact rfl | exact trivial | refine And.intro ?_ ?_)))
            · (repeat' (first | exact rfl | exact trivial | refine And.intro ?_ ?_ | ((conv => whnf); first | exact rfl | exact trivial | refine And.intro ?_ ?_)))
            intro y hy
            (repeat' ((conv => whnf); first | refine And.intro ?_ ?_ | exact Cl.mk (by kernel_rfl) | exact trivial | exact rfl | (intro hh; try simp only [decide_eq_true_eq, decide_eq_false_iff_not, beq_iff_eq, beq_eq_false_iff_ne, bne_iff_ne, bne_eq_false_iff_eq, Bool.not_eq_true', Bool.not_eq_false', Bool.not_true, Bool.not_false] at hh; try exact absurd hh (by decide)))); all_goals (conv => whnf)
            refine CallN.intro (rfree (rtakeT r)) [3, 4, 5, 6, 7] rfl rfl ?_ ?_ ?_
            · (repeat' (first | exact rfl | exact trivial | refine And.intro ?_ ?_ | ((conv => whnf); first | exact rfl | exact trivial | refine And.intro ?_ ?_)))
            · (repeat' (first | exact rfl | exact trivial | refine And.intro ?_ ?_ | ((conv => whnf); first | exact rfl | exact trivial | refine And.intro ?_ ?_)))
            intro y hy
            (repeat' ((conv => whnf); first | refine And.intro ?_ ?_ | exact Cl.mk (by kernel_rfl) | exact trivial | exact rfl | (intro hh; try simp only [decide_eq_true_eq, decide_eq_false_iff_not, beq_iff_eq, beq_eq_false_iff_ne, bne_iff_ne, bne_eq_false_iff_eq, Bool.not_eq_true', Bool.not_eq_false', Bool.not_true, Bool.not_false] at hh; try exact absurd hh (by decide)))); all_goals (conv => whnf)
            all_goals try (exfalso; exact hh hrel1.free)
            refine CallN.intro (liveM (takeT s) (by rw [hok1.len]; exact hn.2)) [0, 1, 2] rfl rfl ?_ ?_ ?_
            · (repeat' (first | exact rfl | exact trivial | refine And.intro ?_ ?_ | ((conv => whnf); first | exact rfl | exact trivial | refine And.intro ?_ ?_)))
            · (repeat' (first | exact rfl | exact trivial | refine And.intro ?_ ?_ | ((conv => whnf); first | exact rfl | exact trivial | refine And.intro ?_ ?_)))
            intro y hy
            (repeat' ((conv => whnf); first | refine And.intro ?_ ?_ | exact Cl.mk (by kernel_rfl) | exact trivial | exact rfl | (intro hh; try simp only [decide_eq_true_eq, decide_eq_false_iff_not, beq_iff_eq, beq_eq_false_iff_ne, bne_iff_ne, bne_eq_false_iff_eq, Bool.not_eq_true', Bool.not_eq_false', Bool.not_true, Bool.not_false] at hh; try exact absurd hh (by decide)))); all_goals (conv => whnf)
            refine CallN.intro (rlive (rtakeT r) hrok1) [3, 4, 5, 6, 7] rfl rfl ?_ ?_ ?_
            · (repeat' (first | exact rfl | exact trivial | refine And.intro ?_ ?_ | ((conv => whnf); first | exact rfl | exact trivial | refine And.intro ?_ ?_)))
            · (repeat' (first | exact rfl | exact trivial | refine And.intro ?_ ?_ | ((conv => whnf); first | exact rfl | exact trivial | refine And.intro ?_ ?_)))
            intro y hy
            (repeat' ((conv => whnf); first | refine And.intro ?_ ?_ | exact Cl.mk (by kernel_rfl) | exact trivial | exact rfl | (intro hh; try simp only [decide_eq_true_eq, decide_eq_false_iff_not, beq_iff_eq, beq_eq_false_iff_ne, bne_iff_ne, bne_eq_false_iff_eq, Bool.not_eq_true', Bool.not_eq_false', Bool.not_true, Bool.not_false] at hh; try exact absurd hh (by decide)))); all_goals (conv => whnf)
            refine CallN.intro (intsM (taken (takeT s)) (rtaken (rtakeT r)) (by have := taken_len (takeT s) (takeT s).cells.length; rw [hok1.len] at this; unfold taken; rw [hok1.len]; omega)) [] rfl rfl ?_ ?_ ?_
            · (repeat' (first | exact rfl | exact trivial | refine And.intro ?_ ?_ | ((conv => whnf); first | exact rfl | exact trivial | refine And.intro ?_ ?_)))
            · (repeat' (first | exact rfl | exact trivial | refine And.intro ?_ ?_ | ((conv => whnf); first | exact rfl | exact trivial | refine And.intro ?_ ?_)))
            intro y hy
            (repeat' ((conv => whnf); first | refine And.intro ?_ ?_ | exact Cl.mk (by kernel_rfl) | exact trivial | exact rfl | (intro hh; try simp only [decide_eq_true_eq, decide_eq_false_iff_not, beq_iff_eq, beq_eq_false_iff_ne, bne_iff_ne, bne_eq_false_iff_eq, Bool.not_eq_true', Bool.not_eq_false', Bool.not_true, Bool.not_false] at hh; try exact absurd hh (by decide)))); all_goals (conv => whnf)
            all_goals try (exfalso; exact absurd (hrel1.taken_eq (by omega)) (by simpa using hh))
            refine ⟨⟨(takeT s), (rtakeT r), (all ++ [(takeR s).1]), i + 1⟩, [0, 1, 2, 3, 4, 5, 6, 7, 8], ⟨rfl, rfl, ?_, ?_⟩, ⟨(by show i + 1 ≤ l.length; omega), hrel1, ?_⟩, (by show l.length - (i + 1) < l.length - i; omega)⟩
            · (repeat' (first | exact rfl | exact trivial | refine And.intro ?_ ?_ | ((conv => whnf); first | exact rfl | exact trivial | refine And.intro ?_ ?_))); all_goals (conv => whnf); all_goals (try simp only [])
              all_goals simp
            · (repeat' (first | exact rfl | exact trivial | refine And.intro ?_ ?_ | ((conv => whnf); first | exact rfl | exact trivial | refine And.intro ?_ ?_))); all_goals (conv => whnf); all_goals (try simp only [])
              all_goals first | exact wr1 i (n := 60) (by omega) (by omega) | simp
            · refine ⟨(by show (all ++ [(takeR s).1]).length ≤ i + 1; simp; omega), fun z hz => ?_⟩
              rcases List.mem_append.1 hz with hz | hz
              · exact hall z hz
              · rw [List.mem_singleton.1 hz]; exact hbd
          · refine CallN.intro (giveM s H) [0, 1, 2] rfl rfl ?_ ?_ ?_
            · (repeat' (first | exact rfl | exact trivial | refine And.intro ?_ ?_ | ((conv => whnf); first | exact rfl | exact trivial | refine And.intro ?_ ?_)))
            · (repeat' (first | exact rfl | exact trivial | refine And.intro ?_ ?_ | ((conv => whnf); first | exact rfl | exact trivial | refine And.intro ?_ ?_)))
            intro y hy
            have hgr := hrel.giveR (by omega) H
            rw [hgr]
            have hrel1 := hrel.giveT (by omega) H
            obtain ⟨s1, hs1⟩ : ∃ s1, s1 = (if good s H = true then giveS s (H.tmod 64).toNat else s) := ⟨_, rfl⟩
            rw [← hs1] at hrel1 ⊢
            (repeat' ((conv => whnf); first | refine And.intro ?_ ?_ | exact Cl.mk (by kernel_rfl) | exact trivial | exact rfl | (intro hh; try simp only [decide_eq_true_eq, decide_eq_false_iff_not, beq_iff_eq, beq_eq_false_iff_ne, bne_iff_ne, bne_eq_false_iff_eq, Bool.not_eq_true', Bool.not_eq_false', Bool.not_true, Bool.not_false] at hh; try exact absurd hh (by decide)))); all_goals (conv => whnf)
            refine CallN.intro (rgive r hrok H hHb) [3, 4, 5, 6, 7] rfl rfl ?_ ?_ ?_
            · (repeat' (first | exact rfl | exact trivial | refine And.intro ?_ ?_ | ((conv => whnf); first | exact rfl | exact trivial | refine And.intro ?_ ?_)))
            · (repeat' (first | exact rfl | exact trivial | refine And.intro ?_ ?_ | ((conv => whnf); first | exact rfl | exact trivial | refine And.intro ?_ ?_)))
            intro y hy
            (repeat' ((conv => whnf); first | refine And.intro ?_ ?_ | exact Cl.mk (by kernel_rfl) | exact trivial | exact rfl | (intro hh; try simp only [decide_eq_true_eq, decide_eq_false_iff_not, beq_iff_eq, beq_eq_false_iff_ne, bne_iff_ne, bne_eq_false_iff_eq, Bool.not_eq_true', Bool.not_eq_false', Bool.not_true, Bool.not_false] at hh; try exact absurd hh (by decide)))); all_goals (conv => whnf)
            all_goals try (exfalso; exact hh rfl)
            have hok1 := hrel1.ok
            have hrok1 := hrel1.rok
            refine CallN.intro (freeM s1) [0, 1, 2] rfl rfl ?_ ?_ ?_
            · (repeat' (first | exact rfl | exact trivial | refine And.intro ?_ ?_ | ((conv => whnf); first | exact rfl | exact trivial | refine And.intro ?_ ?_)))
            · (repeat' (first | exact rfl | exact trivial | refine And.intro ?_ ?_ | ((conv => whnf); first | exact rfl | exact trivial | refine And.intro ?_ ?_)))
            intro y hy
            (repeat' ((conv => whnf); first | refine And.intro ?_ ?_ | exact Cl.mk (by kernel_rfl) | exact trivial | exact rfl | (intro hh; try simp only [decide_eq_true_eq, decide_eq_false_iff_not, beq_iff_eq, beq_eq_false_iff_ne, bne_iff_ne, bne_eq_false_iff_eq, Bool.not_eq_true', Bool.not_eq_false', Bool.not_true, Bool.not_false] at hh; try exact absurd hh (by decide)))); all_goals (conv => whnf)
            refine CallN.intro (rfree (rgiveS r H)) [3, 4, 5, 6, 7] rfl rfl ?_ ?_ ?_
            · (repeat' (first | exact rfl | exact trivial | refine And.intro ?_ ?_ | ((conv => whnf); first | exact rfl | exact trivial | refine And.intro ?_ ?_)))
            · (repeat' (first | exact rfl | exact trivial | refine And.intro ?_ ?_ | ((conv => whnf); first | exact rfl | exact trivial | refine And.intro ?_ ?_)))
            intro y hy
            (repeat' ((conv => whnf); first | refine And.intro ?_ ?_ | exact Cl.mk (by kernel_rfl) | exact trivial | exact rfl | (intro hh; try simp only [decide_eq_true_eq, decide_eq_false_iff_not, beq_iff_eq, beq_eq_false_iff_ne, bne_iff_ne, bne_eq_false_iff_eq, Bool.not_eq_true', Bool.not_eq_false', Bool.not_true, Bool.not_false] at hh; try exact absurd hh (by decide)))); all_goals (conv => whnf)
            all_goals try (exfalso; exact hh hrel1.free)
            refine CallN.intro (liveM s1 (by rw [hok1.len]; exact hn.2)) [0, 1, 2] rfl rfl ?_ ?_ ?_
            · (repeat' (first | exact rfl | exact trivial | refine And.intro ?_ ?_ | ((conv => whnf); first | exact rfl | exact trivial | refine And.intro ?_ ?_)))
            · (repeat' (first | exact rfl | exact trivial | refine And.intro ?_ ?_ | ((conv => whnf); first | exact rfl | exact trivial | refine And.intro ?_ ?_)))
            intro y hy
            (repeat' ((conv => whnf); first | refine And.intro ?_ ?_ | exact Cl.mk (by kernel_rfl) | exact trivial | exact rfl | (intro hh; try simp only [decide_eq_true_eq, decide_eq_false_iff_not, beq_iff_eq, beq_eq_false_iff_ne, bne_iff_ne, bne_eq_false_iff_eq, Bool.not_eq_true', Bool.not_eq_false', Bool.not_true, Bool.not_false] at hh; try exact absurd hh (by decide)))); all_goals (conv => whnf)
            refine CallN.intro (rlive (rgiveS r H) hrok1) [3, 4, 5, 6, 7] rfl rfl ?_ ?_ ?_
            · (repeat' (first | exact rfl | exact trivial | refine And.intro ?_ ?_ | ((conv => whnf); first | exact rfl | exact trivial | refine And.intro ?_ ?_)))
            · (repeat' (first | exact rfl | exact trivial | refine And.intro ?_ ?_ | ((conv => whnf); first | exact rfl | exact trivial | refine And.intro ?_ ?_)))
            intro y hy
            (repeat' ((conv => whnf); first | refine And.intro ?_ ?_ | exact Cl.mk (by kernel_rfl) | exact trivial | exact rfl | (intro hh; try simp only [decide_eq_true_eq, decide_eq_false_iff_not, beq_iff_eq, beq_eq_false_iff_ne, bne_iff_ne, bne_eq_false_iff_eq, Bool.not_eq_true', Bool.not_eq_false', Bool.not_true, Bool.not_false] at hh; try exact absurd hh (by decide)))); all_goals (conv => whnf)
            refine CallN.intro (intsM (taken s1) (rtaken (rgiveS r H)) (by have := taken_len s1 s1.cells.length; rw [hok1.len] at this; unfold taken; rw [hok1.len]; omega)) [] rfl rfl ?_ ?_ ?_
            · (repeat' (first | exact rfl | exact trivial | refine And.intro ?_ ?_ | ((conv => whnf); first | exact rfl | exact trivial | refine And.intro ?_ ?_)))
            · (repeat' (first | exact rfl | exact trivial | refine And.intro ?_ ?_ | ((conv => whnf); first | exact rfl | exact trivial | refine And.intro ?_ ?_)))
            intro y hy
            (repeat' ((conv => whnf); first | refine And.intro ?_ ?_ | exact Cl.mk (by kernel_rfl) | exact trivial | exact rfl | (intro hh; try simp only [decide_eq_true_eq, decide_eq_false_iff_not, beq_iff_eq, beq_eq_false_iff_ne, bne_iff_ne, bne_eq_false_iff_eq, Bool.not_eq_true', Bool.not_eq_false', Bool.not_true, Bool.not_false] at hh; try exact absurd hh (by decide)))); all_goals (conv => whnf)
            all_goals try (exfalso; exact absurd (hrel1.taken_eq (by omega)) (by simpa using hh))
            refine ⟨⟨s1, (rgiveS r H), all, i + 1⟩, [0, 1, 2, 3, 4, 5, 6, 7, 8], ⟨rfl, rfl, ?_, ?_⟩, ⟨(by show i + 1 ≤ l.length; omega), hrel1, ?_⟩, (by show l.length - (i + 1) < l.length - i; omega)⟩
            · (repeat' (first | exact rfl | exact trivial | refine And.intro ?_ ?_ | ((conv => whnf); first | exact rfl | exact trivial | refine And.intro ?_ ?_))); all_goals (conv => whnf); all_goals (try simp only [])
              all_goals simp
            · (repeat' (first | exact rfl | exact trivial | refine And.intro ?_ ?_ | ((conv => whnf); first | exact rfl | exact trivial | refine And.intro ?_ ?_))); all_goals (conv => whnf); all_goals (try simp only [])
              all_goals first | exact wr1 i (n := 60) (by omega) (by omega) | simp
            · exact ⟨(by show all.length ≤ i + 1; omega), hall⟩
          · refine CallN.intro (readU s n hok H) [0, 1, 2] rfl rfl ?_ ?_ ?_
            · (repeat' (first | exact rfl | exact trivial | refine And.intro ?_ ?_ | ((conv => whnf); first | exact rfl | exact trivial | refine And.intro ?_ ?_)))
            · (repeat' (first | exact rfl | exact trivial | refine And.intro ?_ ?_ | ((conv => whnf); first | exact rfl | exact trivial | refine And.intro ?_ ?_)))
            intro y hy
            have hgr := hrel.readR (by omega) H
            rw [hgr.1, hgr.2]
            (repeat' ((conv => whnf); first | refine And.intro ?_ ?_ | exact Cl.mk (by kernel_rfl) | exact trivial | exact rfl | (intro hh; try simp only [decide_eq_true_eq, decide_eq_false_iff_not, beq_iff_eq, beq_eq_false_iff_ne, bne_iff_ne, bne_eq_false_iff_eq, Bool.not_eq_true', Bool.not_eq_false', Bool.not_true, Bool.not_false] at hh; try exact absurd hh (by decide)))); all_goals (conv => whnf)
            refine CallN.intro (rread r hrok H hHb) [3, 4, 5, 6, 7] rfl rfl ?_ ?_ ?_
            · (repeat' (first | exact rfl | exact trivial | refine And.intro ?_ ?_ | ((conv => whnf); first | exact rfl | exact trivial | refine And.intro ?_ ?_)))
            · (repeat' (first | exact rfl | exact trivial | refine And.intro ?_ ?_ | ((conv => whnf); first | exact rfl | exact trivial | refine And.intro ?_ ?_)))
            intro y hy
            have hrl : (if rgood r H < 0 then ([] : List Int) else r.words.getD (rgood r H).toNat []).length ≤ 1000000 := by
              split
              · simp
              · rename_i hx
                rw [hrok.each_at (by have := rgood_lt hx; have := hrok.gen; omega)]; omega
            (repeat' ((conv => whnf); first | refine And.intro ?_ ?_ | exact Cl.mk (by kernel_rfl) | exact trivial | exact rfl | (intro hh; try simp only [decide_eq_true_eq, decide_eq_false_iff_not, beq_iff_eq, beq_eq_false_iff_ne, bne_iff_ne, bne_eq_false_iff_eq, Bool.not_eq_true', Bool.not_eq_false', Bool.not_true, Bool.not_false] at hh; try exact absurd hh (by decide)))); all_goals (conv => whnf)
            refine CallN.intro (sameM _ (if rgood r H < 0 then ([] : List Int) else r.words.getD (rgood r H).toNat []) hrl) [] rfl rfl ?_ ?_ ?_
            · (repeat' (first | exact rfl | exact trivial | refine And.intro ?_ ?_ | ((conv => whnf); first | exact rfl | exact trivial | refine And.intro ?_ ?_)))
            · (repeat' (first | exact rfl | exact trivial | refine And.intro ?_ ?_ | ((conv => whnf); first | exact rfl | exact trivial | refine And.intro ?_ ?_)))
            intro y hy
            (repeat' ((conv => whnf); first | refine And.intro ?_ ?_ | exact Cl.mk (by kernel_rfl) | exact trivial | exact rfl | (intro hh; try simp only [decide_eq_true_eq, decide_eq_false_iff_not, beq_iff_eq, beq_eq_false_iff_ne, bne_iff_ne, bne_eq_false_iff_eq, Bool.not_eq_true', Bool.not_eq_false', Bool.not_true, Bool.not_false] at hh; try exact absurd hh (by decide)))); all_goals (conv => whnf)
            all_goals try (exfalso; exact hh rfl)
            all_goals try (exfalso; simp at hh; done)
            have hrel1 := hrel.up (Nat.le_succ i)
            have hok1 := hrel1.ok
            have hrok1 := hrel1.rok
            refine CallN.intro (freeM s) [0, 1, 2] rfl rfl ?_ ?_ ?_
            · (repeat' (first | exact rfl | exact trivial | refine And.intro ?_ ?_ | ((conv => whnf); first | exact rfl | exact trivial | refine And.intro ?_ ?_)))
            · (repeat' (first | exact rfl | exact trivial | refine And.intro ?_ ?_ | ((conv => whnf); first | exact rfl | exact trivial | refine And.intro ?_ ?_)))
            intro y hy
            (repeat' ((conv => whnf); first | refine And.intro ?_ ?_ | exact Cl.mk (by kernel_rfl) | exact trivial | exact rfl | (intro hh; try simp only [decide_eq_true_eq, decide_eq_false_iff_not, beq_iff_eq, beq_eq_false_iff_ne, bne_iff_ne, bne_eq_false_iff_eq, Bool.not_eq_true', Bool.not_eq_false', Bool.not_true, Bool.not_false] at hh; try exact absurd hh (by decide)))); all_goals (conv => whnf)
            refine CallN.intro (rfree r) [3, 4, 5, 6, 7] rfl rfl ?_ ?_ ?_
            · (repeat' (first | exact rfl | exact trivial | refine And.intro ?_ ?_ | ((conv => whnf); first | exact rfl | exact trivial | refine And.intro ?_ ?_)))
            · (repeat' (first | exact rfl | exact trivial | refine And.intro ?_ ?_ | ((conv => whnf); first | exact rfl | exact trivial | refine And.intro ?_ ?_)))
            intro y hy
            (repeat' ((conv => whnf); first | refine And.intro ?_ ?_ | exact Cl.mk (by kernel_rfl) | exact trivial | exact rfl | (intro hh; try simp only [decide_eq_true_eq, decide_eq_false_iff_not, beq_iff_eq, beq_eq_false_iff_ne, bne_iff_ne, bne_eq_false_iff_eq, Bool.not_eq_true', Bool.not_eq_false', Bool.not_true, Bool.not_false] at hh; try exact absurd hh (by decide)))); all_goals (conv => whnf)
            all_goals try (exfalso; exact hh hrel1.free)
            refine CallN.intro (liveM s (by rw [hok1.len]; exact hn.2)) [0, 1, 2] rfl rfl ?_ ?_ ?_
            · (repeat' (first | exact rfl | exact trivial | refine And.intro ?_ ?_ | ((conv => whnf); first | exact rfl | exact trivial | refine And.intro ?_ ?_)))
            · (repeat' (first | exact rfl | exact trivial | refine And.intro ?_ ?_ | ((conv => whnf); first | exact rfl | exact trivial | refine And.intro ?_ ?_)))
            intro y hy
            (repeat' ((conv => whnf); first | refine And.intro ?_ ?_ | exact Cl.mk (by kernel_rfl) | exact trivial | exact rfl | (intro hh; try simp only [decide_eq_true_eq, decide_eq_false_iff_not, beq_iff_eq, beq_eq_false_iff_ne, bne_iff_ne, bne_eq_false_iff_eq, Bool.not_eq_true', Bool.not_eq_false', Bool.not_true, Bool.not_false] at hh; try exact absurd hh (by decide)))); all_goals (conv => whnf)
            refine CallN.intro (rlive r hrok1) [3, 4, 5, 6, 7] rfl rfl ?_ ?_ ?_
            · (repeat' (first | exact rfl | exact trivial | refine And.intro ?_ ?_ | ((conv => whnf); first | exact rfl | exact trivial | refine And.intro ?_ ?_)))
            · (repeat' (first | exact rfl | exact trivial | refine And.intro ?_ ?_ | ((conv => whnf); first | exact rfl | exact trivial | refine And.intro ?_ ?_)))
            intro y hy
            (repeat' ((conv => whnf); first | refine And.intro ?_ ?_ | exact Cl.mk (by kernel_rfl) | exact trivial | exact rfl | (intro hh; try simp only [decide_eq_true_eq, decide_eq_false_iff_not, beq_iff_eq, beq_eq_false_iff_ne, bne_iff_ne, bne_eq_false_iff_eq, Bool.not_eq_true', Bool.not_eq_false', Bool.not_true, Bool.not_false] at hh; try exact absurd hh (by decide)))); all_goals (conv => whnf)
            refine CallN.intro (intsM (taken s) (rtaken r) (by have := taken_len s s.cells.length; rw [hok1.len] at this; unfold taken; rw [hok1.len]; omega)) [] rfl rfl ?_ ?_ ?_
            · (repeat' (first | exact rfl | exact trivial | refine And.intro ?_ ?_ | ((conv => whnf); first | exact rfl | exact trivial | refine And.intro ?_ ?_)))
            · (repeat' (first | exact rfl | exact trivial | refine And.intro ?_ ?_ | ((conv => whnf); first | exact rfl | exact trivial | refine And.intro ?_ ?_)))
            intro y hy
            (repeat' ((conv => whnf); first | refine And.intro ?_ ?_ | exact Cl.mk (by kernel_rfl) | exact trivial | exact rfl | (intro hh; try simp only [decide_eq_true_eq, decide_eq_false_iff_not, beq_iff_eq, beq_eq_false_iff_ne, bne_iff_ne, bne_eq_false_iff_eq, Bool.not_eq_true', Bool.not_eq_false', Bool.not_true, Bool.not_false] at hh; try exact absurd hh (by decide)))); all_goals (conv => whnf)
            all_goals try (exfalso; exact absurd (hrel1.taken_eq (by omega)) (by simpa using hh))
            refine ⟨⟨s, r, all, i + 1⟩, [0, 1, 2, 3, 4, 5, 6, 7, 8], ⟨rfl, rfl, ?_, ?_⟩, ⟨(by show i + 1 ≤ l.length; omega), hrel1, ?_⟩, (by show l.length - (i + 1) < l.length - i; omega)⟩
            · (repeat' (first | exact rfl | exact trivial | refine And.intro ?_ ?_ | ((conv => whnf); first | exact rfl | exact trivial | refine And.intro ?_ ?_))); all_goals (conv => whnf); all_goals (try simp only [])
              all_goals simp
            · (repeat' (first | exact rfl | exact trivial | refine And.intro ?_ ?_ | ((conv => whnf); first | exact rfl | exact trivial | refine And.intro ?_ ?_))); all_goals (conv => whnf); all_goals (try simp only [])
              all_goals first | exact wr1 i (n := 60) (by omega) (by omega) | simp
            · exact ⟨(by show all.length ≤ i + 1; omega), hall⟩
          · refine CallN.intro (writeM s n hok H ws) [0, 1, 2] rfl rfl ?_ ?_ ?_
            · (repeat' (first | exact rfl | exact trivial | refine And.intro ?_ ?_ | ((conv => whnf); first | exact rfl | exact trivial | refine And.intro ?_ ?_)))
            · (repeat' (first | exact rfl | exact trivial | refine And.intro ?_ ?_ | ((conv => whnf); first | exact rfl | exact trivial | refine And.intro ?_ ?_)))
            intro y hy
            have hgr := hrel.writeR (by omega) H ws
            rw [hgr]
            have hrel1 := (hrel.writeT (by omega) H ws).up (Nat.le_succ i)
            obtain ⟨s1, hs1⟩ : ∃ s1, s1 = (if good s H = true ∧ (ws.length : Int) = s.each then writeS s (H.tmod 64) ws else s) := ⟨_, rfl⟩
            obtain ⟨r1, hr1⟩ : ∃ r1, r1 = (if rgood r H < 0 ∨ ws.length ≠ w then r else rwriteS r H ws) := ⟨_, rfl⟩
            rw [← hs1, ← hr1] at hrel1
            rw [← hs1]
            (repeat' ((conv => whnf); first | refine And.intro ?_ ?_ | exact Cl.mk (by kernel_rfl) | exact trivial | exact rfl | (intro hh; try simp only [decide_eq_true_eq, decide_eq_false_iff_not, beq_iff_eq, beq_eq_false_iff_ne, bne_iff_ne, bne_eq_false_iff_eq, Bool.not_eq_true', Bool.not_eq_false', Bool.not_true, Bool.not_false] at hh; try exact absurd hh (by decide)))); all_goals (conv => whnf)
            all_goals try (refine Ob.mk ?_; (try simp only [Ty.dflt, Nat.zero_add, Nat.add_zero, Int.toNat_natCast, Int.toNat_zero, Int.toNat_one, List.length_take, List.length_drop, List.length_append, List.length_replicate, List.length_cons, List.length_nil, List.length_set, List.length_map, true_and, and_true]); omega)
            all_goals (try simp only [e0]); all_goals (try rw [← ho])
            refine CallN.intro (rwrite r hrok H hHb ws (by omega)) [3, 4, 5, 6, 7] rfl rfl ?_ ?_ ?_
            · (repeat' (first | exact rfl | exact trivial | refine And.intro ?_ ?_ | ((conv => whnf); first | exact rfl | exact trivial | refine And.intro ?_ ?_)))
            · (repeat' (first | exact rfl | exact trivial | refine And.intro ?_ ?_ | ((conv => whnf); first | exact rfl | exact trivial | refine And.intro ?_ ?_)))
            intro y hy
            rw [← hr1]
            (repeat' ((conv => whnf); first | refine And.intro ?_ ?_ | exact Cl.mk (by kernel_rfl) | exact trivial | exact rfl | (intro hh; try simp only [decide_eq_true_eq, decide_eq_false_iff_not, beq_iff_eq, beq_eq_false_iff_ne, bne_iff_ne, bne_eq_false_iff_eq, Bool.not_eq_true', Bool.not_eq_false', Bool.not_true, Bool.not_false] at hh; try exact absurd hh (by decide)))); all_goals (conv => whnf)
            all_goals try (exfalso; exact hh rfl)
            have hok1 := hrel1.ok
            have hrok1 := hrel1.rok
            refine CallN.intro (freeM s1) [0, 1, 2] rfl rfl ?_ ?_ ?_
            · (repeat' (first | exact rfl | exact trivial | refine And.intro ?_ ?_ | ((conv => whnf); first | exact rfl | exact trivial | refine And.intro ?_ ?_)))
            · (repeat' (first | exact rfl | exact trivial | refine And.intro ?_ ?_ | ((conv => whnf); first | exact rfl | exact trivial | refine And.intro ?_ ?_)))
            intro y hy
            (repeat' ((conv => whnf); first | refine And.intro ?_ ?_ | exact Cl.mk (by kernel_rfl) | exact trivial | exact rfl | (intro hh; try simp only [decide_eq_true_eq, decide_eq_false_iff_not, beq_iff_eq, beq_eq_false_iff_ne, bne_iff_ne, bne_eq_false_iff_eq, Bool.not_eq_true', Bool.not_eq_false', Bool.not_true, Bool.not_false] at hh; try exact absurd hh (by decide)))); all_goals (conv => whnf)
            refine CallN.intro (rfree r1) [3, 4, 5, 6, 7] rfl rfl ?_ ?_ ?_
            · (repeat' (first | exact rfl | exact trivial | refine And.intro ?_ ?_ | ((conv => whnf); first | exact rfl | exact trivial | refine And.intro ?_ ?_)))
            · (repeat' (first | exact rfl | exact trivial | refine And.intro ?_ ?_ | ((conv => whnf); first | exact rfl | exact trivial | refine And.intro ?_ ?_)))
            intro y hy
            (repeat' ((conv => whnf); first | refine And.intro ?_ ?_ | exact Cl.mk (by kernel_rfl) | exact trivial | exact rfl | (intro hh; try simp only [decide_eq_true_eq, decide_eq_false_iff_not, beq_iff_eq, beq_eq_false_iff_ne, bne_iff_ne, bne_eq_false_iff_eq, Bool.not_eq_true', Bool.not_eq_false', Bool.not_true, Bool.not_false] at hh; try exact absurd hh (by decide)))); all_goals (conv => whnf)
            all_goals try (exfalso; exact hh hrel1.free)
            refine CallN.intro (liveM s1 (by rw [hok1.len]; exact hn.2)) [0, 1, 2] rfl rfl ?_ ?_ ?_
            · (repeat' (first | exact rfl | exact trivial | refine And.intro ?_ ?_ | ((conv => whnf); first | exact rfl | exact trivial | refine And.intro ?_ ?_)))
            · (repeat' (first | exact rfl | exact trivial | refine And.intro ?_ ?_ | ((conv => whnf); first | exact rfl | exact trivial | refine And.intro ?_ ?_)))
            intro y hy
            (repeat' ((conv => whnf); first | refine And.intro ?_ ?_ | exact Cl.mk (by kernel_rfl) | exact trivial | exact rfl | (intro hh; try simp only [decide_eq_true_eq, decide_eq_false_iff_not, beq_iff_eq, beq_eq_false_iff_ne, bne_iff_ne, bne_eq_false_iff_eq, Bool.not_eq_true', Bool.not_eq_false', Bool.not_true, Bool.not_false] at hh; try exact absurd hh (by decide)))); all_goals (conv => whnf)
            refine CallN.intro (rlive r1 hrok1) [3, 4, 5, 6, 7] rfl rfl ?_ ?_ ?_
            · (repeat' (first | exact rfl | exact trivial | refine And.intro ?_ ?_ | ((conv => whnf); first | exact rfl | exact trivial | refine And.intro ?_ ?_)))
            · (repeat' (first | exact rfl | exact trivial | refine And.intro ?_ ?_ | ((conv => whnf); first | exact rfl | exact trivial | refine And.intro ?_ ?_)))
            intro y hy
            (repeat' ((conv => whnf); first | refine And.intro ?_ ?_ | exact Cl.mk (by kernel_rfl) | exact trivial | exact rfl | (intro hh; try simp only [decide_eq_true_eq, decide_eq_false_iff_not, beq_iff_eq, beq_eq_false_iff_ne, bne_iff_ne, bne_eq_false_iff_eq, Bool.not_eq_true', Bool.not_eq_false', Bool.not_true, Bool.not_false] at hh; try exact absurd hh (by decide)))); all_goals (conv => whnf)
            refine CallN.intro (intsM (taken s1) (rtaken r1) (by have := taken_len s1 s1.cells.length; rw [hok1.len] at this; unfold taken; rw [hok1.len]; omega)) [] rfl rfl ?_ ?_ ?_
            · (repeat' (first | exact rfl | exact trivial | refine And.intro ?_ ?_ | ((conv => whnf); first | exact rfl | exact trivial | refine And.intro ?_ ?_)))
            · (repeat' (first | exact rfl | exact trivial | refine And.intro ?_ ?_ | ((conv => whnf); first | exact rfl | exact trivial | refine And.intro ?_ ?_)))
            intro y hy
            (repeat' ((conv => whnf); first | refine And.intro ?_ ?_ | exact Cl.mk (by kernel_rfl) | exact trivial | exact rfl | (intro hh; try simp only [decide_eq_true_eq, decide_eq_false_iff_not, beq_iff_eq, beq_eq_false_iff_ne, bne_iff_ne, bne_eq_false_iff_eq, Bool.not_eq_true', Bool.not_eq_false', Bool.not_true, Bool.not_false] at hh; try exact absurd hh (by decide)))); all_goals (conv => whnf)
            all_goals try (exfalso; exact absurd (hrel1.taken_eq (by omega)) (by simpa using hh))
            refine ⟨⟨s1, r1, all, i + 1⟩, [0, 1, 2, 3, 4, 5, 6, 7, 8], ⟨rfl, rfl, ?_, ?_⟩, ⟨(by show i + 1 ≤ l.length; omega), hrel1, ?_⟩, (by show l.length - (i + 1) < l.length - i; omega)⟩
            · (repeat' (first | exact rfl | exact trivial | refine And.intro ?_ ?_ | ((conv => whnf); first | exact rfl | exact trivial | refine And.intro ?_ ?_))); all_goals (conv => whnf); all_goals (try simp only [])
              all_goals simp
            · (repeat' (first | exact rfl | exact trivial | refine And.intro ?_ ?_ | ((conv => whnf); first | exact rfl | exact trivial | refine And.intro ?_ ?_))); all_goals (conv => whnf); all_goals (try simp only [])
              all_goals first | exact wr1 i (n := 60) (by omega) (by omega) | simp
            · exact ⟨(by show all.length ≤ i + 1; omega), hall⟩
          · have hrel1 := hrel.up (Nat.le_succ i)
            have hok1 := hrel1.ok
            have hrok1 := hrel1.rok
            refine CallN.intro (freeM s) [0, 1, 2] rfl rfl ?_ ?_ ?_
            · (repeat' (first | exact rfl | exact trivial | refine And.intro ?_ ?_ | ((conv => whnf); first | exact rfl | exact trivial | refine And.intro ?_ ?_)))
            · (repeat' (first | exact rfl | exact trivial | refine And.intro ?_ ?_ | ((conv => whnf); first | exact rfl | exact trivial | refine And.intro ?_ ?_)))
            intro y hy
            (repeat' ((conv => whnf); first | refine And.intro ?_ ?_ | exact Cl.mk (by kernel_rfl) | exact trivial | exact rfl | (intro hh; try simp only [decide_eq_true_eq, decide_eq_false_iff_not, beq_iff_eq, beq_eq_false_iff_ne, bne_iff_ne, bne_eq_false_iff_eq, Bool.not_eq_true', Bool.not_eq_false', Bool.not_true, Bool.not_false] at hh; try exact absurd hh (by decide)))); all_goals (conv => whnf)
            refine CallN.intro (rfree r) [3, 4, 5, 6, 7] rfl rfl ?_ ?_ ?_
            · (repeat' (first | exact rfl | exact trivial | refine And.intro ?_ ?_ | ((conv => whnf); first | exact rfl | exact trivial | refine And.intro ?_ ?_)))
            · (repeat' (first | exact rfl | exact trivial | refine And.intro ?_ ?_ | ((conv => whnf); first | exact rfl | exact trivial | refine And.intro ?_ ?_)))
            intro y hy
            (repeat' ((conv => whnf); first | refine And.intro ?_ ?_ | exact Cl.mk (by kernel_rfl) | exact trivial | exact rfl | (intro hh; try simp only [decide_eq_true_eq, decide_eq_false_iff_not, beq_iff_eq, beq_eq_false_iff_ne, bne_iff_ne, bne_eq_false_iff_eq, Bool.not_eq_true', Bool.not_eq_false', Bool.not_true, Bool.not_false] at hh; try exact absurd hh (by decide)))); all_goals (conv => whnf)
            all_goals try (exfalso; exact hh hrel1.free)
            refine CallN.intro (liveM s (by rw [hok1.len]; exact hn.2)) [0, 1, 2] rfl rfl ?_ ?_ ?_
            · (repeat' (first | exact rfl | exact trivial | refine And.intro ?_ ?_ | ((conv => whnf); first | exact rfl | exact trivial | refine And.intro ?_ ?_)))
            · (repeat' (first | exact rfl | exact trivial | refine And.intro ?_ ?_ | ((conv => whnf); first | exact rfl | exact trivial | refine And.intro ?_ ?_)))
            intro y hy
            (repeat' ((conv => whnf); first | refine And.intro ?_ ?_ | exact Cl.mk (by kernel_rfl) | exact trivial | exact rfl | (intro hh; try simp only [decide_eq_true_eq, decide_eq_false_iff_not, beq_iff_eq, beq_eq_false_iff_ne, bne_iff_ne, bne_eq_false_iff_eq, Bool.not_eq_true', Bool.not_eq_false', Bool.not_true, Bool.not_false] at hh; try exact absurd hh (by decide)))); all_goals (conv => whnf)
            refine CallN.intro (rlive r hrok1) [3, 4, 5, 6, 7] rfl rfl ?_ ?_ ?_
            · (repeat' (first | exact rfl | exact trivial | refine And.intro ?_ ?_ | ((conv => whnf); first | exact rfl | exact trivial | refine And.intro ?_ ?_)))
            · (repeat' (first | exact rfl | exact trivial | refine And.intro ?_ ?_ | ((conv => whnf); first | exact rfl | exact trivial | refine And.intro ?_ ?_)))
            intro y hy
            (repeat' ((conv => whnf); first | refine And.intro ?_ ?_ | exact Cl.mk (by kernel_rfl) | exact trivial | exact rfl | (intro hh; try simp only [decide_eq_true_eq, decide_eq_false_iff_not, beq_iff_eq, beq_eq_false_iff_ne, bne_iff_ne, bne_eq_false_iff_eq, Bool.not_eq_true', Bool.not_eq_false', Bool.not_true, Bool.not_false] at hh; try exact absurd hh (by decide)))); all_goals (conv => whnf)
            refine CallN.intro (intsM (taken s) (rtaken r) (by have := taken_len s s.cells.length; rw [hok1.len] at this; unfold taken; rw [hok1.len]; omega)) [] rfl rfl ?_ ?_ ?_
            · (repeat' (first | exact rfl | exact trivial | refine And.intro ?_ ?_ | ((conv => whnf); first | exact rfl | exact trivial | refine And.intro ?_ ?_)))
            · (repeat' (first | exact rfl | exact trivial | refine And.intro ?_ ?_ | ((conv => whnf); first | exact rfl | exact trivial | refine And.intro ?_ ?_)))
            intro y hy
            (repeat' ((conv => whnf); first | refine And.intro ?_ ?_ | exact Cl.mk (by kernel_rfl) | exact trivial | exact rfl | (intro hh; try simp only [decide_eq_true_eq, decide_eq_false_iff_not, beq_iff_eq, beq_eq_false_iff_ne, bne_iff_ne, bne_eq_false_iff_eq, Bool.not_eq_true', Bool.not_eq_false', Bool.not_true, Bool.not_false] at hh; try exact absurd hh (by decide)))); all_goals (conv => whnf)
            all_goals try (exfalso; exact absurd (hrel1.taken_eq (by omega)) (by simpa using hh))
            refine ⟨⟨s, r, all, i + 1⟩, [0, 1, 2, 3, 4, 5, 6, 7, 8], ⟨rfl, rfl, ?_, ?_⟩, ⟨(by show i + 1 ≤ l.length; omega), hrel1, ?_⟩, (by show l.length - (i + 1) < l.length - i; omega)⟩
            · (repeat' (first | exact rfl | exact trivial | refine And.intro ?_ ?_ | ((conv => whnf); first | exact rfl | exact trivial | refine And.intro ?_ ?_))); all_goals (conv => whnf); all_goals (try simp only [])
              all_goals simp
            · (repeat' (first | exact rfl | exact trivial | refine And.intro ?_ ?_ | ((conv => whnf); first | exact rfl | exact trivial | refine And.intro ?_ ?_))); all_goals (conv => whnf); all_goals (try simp only [])
              all_goals first | exact wr1 i (n := 60) (by omega) (by omega) | simp
            · exact ⟨(by show all.length ≤ i + 1; omega), hall⟩
      · (refine CallN.intro lawLive [] rfl rfl ?_ ?_ ?_; ((repeat' (first | exact rfl | exact trivial | refine And.intro ?_ ?_ | ((conv => whnf); first | exact rfl | exact trivial | refine And.intro ?_ ?_)))); ((repeat' (first | exact rfl | exact trivial | refine And.intro ?_ ?_ | ((conv => whnf); first | exact rfl | exact trivial | refine And.intro ?_ ?_)))); (intro y hy; clear y hy; (repeat' ((conv => whnf); first | refine And.intro ?_ ?_ | exact Cl.mk (by kernel_rfl) | exact trivial | exact rfl | (intro hh; try simp only [decide_eq_true_eq, decide_eq_false_iff_not, beq_iff_eq, beq_eq_false_iff_ne, bne_iff_ne, bne_eq_false_iff_eq, Bool.not_eq_true', Bool.not_eq_false', Bool.not_true, Bool.not_false] at hh; try exact absurd hh (by decide)))); all_goals (conv => whnf); (all_goals first | (exact Ob.mk (by decide)) | skip)))
        (refine RetN.intro () [] rfl rfl ?_ ?_ ?_; ((repeat' (first | exact rfl | exact trivial | refine And.intro ?_ ?_ | ((conv => whnf); first | exact rfl | exact trivial | refine And.intro ?_ ?_)))); ((repeat' (first | exact rfl | exact trivial | refine And.intro ?_ ?_ | ((conv => whnf); first | exact rfl | exact trivial | refine And.intro ?_ ?_))); all_goals (conv => whnf); all_goals (try simp only [])))
end Go.Proofs.Ytadmgicmmnbdcaa.Sl
set_option linter.unusedVariables false
set_option linter.unusedSimpArgs false
namespace Go.Proofs.Ytadmgicmmnbdcaa.Sl
open Go Go.RowKit Fw

/-- The numbers from i on, below n. -/
def upT (i n : Nat) : List Int := (List.range' i (n - i)).map fun j : Nat => (j : Int)
theorem upT_nil (n : Nat) : upT n n = [] := by simp [upT]
theorem upT_cons {i n : Nat} (h : i < n) : upT i n = (i : Int) :: upT (i + 1) n := by
  have e : n - i = (n - (i + 1)) + 1 := by omega
  simp only [upT, e, List.range'_succ, List.map_cons]
theorem upT_len (i n : Nat) : (upT i n).length = n - i := by simp [upT]
theorem upT_snoc (n : Nat) : upT 0 (n + 1) = upT 0 n ++ [(n : Int)] := by
  simp only [upT, Nat.sub_zero, List.range'_concat, List.map_append, List.map_cons, List.map_nil]; simp
theorem upT_get {n k : Nat} (h : k < n) : (upT 0 n).getD k 0 = k := by
  simp [upT, List.getD_eq_getElem?_getD, h]
section
variable {s : Slab} {r : Ref} {n w b : Nat}
theorem Rel.takeNE (h : Rel s r n w b) (hb : b ≤ 100000) (hr : r.row ≠ []) : ∃ (i : Nat) (l : List Int), r.row = (i : Int) :: l ∧ i < n ∧ Sl.takeR s = (64 * r.gen.getD i 0 + i, 0) ∧ Rel (Sl.takeT s) (rtakeS r i l) n w b := by
  cases hrow : r.row with
  | nil => exact (hr hrow).elim
  | cons i l =>
    obtain ⟨h1, h2, h3⟩ := h.first_cons hrow
    have h4 := h.hnd hb (i := i.toNat) (by omega)
    rw [Int.toNat_of_nonneg h2] at h4
    refine ⟨i.toNat, l, by rw [Int.toNat_of_nonneg h2], by omega, ?_, ?_⟩
    · unfold Sl.takeR; rw [if_neg (by omega), h1, h4.1, Int.toNat_of_nonneg h2]
    · unfold Sl.takeT; rw [if_neg (by omega)]; exact h.take (by rw [Int.toNat_of_nonneg h2]; exact hrow)
theorem Rel.takeE (h : Rel s r n w b) (hr : r.row = []) : Sl.takeR s = (0, 4) ∧ Sl.takeT s = s := by
  have := h.first_nil hr
  simp [Sl.takeR, Sl.takeT, this]
theorem Rel.takenAll (h : Rel s r n w b) (hb : b ≤ 100000) (ht : ∀ j, j < n → r.taken.getD j false = true) (hg : ∀ j, j < n → r.gen.getD j 0 = 0) : taken s = upT 0 n := by
  rw [h.taken_eq hb]
  unfold rtaken
  rw [h.rok.gen]
  have key : ∀ i, i ≤ n → rtakenTo r i = upT 0 i := by
    intro i
    induction i with
    | zero => intro _; rfl
    | succ i ih =>
      intro hi
      rw [rtakenTo, ih (by omega), ht i (by omega), upT_snoc, (h.hnd hb (by omega)).2, hg i (by omega)]
      simp
  exact key n (Nat.le_refl _)
end
structure Sy where
  s : Slab
  r : Ref
  i : Nat
theorem lawAll (c : Int) (t : Bool) : Meets Try.prog 6 [.int .i64 fun _ => c, .bool fun _ => t] [] (Y := Unit) (fun _ => True) (fun _ => .tt) (fun _ => []) := by
  by_cases hw : c < 1 ∨ 64 < c
  · refine Meets.intro hm (fn := Try.f6) Try.func6 rfl (by decide) (Nat.le_of_ble_eq_true rfl) (fun _ => rfl) ?_; intro S hok; (conv => whnf)
    (repeat' ((conv => whnf); first | refine And.intro ?_ ?_ | exact Cl.mk (by kernel_rfl) | exact Ck.mk (by kernel_rfl) | exact trivial | exact rfl | (intro hh; try simp only [decide_eq_true_eq, decide_eq_false_iff_not, beq_iff_eq, beq_eq_false_iff_ne, bne_iff_ne, bne_eq_false_iff_eq, Bool.not_eq_true', Bool.not_eq_false', Bool.not_true, Bool.not_false] at hh))); all_goals (conv => whnf)
    (refine CallN.intro (newBad c 1 (by omega)) [] rfl rfl ?_ ?_ ?_; ((repeat' (first | exact rfl | exact trivial | refine And.intro ?_ ?_ | ((conv => whnf); first | exact rfl | exact trivial | refine And.intro ?_ ?_)))); ((repeat' (first | exact rfl | exact trivial | refine And.intro ?_ ?_ | ((conv => whnf); first | exact rfl | exact trivial | refine And.intro ?_ ?_)))); (intro y hy; clear y hy; (repeat' ((conv => whnf); first | refine And.intro ?_ ?_ | exact Cl.mk (by kernel_rfl) | exact Ck.mk (by kernel_rfl) | exact trivial | exact rfl | (intro hh; try simp only [decide_eq_true_eq, decide_eq_false_iff_not, beq_iff_eq, beq_eq_false_iff_ne, bne_iff_ne, bne_eq_false_iff_eq, Bool.not_eq_true', Bool.not_eq_false', Bool.not_true, Bool.not_false] at hh; try exact absurd hh (by decide)))); all_goals (conv => whnf); (all_goals first | (exact Ob.mk (by decide)) | skip)))
    all_goals first | ((refine CallN.intro lawLive [] rfl rfl ?_ ?_ ?_; ((repeat' (first | exact rfl | exact trivial | refine And.intro ?_ ?_ | ((conv => whnf); first | exact rfl | exact trivial | refine And.intro ?_ ?_)))); ((repeat' (first | exact rfl | exact trivial | refine And.intro ?_ ?_ | ((conv => whnf); first | exact rfl | exact trivial | refine And.intro ?_ ?_)))); (intro y hy; clear y hy; (repeat' ((conv => whnf); first | refine And.intro ?_ ?_ | exact Cl.mk (by kernel_rfl) | exact Ck.mk (by kernel_rfl) | exact trivial | exact rfl | (intro hh; try simp only [decide_eq_true_eq, decide_eq_false_iff_not, beq_iff_eq, beq_eq_false_iff_ne, bne_iff_ne, bne_eq_false_iff_eq, Bool.not_eq_true', Bool.not_eq_false', Bool.not_true, Bool.not_false] at hh; try exact absurd hh (by decide)))); all_goals (conv => whnf); (all_goals first | (exact Ob.mk (by decide)) | skip))); all_goals (refine RetN.intro () [] rfl rfl ?_ ?_ ?_; ((repeat' (first | exact rfl | exact trivial | refine And.intro ?_ ?_ | ((conv => whnf); first | exact rfl | exact trivial | refine And.intro ?_ ?_)))); ((repeat' (first | exact rfl | exact trivial | refine And.intro ?_ ?_ | ((conv => whnf); first | exact rfl | exact trivial | refine And.intro ?_ ?_))); all_goals (conv => whnf); all_goals (try simp only []))); done) | (exfalso; omega) | skip
  · obtain ⟨n, rfl⟩ : ∃ k : Nat, c = k := ⟨c.toNat, by omega⟩
    have hn : 1 ≤ n ∧ n ≤ 64 := by omega
    have b1 : Try.t3.bytes = 8 := rfl
    refine Meets.intro hm (fn := Try.f6) Try.func6 rfl (by decide) (Nat.le_of_ble_eq_true rfl) (fun _ => rfl) ?_; intro S hok; (conv => whnf)
    (repeat' ((conv => whnf); first | refine And.intro ?_ ?_ | exact Cl.mk (by kernel_rfl) | exact Ck.mk (by kernel_rfl) | exact trivial | exact rfl | (intro hh; try simp only [decide_eq_true_eq, decide_eq_false_iff_not, beq_iff_eq, beq_eq_false_iff_ne, bne_iff_ne, bne_eq_false_iff_eq, Bool.not_eq_true', Bool.not_eq_false', Bool.not_true, Bool.not_false] at hh))); all_goals (conv => whnf)
    (refine CallN.intro (newM n 1 hn (by decide)) [] rfl rfl ?_ ?_ ?_; ((repeat' (first | exact rfl | exact trivial | refine And.intro ?_ ?_ | ((conv => whnf); first | exact rfl | exact trivial | refine And.intro ?_ ?_)))); ((repeat' (first | exact rfl | exact trivial | refine And.intro ?_ ?_ | ((conv => whnf); first | exact rfl | exact trivial | refine And.intro ?_ ?_)))); (intro y hy; clear y hy; (repeat' ((conv => whnf); first | refine And.intro ?_ ?_ | exact Cl.mk (by kernel_rfl) | exact Ck.mk (by kernel_rfl) | exact trivial | exact rfl | (intro hh; try simp only [decide_eq_true_eq, decide_eq_false_iff_not, beq_iff_eq, beq_eq_false_iff_ne, bne_iff_ne, bne_eq_false_iff_eq, Bool.not_eq_true', Bool.not_eq_false', Bool.not_true, Bool.not_false] at hh; try exact absurd hh (by decide)))); all_goals (conv => whnf); (all_goals first | (exact Ob.mk (by decide)) | skip)))
    all_goals first | (exfalso; omega) | skip
    refine LoopN.nil 3 (.int .i64) none [7] ?_
    (conv => whnf)
    refine LoopN.intro hm (X := Sy) (fun x => x.i ≤ n ∧ Rel x.s x.r n 1 0 ∧ x.r.row = upT x.i n) (fun x => n - x.i)
      (fun x => [(8, .int .i64 fun _ => (x.i : Int)), (7, .vec 3 1 (fun _ => 0) fun _ => (upT 0 x.i).length), (5, .ptr 0 0), (0, .int .i64 fun _ => (n : Int)), (1, .bool fun _ => t)])
      (fun x => ch x.s ++ [.vect 3 (.int .i64) fun _ => upT 0 x.i]) ⟨newS n 1, rnewS n 1, 0⟩ [0, 1, 2, 3] ⟨rfl, rfl, ?_, ?_⟩ ⟨Nat.zero_le _, Rel.new hn (by decide), by simp [rnewS, upT, List.range_eq_range']⟩ (fun x hx => ?_)
    · (repeat' (first | exact rfl | exact trivial | refine And.intro ?_ ?_ | ((conv => whnf); first | exact rfl | exact trivial | refine And.intro ?_ ?_)))
    · (repeat' (first | exact rfl | exact trivial | refine And.intro ?_ ?_ | ((conv => whnf); first | exact rfl | exact trivial | refine And.intro ?_ ?_)))
    · obtain ⟨s, r, i⟩ := x
      obtain ⟨hi, hrel, hrow⟩ := hx
      simp only [] at hi hrel hrow
      have hok := hrel.ok
      (repeat' ((conv => whnf); first | refine And.intro ?_ ?_ | exact Cl.mk (by kernel_rfl) | exact Ck.mk (by kernel_rfl) | exact trivial | exact rfl | (intro hh; try simp only [decide_eq_true_eq, decide_eq_false_iff_not, beq_iff_eq, beq_eq_false_iff_ne, bne_iff_ne, bne_eq_false_iff_eq, Bool.not_eq_true', Bool.not_eq_false', Bool.not_true, Bool.not_false] at hh))); all_goals (conv => whnf)
      · have hi1 : i < n := by omega
        obtain ⟨k, l, h1, h2, h3, h4⟩ := hrel.takeNE (by omega) (by rw [hrow, upT_cons hi1]; simp)
        obtain ⟨rfl, rfl⟩ : i = k ∧ upT (i + 1) n = l := by
          rw [hrow, upT_cons hi1] at h1
          simp only [List.cons.injEq] at h1
          exact ⟨by omega, h1.2⟩
        have hg0 : r.gen.getD i 0 = 0 := by have := hrel.bound i hi1; omega
        rw [hg0, Int.mul_zero, Int.zero_add] at h3
        have hfree := h4.free
        simp only [rtakeS, upT_len] at hfree
        refine CallN.intro (takeU s n hok) [0, 1, 2] rfl rfl ?_ ?_ ?_
        · (repeat' (first | exact rfl | exact trivial | refine And.intro ?_ ?_ | ((conv => whnf); first | exact rfl | exact trivial | refine And.intro ?_ ?_)))
        · (repeat' (first | exact rfl | exact trivial | refine And.intro ?_ ?_ | ((conv => whnf); first | exact rfl | exact trivial | refine And.intro ?_ ?_)))
        intro y hy
        rw [h3]
        have e1 : Int.tmod (i : Int) 64 = i := by
          rw [Int.tmod_eq_emod_of_nonneg (by omega)]; omega
        (repeat' ((conv => whnf); first | refine And.intro ?_ ?_ | exact Cl.mk (by kernel_rfl) | exact Ck.mk (by kernel_rfl) | exact trivial | exact rfl | (intro hh; try simp only [decide_eq_true_eq, decide_eq_false_iff_not, beq_iff_eq, beq_eq_false_iff_ne, bne_iff_ne, bne_eq_false_iff_eq, Bool.not_eq_true', Bool.not_eq_false', Bool.not_true, Bool.not_false] at hh; try exact absurd hh (by decide)))); all_goals (conv => whnf)
        all_goals first | (exact ⟨by decide⟩) | (exfalso; omega) | skip
        refine CallN.intro (freeM (takeT s)) [0, 1, 2] rfl rfl ?_ ?_ ?_
        · (repeat' (first | exact rfl | exact trivial | refine And.intro ?_ ?_ | ((conv => whnf); first | exact rfl | exact trivial | refine And.intro ?_ ?_)))
        · (repeat' (first | exact rfl | exact trivial | refine And.intro ?_ ?_ | ((conv => whnf); first | exact rfl | exact trivial | refine And.intro ?_ ?_)))
        intro y hy
        rw [hfree]
        have e2 : IntKind.i64.wrap (IntKind.i64.wrap ((n : Int) - 1) - (i : Int)) = ((n - (i + 1) : Nat) : Int) := by rw [wr (x := (n : Int) - 1) (by omega), wr (by omega)]; omega
        (repeat' ((conv => whnf); first | refine And.intro ?_ ?_ | exact Cl.mk (by kernel_rfl) | exact Ck.mk (by kernel_rfl) | exact trivial | exact rfl | (intro hh; try simp only [decide_eq_true_eq, decide_eq_false_iff_not, beq_iff_eq, beq_eq_false_iff_ne, bne_iff_ne, bne_eq_false_iff_eq, Bool.not_eq_true', Bool.not_eq_false', Bool.not_true, Bool.not_false] at hh; try exact absurd hh (by decide)))); all_goals (conv => whnf)
        all_goals first | (refine Ob.mk ?_; (try simp only [Ty.dflt, Nat.zero_add, Nat.add_zero, Int.toNat_natCast, Int.toNat_zero, Int.toNat_one, List.length_take, List.length_drop, List.length_append, List.length_replicate, List.length_cons, List.length_nil, List.length_set, List.length_map, true_and, and_true, b1, upT_len]); omega) | (exfalso; rw [e2] at hh; exact hh rfl) | skip
        refine ⟨⟨takeT s, _, i + 1⟩, [0, 1, 2, 3], ⟨rfl, rfl, ?_, ?_⟩, ⟨hi1, h4, rfl⟩, by show n - (i + 1) < n - i; omega⟩
        · (repeat' (first | exact rfl | exact trivial | refine And.intro ?_ ?_ | ((conv => whnf); first | exact rfl | exact trivial | refine And.intro ?_ ?_))); all_goals (conv => whnf); all_goals (try simp only [])
          rw [upT_snoc, List.take_of_length_le (by rw [upT_len]; omega)]; simp
        · (repeat' (first | exact rfl | exact trivial | refine And.intro ?_ ?_ | ((conv => whnf); first | exact rfl | exact trivial | refine And.intro ?_ ?_))); all_goals (conv => whnf); all_goals (try simp only [])
          all_goals first | exact wr1 i hi1 (by omega) | simp [upT_len]
      · have e : i = n := by omega
        subst e
        rw [upT_nil] at hrow
        obtain ⟨h1, h2⟩ := hrel.takeE hrow
        refine CallN.intro (takeU s i hok) [0, 1, 2] rfl rfl ?_ ?_ ?_
        · (repeat' (first | exact rfl | exact trivial | refine And.intro ?_ ?_ | ((conv => whnf); first | exact rfl | exact trivial | refine And.intro ?_ ?_)))
        · (repeat' (first | exact rfl | exact trivial | refine And.intro ?_ ?_ | ((conv => whnf); first | exact rfl | exact trivial | refine And.intro ?_ ?_)))
        intro y hy
        rw [h1, h2]
        have htk : ∀ j, j < i → r.taken.getD j false = true := fun j hj => by
          have := hrel.row j hj
          rw [hrow] at this
          cases h : r.taken.getD j false
          · exact absurd (this.2 h) (by simp)
          · rfl
        have hg : ∀ j, j < i → r.gen.getD j 0 = 0 := fun j hj => by have := hrel.bound j hj; omega
        have hlive := hrel.takenAll (by omega) htk hg
        (repeat' ((conv => whnf); first | refine And.intro ?_ ?_ | exact Cl.mk (by kernel_rfl) | exact Ck.mk (by kernel_rfl) | exact trivial | exact rfl | (intro hh; try simp only [decide_eq_true_eq, decide_eq_false_iff_not, beq_iff_eq, beq_eq_false_iff_ne, bne_iff_ne, bne_eq_false_iff_eq, Bool.not_eq_true', Bool.not_eq_false', Bool.not_true, Bool.not_false] at hh; try exact absurd hh (by decide)))); all_goals (conv => whnf)
        refine CallN.intro (liveM s (by rw [hok.len]; exact hn.2)) [0, 1, 2] rfl rfl ?_ ?_ ?_
        · (repeat' (first | exact rfl | exact trivial | refine And.intro ?_ ?_ | ((conv => whnf); first | exact rfl | exact trivial | refine And.intro ?_ ?_)))
        · (repeat' (first | exact rfl | exact trivial | refine And.intro ?_ ?_ | ((conv => whnf); first | exact rfl | exact trivial | refine And.intro ?_ ?_)))
        intro y hy
        rw [hlive]
        (repeat' ((conv => whnf); first | refine And.intro ?_ ?_ | exact Cl.mk (by kernel_rfl) | exact Ck.mk (by kernel_rfl) | exact trivial | exact rfl | (intro hh; try simp only [decide_eq_true_eq, decide_eq_false_iff_not, beq_iff_eq, beq_eq_false_iff_ne, bne_iff_ne, bne_eq_false_iff_eq, Bool.not_eq_true', Bool.not_eq_false', Bool.not_true, Bool.not_false] at hh; try exact absurd hh (by decide)))); all_goals (conv => whnf)
        refine CallN.rest (intsM (upT 0 i) (upT 0 i) (by rw [upT_len]; omega)) [3] ?_ (fun _ _ => ⟨rfl, rfl⟩) ?_
        · (repeat' (first | exact rfl | exact trivial | refine And.intro ?_ ?_ | ((conv => whnf); first | exact rfl | exact trivial | refine And.intro ?_ ?_))); all_goals (conv => whnf); all_goals (try simp only [])
          simp
        intro y hy
        (repeat' ((conv => whnf); first | refine And.intro ?_ ?_ | exact Cl.mk (by kernel_rfl) | exact Ck.mk (by kernel_rfl) | exact trivial | exact rfl | (intro hh; try simp only [decide_eq_true_eq, decide_eq_false_iff_not, beq_iff_eq, beq_eq_false_iff_ne, bne_iff_ne, bne_eq_false_iff_eq, Bool.not_eq_true', Bool.not_eq_false', Bool.not_true, Bool.not_false] at hh; try exact absurd hh (by decide)))); all_goals (conv => whnf)
        all_goals first | (exfalso; simp at hh; done) | skip
        have hrel0 := hrel
        obtain ⟨ord, hord⟩ : ∃ ord : Nat → Nat, ∀ k, ord k = if t = true then i - 1 - k else k := ⟨_, fun _ => rfl⟩
        refine LoopN.intro hm (X := Sy) (fun x => x.i ≤ i ∧ Rel x.s x.r i 1 x.i ∧ x.r.row.length = x.i ∧ (∀ j, j < i → x.r.gen.getD j 0 = if x.r.taken.getD j false = true then 0 else 1) ∧ ∀ k, k < i → (x.r.taken.getD (ord k) false = true ↔ x.i ≤ k)) (fun x => i - x.i)
          (fun x => [(13, .int .i64 fun _ => (x.i : Int)), (7, .vec 3 1 (fun _ => 0) fun _ => i), (5, .ptr 0 0), (0, .int .i64 fun _ => (i : Int)), (1, .bool fun _ => t)])
          (fun x => ch x.s ++ [.vect 3 (.int .i64) fun _ => upT 0 i]) ⟨s, r, 0⟩ [0, 1, 2, 3] ⟨rfl, rfl, ?_, ?_⟩ ⟨Nat.zero_le _, hrel, by rw [hrow]; rfl, fun j hj => by rw [htk j hj, hg j hj]; rfl, fun k hk => ?_⟩ (fun x hx => ?_)
        · (repeat' (first | exact rfl | exact trivial | refine And.intro ?_ ?_ | ((conv => whnf); first | exact rfl | exact trivial | refine And.intro ?_ ?_)))
        · (repeat' (first | exact rfl | exact trivial | refine And.intro ?_ ?_ | ((conv => whnf); first | exact rfl | exact trivial | refine And.intro ?_ ?_))); all_goals (conv => whnf); all_goals (try simp only [])
          all_goals simp [upT_len]
        · have : ord k < i := by rw [hord]; split <;> omega
          show (r.taken.getD (ord k) false = true ↔ 0 ≤ k)
          simp only [htk _ this, Nat.zero_le]
        · obtain ⟨s, r, k⟩ := x
          obtain ⟨hk, hrel, hrl, hgen, htak⟩ := hx
          simp only [] at hk hrel hrl hgen htak
          have hok := hrel.ok
          have hstep : k < i → (ord k : Int) < i ∧ ¬ rgood r (ord k) < 0 ∧ Rel (giveS s (ord k)) (rgiveS r (ord k)) i 1 (k + 1) ∧ good s (ord k) = true ∧ (rgiveS r (ord k)).row.length = k + 1 ∧ (∀ j, j < i → (rgiveS r (ord k)).gen.getD j 0 = if (rgiveS r (ord k)).taken.getD j false = true then 0 else 1) ∧ ∀ k', k' < i → ((rgiveS r (ord k)).taken.getD (ord k') false = true ↔ k + 1 ≤ k') := by
            intro hki
            have ho : ord k < i := by rw [hord]; split <;> omega
            have h1 : r.taken.getD (ord k) false = true := (htak k hki).2 (Nat.le_refl _)
            have h2 : r.gen.getD (ord k) 0 = 0 := by rw [hgen _ ho, h1]; rfl
            have h3 : Int.tmod (ord k : Int) 64 = ord k := by rw [Int.tmod_eq_emod_of_nonneg (by omega)]; omega
            have h4 : Int.tdiv (ord k : Int) 64 = 0 := by rw [Int.tdiv_eq_ediv_of_nonneg (by omega)]; omega
            have h5 : rgood r (ord k) = ord k := by
              unfold rgood
              rw [if_neg (by omega), h3, if_neg]
              rw [Int.toNat_natCast, h1, h2, h4]
              rintro (h | h | h)
              · have := hrel.rok.gen; omega
              · cases h
              · exact h rfl
            have h6 : ¬ rgood r (ord k) < 0 := by rw [h5]; omega
            have h7 := hrel.give (by omega) h6
            rw [h3, Int.toNat_natCast] at h7
            have e : rgiveS r (ord k) = { r with taken := r.taken.set (ord k) false, gen := r.gen.set (ord k) 1, row := (ord k : Int) :: r.row } := by
              unfold rgiveS
              rw [if_neg h6, h5, Int.toNat_natCast, h2]; rfl
            have htl := hrel.rok.taken
            have hgl := hrel.rok.gen
            refine ⟨by omega, h6, h7, (hrel.good_iff (by omega) _).2 h6, by rw [e]; simp [hrl], fun j hj => ?_, fun k' hk' => ?_⟩
            · rw [e]
              simp only []
              rw [getD_set _ _ _ _ _ (by omega), getD_set _ _ _ _ _ (by omega)]
              by_cases hjo : ord k = j
              · rw [if_pos hjo, if_pos hjo]; rfl
              · rw [if_neg hjo, if_neg hjo]; exact hgen j hj
            · rw [e]
              simp only []
              rw [getD_set _ _ _ _ _ (by omega)]
              by_cases hjo : ord k = ord k'
              · have : k = k' := by rw [hord, hord] at hjo; split at hjo <;> omega
                rw [if_pos hjo]; simp; omega
              · rw [if_neg hjo, htak k' hk']
                have : k ≠ k' := fun e => hjo (by rw [e])
                omega
          (repeat' ((conv => whnf); first | refine And.intro ?_ ?_ | exact Cl.mk (by kernel_rfl) | exact Ck.mk (by kernel_rfl) | exact trivial | exact rfl | (intro hh; try simp only [decide_eq_true_eq, decide_eq_false_iff_not, beq_iff_eq, beq_eq_false_iff_ne, bne_iff_ne, bne_eq_false_iff_eq, Bool.not_eq_true', Bool.not_eq_false', Bool.not_true, Bool.not_false] at hh))); all_goals (conv => whnf)
          · (refine Ob.mk ?_; (try simp only [Ty.dflt, Nat.zero_add, Nat.add_zero, Int.toNat_natCast, Int.toNat_zero, Int.toNat_one, List.length_take, List.length_drop, List.length_append, List.length_replicate, List.length_cons, List.length_nil, List.length_set, List.length_map, true_and, and_true]); omega)
          · refine Ob.mk ?_
            simp only []
            rw [wr (x := (i : Int) - 1) (by omega), wr (by omega)]; omega
          · have hki : k < i := by omega
            obtain ⟨h0, h1, h2, h3, h4, h5, h6⟩ := hstep hki
            have ho : ord k = i - 1 - k := by rw [hord, hh]; rfl
            have e3 : Int.tmod (ord k : Int) 64 = ord k := by rw [Int.tmod_eq_emod_of_nonneg (by omega)]; omega
            refine CallN.intro (giveM s (ord k)) [0, 1, 2] rfl rfl ?_ ?_ ?_
            · (repeat' (first | exact rfl | exact trivial | refine And.intro ?_ ?_ | ((conv => whnf); first | exact rfl | exact trivial | refine And.intro ?_ ?_))); all_goals (conv => whnf); all_goals (try simp only [])
              rw [wr (x := (i : Int) - 1) (by omega), wr (by omega), show (0 + ((i : Int) - 1 - (k : Int)).toNat) = ord k by omega]; exact upT_get (by omega)
            · (repeat' (first | exact rfl | exact trivial | refine And.intro ?_ ?_ | ((conv => whnf); first | exact rfl | exact trivial | refine And.intro ?_ ?_)))
            intro y hy
            rw [h3, e3, Int.toNat_natCast]
            (repeat' ((conv => whnf); first | refine And.intro ?_ ?_ | exact Cl.mk (by kernel_rfl) | exact Ck.mk (by kernel_rfl) | exact trivial | exact rfl | (intro hh; try simp only [decide_eq_true_eq, decide_eq_false_iff_not, beq_iff_eq, beq_eq_false_iff_ne, bne_iff_ne, bne_eq_false_iff_eq, Bool.not_eq_true', Bool.not_eq_false', Bool.not_true, Bool.not_false] at hh; try exact absurd hh (by decide)))); all_goals (conv => whnf)
            refine ⟨⟨giveS s (ord k), rgiveS r (ord k), k + 1⟩, [0, 1, 2, 3], ⟨rfl, rfl, ?_, ?_⟩, ⟨hki, h2, h4, h5, h6⟩, by show i - (k + 1) < i - k; omega⟩
            · (repeat' (first | exact rfl | exact trivial | refine And.intro ?_ ?_ | ((conv => whnf); first | exact rfl | exact trivial | refine And.intro ?_ ?_)))
            · (repeat' (first | exact rfl | exact trivial | refine And.intro ?_ ?_ | ((conv => whnf); first | exact rfl | exact trivial | refine And.intro ?_ ?_))); all_goals (conv => whnf); all_goals (try simp only [])
              exact wr1 k (n := i) (by omega) (by omega)
          · have hki : k < i := by omega
            obtain ⟨h0, h1, h2, h3, h4, h5, h6⟩ := hstep hki
            have ho : ord k = k := by rw [hord, hh]; rfl
            have e3 : Int.tmod (ord k : Int) 64 = ord k := by rw [Int.tmod_eq_emod_of_nonneg (by omega)]; omega
            refine CallN.intro (giveM s (ord k)) [0, 1, 2] rfl rfl ?_ ?_ ?_
            · (repeat' (first | exact rfl | exact trivial | refine And.intro ?_ ?_ | ((conv => whnf); first | exact rfl | exact trivial | refine And.intro ?_ ?_))); all_goals (conv => whnf); all_goals (try simp only [])
              rw [ho]; simp only [Nat.zero_add, Int.toNat_natCast]; exact upT_get (by omega)
            · (repeat' (first | exact rfl | exact trivial | refine And.intro ?_ ?_ | ((conv => whnf); first | exact rfl | exact trivial | refine And.intro ?_ ?_)))
            intro y hy
            rw [h3, e3, Int.toNat_natCast]
            (repeat' ((conv => whnf); first | refine And.intro ?_ ?_ | exact Cl.mk (by kernel_rfl) | exact Ck.mk (by kernel_rfl) | exact trivial | exact rfl | (intro hh; try simp only [decide_eq_true_eq, decide_eq_false_iff_not, beq_iff_eq, beq_eq_false_iff_ne, bne_iff_ne, bne_eq_false_iff_eq, Bool.not_eq_true', Bool.not_eq_false', Bool.not_true, Bool.not_false] at hh; try exact absurd hh (by decide)))); all_goals (conv => whnf)
            refine ⟨⟨giveS s (ord k), rgiveS r (ord k), k + 1⟩, [0, 1, 2, 3], ⟨rfl, rfl, ?_, ?_⟩, ⟨hki, h2, h4, h5, h6⟩, by show i - (k + 1) < i - k; omega⟩
            · (repeat' (first | exact rfl | exact trivial | refine And.intro ?_ ?_ | ((conv => whnf); first | exact rfl | exact trivial | refine And.intro ?_ ?_)))
            · (repeat' (first | exact rfl | exact trivial | refine And.intro ?_ ?_ | ((conv => whnf); first | exact rfl | exact trivial | refine And.intro ?_ ?_))); all_goals (conv => whnf); all_goals (try simp only [])
              exact wr1 k (n := i) (by omega) (by omega)
          · have ek : k = i := by omega
            subst ek
            have hfr : ∀ j, j < k → r.taken.getD j false = false := fun j hj => by
              have h1 := htak (ord j) (by rw [hord]; split <;> omega)
              have h2 : ord (ord j) = j := by rw [hord (ord j), hord j]; split <;> omega
              rw [h2] at h1
              cases h : r.taken.getD j false
              · rfl
              · have := h1.1 h
                have : ord j < k := by rw [hord]; split <;> omega
                omega
            have hgn : ∀ j, j < k → r.gen.getD j 0 = 1 := fun j hj => by rw [hgen j hj, hfr j hj]; rfl
            refine LoopN.intro hm (X := Sy) (fun x => x.i ≤ k ∧ Rel x.s x.r k 1 k ∧ x.r.row.length = k - x.i ∧ x.r.gen = r.gen) (fun x => k - x.i)
              (fun x => [(15, .int .i64 fun _ => (x.i : Int)), (7, .vec 3 1 (fun _ => 0) fun _ => k), (5, .ptr 0 0), (0, .int .i64 fun _ => (k : Int))])
              (fun x => ch x.s ++ [.vect 3 (.int .i64) fun _ => upT 0 k]) ⟨s, r, 0⟩ [0, 1, 2, 3] ⟨rfl, rfl, ?_, ?_⟩ ⟨Nat.zero_le _, hrel, hrl, rfl⟩ (fun x hx => ?_)
            · (repeat' (first | exact rfl | exact trivial | refine And.intro ?_ ?_ | ((conv => whnf); first | exact rfl | exact trivial | refine And.intro ?_ ?_)))
            · (repeat' (first | exact rfl | exact trivial | refine And.intro ?_ ?_ | ((conv => whnf); first | exact rfl | exact trivial | refine And.intro ?_ ?_)))
            · obtain ⟨s, r', m⟩ := x
              obtain ⟨hm0, hrel, hrl, hgg⟩ := hx
              simp only [] at hm0 hrel hrl hgg
              have hok := hrel.ok
              (repeat' ((conv => whnf); first | refine And.intro ?_ ?_ | exact Cl.mk (by kernel_rfl) | exact Ck.mk (by kernel_rfl) | exact trivial | exact rfl | (intro hh; try simp only [decide_eq_true_eq, decide_eq_false_iff_not, beq_iff_eq, beq_eq_false_iff_ne, bne_iff_ne, bne_eq_false_iff_eq, Bool.not_eq_true', Bool.not_eq_false', Bool.not_true, Bool.not_false] at hh))); all_goals (conv => whnf)
              · obtain ⟨q, l, h1, h2, h3, h4⟩ := hrel.takeNE (by omega) (fun e => by rw [e] at hrl; simp at hrl; omega)
                rw [hgg, hgn q h2] at h3
                refine CallN.intro (takeU s k hok) [0, 1, 2] rfl rfl ?_ ?_ ?_
                · (repeat' (first | exact rfl | exact trivial | refine And.intro ?_ ?_ | ((conv => whnf); first | exact rfl | exact trivial | refine And.intro ?_ ?_)))
                · (repeat' (first | exact rfl | exact trivial | refine And.intro ?_ ?_ | ((conv => whnf); first | exact rfl | exact trivial | refine And.intro ?_ ?_)))
                intro y hy
                rw [h3]
                (repeat' ((conv => whnf); first | refine And.intro ?_ ?_ | exact Cl.mk (by kernel_rfl) | exact Ck.mk (by kernel_rfl) | exact trivial | exact rfl | (intro hh; try simp only [decide_eq_true_eq, decide_eq_false_iff_not, beq_iff_eq, beq_eq_false_iff_ne, bne_iff_ne, bne_eq_false_iff_eq, Bool.not_eq_true', Bool.not_eq_false', Bool.not_true, Bool.not_false] at hh; try exact absurd hh (by decide)))); all_goals (conv => whnf)
                refine LoopN.intro hm (X := Nat) (fun u => u ≤ k) (fun u => k - u)
                  (fun u => [(18, .int .i64 fun _ => (u : Int)), (16, .int .i64 fun _ => 64 * 1 + (q : Int)), (15, .int .i64 fun _ => (m : Int)), (7, .vec 3 1 (fun _ => 0) fun _ => k), (5, .ptr 0 0), (0, .int .i64 fun _ => (k : Int))])
                  (fun u => ch (takeT s) ++ [.vect 3 (.int .i64) fun _ => upT 0 k]) 0 [0, 1, 2, 3] ⟨rfl, rfl, ?_, ?_⟩ (Nat.zero_le _) (fun u hu => ?_)
                · (repeat' (first | exact rfl | exact trivial | refine And.intro ?_ ?_ | ((conv => whnf); first | exact rfl | exact trivial | refine And.intro ?_ ?_)))
                · (repeat' (first | exact rfl | exact trivial | refine And.intro ?_ ?_ | ((conv => whnf); first | exact rfl | exact trivial | refine And.intro ?_ ?_))); all_goals (conv => whnf); all_goals (try simp only [])
                · (repeat' ((conv => whnf); first | refine And.intro ?_ ?_ | exact Cl.mk (by kernel_rfl) | exact Ck.mk (by kernel_rfl) | exact trivial | exact rfl | (intro hh; try simp only [decide_eq_true_eq, decide_eq_false_iff_not, beq_iff_eq, beq_eq_false_iff_ne, bne_iff_ne, bne_eq_false_iff_eq, Bool.not_eq_true', Bool.not_eq_false', Bool.not_true, Bool.not_false] at hh))); all_goals (conv => whnf)
                  · (refine Ob.mk ?_; (try simp only [Ty.dflt, Nat.zero_add, Nat.add_zero, Int.toNat_natCast, Int.toNat_zero, Int.toNat_one, List.length_take, List.length_drop, List.length_append, List.length_replicate, List.length_cons, List.length_nil, List.length_set, List.length_map, true_and, and_true]); omega)
                  · exfalso
                    rw [Int.toNat_natCast, Nat.zero_add, show Ty.dflt (.int .i64) = (0 : Int) from rfl, upT_get (by omega)] at hh
                    omega
                  · refine ⟨u + 1, [0, 1, 2, 3], ⟨rfl, rfl, ?_, ?_⟩, by omega, by omega⟩
                    · (repeat' (first | exact rfl | exact trivial | refine And.intro ?_ ?_ | ((conv => whnf); first | exact rfl | exact trivial | refine And.intro ?_ ?_)))
                    · (repeat' (first | exact rfl | exact trivial | refine And.intro ?_ ?_ | ((conv => whnf); first | exact rfl | exact trivial | refine And.intro ?_ ?_))); all_goals (conv => whnf); all_goals (try simp only [])
                      exact wr1 u (n := k) (by omega) (by omega)
                  · refine ⟨⟨takeT s, rtakeS r' q l, m + 1⟩, [0, 1, 2, 3], ⟨rfl, rfl, ?_, ?_⟩, ⟨by show m + 1 ≤ k; omega, h4, ?_, hgg⟩, by show k - (m + 1) < k - m; omega⟩
                    · (repeat' (first | exact rfl | exact trivial | refine And.intro ?_ ?_ | ((conv => whnf); first | exact rfl | exact trivial | refine And.intro ?_ ?_)))
                    · (repeat' (first | exact rfl | exact trivial | refine And.intro ?_ ?_ | ((conv => whnf); first | exact rfl | exact trivial | refine And.intro ?_ ?_))); all_goals (conv => whnf); all_goals (try simp only [])
                      exact wr1 m (n := k) (by omega) (by omega)
                    · rw [h1] at hrl
                      simp only [List.length_cons] at hrl
                      simp only [rtakeS]; omega
              · refine CallN.intro (freeM s) [0, 1, 2] rfl rfl ?_ ?_ ?_
                · (repeat' (first | exact rfl | exact trivial | refine And.intro ?_ ?_ | ((conv => whnf); first | exact rfl | exact trivial | refine And.intro ?_ ?_)))
                · (repeat' (first | exact rfl | exact trivial | refine And.intro ?_ ?_ | ((conv => whnf); first | exact rfl | exact trivial | refine And.intro ?_ ?_)))
                intro y hy
                have hf := hrel.free
                rw [hrl, show k - m = 0 by omega] at hf
                rw [hf]
                (repeat' ((conv => whnf); first | refine And.intro ?_ ?_ | exact Cl.mk (by kernel_rfl) | exact Ck.mk (by kernel_rfl) | exact trivial | exact rfl | (intro hh; try simp only [decide_eq_true_eq, decide_eq_false_iff_not, beq_iff_eq, beq_eq_false_iff_ne, bne_iff_ne, bne_eq_false_iff_eq, Bool.not_eq_true', Bool.not_eq_false', Bool.not_true, Bool.not_false] at hh; try exact absurd hh (by decide)))); all_goals (conv => whnf)
                (refine CallN.intro lawLive [] rfl rfl ?_ ?_ ?_; ((repeat' (first | exact rfl | exact trivial | refine And.intro ?_ ?_ | ((conv => whnf); first | exact rfl | exact trivial | refine And.intro ?_ ?_)))); ((repeat' (first | exact rfl | exact trivial | refine And.intro ?_ ?_ | ((conv => whnf); first | exact rfl | exact trivial | refine And.intro ?_ ?_)))); (intro y hy; clear y hy; (repeat' ((conv => whnf); first | refine And.intro ?_ ?_ | exact Cl.mk (by kernel_rfl) | exact Ck.mk (by kernel_rfl) | exact trivial | exact rfl | (intro hh; try simp only [decide_eq_true_eq, decide_eq_false_iff_not, beq_iff_eq, beq_eq_false_iff_ne, bne_iff_ne, bne_eq_false_iff_eq, Bool.not_eq_true', Bool.not_eq_false', Bool.not_true, Bool.not_false] at hh; try exact absurd hh (by decide)))); all_goals (conv => whnf); (all_goals first | (exact Ob.mk (by decide)) | skip)))
                (refine RetN.intro () [] rfl rfl ?_ ?_ ?_; ((repeat' (first | exact rfl | exact trivial | refine And.intro ?_ ?_ | ((conv => whnf); first | exact rfl | exact trivial | refine And.intro ?_ ?_)))); ((repeat' (first | exact rfl | exact trivial | refine And.intro ?_ ?_ | ((conv => whnf); first | exact rfl | exact trivial | refine And.intro ?_ ?_))); all_goals (conv => whnf); all_goals (try simp only [])))
end Go.Proofs.Ytadmgicmmnbdcaa.Sl
set_option linter.unusedVariables false
set_option linter.unusedSimpArgs false
namespace Go.Proofs.Ytadmgicmmnbdcaa.Sl
open Go Go.RowKit Fw

structure Sz where
  s : Slab
  r : Ref
  g : List Int
  i : Nat
theorem mem_upT {i n : Nat} {x : Int} : x ∈ upT i n ↔ (i : Int) ≤ x ∧ x < n := by
  simp only [upT, List.mem_map, List.mem_range'_1]
  constructor
  · rintro ⟨j, hj, rfl⟩; omega
  · intro h; exact ⟨x.toNat, by omega, by omega⟩
theorem lawRow (c t : Int) (p : List Int) (hp : ∀ x ∈ p, -9223372036854775808 ≤ x ∧ x ≤ 9223372036854775807) : Meets Try.prog 8 [.int .i64 fun _ => c, .int .i64 fun _ => t, .lst (.int .i64) fun _ => p] [] (Y := Unit) (fun _ => True) (fun _ => .tt) (fun _ => []) := by
  by_cases hw : c < 1 ∨ 64 < c
  · refine Meets.intro hm (fn := Try.f8) Try.func8 rfl (by decide) (Nat.le_of_ble_eq_true rfl) (fun _ => rfl) ?_; intro S hok; (conv => whnf)
    (repeat' ((conv => whnf); first | refine And.intro ?_ ?_ | exact Cl.mk (by kernel_rfl) | exact Ck.mk (by kernel_rfl) | exact trivial | exact rfl | (intro hh; try simp only [decide_eq_true_eq, decide_eq_false_iff_not, beq_iff_eq, beq_eq_false_iff_ne, bne_iff_ne, bne_eq_false_iff_eq, Bool.not_eq_true', Bool.not_eq_false', Bool.not_true, Bool.not_false] at hh))); all_goals (conv => whnf)
    (refine CallN.intro (newBad c 0 (by omega)) [] rfl rfl ?_ ?_ ?_; ((repeat' (first | exact rfl | exact trivial | refine And.intro ?_ ?_ | ((conv => whnf); first | exact rfl | exact trivial | refine And.intro ?_ ?_)))); ((repeat' (first | exact rfl | exact trivial | refine And.intro ?_ ?_ | ((conv => whnf); first | exact rfl | exact trivial | refine And.intro ?_ ?_)))); (intro y hy; clear y hy; (repeat' ((conv => whnf); first | refine And.intro ?_ ?_ | exact Cl.mk (by kernel_rfl) | exact Ck.mk (by kernel_rfl) | exact trivial | exact rfl | (intro hh; try simp only [decide_eq_true_eq, decide_eq_false_iff_not, beq_iff_eq, beq_eq_false_iff_ne, bne_iff_ne, bne_eq_false_iff_eq, Bool.not_eq_true', Bool.not_eq_false', Bool.not_true, Bool.not_false] at hh; try exact absurd hh (by decide)))); all_goals (conv => whnf); (all_goals first | (exact Ob.mk (by decide)) | skip)))
    all_goals first | ((refine CallN.intro lawLive [] rfl rfl ?_ ?_ ?_; ((repeat' (first | exact rfl | exact trivial | refine And.intro ?_ ?_ | ((conv => whnf); first | exact rfl | exact trivial | refine And.intro ?_ ?_)))); ((repeat' (first | exact rfl | exact trivial | refine And.intro ?_ ?_ | ((conv => whnf); first | exact rfl | exact trivial | refine And.intro ?_ ?_)))); (intro y hy; clear y hy; (repeat' ((conv => whnf); first | refine And.intro ?_ ?_ | exact Cl.mk (by kernel_rfl) | exact Ck.mk (by kernel_rfl) | exact trivial | exact rfl | (intro hh; try simp only [decide_eq_true_eq, decide_eq_false_iff_not, beq_iff_eq, beq_eq_false_iff_ne, bne_iff_ne, bne_eq_false_iff_eq, Bool.not_eq_true', Bool.not_eq_false', Bool.not_true, Bool.not_false] at hh; try exact absurd hh (by decide)))); all_goals (conv => whnf); (all_goals first | (exact Ob.mk (by decide)) | skip))); all_goals (refine RetN.intro () [] rfl rfl ?_ ?_ ?_; ((repeat' (first | exact rfl | exact trivial | refine And.intro ?_ ?_ | ((conv => whnf); first | exact rfl | exact trivial | refine And.intro ?_ ?_)))); ((repeat' (first | exact rfl | exact trivial | refine And.intro ?_ ?_ | ((conv => whnf); first | exact rfl | exact trivial | refine And.intro ?_ ?_))); all_goals (conv => whnf); all_goals (try simp only []))); done) | skip
  · obtain ⟨n, rfl⟩ : ∃ k : Nat, c = k := ⟨c.toNat, by omega⟩
    have hn : 1 ≤ n ∧ n ≤ 64 := by omega
    have b1 : Try.t3.bytes = 8 := rfl
    refine Meets.intro hm (fn := Try.f8) Try.func8 rfl (by decide) (Nat.le_of_ble_eq_true rfl) (fun _ => rfl) ?_; intro S hok; (conv => whnf)
    (repeat' ((conv => whnf); first | refine And.intro ?_ ?_ | exact Cl.mk (by kernel_rfl) | exact Ck.mk (by kernel_rfl) | exact trivial | exact rfl | (intro hh; try simp only [decide_eq_true_eq, decide_eq_false_iff_not, beq_iff_eq, beq_eq_false_iff_ne, bne_iff_ne, bne_eq_false_iff_eq, Bool.not_eq_true', Bool.not_eq_false', Bool.not_true, Bool.not_false] at hh))); all_goals (conv => whnf)
    (refine CallN.intro (newM n 0 hn (by decide)) [] rfl rfl ?_ ?_ ?_; ((repeat' (first | exact rfl | exact trivial | refine And.intro ?_ ?_ | ((conv => whnf); first | exact rfl | exact trivial | refine And.intro ?_ ?_)))); ((repeat' (first | exact rfl | exact trivial | refine And.intro ?_ ?_ | ((conv => whnf); first | exact rfl | exact trivial | refine And.intro ?_ ?_)))); (intro y hy; clear y hy; (repeat' ((conv => whnf); first | refine And.intro ?_ ?_ | exact Cl.mk (by kernel_rfl) | exact Ck.mk (by kernel_rfl) | exact trivial | exact rfl | (intro hh; try simp only [decide_eq_true_eq, decide_eq_false_iff_not, beq_iff_eq, beq_eq_false_iff_ne, bne_iff_ne, bne_eq_false_iff_eq, Bool.not_eq_true', Bool.not_eq_false', Bool.not_true, Bool.not_false] at hh; try exact absurd hh (by decide)))); all_goals (conv => whnf); (all_goals first | (exact Ob.mk (by decide)) | skip)))
    all_goals first | ((refine CallN.intro lawLive [] rfl rfl ?_ ?_ ?_; ((repeat' (first | exact rfl | exact trivial | refine And.intro ?_ ?_ | ((conv => whnf); first | exact rfl | exact trivial | refine And.intro ?_ ?_)))); ((repeat' (first | exact rfl | exact trivial | refine And.intro ?_ ?_ | ((conv => whnf); first | exact rfl | exact trivial | refine And.intro ?_ ?_)))); (intro y hy; clear y hy; (repeat' ((conv => whnf); first | refine And.intro ?_ ?_ | exact Cl.mk (by kernel_rfl) | exact Ck.mk (by kernel_rfl) | exact trivial | exact rfl | (intro hh; try simp only [decide_eq_true_eq, decide_eq_false_iff_not, beq_iff_eq, beq_eq_false_iff_ne, bne_iff_ne, bne_eq_false_iff_eq, Bool.not_eq_true', Bool.not_eq_false', Bool.not_true, Bool.not_false] at hh; try exact absurd hh (by decide)))); all_goals (conv => whnf); (all_goals first | (exact Ob.mk (by decide)) | skip))); all_goals (refine RetN.intro () [] rfl rfl ?_ ?_ ?_; ((repeat' (first | exact rfl | exact trivial | refine And.intro ?_ ?_ | ((conv => whnf); first | exact rfl | exact trivial | refine And.intro ?_ ?_)))); ((repeat' (first | exact rfl | exact trivial | refine And.intro ?_ ?_ | ((conv => whnf); first | exact rfl | exact trivial | refine And.intro ?_ ?_))); all_goals (conv => whnf); all_goals (try simp only []))); done) | (exfalso; omega) | skip
    obtain ⟨T, rfl⟩ : ∃ k : Nat, t = k := ⟨t.toNat, by omega⟩
    have hT : T ≤ n := by omega
    have hpl : p.length ≤ 64 := by omega
    refine LoopN.intro hm (X := Sy) (fun x => x.i ≤ T ∧ Rel x.s x.r n 0 0 ∧ x.r.row = upT x.i n) (fun x => T - x.i)
      (fun x => [(9, .int .i64 fun _ => (x.i : Int)), (7, .ptr 0 0), (0, .int .i64 fun _ => (n : Int)), (1, .int .i64 fun _ => (T : Int)), (2, .lst (.int .i64) fun _ => p)])
      (fun x => ch x.s) ⟨newS n 0, rnewS n 0, 0⟩ [0, 1, 2] ⟨rfl, rfl, ?_, ?_⟩ ⟨Nat.zero_le _, Rel.new hn (by decide), by simp [rnewS, upT, List.range_eq_range']⟩ (fun x hx => ?_)
    · (repeat' (first | exact rfl | exact trivial | refine And.intro ?_ ?_ | ((conv => whnf); first | exact rfl | exact trivial | refine And.intro ?_ ?_)))
    · (repeat' (first | exact rfl | exact trivial | refine And.intro ?_ ?_ | ((conv => whnf); first | exact rfl | exact trivial | refine And.intro ?_ ?_)))
    · obtain ⟨s, r, i⟩ := x
      obtain ⟨hi, hrel, hrow⟩ := hx
      simp only [] at hi hrel hrow
      have hok := hrel.ok
      (repeat' ((conv => whnf); first | refine And.intro ?_ ?_ | exact Cl.mk (by kernel_rfl) | exact Ck.mk (by kernel_rfl) | exact trivial | exact rfl | (intro hh; try simp only [decide_eq_true_eq, decide_eq_false_iff_not, beq_iff_eq, beq_eq_false_iff_ne, bne_iff_ne, bne_eq_false_iff_eq, Bool.not_eq_true', Bool.not_eq_false', Bool.not_true, Bool.not_false] at hh))); all_goals (conv => whnf)
      · have hi1 : i < n := by omega
        obtain ⟨k, l, h1, h2, h3, h4⟩ := hrel.takeNE (by omega) (by rw [hrow, upT_cons hi1]; simp)
        obtain ⟨rfl, rfl⟩ : i = k ∧ upT (i + 1) n = l := by
          rw [hrow, upT_cons hi1] at h1
          simp only [List.cons.injEq] at h1
          exact ⟨by omega, h1.2⟩
        refine CallN.intro (takeU s n hok) [0, 1, 2] rfl rfl ?_ ?_ ?_
        · (repeat' (first | exact rfl | exact trivial | refine And.intro ?_ ?_ | ((conv => whnf); first | exact rfl | exact trivial | refine And.intro ?_ ?_)))
        · (repeat' (first | exact rfl | exact trivial | refine And.intro ?_ ?_ | ((conv => whnf); first | exact rfl | exact trivial | refine And.intro ?_ ?_)))
        intro y hy
        (repeat' ((conv => whnf); first | refine And.intro ?_ ?_ | exact Cl.mk (by kernel_rfl) | exact Ck.mk (by kernel_rfl) | exact trivial | exact rfl | (intro hh; try simp only [decide_eq_true_eq, decide_eq_false_iff_not, beq_iff_eq, beq_eq_false_iff_ne, bne_iff_ne, bne_eq_false_iff_eq, Bool.not_eq_true', Bool.not_eq_false', Bool.not_true, Bool.not_false] at hh; try exact absurd hh (by decide)))); all_goals (conv => whnf)
        refine ⟨⟨takeT s, _, i + 1⟩, [0, 1, 2], ⟨rfl, rfl, ?_, ?_⟩, ⟨by show i + 1 ≤ T; omega, h4, rfl⟩, by show T - (i + 1) < T - i; omega⟩
        · (repeat' (first | exact rfl | exact trivial | refine And.intro ?_ ?_ | ((conv => whnf); first | exact rfl | exact trivial | refine And.intro ?_ ?_)))
        · (repeat' (first | exact rfl | exact trivial | refine And.intro ?_ ?_ | ((conv => whnf); first | exact rfl | exact trivial | refine And.intro ?_ ?_))); all_goals (conv => whnf); all_goals (try simp only [])
          exact wr1 i hi1 (by omega)
      · have e : i = T := by omega
        subst e
        have hg0 : ∀ j, j < n → r.gen.getD j 0 = 0 := fun j hj => by have := hrel.bound j hj; omega
        refine LoopN.nil 3 (.int .i64) none [10] ?_
        (conv => whnf)
        refine LoopN.intro hm (X := Sz) (fun x => x.i ≤ p.length ∧ Rel x.s x.r n 0 x.i ∧ x.r.row = x.g.reverse ++ upT i n ∧ x.g.length ≤ x.i ∧ (∀ y ∈ x.g, 0 ≤ y ∧ y < i) ∧ ∀ j : Nat, j < n → x.r.gen.getD j 0 = if (j : Int) ∈ x.g then 1 else 0) (fun x => p.length - x.i)
          (fun x => [(11, .int .i64 fun _ => (x.i : Int)), (10, .vec 3 1 (fun _ => 0) fun _ => x.g.length), (7, .ptr 0 0), (0, .int .i64 fun _ => (n : Int)), (1, .int .i64 fun _ => (i : Int)), (2, .lst (.int .i64) fun _ => p)])
          (fun x => ch x.s ++ [.vect 3 (.int .i64) fun _ => x.g]) ⟨s, r, [], 0⟩ [0, 1, 2, 3] ⟨rfl, rfl, ?_, ?_⟩ ⟨Nat.zero_le _, hrel, hrow, Nat.le_refl _, by simp, fun j hj => by rw [hg0 j hj]; simp⟩ (fun x hx => ?_)
        · (repeat' (first | exact rfl | exact trivial | refine And.intro ?_ ?_ | ((conv => whnf); first | exact rfl | exact trivial | refine And.intro ?_ ?_)))
        · (repeat' (first | exact rfl | exact trivial | refine And.intro ?_ ?_ | ((conv => whnf); first | exact rfl | exact trivial | refine And.intro ?_ ?_)))
        · obtain ⟨s, r, g, k⟩ := x
          obtain ⟨hk, hrel, hrow, hgl, hgm, hgn⟩ := hx
          simp only [] at hk hrel hrow hgl hgm hgn
          have hok := hrel.ok
          have hgive : ∀ y : Int, 0 ≤ y → y < i → if y ∈ g then rgood r y < 0 else ¬ rgood r y < 0 ∧ rgiveS r y = { r with taken := r.taken.set y.toNat false, gen := r.gen.set y.toNat 1, row := y :: r.row } := by
            intro y hy0 hyi
            obtain ⟨q, rfl⟩ : ∃ q : Nat, y = q := ⟨y.toNat, by omega⟩
            have hm3 : Int.tmod (q : Int) 64 = q := by rw [Int.tmod_eq_emod_of_nonneg (by omega)]; omega
            have hd3 : Int.tdiv (q : Int) 64 = 0 := by rw [Int.tdiv_eq_ediv_of_nonneg (by omega)]; omega
            have hg2 := hgn q (by omega)
            split
            · rename_i hm1
              rw [if_pos hm1] at hg2
              unfold rgood
              rw [if_neg (by omega), hm3, Int.toNat_natCast, hg2, hd3, if_pos (.inr (.inr (by decide)))]; decide
            · rename_i hm1
              rw [if_neg hm1] at hg2
              have ht2 : r.taken.getD q false = true := by
                have h1 := hrel.row q (by omega)
                rw [hrow, List.mem_append, List.mem_reverse, mem_upT] at h1
                cases h : r.taken.getD q false
                · rcases h1.2 h with h2 | h2
                  · exact (hm1 h2).elim
                  · omega
                · rfl
              have h5 : rgood r q = q := by
                unfold rgood
                rw [if_neg (by omega), hm3, Int.toNat_natCast, hg2, hd3, ht2, if_neg]
                rintro (h | h | h)
                · have := hrel.rok.gen; omega
                · cases h
                · exact h rfl
              have h6 : ¬ rgood r q < 0 := by rw [h5]; omega
              refine ⟨h6, ?_⟩
              unfold rgiveS
              rw [if_neg h6, h5, Int.toNat_natCast, hg2]; rfl
          have ek : ((k : Int)).toNat = k := Int.toNat_natCast k
          (repeat' ((conv => whnf); first | refine And.intro ?_ ?_ | exact Cl.mk (by kernel_rfl) | exact Ck.mk (by kernel_rfl) | exact trivial | exact rfl | (intro hh; try simp only [decide_eq_true_eq, decide_eq_false_iff_not, beq_iff_eq, beq_eq_false_iff_ne, bne_iff_ne, bne_eq_false_iff_eq, Bool.not_eq_true', Bool.not_eq_false', Bool.not_true, Bool.not_false] at hh))); all_goals (conv => whnf)
          all_goals first | (refine Ob.mk ?_; (try simp only [Ty.dflt, Nat.zero_add, Nat.add_zero, Int.toNat_natCast, Int.toNat_zero, Int.toNat_one, List.length_take, List.length_drop, List.length_append, List.length_replicate, List.length_cons, List.length_nil, List.length_set, List.length_map, true_and, and_true, b1]); omega) | skip
          · have hkp : k + 1 ≤ p.length := by omega
            rename_i h1 h2
            obtain ⟨y, hy⟩ : ∃ y, p.getD ((k : Int)).toNat (Ty.dflt (.int .i64)) = y := ⟨_, rfl⟩
            simp only [hy] at h2 hh
            have hg := hgive y (by omega) (by omega)
            have hgm' := hrel.giveR (by omega) y
            have hgt := hrel.giveT (by omega) y
            refine CallN.intro (giveM s y) [0, 1, 2] rfl rfl ?_ ?_ ?_
            · (repeat' (first | exact rfl | exact trivial | refine And.intro ?_ ?_ | ((conv => whnf); first | exact rfl | exact trivial | refine And.intro ?_ ?_))); all_goals (conv => whnf); all_goals (try simp only [])
              exact hy
            · (repeat' (first | exact rfl | exact trivial | refine And.intro ?_ ?_ | ((conv => whnf); first | exact rfl | exact trivial | refine And.intro ?_ ?_)))
            intro z hz
            rw [hgm']
            obtain ⟨s1, hs1⟩ : ∃ s1, s1 = (if good s y = true then giveS s (y.tmod 64).toNat else s) := ⟨_, rfl⟩
            rw [← hs1] at hgt ⊢
            by_cases hm1 : y ∈ g
            · rw [if_pos hm1] at hg
              rw [if_pos hg]
              have e : rgiveS r y = r := by unfold rgiveS; rw [if_pos hg]
              rw [e] at hgt
              (repeat' ((conv => whnf); first | refine And.intro ?_ ?_ | exact Cl.mk (by kernel_rfl) | exact Ck.mk (by kernel_rfl) | exact trivial | exact rfl | (intro hh; try simp only [decide_eq_true_eq, decide_eq_false_iff_not, beq_iff_eq, beq_eq_false_iff_ne, bne_iff_ne, bne_eq_false_iff_eq, Bool.not_eq_true', Bool.not_eq_false', Bool.not_true, Bool.not_false] at hh; try exact absurd hh (by decide)))); all_goals (conv => whnf)
              refine ⟨⟨s1, r, g, k + 1⟩, [0, 1, 2, 3], ⟨rfl, rfl, ?_, ?_⟩, ⟨hkp, hgt, hrow, by show g.length ≤ k + 1; omega, hgm, hgn⟩, by show p.length - (k + 1) < p.length - k; omega⟩
              · (repeat' (first | exact rfl | exact trivial | refine And.intro ?_ ?_ | ((conv => whnf); first | exact rfl | exact trivial | refine And.intro ?_ ?_)))
              · (repeat' (first | exact rfl | exact trivial | refine And.intro ?_ ?_ | ((conv => whnf); first | exact rfl | exact trivial | refine And.intro ?_ ?_))); all_goals (conv => whnf); all_goals (try simp only [])
                exact wr1 k (n := 64) (by omega) (by omega)
            · rw [if_neg hm1] at hg
              rw [if_neg hg.1]
              rw [hg.2] at hgt
              (repeat' ((conv => whnf); first | refine And.intro ?_ ?_ | exact Cl.mk (by kernel_rfl) | exact Ck.mk (by kernel_rfl) | exact trivial | exact rfl | (intro hh; try simp only [decide_eq_true_eq, decide_eq_false_iff_not, beq_iff_eq, beq_eq_false_iff_ne, bne_iff_ne, bne_eq_false_iff_eq, Bool.not_eq_true', Bool.not_eq_false', Bool.not_true, Bool.not_false] at hh; try exact absurd hh (by decide)))); all_goals (conv => whnf)
              all_goals first | (refine Ob.mk ?_; (try simp only [Ty.dflt, Nat.zero_add, Nat.add_zero, Int.toNat_natCast, Int.toNat_zero, Int.toNat_one, List.length_take, List.length_drop, List.length_append, List.length_replicate, List.length_cons, List.length_nil, List.length_set, List.length_map, true_and, and_true, b1]); omega) | skip
              have hkl := hrel.rok.gen
              refine ⟨⟨s1, _, g ++ [y], k + 1⟩, [0, 1, 2, 3], ⟨rfl, rfl, ?_, ?_⟩, ⟨hkp, hgt, ?_, ?_, ?_, ?_⟩, by show p.length - (k + 1) < p.length - k; omega⟩
              · (repeat' (first | exact rfl | exact trivial | refine And.intro ?_ ?_ | ((conv => whnf); first | exact rfl | exact trivial | refine And.intro ?_ ?_))); all_goals (conv => whnf); all_goals (try simp only [])
                have hy2 : p.getD ((k : Int)).toNat (Ty.dflt (.int .i64)) = y := hy
                rw [hy2]; simp
              · (repeat' (first | exact rfl | exact trivial | refine And.intro ?_ ?_ | ((conv => whnf); first | exact rfl | exact trivial | refine And.intro ?_ ?_))); all_goals (conv => whnf); all_goals (try simp only [])
                all_goals first | exact wr1 k (n := 64) (by omega) (by omega) | simp
              · show y :: r.row = (g ++ [y]).reverse ++ upT i n
                rw [hrow]; simp
              · show (g ++ [y]).length ≤ k + 1
                simp; omega
              · intro z hz
                rcases List.mem_append.1 hz with hz | hz
                · exact hgm z hz
                · rw [List.mem_singleton.1 hz]; omega
              · intro j hj
                show (r.gen.set y.toNat 1).getD j 0 = _
                rw [getD_set _ _ _ _ _ (by omega)]
                by_cases e : y.toNat = j
                · rw [if_pos e, if_pos (by rw [← e, Int.toNat_of_nonneg (by omega)]; simp)]
                · rw [if_neg e, hgn j hj]
                  have : ((j : Int) ∈ g ++ [y]) = ((j : Int) ∈ g) := by
                    apply propext
                    rw [List.mem_append, List.mem_singleton]
                    constructor
                    · rintro (h | h)
                      · exact h
                      · omega
                    · exact .inl
                  simp only [this]
          · have hkp : k + 1 ≤ p.length := by omega
            refine ⟨⟨s, r, g, k + 1⟩, [0, 1, 2, 3], ⟨rfl, rfl, ?_, ?_⟩, ⟨hkp, hrel.up (Nat.le_succ k), hrow, by show g.length ≤ k + 1; omega, hgm, hgn⟩, by show p.length - (k + 1) < p.length - k; omega⟩
            · (repeat' (first | exact rfl | exact trivial | refine And.intro ?_ ?_ | ((conv => whnf); first | exact rfl | exact trivial | refine And.intro ?_ ?_)))
            · (repeat' (first | exact rfl | exact trivial | refine And.intro ?_ ?_ | ((conv => whnf); first | exact rfl | exact trivial | refine And.intro ?_ ?_))); all_goals (conv => whnf); all_goals (try simp only [])
              exact wr1 k (n := 64) (by omega) (by omega)
          · have hkp : k + 1 ≤ p.length := by omega
            refine ⟨⟨s, r, g, k + 1⟩, [0, 1, 2, 3], ⟨rfl, rfl, ?_, ?_⟩, ⟨hkp, hrel.up (Nat.le_succ k), hrow, by show g.length ≤ k + 1; omega, hgm, hgn⟩, by show p.length - (k + 1) < p.length - k; omega⟩
            · (repeat' (first | exact rfl | exact trivial | refine And.intro ?_ ?_ | ((conv => whnf); first | exact rfl | exact trivial | refine And.intro ?_ ?_)))
            · (repeat' (first | exact rfl | exact trivial | refine And.intro ?_ ?_ | ((conv => whnf); first | exact rfl | exact trivial | refine And.intro ?_ ?_))); all_goals (conv => whnf); all_goals (try simp only [])
              exact wr1 k (n := 64) (by omega) (by omega)
          · have e : k = p.length := by omega
            have hgi : g.length ≤ 64 := by omega
            have hr0 := hrel.up (show k ≤ 64 by omega)
            refine LoopN.intro hm (X := Sy) (fun x => x.i ≤ g.length ∧ Rel x.s x.r n 0 64 ∧ x.r.row = (g.take x.i).reverse ++ upT i n ∧ x.r.gen = r.gen) (fun x => x.i)
              (fun x => [(12, .int .i64 fun _ => (x.i : Int) - 1), (10, .vec 3 1 (fun _ => 0) fun _ => g.length), (7, .ptr 0 0), (0, .int .i64 fun _ => (n : Int)), (1, .int .i64 fun _ => (i : Int))])
              (fun x => ch x.s ++ [.vect 3 (.int .i64) fun _ => g]) ⟨s, r, g.length⟩ [0, 1, 2, 3] ⟨rfl, rfl, ?_, ?_⟩ ⟨Nat.le_refl _, hr0, by show r.row = _; rw [List.take_length]; exact hrow, rfl⟩ (fun x hx => ?_)
            · (repeat' (first | exact rfl | exact trivial | refine And.intro ?_ ?_ | ((conv => whnf); first | exact rfl | exact trivial | refine And.intro ?_ ?_)))
            · (repeat' (first | exact rfl | exact trivial | refine And.intro ?_ ?_ | ((conv => whnf); first | exact rfl | exact trivial | refine And.intro ?_ ?_))); all_goals (conv => whnf); all_goals (try simp only [])
              exact wr (by omega)
            · obtain ⟨s, r', m⟩ := x
              obtain ⟨hm0, hrel, hrow, hgg⟩ := hx
              simp only [] at hm0 hrel hrow hgg
              have hok := hrel.ok
              (repeat' ((conv => whnf); first | refine And.intro ?_ ?_ | exact Cl.mk (by kernel_rfl) | exact Ck.mk (by kernel_rfl) | exact trivial | exact rfl | (intro hh; try simp only [decide_eq_true_eq, decide_eq_false_iff_not, beq_iff_eq, beq_eq_false_iff_ne, bne_iff_ne, bne_eq_false_iff_eq, Bool.not_eq_true', Bool.not_eq_false', Bool.not_true, Bool.not_false] at hh))); all_goals (conv => whnf)
              · have hm1 : m - 1 < g.length := by omega
                obtain ⟨q, hq⟩ : ∃ q : Nat, g[m - 1]'hm1 = q := ⟨(g[m - 1]'hm1).toNat, by have := hgm _ (List.getElem_mem hm1); omega⟩
                have hqm : (q : Int) ∈ g := by rw [← hq]; exact List.getElem_mem hm1
                have hqi := hgm _ hqm
                have hrow2 : r'.row = (q : Int) :: ((g.take (m - 1)).reverse ++ upT i n) := by
                  rw [hrow]
                  have : m = (m - 1) + 1 := by omega
                  rw [this, List.take_add_one, List.getElem?_eq_getElem hm1, hq]
                  simp
                obtain ⟨q', l, h1, h2, h3, h4⟩ := hrel.takeNE (by omega) (by rw [hrow2]; simp)
                rw [hrow2] at h1
                simp only [List.cons.injEq] at h1
                obtain ⟨h1, hl⟩ := h1
                have h1 : q = q' := by omega
                subst h1 hl
                rw [hgg, hgn q h2, if_pos hqm] at h3
                have hgd : g.getD (m - 1) 0 = q := by rw [List.getD_eq_getElem?_getD, List.getElem?_eq_getElem hm1, hq]; rfl
                refine CallN.intro (takeU s n hok) [0, 1, 2] rfl rfl ?_ ?_ ?_
                · (repeat' (first | exact rfl | exact trivial | refine And.intro ?_ ?_ | ((conv => whnf); first | exact rfl | exact trivial | refine And.intro ?_ ?_)))
                · (repeat' (first | exact rfl | exact trivial | refine And.intro ?_ ?_ | ((conv => whnf); first | exact rfl | exact trivial | refine And.intro ?_ ?_)))
                intro y hy
                rw [h3]
                have et : 0 + ((m : Int) - 1).toNat = m - 1 := by omega
                have ew : IntKind.i64.wrap ((q : Int) + 64) = 64 * 1 + q := by rw [wr (by omega)]; omega
                (repeat' ((conv => whnf); first | refine And.intro ?_ ?_ | exact Cl.mk (by kernel_rfl) | exact Ck.mk (by kernel_rfl) | exact trivial | exact rfl | (intro hh; try simp only [decide_eq_true_eq, decide_eq_false_iff_not, beq_iff_eq, beq_eq_false_iff_ne, bne_iff_ne, bne_eq_false_iff_eq, Bool.not_eq_true', Bool.not_eq_false', Bool.not_true, Bool.not_false] at hh; try exact absurd hh (by decide)))); all_goals (conv => whnf)
                all_goals first
                  | (refine Ob.mk ?_; (try simp only [Ty.dflt, Nat.zero_add, Nat.add_zero, Int.toNat_natCast, Int.toNat_zero, Int.toNat_one, List.length_take, List.length_drop, List.length_append, List.length_replicate, List.length_cons, List.length_nil, List.length_set, List.length_map, true_and, and_true]); omega)
                  | (exfalso; rw [et, show Ty.dflt (.int .i64) = (0 : Int) from rfl, hgd, ew] at hh; exact hh rfl)
                  | skip
                refine ⟨⟨takeT s, _, m - 1⟩, [0, 1, 2, 3], ⟨rfl, rfl, ?_, ?_⟩, ⟨by show m - 1 ≤ g.length; omega, h4, rfl, hgg⟩, by show m - 1 < m; omega⟩
                · (repeat' (first | exact rfl | exact trivial | refine And.intro ?_ ?_ | ((conv => whnf); first | exact rfl | exact trivial | refine And.intro ?_ ?_)))
                · (repeat' (first | exact rfl | exact trivial | refine And.intro ?_ ?_ | ((conv => whnf); first | exact rfl | exact trivial | refine And.intro ?_ ?_))); all_goals (conv => whnf); all_goals (try simp only [])
                  rw [wr (by omega)]; omega
              · have em : m = 0 := by omega
                subst em
                simp only [List.take_zero, List.reverse_nil, List.nil_append] at hrow
                refine CallN.intro (takeU s n hok) [0, 1, 2] rfl rfl ?_ ?_ ?_
                · (repeat' (first | exact rfl | exact trivial | refine And.intro ?_ ?_ | ((conv => whnf); first | exact rfl | exact trivial | refine And.intro ?_ ?_)))
                · (repeat' (first | exact rfl | exact trivial | refine And.intro ?_ ?_ | ((conv => whnf); first | exact rfl | exact trivial | refine And.intro ?_ ?_)))
                intro y hy
                by_cases hin : i < n
                · obtain ⟨q, l, h1, h2, h3, h4⟩ := hrel.takeNE (by omega) (by rw [hrow, upT_cons hin]; simp)
                  rw [hrow, upT_cons hin] at h1
                  simp only [List.cons.injEq] at h1
                  have hqi : q = i := by omega
                  have hni : (i : Int) ∉ g := fun h => by have := hgm _ h; omega
                  rw [hqi, hgg, hgn i hin, if_neg hni] at h3
                  rw [h3]
                  have hlt : decide ((i : Int) < (n : Int)) = true := by simp; omega
                  (repeat' ((conv => whnf); first | refine And.intro ?_ ?_ | exact Cl.mk (by kernel_rfl) | exact Ck.mk (by kernel_rfl) | exact trivial | exact rfl | (intro hh; try simp only [decide_eq_true_eq, decide_eq_false_iff_not, beq_iff_eq, beq_eq_false_iff_ne, bne_iff_ne, bne_eq_false_iff_eq, Bool.not_eq_true', Bool.not_eq_false', Bool.not_true, Bool.not_false] at hh; try exact absurd hh (by decide)))); all_goals (conv => whnf)
                  all_goals first
                    | ((refine CallN.intro lawLive [] rfl rfl ?_ ?_ ?_; ((repeat' (first | exact rfl | exact trivial | refine And.intro ?_ ?_ | ((conv => whnf); first | exact rfl | exact trivial | refine And.intro ?_ ?_)))); ((repeat' (first | exact rfl | exact trivial | refine And.intro ?_ ?_ | ((conv => whnf); first | exact rfl | exact trivial | refine And.intro ?_ ?_)))); (intro y hy; clear y hy; (repeat' ((conv => whnf); first | refine And.intro ?_ ?_ | exact Cl.mk (by kernel_rfl) | exact Ck.mk (by kernel_rfl) | exact trivial | exact rfl | (intro hh; try simp only [decide_eq_true_eq, decide_eq_false_iff_not, beq_iff_eq, beq_eq_false_iff_ne, bne_iff_ne, bne_eq_false_iff_eq, Bool.not_eq_true', Bool.not_eq_false', Bool.not_true, Bool.not_false] at hh; try exact absurd hh (by decide)))); all_goals (conv => whnf); (all_goals first | (exact Ob.mk (by decide)) | skip))); all_goals (refine RetN.intro () [] rfl rfl ?_ ?_ ?_; ((repeat' (first | exact rfl | exact trivial | refine And.intro ?_ ?_ | ((conv => whnf); first | exact rfl | exact trivial | refine And.intro ?_ ?_)))); ((repeat' (first | exact rfl | exact trivial | refine And.intro ?_ ?_ | ((conv => whnf); first | exact rfl | exact trivial | refine And.intro ?_ ?_))); all_goals (conv => whnf); all_goals (try simp only []))); done)
                    | skip
                  all_goals first
                    | (exfalso; omega)
                    | (exfalso; rw [hlt] at hh; exact absurd hh (by decide))
                    | skip
                · have hii : i = n := by omega
                  have h0 := hrel.takeE (by rw [hrow, hii, upT_nil])
                  have hlt : decide ((i : Int) < (n : Int)) = false := by simp; omega
                  rw [h0.1, h0.2]
                  (repeat' ((conv => whnf); first | refine And.intro ?_ ?_ | exact Cl.mk (by kernel_rfl) | exact Ck.mk (by kernel_rfl) | exact trivial | exact rfl | (intro hh; try simp only [decide_eq_true_eq, decide_eq_false_iff_not, beq_iff_eq, beq_eq_false_iff_ne, bne_iff_ne, bne_eq_false_iff_eq, Bool.not_eq_true', Bool.not_eq_false', Bool.not_true, Bool.not_false] at hh; try exact absurd hh (by decide)))); all_goals (conv => whnf)
                  all_goals first
                    | ((refine CallN.intro lawLive [] rfl rfl ?_ ?_ ?_; ((repeat' (first | exact rfl | exact trivial | refine And.intro ?_ ?_ | ((conv => whnf); first | exact rfl | exact trivial | refine And.intro ?_ ?_)))); ((repeat' (first | exact rfl | exact trivial | refine And.intro ?_ ?_ | ((conv => whnf); first | exact rfl | exact trivial | refine And.intro ?_ ?_)))); (intro y hy; clear y hy; (repeat' ((conv => whnf); first | refine And.intro ?_ ?_ | exact Cl.mk (by kernel_rfl) | exact Ck.mk (by kernel_rfl) | exact trivial | exact rfl | (intro hh; try simp only [decide_eq_true_eq, decide_eq_false_iff_not, beq_iff_eq, beq_eq_false_iff_ne, bne_iff_ne, bne_eq_false_iff_eq, Bool.not_eq_true', Bool.not_eq_false', Bool.not_true, Bool.not_false] at hh; try exact absurd hh (by decide)))); all_goals (conv => whnf); (all_goals first | (exact Ob.mk (by decide)) | skip))); all_goals (refine RetN.intro () [] rfl rfl ?_ ?_ ?_; ((repeat' (first | exact rfl | exact trivial | refine And.intro ?_ ?_ | ((conv => whnf); first | exact rfl | exact trivial | refine And.intro ?_ ?_)))); ((repeat' (first | exact rfl | exact trivial | refine And.intro ?_ ?_ | ((conv => whnf); first | exact rfl | exact trivial | refine And.intro ?_ ?_))); all_goals (conv => whnf); all_goals (try simp only []))); done)
                    | skip
                  all_goals first
                    | (exfalso; omega)
                    | (exfalso; rw [hlt] at hh; exact absurd hh (by decide))
                    | skip
end Go.Proofs.Ytadmgicmmnbdcaa.Sl
