/- The law WireCuts holds at every input that its statement lets in; part 4 of its proof. -/
import Derived.Test.YtoipgandilhdeaaMWireCuts2
set_option linter.unusedVariables false
set_option linter.unusedSimpArgs false
namespace Go.Proofs.Ytoipgandilhdeaa.Wi
open Go Go.RowKit Fw Nu
open An (byv byv_len byv_app byv_back byv_range fitsB fits_iff wides bads wides_len fits_neg shr_ne)
theorem tW9 (s : Bytes) (wrong : Bool) (l : List Ask) (k : Int) (al : Bool) (b p1 p2 p3 p4 ab : Int) (ak : Bytes) (m : Int) (hs : s.length ≤ 900000) (hv : (ak).length ≤ 1000) : Meets Try.prog 84 [.ptr 0 0, .ptr 2 9] (wN s wrong ++ ([cmdC (lstA l) (k) (al) (b) (p1) (p2) (p3) (p4) (ab) (ak) (m)])) (Y := Unit) (fun _ => True) (fun _ => .tup [])
    (fun _ => wN (s ++ (put (ak)).1) (wrong || !(put (ak)).2) ++ ([cmdC (lstA l) (k) (al) (b) (p1) (p2) (p3) (p4) (ab) (ak) (m)])) := by
  have hpl := put_len (ak)
  refine Meets.intro hm (fn := Try.f84) Try.func84 rfl (by decide) (Nat.le_of_ble_eq_true rfl) (fun _ => rfl) ?_; intro S hok; (conv => whnf)
  (repeat' ((conv => whnf); first | apply And.intro | exact ⟨by kernel_rfl⟩ | apply DrawN.mk | apply CodeN.step hm rfl | exact trivial | exact rfl | (intro hh; try simp only [bs] at hh))); all_goals (conv => whnf)
  all_goals first | ((refine Ob.mk ?_; (try simp only [Ty.dflt, Nat.zero_add, Nat.add_zero, Int.toNat_natCast, Int.toNat_zero, Int.toNat_one, List.length_take, List.length_drop, List.length_append, List.length_replicate, List.length_cons, List.length_nil, List.length_set, List.length_map, true_and, and_true]); omega)) | skip
  all_goals
    (refine CallN.q (putM (ak) (by omega)) [] (fun _ _ => ?_); (repeat' ((conv => whnf); first | apply And.intro | exact ⟨by kernel_rfl⟩ | apply DrawN.mk | apply CodeN.step hm rfl | exact trivial | exact rfl | (intro hh; try simp only [bs] at hh; try exact absurd hh (by decide)))); all_goals (conv => whnf); all_goals try exact ⟨by decide⟩)
  all_goals first
    | ((refine CallN.q (writeN s (put (ak)).1 (!(put (ak)).2) (by omega)) [0, 1] (fun _ _ => ?_); (repeat' ((conv => whnf); first | apply And.intro | exact ⟨by kernel_rfl⟩ | apply DrawN.mk | apply CodeN.step hm rfl | exact trivial | exact rfl | (intro hh; try simp only [bs] at hh; try exact absurd hh (by decide)))); all_goals (conv => whnf); all_goals try exact ⟨by decide⟩)
       (refine RetN.q () [0, 1, 2] ?_ ?_ ?_ <;> (repeat' ((conv => whnf) <;> first | exact rfl | exact trivial | apply And.intro | exact Nat.zero_add _)); all_goals ((conv => whnf); try simp only []))
       all_goals first | (simp [*]; done) | skip
       done)
    | ((refine CallN.q (writeN s (put (ak)).1 true (by omega)) [0, 1] (fun _ _ => ?_); (repeat' ((conv => whnf); first | apply And.intro | exact ⟨by kernel_rfl⟩ | apply DrawN.mk | apply CodeN.step hm rfl | exact trivial | exact rfl | (intro hh; try simp only [bs] at hh; try exact absurd hh (by decide)))); all_goals (conv => whnf); all_goals try exact ⟨by decide⟩)
       (refine RetN.q () [0, 1, 2] ?_ ?_ ?_ <;> (repeat' ((conv => whnf) <;> first | exact rfl | exact trivial | apply And.intro | exact Nat.zero_add _)); all_goals ((conv => whnf); try simp only []))
       all_goals first | (simp [*]; done) | skip
       done)
    | skip
theorem tWel (s : Bytes) (wrong : Bool) (x : Ask) (hs : s.length ≤ 900000) (hv : (x.2.1).length ≤ 1000) : Meets Try.prog 84 [.ptr 0 0, .iptr AskT (fun _ => x) 1] (wN s wrong ++ ([])) (Y := Unit) (fun _ => True) (fun _ => .tup [])
    (fun _ => wN (s ++ (put (x.2.1)).1) (wrong || !(put (x.2.1)).2) ++ ([])) := by
  have hpl := put_len (x.2.1)
  refine Meets.intro hm (fn := Try.f84) Try.func84 rfl (by decide) (Nat.le_of_ble_eq_true rfl) (fun _ => rfl) ?_; intro S hok; (conv => whnf)
  (repeat' ((conv => whnf); first | apply And.intro | exact ⟨by kernel_rfl⟩ | apply DrawN.mk | apply CodeN.step hm rfl | exact trivial | exact rfl | (intro hh; try simp only [bs] at hh))); all_goals (conv => whnf)
  all_goals first | ((refine Ob.mk ?_; (try simp only [Ty.dflt, Nat.zero_add, Nat.add_zero, Int.toNat_natCast, Int.toNat_zero, Int.toNat_one, List.length_take, List.length_drop, List.length_append, List.length_replicate, List.length_cons, List.length_nil, List.length_set, List.length_map, true_and, and_true]); omega)) | skip
  all_goals
    (refine CallN.q (putM (x.2.1) (by omega)) [] (fun _ _ => ?_); (repeat' ((conv => whnf); first | apply And.intro | exact ⟨by kernel_rfl⟩ | apply DrawN.mk | apply CodeN.step hm rfl | exact trivial | exact rfl | (intro hh; try simp only [bs] at hh; try exact absurd hh (by decide)))); all_goals (conv => whnf); all_goals try exact ⟨by decide⟩)
  all_goals first
    | ((refine CallN.q (writeN s (put (x.2.1)).1 (!(put (x.2.1)).2) (by omega)) [0, 1] (fun _ _ => ?_); (repeat' ((conv => whnf); first | apply And.intro | exact ⟨by kernel_rfl⟩ | apply DrawN.mk | apply CodeN.step hm rfl | exact trivial | exact rfl | (intro hh; try simp only [bs] at hh; try exact absurd hh (by decide)))); all_goals (conv => whnf); all_goals try exact ⟨by decide⟩)
       (refine RetN.q () [0, 1] ?_ ?_ ?_ <;> (repeat' ((conv => whnf) <;> first | exact rfl | exact trivial | apply And.intro | exact Nat.zero_add _)); all_goals ((conv => whnf); try simp only []))
       all_goals first | (simp [*]; done) | skip
       done)
    | ((refine CallN.q (writeN s (put (x.2.1)).1 true (by omega)) [0, 1] (fun _ _ => ?_); (repeat' ((conv => whnf); first | apply And.intro | exact ⟨by kernel_rfl⟩ | apply DrawN.mk | apply CodeN.step hm rfl | exact trivial | exact rfl | (intro hh; try simp only [bs] at hh; try exact absurd hh (by decide)))); all_goals (conv => whnf); all_goals try exact ⟨by decide⟩)
       (refine RetN.q () [0, 1] ?_ ?_ ?_ <;> (repeat' ((conv => whnf) <;> first | exact rfl | exact trivial | apply And.intro | exact Nat.zero_add _)); all_goals ((conv => whnf); try simp only []))
       all_goals first | (simp [*]; done) | skip
       done)
    | skip
theorem n0 (l : List Ask) (k : Int) (al : Bool) (b p1 p2 p3 p4 ab : Int) (ak : Bytes) (m : Int) : Meets Try.prog 69 [.ptr 0 0, .ptr 1 0, .int .i64 fun _ => 1] (w0 false ++ [cmdC (lstA l) (k) (al) (b) (p1) (p2) (p3) (p4) (ab) (ak) (m)]) (Y := Unit) (fun _ => True) (fun _ => .tup [])
    (fun _ => [.cells 121 [.ff, .str fun _ => [], .int .i64 fun _ => 0, .ptr 0 3, .vec 2 1 (fun _ => 0) (fun _ => 1), .bool fun _ => bads [(k, 1)]]] ++ [cmdC (lstA l) (k) (al) (b) (p1) (p2) (p3) (p4) (ab) (ak) (m)] ++ [.vect 5 (.int .u8) fun _ => byv (wides [(k, 1)])]) := by
  refine Meets.intro hm (fn := Try.f69) Try.func69 rfl (by decide) (Nat.le_of_ble_eq_true rfl) (fun _ => rfl) ?_; intro S hok; (conv => whnf)
  (repeat' ((conv => whnf); first | apply And.intro | exact ⟨by kernel_rfl⟩ | apply DrawN.mk | apply CodeN.step hm rfl | exact trivial | exact rfl | (intro hh; try simp only [bs] at hh))); all_goals (conv => whnf)
  all_goals first | (exact Ob.mk (by simp only [IntKind.wrap_i64]; omega)) | ((refine Ob.mk ?_; (try simp only [Ty.dflt, Nat.zero_add, Nat.add_zero, Int.toNat_natCast, Int.toNat_zero, Int.toNat_one, List.length_take, List.length_drop, List.length_append, List.length_replicate, List.length_cons, List.length_nil, List.length_set, List.length_map, true_and, and_true]); omega)) | (exfalso; cases hh; done) | skip
  all_goals first
    | ((refine CallN.q (wideM (IntKind.u64.wrap k) 1 (by omega)) [] (fun _ _ => ?_); (repeat' ((conv => whnf); first | apply And.intro | exact ⟨by kernel_rfl⟩ | apply DrawN.mk | apply CodeN.step hm rfl | exact trivial | exact rfl | (intro hh; try simp only [bs] at hh; try exact absurd hh (by decide)))); all_goals (conv => whnf); all_goals try exact ⟨by decide⟩)
       (refine CallN.q (write0 (wide (IntKind.u64.wrap k) 1) (k.fdiv (2 ^ (min (IntKind.i64.wrap (8 * 1)).toNat IntKind.i64.bits)) != 0) (by rw [wide_len]; omega)) [0] (fun _ _ => ?_); (repeat' ((conv => whnf); first | apply And.intro | exact ⟨by kernel_rfl⟩ | apply DrawN.mk | apply CodeN.step hm rfl | exact trivial | exact rfl | (intro hh; try simp only [bs] at hh; try exact absurd hh (by decide)))); all_goals (conv => whnf); all_goals try exact ⟨by decide⟩)
       (refine RetN.q () [0, 1, 2] ?_ ?_ ?_ <;> (repeat' ((conv => whnf) <;> first | exact rfl | exact trivial | apply And.intro | exact Nat.zero_add _)); all_goals ((conv => whnf); try simp only []))
       all_goals first | (rw [wides1]; done) | (rw [wide_len]; done) | exact bad1 (wrong := false) (w := 1) (by omega) (.inr (.inr ⟨rfl, by assumption, rfl⟩)) | skip
       done)
    | ((refine CallN.q (wideM (IntKind.u64.wrap k) 1 (by omega)) [] (fun _ _ => ?_); (repeat' ((conv => whnf); first | apply And.intro | exact ⟨by kernel_rfl⟩ | apply DrawN.mk | apply CodeN.step hm rfl | exact trivial | exact rfl | (intro hh; try simp only [bs] at hh; try exact absurd hh (by decide)))); all_goals (conv => whnf); all_goals try exact ⟨by decide⟩)
       (refine CallN.q (write0 (wide (IntKind.u64.wrap k) 1) true (by rw [wide_len]; omega)) [0] (fun _ _ => ?_); (repeat' ((conv => whnf); first | apply And.intro | exact ⟨by kernel_rfl⟩ | apply DrawN.mk | apply CodeN.step hm rfl | exact trivial | exact rfl | (intro hh; try simp only [bs] at hh; try exact absurd hh (by decide)))); all_goals (conv => whnf); all_goals try exact ⟨by decide⟩)
       (refine RetN.q () [0, 1, 2] ?_ ?_ ?_ <;> (repeat' ((conv => whnf) <;> first | exact rfl | exact trivial | apply And.intro | exact Nat.zero_add _)); all_goals ((conv => whnf); try simp only []))
       all_goals first | (rw [wides1]; done) | (rw [wide_len]; done) | exact bad1 (wrong := false) (w := 1) (by omega) (.inr (.inl ⟨by assumption, rfl⟩)) | skip
       done)
    | skip
end Go.Proofs.Ytoipgandilhdeaa.Wi
set_option linter.unusedVariables false
set_option linter.unusedSimpArgs false
namespace Go.Proofs.Ytoipgandilhdeaa.Wi
open Go Go.RowKit Fw Nu
open An (byv byv_len byv_app byv_back byv_range fitsB fits_iff wides bads wides_len fits_neg shr_ne)
theorem nRown (s : Bytes) (t : Int) (wrong : Bool) (n : Int) (w : Nat) (hw : w ≤ 4) (hs : s.length ≤ 1000000) : Meets Try.prog 69 [.ptr 0 0, .ptr 1 0, .int .i64 fun _ => (w : Int)] ([prC s t wrong] ++ ([.cells 3 [.int .i64 fun _ => n]])) (Y := Int × Int × Bool) (NumQ s t w wrong) (fun _ => .tup [])
    (fun y => [prC s y.2.1 y.2.2] ++ ([.cells 3 [.int .i64 fun _ => y.1]])) := by
  have hx : (0 : Nat) = 0 := rfl
  have hsl := hx
  refine Meets.intro hm (fn := Try.f69) Try.func69 rfl (by decide) (Nat.le_of_ble_eq_true rfl) (fun _ => rfl) ?_; intro S hok; (conv => whnf)
  (repeat' ((conv => whnf); first | apply And.intro | exact ⟨by kernel_rfl⟩ | apply DrawN.mk | apply CodeN.step hm rfl | exact trivial | exact rfl | (intro hh; try simp only [bs] at hh))); all_goals (conv => whnf)
  all_goals
    (refine CallN.q (numberM s t w (by omega) hs) [] (fun _ _ => ?_); (repeat' ((conv => whnf); first | apply And.intro | exact ⟨by kernel_rfl⟩ | apply DrawN.mk | apply CodeN.step hm rfl | exact trivial | exact rfl | (intro hh; try simp only [bs] at hh; try exact absurd hh (by decide)))); all_goals (conv => whnf); all_goals try exact ⟨by decide⟩)
  all_goals (try simp only [hx])
  all_goals first
    | ((refine Ob.mk ?_; (try simp only [Ty.dflt, Nat.zero_add, Nat.add_zero, Int.toNat_natCast, Int.toNat_zero, Int.toNat_one, List.length_take, List.length_drop, List.length_append, List.length_replicate, List.length_cons, List.length_nil, List.length_set, List.length_map, true_and, and_true]); omega))
    | (have hn : (number s t w).2.2 = 0 := by assumption
       (refine RetN.q ((number s t w).1, (number s t w).2.1, false) [0, 1] ?_ ?_ ?_ <;> (repeat' ((conv => whnf) <;> first | exact rfl | exact trivial | apply And.intro | exact Nat.zero_add _)); all_goals ((conv => whnf); try simp only []))
       all_goals first | (simp only [hx]; done) | exact ⟨fun _ => ⟨by assumption, num_eq hn⟩, fun h => (by cases h)⟩ | exact num_wrap (by omega) hn | (simp [*]; done) | (rw [num_wrap (by omega) hn]; done) | skip
       done)
    | (have hn : (number s t w).2.2 ≠ 0 := by assumption
       (refine RetN.q (n, t, true) [0, 1] ?_ ?_ ?_ <;> (repeat' ((conv => whnf) <;> first | exact rfl | exact trivial | apply And.intro | exact Nat.zero_add _)); all_goals ((conv => whnf); try simp only []))
       all_goals first | exact ⟨fun h => (by cases h), fun _ => .inr hn⟩ | exact hsl.symm | (simp [*]; done) | skip
       done)
    | (have hn : wrong = true := by assumption
       (refine RetN.q (n, t, true) [0, 1] ?_ ?_ ?_ <;> (repeat' ((conv => whnf) <;> first | exact rfl | exact trivial | apply And.intro | exact Nat.zero_add _)); all_goals ((conv => whnf); try simp only []))
       all_goals first | exact ⟨fun h => (by cases h), fun _ => .inl hn⟩ | exact hsl.symm | (simp [*]; done) | skip
       done)
    | skip
theorem nR3 (s : Bytes) (t : Int) (wrong : Bool) (k : Int) (al : Bool) (b p1 p2 p3 p4 ab : Int) (ak : Bytes) (m : Int) (w : Nat) (hw : w ≤ 4) (hs : s.length ≤ 1000000) : Meets Try.prog 69 [.ptr 0 0, .ptr 1 3, .int .i64 fun _ => (w : Int)] ([prC s t wrong] ++ ([cmdC .snil (k) (al) (b) (p1) (p2) (p3) (p4) (ab) (ak) (m)])) (Y := Int × Int × Bool) (NumQ s t w wrong) (fun _ => .tup [])
    (fun y => [prC s y.2.1 y.2.2] ++ ([cmdC .snil (k) (al) (y.1) (p1) (p2) (p3) (p4) (ab) (ak) (m)])) := by
  have hx : (0 : Nat) = 0 := rfl
  have hsl := hx
  refine Meets.intro hm (fn := Try.f69) Try.func69 rfl (by decide) (Nat.le_of_ble_eq_true rfl) (fun _ => rfl) ?_; intro S hok; (conv => whnf)
  (repeat' ((conv => whnf); first | apply And.intro | exact ⟨by kernel_rfl⟩ | apply DrawN.mk | apply CodeN.step hm rfl | exact trivial | exact rfl | (intro hh; try simp only [bs] at hh))); all_goals (conv => whnf)
  all_goals
    (refine CallN.q (numberM s t w (by omega) hs) [] (fun _ _ => ?_); (repeat' ((conv => whnf); first | apply And.intro | exact ⟨by kernel_rfl⟩ | apply DrawN.mk | apply CodeN.step hm rfl | exact trivial | exact rfl | (intro hh; try simp only [bs] at hh; try exact absurd hh (by decide)))); all_goals (conv => whnf); all_goals try exact ⟨by decide⟩)
  all_goals (try simp only [hx])
  all_goals first
    | ((refine Ob.mk ?_; (try simp only [Ty.dflt, Nat.zero_add, Nat.add_zero, Int.toNat_natCast, Int.toNat_zero, Int.toNat_one, List.length_take, List.length_drop, List.length_append, List.length_replicate, List.length_cons, List.length_nil, List.length_set, List.length_map, true_and, and_true]); omega))
    | (have hn : (number s t w).2.2 = 0 := by assumption
       (refine RetN.q ((number s t w).1, (number s t w).2.1, false) [0, 1] ?_ ?_ ?_ <;> (repeat' ((conv => whnf) <;> first | exact rfl | exact trivial | apply And.intro | exact Nat.zero_add _)); all_goals ((conv => whnf); try simp only []))
       all_goals first | (simp only [hx]; done) | exact ⟨fun _ => ⟨by assumption, num_eq hn⟩, fun h => (by cases h)⟩ | exact num_wrap (by omega) hn | (simp [*]; done) | (rw [num_wrap (by omega) hn]; done) | skip
       done)
    | (have hn : (number s t w).2.2 ≠ 0 := by assumption
       (refine RetN.q (b, t, true) [0, 1] ?_ ?_ ?_ <;> (repeat' ((conv => whnf) <;> first | exact rfl | exact trivial | apply And.intro | exact Nat.zero_add _)); all_goals ((conv => whnf); try simp only []))
       all_goals first | exact ⟨fun h => (by cases h), fun _ => .inr hn⟩ | exact hsl.symm | (simp [*]; done) | skip
       done)
    | (have hn : wrong = true := by assumption
       (refine RetN.q (b, t, true) [0, 1] ?_ ?_ ?_ <;> (repeat' ((conv => whnf) <;> first | exact rfl | exact trivial | apply And.intro | exact Nat.zero_add _)); all_goals ((conv => whnf); try simp only []))
       all_goals first | exact ⟨fun h => (by cases h), fun _ => .inl hn⟩ | exact hsl.symm | (simp [*]; done) | skip
       done)
    | skip
theorem nR4 (s : Bytes) (t : Int) (wrong : Bool) (k : Int) (al : Bool) (b p1 p2 p3 p4 ab : Int) (ak : Bytes) (m : Int) (w : Nat) (hw : w ≤ 4) (hs : s.length ≤ 1000000) : Meets Try.prog 69 [.ptr 0 0, .ptr 1 4, .int .i64 fun _ => (w : Int)] ([prC s t wrong] ++ ([cmdC .snil (k) (al) (b) (p1) (p2) (p3) (p4) (ab) (ak) (m)])) (Y := Int × Int × Bool) (NumQ s t w wrong) (fun _ => .tup [])
    (fun y => [prC s y.2.1 y.2.2] ++ ([cmdC .snil (k) (al) (b) (y.1) (p2) (p3) (p4) (ab) (ak) (m)])) := by
  have hx : (0 : Nat) = 0 := rfl
  have hsl := hx
  refine Meets.intro hm (fn := Try.f69) Try.func69 rfl (by decide) (Nat.le_of_ble_eq_true rfl) (fun _ => rfl) ?_; intro S hok; (conv => whnf)
  (repeat' ((conv => whnf); first | apply And.intro | exact ⟨by kernel_rfl⟩ | apply DrawN.mk | apply CodeN.step hm rfl | exact trivial | exact rfl | (intro hh; try simp only [bs] at hh))); all_goals (conv => whnf)
  all_goals
    (refine CallN.q (numberM s t w (by omega) hs) [] (fun _ _ => ?_); (repeat' ((conv => whnf); first | apply And.intro | exact ⟨by kernel_rfl⟩ | apply DrawN.mk | apply CodeN.step hm rfl | exact trivial | exact rfl | (intro hh; try simp only [bs] at hh; try exact absurd hh (by decide)))); all_goals (conv => whnf); all_goals try exact ⟨by decide⟩)
  all_goals (try simp only [hx])
  all_goals first
    | ((refine Ob.mk ?_; (try simp only [Ty.dflt, Nat.zero_add, Nat.add_zero, Int.toNat_natCast, Int.toNat_zero, Int.toNat_one, List.length_take, List.length_drop, List.length_append, List.length_replicate, List.length_cons, List.length_nil, List.length_set, List.length_map, true_and, and_true]); omega))
    | (have hn : (number s t w).2.2 = 0 := by assumption
       (refine RetN.q ((number s t w).1, (number s t w).2.1, false) [0, 1] ?_ ?_ ?_ <;> (repeat' ((conv => whnf) <;> first | exact rfl | exact trivial | apply And.intro | exact Nat.zero_add _)); all_goals ((conv => whnf); try simp only []))
       all_goals first | (simp only [hx]; done) | exact ⟨fun _ => ⟨by assumption, num_eq hn⟩, fun h => (by cases h)⟩ | exact num_wrap (by omega) hn | (simp [*]; done) | (rw [num_wrap (by omega) hn]; done) | skip
       done)
    | (have hn : (number s t w).2.2 ≠ 0 := by assumption
       (refine RetN.q (p1, t, true) [0, 1] ?_ ?_ ?_ <;> (repeat' ((conv => whnf) <;> first | exact rfl | exact trivial | apply And.intro | exact Nat.zero_add _)); all_goals ((conv => whnf); try simp only []))
       all_goals first | exact ⟨fun h => (by cases h), fun _ => .inr hn⟩ | exact hsl.symm | (simp [*]; done) | skip
       done)
    | (have hn : wrong = true := by assumption
       (refine RetN.q (p1, t, true) [0, 1] ?_ ?_ ?_ <;> (repeat' ((conv => whnf) <;> first | exact rfl | exact trivial | apply And.intro | exact Nat.zero_add _)); all_goals ((conv => whnf); try simp only []))
       all_goals first | exact ⟨fun h => (by cases h), fun _ => .inl hn⟩ | exact hsl.symm | (simp [*]; done) | skip
       done)
    | skip
theorem nR5 (s : Bytes) (t : Int) (wrong : Bool) (k : Int) (al : Bool) (b p1 p2 p3 p4 ab : Int) (ak : Bytes) (m : Int) (w : Nat) (hw : w ≤ 4) (hs : s.length ≤ 1000000) : Meets Try.prog 69 [.ptr 0 0, .ptr 1 5, .int .i64 fun _ => (w : Int)] ([prC s t wrong] ++ ([cmdC .snil (k) (al) (b) (p1) (p2) (p3) (p4) (ab) (ak) (m)])) (Y := Int × Int × Bool) (NumQ s t w wrong) (fun _ => .tup [])
    (fun y => [prC s y.2.1 y.2.2] ++ ([cmdC .snil (k) (al) (b) (p1) (y.1) (p3) (p4) (ab) (ak) (m)])) := by
  have hx : (0 : Nat) = 0 := rfl
  have hsl := hx
  refine Meets.intro hm (fn := Try.f69) Try.func69 rfl (by decide) (Nat.le_of_ble_eq_true rfl) (fun _ => rfl) ?_; intro S hok; (conv => whnf)
  (repeat' ((conv => whnf); first | apply And.intro | exact ⟨by kernel_rfl⟩ | apply DrawN.mk | apply CodeN.step hm rfl | exact trivial | exact rfl | (intro hh; try simp only [bs] at hh))); all_goals (conv => whnf)
  all_goals
    (refine CallN.q (numberM s t w (by omega) hs) [] (fun _ _ => ?_); (repeat' ((conv => whnf); first | apply And.intro | exact ⟨by kernel_rfl⟩ | apply DrawN.mk | apply CodeN.step hm rfl | exact trivial | exact rfl | (intro hh; try simp only [bs] at hh; try exact absurd hh (by decide)))); all_goals (conv => whnf); all_goals try exact ⟨by decide⟩)
  all_goals (try simp only [hx])
  all_goals first
    | ((refine Ob.mk ?_; (try simp only [Ty.dflt, Nat.zero_add, Nat.add_zero, Int.toNat_natCast, Int.toNat_zero, Int.toNat_one, List.length_take, List.length_drop, List.length_append, List.length_replicate, List.length_cons, List.length_nil, List.length_set, List.length_map, true_and, and_true]); omega))
    | (have hn : (number s t w).2.2 = 0 := by assumption
       (refine RetN.q ((number s t w).1, (number s t w).2.1, false) [0, 1] ?_ ?_ ?_ <;> (repeat' ((conv => whnf) <;> first | exact rfl | exact trivial | apply And.intro | exact Nat.zero_add _)); all_goals ((conv => whnf); try simp only []))
       all_goals first | (simp only [hx]; done) | exact ⟨fun _ => ⟨by assumption, num_eq hn⟩, fun h => (by cases h)⟩ | exact num_wrap (by omega) hn | (simp [*]; done) | (rw [num_wrap (by omega) hn]; done) | skip
       done)
    | (have hn : (number s t w).2.2 ≠ 0 := by assumption
       (refine RetN.q (p2, t, true) [0, 1] ?_ ?_ ?_ <;> (repeat' ((conv => whnf) <;> first | exact rfl | exact trivial | apply And.intro | exact Nat.zero_add _)); all_goals ((conv => whnf); try simp only []))
       all_goals first | exact ⟨fun h => (by cases h), fun _ => .inr hn⟩ | exact hsl.symm | (simp [*]; done) | skip
       done)
    | (have hn : wrong = true := by assumption
       (refine RetN.q (p2, t, true) [0, 1] ?_ ?_ ?_ <;> (repeat' ((conv => whnf) <;> first | exact rfl | exact trivial | apply And.intro | exact Nat.zero_add _)); all_goals ((conv => whnf); try simp only []))
       all_goals first | exact ⟨fun h => (by cases h), fun _ => .inl hn⟩ | exact hsl.symm | (simp [*]; done) | skip
       done)
    | skip
theorem nR6 (s : Bytes) (t : Int) (wrong : Bool) (k : Int) (al : Bool) (b p1 p2 p3 p4 ab : Int) (ak : Bytes) (m : Int) (w : Nat) (hw : w ≤ 4) (hs : s.length ≤ 1000000) : Meets Try.prog 69 [.ptr 0 0, .ptr 1 6, .int .i64 fun _ => (w : Int)] ([prC s t wrong] ++ ([cmdC .snil (k) (al) (b) (p1) (p2) (p3) (p4) (ab) (ak) (m)])) (Y := Int × Int × Bool) (NumQ s t w wrong) (fun _ => .tup [])
    (fun y => [prC s y.2.1 y.2.2] ++ ([cmdC .snil (k) (al) (b) (p1) (p2) (y.1) (p4) (ab) (ak) (m)])) := by
  have hx : (0 : Nat) = 0 := rfl
  have hsl := hx
  refine Meets.intro hm (fn := Try.f69) Try.func69 rfl (by decide) (Nat.le_of_ble_eq_true rfl) (fun _ => rfl) ?_; intro S hok; (conv => whnf)
  (repeat' ((conv => whnf); first | apply And.intro | exact ⟨by kernel_rfl⟩ | apply DrawN.mk | apply CodeN.step hm rfl | exact trivial | exact rfl | (intro hh; try simp only [bs] at hh))); all_goals (conv => whnf)
  all_goals
    (refine CallN.q (numberM s t w (by omega) hs) [] (fun _ _ => ?_); (repeat' ((conv => whnf); first | apply And.intro | exact ⟨by kernel_rfl⟩ | apply DrawN.mk | apply CodeN.step hm rfl | exact trivial | exact rfl | (intro hh; try simp only [bs] at hh; try exact absurd hh (by decide)))); all_goals (conv => whnf); all_goals try exact ⟨by decide⟩)
  all_goals (try simp only [hx])
  all_goals first
    | ((refine Ob.mk ?_; (try simp only [Ty.dflt, Nat.zero_add, Nat.add_zero, Int.toNat_natCast, Int.toNat_zero, Int.toNat_one, List.length_take, List.length_drop, List.length_append, List.length_replicate, List.length_cons, List.length_nil, List.length_set, List.length_map, true_and, and_true]); omega))
    | (have hn : (number s t w).2.2 = 0 := by assumption
       (refine RetN.q ((number s t w).1, (number s t w).2.1, false) [0, 1] ?_ ?_ ?_ <;> (repeat' ((conv => whnf) <;> first | exact rfl | exact trivial | apply And.intro | exact Nat.zero_add _)); all_goals ((conv => whnf); try simp only []))
       all_goals first | (simp only [hx]; done) | exact ⟨fun _ => ⟨by assumption, num_eq hn⟩, fun h => (by cases h)⟩ | exact num_wrap (by omega) hn | (simp [*]; done) | (rw [num_wrap (by omega) hn]; done) | skip
       done)
    | (have hn : (number s t w).2.2 ≠ 0 := by assumption
       (refine RetN.q (p3, t, true) [0, 1] ?_ ?_ ?_ <;> (repeat' ((conv => whnf) <;> first | exact rfl | exact trivial | apply And.intro | exact Nat.zero_add _)); all_goals ((conv => whnf); try simp only []))
       all_goals first | exact ⟨fun h => (by cases h), fun _ => .inr hn⟩ | exact hsl.symm | (simp [*]; done) | skip
       done)
    | (have hn : wrong = true := by assumption
       (refine RetN.q (p3, t, true) [0, 1] ?_ ?_ ?_ <;> (repeat' ((conv => whnf) <;> first | exact rfl | exact trivial | apply And.intro | exact Nat.zero_add _)); all_goals ((conv => whnf); try simp only []))
       all_goals first | exact ⟨fun h => (by cases h), fun _ => .inl hn⟩ | exact hsl.symm | (simp [*]; done) | skip
       done)
    | skip
theorem nR7 (s : Bytes) (t : Int) (wrong : Bool) (k : Int) (al : Bool) (b p1 p2 p3 p4 ab : Int) (ak : Bytes) (m : Int) (w : Nat) (hw : w ≤ 4) (hs : s.length ≤ 1000000) : Meets Try.prog 69 [.ptr 0 0, .ptr 1 7, .int .i64 fun _ => (w : Int)] ([prC s t wrong] ++ ([cmdC .snil (k) (al) (b) (p1) (p2) (p3) (p4) (ab) (ak) (m)])) (Y := Int × Int × Bool) (NumQ s t w wrong) (fun _ => .tup [])
    (fun y => [prC s y.2.1 y.2.2] ++ ([cmdC .snil (k) (al) (b) (p1) (p2) (p3) (y.1) (ab) (ak) (m)])) := by
  have hx : (0 : Nat) = 0 := rfl
  have hsl := hx
  refine Meets.intro hm (fn := Try.f69) Try.func69 rfl (by decide) (Nat.le_of_ble_eq_true rfl) (fun _ => rfl) ?_; intro S hok; (conv => whnf)
  (repeat' ((conv => whnf); first | apply And.intro | exact ⟨by kernel_rfl⟩ | apply DrawN.mk | apply CodeN.step hm rfl | exact trivial | exact rfl | (intro hh; try simp only [bs] at hh))); all_goals (conv => whnf)
  all_goals
    (refine CallN.q (numberM s t w (by omega) hs) [] (fun _ _ => ?_); (repeat' ((conv => whnf); first | apply And.intro | exact ⟨by kernel_rfl⟩ | apply DrawN.mk | apply CodeN.step hm rfl | exact trivial | exact rfl | (intro hh; try simp only [bs] at hh; try exact absurd hh (by decide)))); all_goals (conv => whnf); all_goals try exact ⟨by decide⟩)
  all_goals (try simp only [hx])
  all_goals first
    | ((refine Ob.mk ?_; (try simp only [Ty.dflt, Nat.zero_add, Nat.add_zero, Int.toNat_natCast, Int.toNat_zero, Int.toNat_one, List.length_take, List.length_drop, List.length_append, List.length_replicate, List.length_cons, List.length_nil, List.length_set, List.length_map, true_and, and_true]); omega))
    | (have hn : (number s t w).2.2 = 0 := by assumption
       (refine RetN.q ((number s t w).1, (number s t w).2.1, false) [0, 1] ?_ ?_ ?_ <;> (repeat' ((conv => whnf) <;> first | exact rfl | exact trivial | apply And.intro | exact Nat.zero_add _)); all_goals ((conv => whnf); try simp only []))
       all_goals first | (simp only [hx]; done) | exact ⟨fun _ => ⟨by assumption, num_eq hn⟩, fun h => (by cases h)⟩ | exact num_wrap (by omega) hn | (simp [*]; done) | (rw [num_wrap (by omega) hn]; done) | skip
       done)
    | (have hn : (number s t w).2.2 ≠ 0 := by assumption
       (refine RetN.q (p4, t, true) [0, 1] ?_ ?_ ?_ <;> (repeat' ((conv => whnf) <;> first | exact rfl | exact trivial | apply And.intro | exact Nat.zero_add _)); all_goals ((conv => whnf); try simp only []))
       all_goals first | exact ⟨fun h => (by cases h), fun _ => .inr hn⟩ | exact hsl.symm | (simp [*]; done) | skip
       done)
    | (have hn : wrong = true := by assumption
       (refine RetN.q (p4, t, true) [0, 1] ?_ ?_ ?_ <;> (repeat' ((conv => whnf) <;> first | exact rfl | exact trivial | apply And.intro | exact Nat.zero_add _)); all_goals ((conv => whnf); try simp only []))
       all_goals first | exact ⟨fun h => (by cases h), fun _ => .inl hn⟩ | exact hsl.symm | (simp [*]; done) | skip
       done)
    | skip
theorem nR8 (s : Bytes) (t : Int) (wrong : Bool) (k : Int) (al : Bool) (b p1 p2 p3 p4 ab : Int) (ak : Bytes) (m : Int) (w : Nat) (hw : w ≤ 4) (hs : s.length ≤ 1000000) : Meets Try.prog 69 [.ptr 0 0, .ptr 1 8, .int .i64 fun _ => (w : Int)] ([prC s t wrong] ++ ([cmdC .snil (k) (al) (b) (p1) (p2) (p3) (p4) (ab) (ak) (m)])) (Y := Int × Int × Bool) (NumQ s t w wrong) (fun _ => .tup [])
    (fun y => [prC s y.2.1 y.2.2] ++ ([cmdC .snil (k) (al) (b) (p1) (p2) (p3) (p4) (y.1) (ak) (m)])) := by
  have hx : (0 : Nat) = 0 := rfl
  have hsl := hx
  refine Meets.intro hm (fn := Try.f69) Try.func69 rfl (by decide) (Nat.le_of_ble_eq_true rfl) (fun _ => rfl) ?_; intro S hok; (conv => whnf)
  (repeat' ((conv => whnf); first | apply And.intro | exact ⟨by kernel_rfl⟩ | apply DrawN.mk | apply CodeN.step hm rfl | exact trivial | exact rfl | (intro hh; try simp only [bs] at hh))); all_goals (conv => whnf)
  all_goals
    (refine CallN.q (numberM s t w (by omega) hs) [] (fun _ _ => ?_); (repeat' ((conv => whnf); first | apply And.intro | exact ⟨by kernel_rfl⟩ | apply DrawN.mk | apply CodeN.step hm rfl | exact trivial | exact rfl | (intro hh; try simp only [bs] at hh; try exact absurd hh (by decide)))); all_goals (conv => whnf); all_goals try exact ⟨by decide⟩)
  all_goals (try simp only [hx])
  all_goals first
    | ((refine Ob.mk ?_; (try simp only [Ty.dflt, Nat.zero_add, Nat.add_zero, Int.toNat_natCast, Int.toNat_zero, Int.toNat_one, List.length_take, List.length_drop, List.length_append, List.length_replicate, List.length_cons, List.length_nil, List.length_set, List.length_map, true_and, and_true]); omega))
    | (have hn : (number s t w).2.2 = 0 := by assumption
       (refine RetN.q ((number s t w).1, (number s t w).2.1, false) [0, 1] ?_ ?_ ?_ <;> (repeat' ((conv => whnf) <;> first | exact rfl | exact trivial | apply And.intro | exact Nat.zero_add _)); all_goals ((conv => whnf); try simp only []))
       all_goals first | (simp only [hx]; done) | exact ⟨fun _ => ⟨by assumption, num_eq hn⟩, fun h => (by cases h)⟩ | exact num_wrap (by omega) hn | (simp [*]; done) | (rw [num_wrap (by omega) hn]; done) | skip
       done)
    | (have hn : (number s t w).2.2 ≠ 0 := by assumption
       (refine RetN.q (ab, t, true) [0, 1] ?_ ?_ ?_ <;> (repeat' ((conv => whnf) <;> first | exact rfl | exact trivial | apply And.intro | exact Nat.zero_add _)); all_goals ((conv => whnf); try simp only []))
       all_goals first | exact ⟨fun h => (by cases h), fun _ => .inr hn⟩ | exact hsl.symm | (simp [*]; done) | skip
       done)
    | (have hn : wrong = true := by assumption
       (refine RetN.q (ab, t, true) [0, 1] ?_ ?_ ?_ <;> (repeat' ((conv => whnf) <;> first | exact rfl | exact trivial | apply And.intro | exact Nat.zero_add _)); all_goals ((conv => whnf); try simp only []))
       all_goals first | exact ⟨fun h => (by cases h), fun _ => .inl hn⟩ | exact hsl.symm | (simp [*]; done) | skip
       done)
    | skip
theorem nR10 (s : Bytes) (t : Int) (wrong : Bool) (k : Int) (al : Bool) (b p1 p2 p3 p4 ab : Int) (ak : Bytes) (m : Int) (w : Nat) (hw : w ≤ 4) (hs : s.length ≤ 1000000) : Meets Try.prog 69 [.ptr 0 0, .ptr 1 10, .int .i64 fun _ => (w : Int)] ([prC s t wrong] ++ ([cmdC .snil (k) (al) (b) (p1) (p2) (p3) (p4) (ab) (ak) (m)])) (Y := Int × Int × Bool) (NumQ s t w wrong) (fun _ => .tup [])
    (fun y => [prC s y.2.1 y.2.2] ++ ([cmdC .snil (k) (al) (b) (p1) (p2) (p3) (p4) (ab) (ak) (y.1)])) := by
  have hx : (0 : Nat) = 0 := rfl
  have hsl := hx
  refine Meets.intro hm (fn := Try.f69) Try.func69 rfl (by decide) (Nat.le_of_ble_eq_true rfl) (fun _ => rfl) ?_; intro S hok; (conv => whnf)
  (repeat' ((conv => whnf); first | apply And.intro | exact ⟨by kernel_rfl⟩ | apply DrawN.mk | apply CodeN.step hm rfl | exact trivial | exact rfl | (intro hh; try simp only [bs] at hh))); all_goals (conv => whnf)
  all_goals
    (refine CallN.q (numberM s t w (by omega) hs) [] (fun _ _ => ?_); (repeat' ((conv => whnf); first | apply And.intro | exact ⟨by kernel_rfl⟩ | apply DrawN.mk | apply CodeN.step hm rfl | exact trivial | exact rfl | (intro hh; try simp only [bs] at hh; try exact absurd hh (by decide)))); all_goals (conv => whnf); all_goals try exact ⟨by decide⟩)
  all_goals (try simp only [hx])
  all_goals first
    | ((refine Ob.mk ?_; (try simp only [Ty.dflt, Nat.zero_add, Nat.add_zero, Int.toNat_natCast, Int.toNat_zero, Int.toNat_one, List.length_take, List.length_drop, List.length_append, List.length_replicate, List.length_cons, List.length_nil, List.length_set, List.length_map, true_and, and_true]); omega))
    | (have hn : (number s t w).2.2 = 0 := by assumption
       (refine RetN.q ((number s t w).1, (number s t w).2.1, false) [0, 1] ?_ ?_ ?_ <;> (repeat' ((conv => whnf) <;> first | exact rfl | exact trivial | apply And.intro | exact Nat.zero_add _)); all_goals ((conv => whnf); try simp only []))
       all_goals first | (simp only [hx]; done) | exact ⟨fun _ => ⟨by assumption, num_eq hn⟩, fun h => (by cases h)⟩ | exact num_wrap (by omega) hn | (simp [*]; done) | (rw [num_wrap (by omega) hn]; done) | skip
       done)
    | (have hn : (number s t w).2.2 ≠ 0 := by assumption
       (refine RetN.q (m, t, true) [0, 1] ?_ ?_ ?_ <;> (repeat' ((conv => whnf) <;> first | exact rfl | exact trivial | apply And.intro | exact Nat.zero_add _)); all_goals ((conv => whnf); try simp only []))
       all_goals first | exact ⟨fun h => (by cases h), fun _ => .inr hn⟩ | exact hsl.symm | (simp [*]; done) | skip
       done)
    | (have hn : wrong = true := by assumption
       (refine RetN.q (m, t, true) [0, 1] ?_ ?_ ?_ <;> (repeat' ((conv => whnf) <;> first | exact rfl | exact trivial | apply And.intro | exact Nat.zero_add _)); all_goals ((conv => whnf); try simp only []))
       all_goals first | exact ⟨fun h => (by cases h), fun _ => .inl hn⟩ | exact hsl.symm | (simp [*]; done) | skip
       done)
    | skip
theorem tR9 (s : Bytes) (t : Int) (wrong : Bool) (k : Int) (al : Bool) (b p1 p2 p3 p4 ab : Int) (ak : Bytes) (m : Int) (hs : s.length ≤ 1000000) : Meets Try.prog 84 [.ptr 0 0, .ptr 1 9] ([prC s t wrong] ++ ([cmdC .snil (k) (al) (b) (p1) (p2) (p3) (p4) (ab) (ak) (m)])) (Y := Bytes × Int × Bool) (TxtQ s t wrong) (fun _ => .tup [])
    (fun y => [prC s y.2.1 y.2.2] ++ ([cmdC .snil (k) (al) (b) (p1) (p2) (p3) (p4) (ab) (y.1) (m)])) := by
  have hx : (0 : Nat) = 0 := rfl
  have hsl := hx
  refine Meets.intro hm (fn := Try.f84) Try.func84 rfl (by decide) (Nat.le_of_ble_eq_true rfl) (fun _ => rfl) ?_; intro S hok; (conv => whnf)
  (repeat' ((conv => whnf); first | apply And.intro | exact ⟨by kernel_rfl⟩ | apply DrawN.mk | apply CodeN.step hm rfl | exact trivial | exact rfl | (intro hh; try simp only [bs] at hh))); all_goals (conv => whnf)
  all_goals
    (refine CallN.q (textM s t hs) [] (fun _ _ => ?_); (repeat' ((conv => whnf); first | apply And.intro | exact ⟨by kernel_rfl⟩ | apply DrawN.mk | apply CodeN.step hm rfl | exact trivial | exact rfl | (intro hh; try simp only [bs] at hh; try exact absurd hh (by decide)))); all_goals (conv => whnf); all_goals try exact ⟨by decide⟩)
  all_goals (try simp only [hx])
  all_goals first
    | ((refine Ob.mk ?_; (try simp only [Ty.dflt, Nat.zero_add, Nat.add_zero, Int.toNat_natCast, Int.toNat_zero, Int.toNat_one, List.length_take, List.length_drop, List.length_append, List.length_replicate, List.length_cons, List.length_nil, List.length_set, List.length_map, true_and, and_true]); omega))
    | (have hn : (text s t).2.2 = 0 := by assumption
       (refine RetN.q ((text s t).1, (text s t).2.1, false) [0, 1] ?_ ?_ ?_ <;> (repeat' ((conv => whnf) <;> first | exact rfl | exact trivial | apply And.intro | exact Nat.zero_add _)); all_goals ((conv => whnf); try simp only []))
       all_goals first | (simp only [hx]; done) | exact ⟨fun _ => ⟨by assumption, txt_eq hn⟩, fun h => (by cases h)⟩ | exact num_wrap (by omega) hn | (simp [*]; done) | (rw [num_wrap (by omega) hn]; done) | skip
       done)
    | (have hn : (text s t).2.2 ≠ 0 := by assumption
       (refine RetN.q (ak, t, true) [0, 1] ?_ ?_ ?_ <;> (repeat' ((conv => whnf) <;> first | exact rfl | exact trivial | apply And.intro | exact Nat.zero_add _)); all_goals ((conv => whnf); try simp only []))
       all_goals first | exact ⟨fun h => (by cases h), fun _ => .inr hn⟩ | exact hsl.symm | (simp [*]; done) | skip
       done)
    | (have hn : wrong = true := by assumption
       (refine RetN.q (ak, t, true) [0, 1] ?_ ?_ ?_ <;> (repeat' ((conv => whnf) <;> first | exact rfl | exact trivial | apply And.intro | exact Nat.zero_add _)); all_goals ((conv => whnf); try simp only []))
       all_goals first | exact ⟨fun h => (by cases h), fun _ => .inl hn⟩ | exact hsl.symm | (simp [*]; done) | skip
       done)
    | skip
theorem nRel0 (s : Bytes) (t : Int) (wrong : Bool) (l : List Ask) (i : Nat) (hi : i < l.length) (x : Ask) (hx : l.getD i AskT.dflt = x) (w : Nat) (hw : w ≤ 4) (hs : s.length ≤ 1000000) : Meets Try.prog 69 [.ptr 0 0, .eptr 1 3 (fun _ => i) 0, .int .i64 fun _ => (w : Int)] ([prC s t wrong] ++ ([.row 80 AskT fun _ => l])) (Y := Int × Int × Bool) (NumQ s t w wrong) (fun _ => .tup [])
    (fun y => [prC s y.2.1 y.2.2] ++ ([.row 80 AskT fun _ => l.set i (y.1, x.2.1, x.2.2)])) := by
  have hsl := set_same hi hx
  refine Meets.intro hm (fn := Try.f69) Try.func69 rfl (by decide) (Nat.le_of_ble_eq_true rfl) (fun _ => rfl) ?_; intro S hok; (conv => whnf)
  (repeat' ((conv => whnf); first | apply And.intro | exact ⟨by kernel_rfl⟩ | apply DrawN.mk | apply CodeN.step hm rfl | exact trivial | exact rfl | (intro hh; try simp only [bs] at hh))); all_goals (conv => whnf)
  all_goals
    (refine CallN.q (numberM s t w (by omega) hs) [] (fun _ _ => ?_); (repeat' ((conv => whnf); first | apply And.intro | exact ⟨by kernel_rfl⟩ | apply DrawN.mk | apply CodeN.step hm rfl | exact trivial | exact rfl | (intro hh; try simp only [bs] at hh; try exact absurd hh (by decide)))); all_goals (conv => whnf); all_goals try exact ⟨by decide⟩)
  all_goals (try simp only [hx])
  all_goals first
    | ((refine Ob.mk ?_; (try simp only [Ty.dflt, Nat.zero_add, Nat.add_zero, Int.toNat_natCast, Int.toNat_zero, Int.toNat_one, List.length_take, List.length_drop, List.length_append, List.length_replicate, List.length_cons, List.length_nil, List.length_set, List.length_map, true_and, and_true]); omega))
    | (have hn : (number s t w).2.2 = 0 := by assumption
       (refine RetN.q ((number s t w).1, (number s t w).2.1, false) [0, 1] ?_ ?_ ?_ <;> (repeat' ((conv => whnf) <;> first | exact rfl | exact trivial | apply And.intro | exact Nat.zero_add _)); all_goals ((conv => whnf); try simp only []))
       all_goals first | (simp only [hx]; done) | exact ⟨fun _ => ⟨by assumption, num_eq hn⟩, fun h => (by cases h)⟩ | exact num_wrap (by omega) hn | (simp [*]; done) | (rw [num_wrap (by omega) hn]; done) | skip
       done)
    | (have hn : (number s t w).2.2 ≠ 0 := by assumption
       (refine RetN.q (x.1, t, true) [0, 1] ?_ ?_ ?_ <;> (repeat' ((conv => whnf) <;> first | exact rfl | exact trivial | apply And.intro | exact Nat.zero_add _)); all_goals ((conv => whnf); try simp only []))
       all_goals first | exact ⟨fun h => (by cases h), fun _ => .inr hn⟩ | exact hsl.symm | (simp [*]; done) | skip
       done)
    | (have hn : wrong = true := by assumption
       (refine RetN.q (x.1, t, true) [0, 1] ?_ ?_ ?_ <;> (repeat' ((conv => whnf) <;> first | exact rfl | exact trivial | apply And.intro | exact Nat.zero_add _)); all_goals ((conv => whnf); try simp only []))
       all_goals first | exact ⟨fun h => (by cases h), fun _ => .inl hn⟩ | exact hsl.symm | (simp [*]; done) | skip
       done)
    | skip
theorem nRel2 (s : Bytes) (t : Int) (wrong : Bool) (l : List Ask) (i : Nat) (hi : i < l.length) (x : Ask) (hx : l.getD i AskT.dflt = x) (w : Nat) (hw : w ≤ 4) (hs : s.length ≤ 1000000) : Meets Try.prog 69 [.ptr 0 0, .eptr 1 3 (fun _ => i) 2, .int .i64 fun _ => (w : Int)] ([prC s t wrong] ++ ([.row 80 AskT fun _ => l])) (Y := Int × Int × Bool) (NumQ s t w wrong) (fun _ => .tup [])
    (fun y => [prC s y.2.1 y.2.2] ++ ([.row 80 AskT fun _ => l.set i (x.1, x.2.1, y.1)])) := by
  have hsl := set_same hi hx
  refine Meets.intro hm (fn := Try.f69) Try.func69 rfl (by decide) (Nat.le_of_ble_eq_true rfl) (fun _ => rfl) ?_; intro S hok; (conv => whnf)
  (repeat' ((conv => whnf); first | apply And.intro | exact ⟨by kernel_rfl⟩ | apply DrawN.mk | apply CodeN.step hm rfl | exact trivial | exact rfl | (intro hh; try simp only [bs] at hh))); all_goals (conv => whnf)
  all_goals
    (refine CallN.q (numberM s t w (by omega) hs) [] (fun _ _ => ?_); (repeat' ((conv => whnf); first | apply And.intro | exact ⟨by kernel_rfl⟩ | apply DrawN.mk | apply CodeN.step hm rfl | exact trivial | exact rfl | (intro hh; try simp only [bs] at hh; try exact absurd hh (by decide)))); all_goals (conv => whnf); all_goals try exact ⟨by decide⟩)
  all_goals (try simp only [hx])
  all_goals first
    | ((refine Ob.mk ?_; (try simp only [Ty.dflt, Nat.zero_add, Nat.add_zero, Int.toNat_natCast, Int.toNat_zero, Int.toNat_one, List.length_take, List.length_drop, List.length_append, List.length_replicate, List.length_cons, List.length_nil, List.length_set, List.length_map, true_and, and_true]); omega))
    | (have hn : (number s t w).2.2 = 0 := by assumption
       (refine RetN.q ((number s t w).1, (number s t w).2.1, false) [0, 1] ?_ ?_ ?_ <;> (repeat' ((conv => whnf) <;> first | exact rfl | exact trivial | apply And.intro | exact Nat.zero_add _)); all_goals ((conv => whnf); try simp only []))
       all_goals first | (simp only [hx]; done) | exact ⟨fun _ => ⟨by assumption, num_eq hn⟩, fun h => (by cases h)⟩ | exact num_wrap (by omega) hn | (simp [*]; done) | (rw [num_wrap (by omega) hn]; done) | skip
       done)
    | (have hn : (number s t w).2.2 ≠ 0 := by assumption
       (refine RetN.q (x.2.2, t, true) [0, 1] ?_ ?_ ?_ <;> (repeat' ((conv => whnf) <;> first | exact rfl | exact trivial | apply And.intro | exact Nat.zero_add _)); all_goals ((conv => whnf); try simp only []))
       all_goals first | exact ⟨fun h => (by cases h), fun _ => .inr hn⟩ | exact hsl.symm | (simp [*]; done) | skip
       done)
    | (have hn : wrong = true := by assumption
       (refine RetN.q (x.2.2, t, true) [0, 1] ?_ ?_ ?_ <;> (repeat' ((conv => whnf) <;> first | exact rfl | exact trivial | apply And.intro | exact Nat.zero_add _)); all_goals ((conv => whnf); try simp only []))
       all_goals first | exact ⟨fun h => (by cases h), fun _ => .inl hn⟩ | exact hsl.symm | (simp [*]; done) | skip
       done)
    | skip
theorem tRel (s : Bytes) (t : Int) (wrong : Bool) (l : List Ask) (i : Nat) (hi : i < l.length) (x : Ask) (hx : l.getD i AskT.dflt = x) (hs : s.length ≤ 1000000) : Meets Try.prog 84 [.ptr 0 0, .eptr 1 3 (fun _ => i) 1] ([prC s t wrong] ++ ([.row 80 AskT fun _ => l])) (Y := Bytes × Int × Bool) (TxtQ s t wrong) (fun _ => .tup [])
    (fun y => [prC s y.2.1 y.2.2] ++ ([.row 80 AskT fun _ => l.set i (x.1, y.1, x.2.2)])) := by
  have hsl := set_same hi hx
  refine Meets.intro hm (fn := Try.f84) Try.func84 rfl (by decide) (Nat.le_of_ble_eq_true rfl) (fun _ => rfl) ?_; intro S hok; (conv => whnf)
  (repeat' ((conv => whnf); first | apply And.intro | exact ⟨by kernel_rfl⟩ | apply DrawN.mk | apply CodeN.step hm rfl | exact trivial | exact rfl | (intro hh; try simp only [bs] at hh))); all_goals (conv => whnf)
  all_goals
    (refine CallN.q (textM s t hs) [] (fun _ _ => ?_); (repeat' ((conv => whnf); first | apply And.intro | exact ⟨by kernel_rfl⟩ | apply DrawN.mk | apply CodeN.step hm rfl | exact trivial | exact rfl | (intro hh; try simp only [bs] at hh; try exact absurd hh (by decide)))); all_goals (conv => whnf); all_goals try exact ⟨by decide⟩)
  all_goals (try simp only [hx])
  all_goals first
    | ((refine Ob.mk ?_; (try simp only [Ty.dflt, Nat.zero_add, Nat.add_zero, Int.toNat_natCast, Int.toNat_zero, Int.toNat_one, List.length_take, List.length_drop, List.length_append, List.length_replicate, List.length_cons, List.length_nil, List.length_set, List.length_map, true_and, and_true]); omega))
    | (have hn : (text s t).2.2 = 0 := by assumption
       (refine RetN.q ((text s t).1, (text s t).2.1, false) [0, 1] ?_ ?_ ?_ <;> (repeat' ((conv => whnf) <;> first | exact rfl | exact trivial | apply And.intro | exact Nat.zero_add _)); all_goals ((conv => whnf); try simp only []))
       all_goals first | (simp only [hx]; done) | exact ⟨fun _ => ⟨by assumption, txt_eq hn⟩, fun h => (by cases h)⟩ | exact num_wrap (by omega) hn | (simp [*]; done) | (rw [num_wrap (by omega) hn]; done) | skip
       done)
    | (have hn : (text s t).2.2 ≠ 0 := by assumption
       (refine RetN.q (x.2.1, t, true) [0, 1] ?_ ?_ ?_ <;> (repeat' ((conv => whnf) <;> first | exact rfl | exact trivial | apply And.intro | exact Nat.zero_add _)); all_goals ((conv => whnf); try simp only []))
       all_goals first | exact ⟨fun h => (by cases h), fun _ => .inr hn⟩ | exact hsl.symm | (simp [*]; done) | skip
       done)
    | (have hn : wrong = true := by assumption
       (refine RetN.q (x.2.1, t, true) [0, 1] ?_ ?_ ?_ <;> (repeat' ((conv => whnf) <;> first | exact rfl | exact trivial | apply And.intro | exact Nat.zero_add _)); all_goals ((conv => whnf); try simp only []))
       all_goals first | exact ⟨fun h => (by cases h), fun _ => .inl hn⟩ | exact hsl.symm | (simp [*]; done) | skip
       done)
    | skip
end Go.Proofs.Ytoipgandilhdeaa.Wi
set_option linter.unusedVariables false
set_option linter.unusedSimpArgs false
namespace Go.Proofs.Ytoipgandilhdeaa.Wi
open Go Go.RowKit Fw Nu
open An (byv byv_len byv_app byv_back byv_range fitsB fits_iff wides bads wides_len fits_neg shr_ne from_ readL readL_get readL_put readName nameB nameW name_get name_put readN readN_get readN_put bads_cons bads_nil bads_book fits_one)
abbrev PolT : Ty := .pair (.int .i64) (.pair (.int .i64) (.pair (.int .i64) (.int .i64)))
abbrev NameT : Ty := .pair (.int .i64) .str
abbrev CmdT : Ty := .pair (.int .i64) (.pair .bool (.pair (.list AskT) (.pair (.int .i64) (.pair PolT (.pair NameT (.int .i64))))))
abbrev Cmd := Int × Bool × List Ask × Int × (Int × Int × Int × Int) × (Int × Bytes) × Int
def askB (a : Ask) : Bytes := nameB (a.1, a.2.1) ++ wides [(a.2.2, 4)]
def askW (a : Ask) : Bool := nameW (a.1, a.2.1) || bads [(a.2.2, 4)]
def b01 (b : Bool) : Int := if b then 1 else 0
/-- Bytes behind a kind's. -/
def bodyB (c : Cmd) : Bytes := match c.1 with
  | 1 | 3 => askB (c.2.2.1.getD 0 (0, [], 0))
  | 2 => wides [(b01 c.2.1, 1), ((c.2.2.1.length : Int), 1)] ++ c.2.2.1.flatMap askB
  | 4 => nameB c.2.2.2.2.2.1
  | 5 => wides [(c.2.2.2.1, 1), (c.2.2.2.2.1.1, 1), (c.2.2.2.2.1.2.1, 4), (c.2.2.2.2.1.2.2.1, 4), (c.2.2.2.2.1.2.2.2, 1)]
  | 6 | 7 => wides [(c.2.2.2.1, 1)]
  | 9 => nameB c.2.2.2.2.2.1 ++ wides [(c.2.2.2.2.2.2, 1)]
  | _ => []
/-- Is something of a kind's fields wrong? -/
def bodyW (c : Cmd) : Bool := match c.1 with
  | 1 | 3 => decide (c.2.2.1.length ≠ 1) || askW (c.2.2.1.getD 0 (0, [], 0))
  | 2 => decide (32 < c.2.2.1.length) || c.2.2.1.any askW
  | 4 => nameW c.2.2.2.2.2.1
  | 5 => bads [(c.2.2.2.1, 1), (c.2.2.2.2.1.1, 1), (c.2.2.2.2.1.2.1, 4), (c.2.2.2.2.1.2.2.1, 4), (c.2.2.2.2.1.2.2.2, 1)]
  | 6 | 7 => bads [(c.2.2.2.1, 1)]
  | 8 => false
  | 9 => nameW c.2.2.2.2.2.1 || bads [(c.2.2.2.2.2.2, 1)]
  | _ => true
/-- A command, its kind's fields alone. -/
def strip (c : Cmd) : Cmd := match c.1 with
  | 1 | 3 => (c.1, false, [c.2.2.1.getD 0 (0, [], 0)], 0, (0, 0, 0, 0), (0, []), 0)
  | 2 => (c.1, c.2.1, c.2.2.1, 0, (0, 0, 0, 0), (0, []), 0)
  | 4 => (c.1, false, [], 0, (0, 0, 0, 0), c.2.2.2.2.2.1, 0)
  | 5 => (c.1, false, [], c.2.2.2.1, c.2.2.2.2.1, (0, []), 0)
  | 6 | 7 => (c.1, false, [], c.2.2.2.1, (0, 0, 0, 0), (0, []), 0)
  | 9 => (c.1, false, [], 0, (0, 0, 0, 0), c.2.2.2.2.2.1, c.2.2.2.2.2.2)
  | _ => (c.1, false, [], 0, (0, 0, 0, 0), (0, []), 0)
def readAsk (s : Bytes) (t : Int) : Option (Ask × Int) := match readName s t with
  | some (x, t1) => (match readL s t1 [4] with | some ([w], t2) => some ((x.1, x.2, w), t2) | _ => none)
  | none => none
def readB (s : Bytes) (k : Int) (t : Int) : Option (Cmd × Int) := match k with
  | 1 | 3 => (match readAsk s t with | some (a, t1) => some ((k, false, [a], 0, (0, 0, 0, 0), (0, []), 0), t1) | none => none)
  | 2 => (match readL s t [1, 1] with
    | some ([al, n], t1) => if 1 < al ∨ 32 < n then none else (match readN (readAsk s) n.toNat t1 with | some (l, t2) => some ((k, decide (al = 1), l, 0, (0, 0, 0, 0), (0, []), 0), t2) | none => none)
    | _ => none)
  | 4 => (match readName s t with | some (x, t1) => some ((k, false, [], 0, (0, 0, 0, 0), x, 0), t1) | none => none)
  | 5 => (match readL s t [1, 1, 4, 4, 1] with | some ([b, p1, p2, p3, p4], t1) => some ((k, false, [], b, (p1, p2, p3, p4), (0, []), 0), t1) | _ => none)
  | 6 | 7 => (match readL s t [1] with | some ([b], t1) => some ((k, false, [], b, (0, 0, 0, 0), (0, []), 0), t1) | _ => none)
  | 8 => some ((k, false, [], 0, (0, 0, 0, 0), (0, []), 0), t)
  | 9 => (match readName s t with
    | some (x, t1) => (match readL s t1 [1] with | some ([m], t2) => some ((k, false, [], 0, (0, 0, 0, 0), x, m), t2) | _ => none)
    | none => none)
  | _ => none
theorem ask_get {s : Bytes} {t t' : Int} {x : Ask} (h0 : 0 ≤ t ∧ t ≤ s.length) (h : readAsk s t = some (x, t')) : t ≤ t' ∧ t' ≤ s.length ∧ askW x = false ∧ from_ s t = askB x ++ from_ s t' := by
  unfold readAsk at h
  split at h
  · rename_i y t1 h1
    split at h
    · rename_i w t2 h2
      simp only [Option.some.injEq, Prod.mk.injEq] at h
      obtain ⟨rfl, rfl⟩ := h
      obtain ⟨k1, k2, k3, k4⟩ := name_get h0 h1
      obtain ⟨l1, l2, l3, l4, l5⟩ := readL_get _ _ _ _ (by simp) (by omega) h2
      simp only [List.zip_cons_cons, List.zip_nil_right] at l4 l5
      refine ⟨by omega, l3, ?_, ?_⟩
      · show (nameW y || bads [(w, 4)]) = false
        rw [k3, l4]; rfl
      · show _ = nameB y ++ wides [(w, 4)] ++ _
        rw [k4, l5, List.append_assoc]
    · cases h
  · cases h
theorem ask_put {s rest : Bytes} {t : Int} {x : Ask} (h0 : 0 ≤ t ∧ t ≤ s.length) (hw : askW x = false) (h : from_ s t = askB x ++ rest) :
    readAsk s t = some (x, t + (askB x).length) ∧ from_ s (t + (askB x).length) = rest ∧ t + (askB x).length ≤ s.length := by
  rw [askW, Bool.or_eq_false_iff] at hw
  rw [askB, List.append_assoc] at h
  obtain ⟨k1, k2, k3⟩ := name_put h0 hw.1 h
  obtain ⟨l1, l2, l3⟩ := readL_put [(x.2.2, 4)] _ _ (by simp) (by omega) hw.2 k2
  have e : t + ((askB x).length : Int) = t + (nameB (x.1, x.2.1)).length + (wides [(x.2.2, 4)]).length := by rw [askB, List.length_append]; omega
  rw [e]
  refine ⟨?_, l2, l3⟩
  unfold readAsk
  have l1 : readL s (t + (nameB (x.1, x.2.1)).length) [4] = some ([x.2.2], t + (nameB (x.1, x.2.1)).length + (wides [(x.2.2, 4)]).length) := l1
  rw [k1]
  simp only [l1]
theorem kinds_cases {k : Int} (h : 1 ≤ k ∧ k ≤ 9) : k = 1 ∨ k = 2 ∨ k = 3 ∨ k = 4 ∨ k = 5 ∨ k = 6 ∨ k = 7 ∨ k = 8 ∨ k = 9 := by omega
theorem readB_kind {s : Bytes} {k t t' : Int} {c : Cmd} (h : readB s k t = some (c, t')) : 1 ≤ k ∧ k ≤ 9 := by
  unfold readB at h
  split at h <;> first | (constructor <;> decide) | cases h
theorem readB_get {s : Bytes} {k t t' : Int} {c : Cmd} (h0 : 0 ≤ t ∧ t ≤ s.length) (h : readB s k t = some (c, t')) : c.1 = k ∧ t ≤ t' ∧ t' ≤ s.length ∧ bodyW c = false ∧ strip c = c ∧ from_ s t = bodyB c ++ from_ s t' := by
  rcases kinds_cases (readB_kind h) with rfl | rfl | rfl | rfl | rfl | rfl | rfl | rfl | rfl
  · simp only [readB] at h
    split at h
    · rename_i a t1 h1
      simp only [Option.some.injEq, Prod.mk.injEq] at h
      obtain ⟨rfl, rfl⟩ := h
      obtain ⟨k1, k2, k3, k4⟩ := ask_get h0 h1
      exact ⟨rfl, k1, k2, by simpa [bodyW] using k3, rfl, k4⟩
    · cases h
  · simp only [readB] at h
    split at h
    · rename_i al n t1 h1
      split at h
      · cases h
      · rename_i hc
        split at h
        · rename_i l t2 h2
          simp only [Option.some.injEq, Prod.mk.injEq] at h
          obtain ⟨rfl, rfl⟩ := h
          obtain ⟨l1, l2, l3, l4, l5⟩ := readL_get _ _ _ _ (by simp) h0 h1
          simp only [List.zip_cons_cons, List.zip_nil_right] at l4 l5
          rw [bads_cons, bads_cons, bads_nil] at l4
          simp only [Bool.or_eq_false_iff, Bool.not_eq_false'] at l4
          have g1 := fits_iff.1 l4.1
          have g2 := fits_iff.1 l4.2.1
          obtain ⟨n1, n2, n3, n4, n5⟩ := readN_get (B := askB) (W := askW) (fun t x t' h0 h => ask_get h0 h) n.toNat t1 l t2 (by omega) h2
          refine ⟨rfl, by omega, n3, ?_, rfl, ?_⟩
          · simp only [bodyW, n4, Bool.or_false, decide_eq_false_iff_not]; omega
          · have e1 : b01 (decide (al = 1)) = al := by
              unfold b01
              by_cases e : al = 1
              · simp [e]
              · simp [e]; omega
            have e2 : (l.length : Int) = n := by omega
            simp only [bodyB, e1, e2]
            rw [l5, n5, List.append_assoc]
        · cases h
    · cases h
  · simp only [readB] at h
    split at h
    · rename_i a t1 h1
      simp only [Option.some.injEq, Prod.mk.injEq] at h
      obtain ⟨rfl, rfl⟩ := h
      obtain ⟨k1, k2, k3, k4⟩ := ask_get h0 h1
      exact ⟨rfl, k1, k2, by simpa [bodyW] using k3, rfl, k4⟩
    · cases h
  · simp only [readB] at h
    split at h
    · rename_i a t1 h1
      simp only [Option.some.injEq, Prod.mk.injEq] at h
      obtain ⟨rfl, rfl⟩ := h
      obtain ⟨k1, k2, k3, k4⟩ := name_get h0 h1
      exact ⟨rfl, k1, k2, k3, rfl, k4⟩
    · cases h
  · simp only [readB] at h
    split at h
    · rename_i b p1 p2 p3 p4 t1 h1
      simp only [Option.some.injEq, Prod.mk.injEq] at h
      obtain ⟨rfl, rfl⟩ := h
      obtain ⟨l1, l2, l3, l4, l5⟩ := readL_get _ _ _ _ (by simp) h0 h1
      exact ⟨rfl, l2, l3, l4, rfl, l5⟩
    · cases h
  · simp only [readB] at h
    split at h
    · rename_i b t1 h1
      simp only [Option.some.injEq, Prod.mk.injEq] at h
      obtain ⟨rfl, rfl⟩ := h
      obtain ⟨l1, l2, l3, l4, l5⟩ := readL_get _ _ _ _ (by simp) h0 h1
      exact ⟨rfl, l2, l3, l4, rfl, l5⟩
    · cases h
  · simp only [readB] at h
    split at h
    · rename_i b t1 h1
      simp only [Option.some.injEq, Prod.mk.injEq] at h
      obtain ⟨rfl, rfl⟩ := h
      obtain ⟨l1, l2, l3, l4, l5⟩ := readL_get _ _ _ _ (by simp) h0 h1
      exact ⟨rfl, l2, l3, l4, rfl, l5⟩
    · cases h
  · simp only [readB, Option.some.injEq, Prod.mk.injEq] at h
    obtain ⟨rfl, rfl⟩ := h
    exact ⟨rfl, by omega, h0.2, rfl, rfl, rfl⟩
  · simp only [readB] at h
    split at h
    · rename_i x t1 h1
      split at h
      · rename_i m t2 h2
        simp only [Option.some.injEq, Prod.mk.injEq] at h
        obtain ⟨rfl, rfl⟩ := h
        obtain ⟨k1, k2, k3, k4⟩ := name_get h0 h1
        obtain ⟨l1, l2, l3, l4, l5⟩ := readL_get _ _ _ _ (by simp) (by omega) h2
        simp only [List.zip_cons_cons, List.zip_nil_right] at l4 l5
        refine ⟨rfl, by omega, l3, ?_, rfl, ?_⟩
        · show (nameW x || bads [(m, 1)]) = false
          rw [k3, l4]; rfl
        · show _ = nameB x ++ wides [(m, 1)] ++ _
          rw [k4, l5, List.append_assoc]
      · cases h
    · cases h
theorem one_of {l : List Ask} (h : l.length = 1) : l = [l.getD 0 (0, [], 0)] := by
  match l, h with
  | [a], _ => rfl
theorem readB_put {s rest : Bytes} {t : Int} {c : Cmd} (h0 : 0 ≤ t ∧ t ≤ s.length) (hw : bodyW c = false) (h : from_ s t = bodyB c ++ rest) :
    readB s c.1 t = some (strip c, t + (bodyB c).length) ∧ from_ s (t + (bodyB c).length) = rest ∧ t + (bodyB c).length ≤ s.length := by
  obtain ⟨k, all, asks, b, ⟨p1, p2, p3, p4⟩, x, m⟩ := c
  have hk : 1 ≤ k ∧ k ≤ 9 := by
    unfold bodyW at hw
    simp only [] at hw
    split at hw <;> first | (constructor <;> decide) | cases hw
  rcases kinds_cases hk with rfl | rfl | rfl | rfl | rfl | rfl | rfl | rfl | rfl
  · simp only [bodyW, Bool.or_eq_false_iff] at hw
    obtain ⟨k1, k2, k3⟩ := ask_put h0 hw.2 h
    exact ⟨by simp only [readB, k1]; rfl, k2, k3⟩
  · simp only [bodyW, Bool.or_eq_false_iff, decide_eq_false_iff_not] at hw
    simp only [bodyB, List.append_assoc] at h
    have hb : bads [(b01 all, 1), ((asks.length : Int), 1)] = false := by
      rw [bads_cons, bads_cons, bads_nil, fits_one (n := (asks.length : Int)) (by omega), fits_one (by unfold b01; split <;> simp)]; rfl
    obtain ⟨l1, l2, l3⟩ := readL_put [(b01 all, 1), ((asks.length : Int), 1)] t _ (by simp) h0 hb h
    obtain ⟨n1, n2, n3⟩ := readN_put (s := s) (f := readAsk s) (B := askB) (W := askW) (fun t x rest h0 hw h => ask_put h0 hw h) asks (t + (wides [(b01 all, 1), ((asks.length : Int), 1)]).length) (by omega) asks.length rest (Nat.le_refl _) (by rw [List.take_length]; exact hw.2) (by rw [List.take_length]; exact l2)
    rw [List.take_length] at n1 n2 n3
    have e : t + ((bodyB (2, all, asks, b, (p1, p2, p3, p4), x, m)).length : Int) = t + (wides [(b01 all, 1), ((asks.length : Int), 1)]).length + (asks.flatMap askB).length := by simp only [bodyB, List.length_append]; omega
    rw [e]
    refine ⟨?_, n2, n3⟩
    have l1 : readL s t [1, 1] = some ([b01 all, (asks.length : Int)], t + (wides [(b01 all, 1), ((asks.length : Int), 1)]).length) := l1
    simp only [readB, l1]
    rw [if_neg (by unfold b01; split <;> omega), Int.toNat_natCast, n1]
    cases all <;> rfl
  · simp only [bodyW, Bool.or_eq_false_iff] at hw
    obtain ⟨k1, k2, k3⟩ := ask_put h0 hw.2 h
    exact ⟨by simp only [readB, k1]; rfl, k2, k3⟩
  · obtain ⟨k1, k2, k3⟩ := name_put h0 hw h
    exact ⟨by simp only [readB, k1]; rfl, k2, k3⟩
  · obtain ⟨l1, l2, l3⟩ := readL_put [(b, 1), (p1, 1), (p2, 4), (p3, 4), (p4, 1)] t rest (by simp) h0 hw h
    have l1 : readL s t [1, 1, 4, 4, 1] = some ([b, p1, p2, p3, p4], _) := l1
    exact ⟨by simp only [readB, l1]; rfl, l2, l3⟩
  · obtain ⟨l1, l2, l3⟩ := readL_put [(b, 1)] t rest (by simp) h0 hw h
    have l1 : readL s t [1] = some ([b], _) := l1
    exact ⟨by simp only [readB, l1]; rfl, l2, l3⟩
  · obtain ⟨l1, l2, l3⟩ := readL_put [(b, 1)] t rest (by simp) h0 hw h
    have l1 : readL s t [1] = some ([b], _) := l1
    exact ⟨by simp only [readB, l1]; rfl, l2, l3⟩
  · have h : from_ s t = rest := h
    refine ⟨?_, ?_, ?_⟩
    · show some (_, t) = some (_, t + ((([] : Bytes).length : Nat) : Int))
      simp; rfl
    · show from_ s (t + ((([] : Bytes).length : Nat) : Int)) = rest
      simpa using h
    · show t + ((([] : Bytes).length : Nat) : Int) ≤ s.length
      simpa using h0.2
  · have hw : (nameW x || bads [(m, 1)]) = false := hw
    have h : from_ s t = nameB x ++ wides [(m, 1)] ++ rest := h
    rw [Bool.or_eq_false_iff] at hw
    rw [List.append_assoc] at h
    obtain ⟨k1, k2, k3⟩ := name_put h0 hw.1 h
    obtain ⟨l1, l2, l3⟩ := readL_put [(m, 1)] _ _ (by simp) (by omega) hw.2 k2
    have e : t + ((bodyB (9, all, asks, b, (p1, p2, p3, p4), x, m)).length : Int) = t + (nameB x).length + (wides [(m, 1)]).length := by
      show t + ((nameB x ++ wides [(m, 1)]).length : Nat) = _
      rw [List.length_append]; omega
    rw [e]
    refine ⟨?_, l2, l3⟩
    have l1 : readL s (t + (nameB x).length) [1] = some ([m], _) := l1
    simp only [readB, k1, l1]; rfl
end Go.Proofs.Ytoipgandilhdeaa.Wi
set_option linter.unusedVariables false
set_option linter.unusedSimpArgs false
namespace Go.Proofs.Ytoipgandilhdeaa.Wi
open Go Go.RowKit Fw Nu
open An (byv byv_len byv_app byv_back byv_range fitsB fits_iff wides bads wides_len fits_neg shr_ne from_ readL readL_get readL_put readName nameB nameW name_get name_put readN readN_get readN_put bads_cons bads_nil bads_book fits_one)
instance : DecidableEq Bytes := inferInstanceAs (DecidableEq (List UInt8))
instance : DecidableEq Ask := instDecidableEqProd
instance : DecidableEq (Int × Int × Int × Int) := instDecidableEqProd
instance : DecidableEq ((Int × Bytes) × Int) := instDecidableEqProd
instance : DecidableEq ((Int × Int × Int × Int) × (Int × Bytes) × Int) := instDecidableEqProd
instance : DecidableEq (Int × (Int × Int × Int × Int) × (Int × Bytes) × Int) := instDecidableEqProd
instance : DecidableEq (List Ask × Int × (Int × Int × Int × Int) × (Int × Bytes) × Int) := instDecidableEqProd
instance : DecidableEq (Bool × List Ask × Int × (Int × Int × Int × Int) × (Int × Bytes) × Int) := instDecidableEqProd
instance : DecidableEq Cmd := instDecidableEqProd
theorem wide_one {n : Int} (h : fitsB n 1 = true) : wide (IntKind.u64.wrap n) 1 = [UInt8.ofNat n.toNat] ∧ ((UInt8.ofNat n.toNat).toNat : Int) = n := by
  have h2 := fits_iff.1 h
  have h3 : (256 : Int) ^ 1 = 256 := rfl
  rw [An.fits_wrap (by omega) h]
  refine ⟨?_, ?_⟩
  · have e : n % 256 = n := by omega
    rw [show (1 : Nat) = 0 + 1 from rfl, An.wide_succ, e]; rfl
  · rw [UInt8.toNat_ofNat']; omega
def good (c : Cmd) : Bool := !bodyW c && decide (strip c = c)
def encC (c : Cmd) : Bytes := wides [(c.1, 1)] ++ bodyB c
def encR (c : Cmd) : Bytes × Int := if good c then (if 512 < (encC c).length then ([], 8) else (encC c, 0)) else ([], 1)
def zeroC : Cmd := (0, false, [], 0, (0, 0, 0, 0), (0, []), 0)
def hd (s : Bytes) : Int := (s.getD 0 0).toNat
def decP (s : Bytes) : Option Cmd := match readB s (hd s) 1 with
  | some (c, t) => if t = s.length ∧ s.length ≤ 512 then some c else none
  | none => none
def decR (s : Bytes) : Cmd × Int := if s = [] then (zeroC, 3) else if 1 ≤ hd s ∧ hd s ≤ 9 then (match decP s with | some c => (c, 0) | none => (zeroC, 3)) else (zeroC, 9)
theorem good_kind {c : Cmd} (h : bodyW c = false) : 1 ≤ c.1 ∧ c.1 ≤ 9 := by
  unfold bodyW at h
  split at h <;> first | (rename_i e; rw [e]; constructor <;> decide) | cases h
theorem good_iff {c : Cmd} : good c = true ↔ bodyW c = false ∧ strip c = c := by simp [good]
theorem kind_byte {c : Cmd} (h : bodyW c = false) : wides [(c.1, 1)] = [UInt8.ofNat c.1.toNat] ∧ ((UInt8.ofNat c.1.toNat).toNat : Int) = c.1 := by
  have hk := good_kind h
  rw [wides1]
  exact wide_one (fits_one (by omega))
theorem enc_from {c : Cmd} {rest : Bytes} (h : bodyW c = false) : from_ (encC c ++ rest) 1 = bodyB c ++ rest ∧ hd (encC c ++ rest) = c.1 ∧ 1 ≤ (encC c ++ rest).length := by
  obtain ⟨h1, h2⟩ := kind_byte h
  refine ⟨?_, ?_, ?_⟩
  · rw [encC, h1]; rfl
  · rw [hd, encC, h1]; exact h2
  · rw [encC, h1]; simp
/-- A command's bytes, with others behind them, are read. -/
theorem enc_read {c : Cmd} {rest : Bytes} (h : bodyW c = false) : readB (encC c ++ rest) c.1 1 = some (strip c, ((encC c).length : Int)) := by
  obtain ⟨h1, h2, h3⟩ := enc_from (rest := rest) h
  obtain ⟨k1, k2, k3⟩ := readB_put (by omega) h h1
  have e : (1 : Int) + (bodyB c).length = (encC c).length := by
    rw [encC, List.length_append, wides1_len]; omega
  rw [e] at k1
  exact k1
theorem enc_pre {a c : Cmd} {rest : Bytes} (ha : good a = true) (hc : good c = true) (h : encC a = encC c ++ rest) : a = c ∧ rest = [] := by
  obtain ⟨a1, a2⟩ := good_iff.1 ha
  obtain ⟨c1, c2⟩ := good_iff.1 hc
  have r1 := enc_read (rest := []) a1
  have r2 := enc_read (rest := rest) c1
  rw [List.append_nil] at r1
  rw [← h] at r2
  have e1 := (enc_from (rest := []) a1).2.1
  have e2 := (enc_from (rest := rest) c1).2.1
  rw [List.append_nil] at e1
  rw [← h, e1] at e2
  rw [e2, r2] at r1
  simp only [Option.some.injEq, Prod.mk.injEq] at r1
  rw [c2, a2] at r1
  refine ⟨r1.1.symm, ?_⟩
  have hl := congrArg List.length h
  rw [List.length_append] at hl
  exact List.length_eq_zero_iff.1 (by omega)
theorem dec_put {c : Cmd} (hg : good c = true) (hl : (encC c).length ≤ 512) : decP (encC c) = some c ∧ decR (encC c) = (c, 0) := by
  obtain ⟨h1, h2⟩ := good_iff.1 hg
  have r := enc_read (rest := []) h1
  have e := enc_from (rest := []) h1
  rw [List.append_nil] at r e
  have hp : decP (encC c) = some c := by
    unfold decP
    rw [e.2.1, r]
    simp only []
    rw [if_pos ⟨trivial, hl⟩, h2]
  refine ⟨hp, ?_⟩
  unfold decR
  rw [if_neg (fun h => by rw [h] at e; simp at e), if_pos (by rw [e.2.1]; exact good_kind h1), hp]
theorem cons_hd {s : Bytes} (h : s ≠ []) : s = [UInt8.ofNat (hd s).toNat] ++ from_ s 1 := by
  match s, h with
  | b :: r, _ =>
    have : UInt8.ofNat (hd (b :: r)).toNat = b := by
      show UInt8.ofNat ((b.toNat : Int)).toNat = b
      simp
    rw [this]; rfl
theorem dec_get {s : Bytes} {c : Cmd} (hs : s ≠ []) (h : decP s = some c) : good c = true ∧ encC c = s ∧ s.length ≤ 512 := by
  unfold decP at h
  have hl : 1 ≤ s.length := by
    cases s with
    | nil => exact absurd rfl hs
    | cons _ _ => simp
  split at h
  · rename_i c' t hr
    split at h
    · rename_i hc
      cases h
      obtain ⟨g1, g2, g3, g4, g5, g6⟩ := readB_get (by omega) hr
      refine ⟨good_iff.2 ⟨g4, g5⟩, ?_, hc.2⟩
      obtain ⟨h1, h2⟩ := kind_byte g4
      rw [encC, h1, g1]
      have e1 : from_ s t = [] := by rw [hc.1, from_, Int.toNat_natCast, List.drop_length]
      rw [e1, List.append_nil] at g6
      rw [← g6]
      exact (cons_hd hs).symm
    · cases h
  · cases h
/-- What bytes come to. -/
theorem dec_cases (s : Bytes) : (s = [] ∧ decR s = (zeroC, 3)) ∨ (s ≠ [] ∧ ¬ (1 ≤ hd s ∧ hd s ≤ 9) ∧ decR s = (zeroC, 9)) ∨ (s ≠ [] ∧ (1 ≤ hd s ∧ hd s ≤ 9) ∧ decP s = none ∧ decR s = (zeroC, 3)) ∨
    (s ≠ [] ∧ ∃ c, decP s = some c ∧ decR s = (c, 0) ∧ good c = true ∧ encC c = s ∧ s.length ≤ 512) := by
  by_cases h1 : s = []
  · exact .inl ⟨h1, by unfold decR; rw [if_pos h1]⟩
  · by_cases h2 : 1 ≤ hd s ∧ hd s ≤ 9
    · cases h3 : decP s with
      | none => exact .inr (.inr (.inl ⟨h1, h2, rfl, by unfold decR; rw [if_neg h1, if_pos h2, h3]⟩))
      | some c =>
        obtain ⟨g1, g2, g3⟩ := dec_get h1 h3
        exact .inr (.inr (.inr ⟨h1, c, rfl, by unfold decR; rw [if_neg h1, if_pos h2, h3], g1, g2, g3⟩))
    · exact .inr (.inl ⟨h1, h2, by unfold decR; rw [if_neg h1, if_neg h2]⟩)
theorem dec_more {c : Cmd} {b : Bytes} (hg : good c = true) (hb : b ≠ []) : decR (encC c ++ b) = (zeroC, 3) := by
  have e := enc_from (rest := b) (good_iff.1 hg).1
  have hk := good_kind (good_iff.1 hg).1
  rcases dec_cases (encC c ++ b) with ⟨h, _⟩ | ⟨_, h, _⟩ | ⟨_, _, _, h⟩ | ⟨_, o, _, _, h1, h2, _⟩
  · rw [h] at e; simp at e
  · rw [e.2.1] at h; exact absurd hk h
  · exact h
  · obtain ⟨_, h3⟩ := enc_pre h1 hg h2
    exact absurd h3 hb
theorem dec_cut {c : Cmd} {n : Nat} (hg : good c = true) (hn : n < (encC c).length) : decR ((encC c).take n) = (zeroC, 3) := by
  have e := enc_from (rest := []) (good_iff.1 hg).1
  rw [List.append_nil] at e
  have hk := good_kind (good_iff.1 hg).1
  rcases dec_cases ((encC c).take n) with ⟨_, h⟩ | ⟨h0, h, _⟩ | ⟨_, _, _, h⟩ | ⟨_, o, _, _, h1, h2, _⟩
  · exact h
  · exfalso
    have : hd ((encC c).take n) = hd (encC c) := by
      cases n with
      | zero => simp at h0
      | succ n =>
        cases he : encC c with
        | nil => rw [he] at hn; simp at hn
        | cons x r => rfl
    rw [this, e.2.1] at h; exact h hk
  · exact h
  · obtain ⟨_, h3⟩ := enc_pre (rest := (encC c).drop n) hg h1 (by rw [h2, List.take_append_drop])
    have := congrArg List.length h3
    rw [List.length_drop] at this
    simp at this; omega
theorem enc_inj {a b : Cmd} (ha : good a = true) (hb : good b = true) : encC a = encC b ↔ a = b :=
  ⟨fun h => (enc_pre (rest := []) ha hb (by rw [h, List.append_nil])).1, fun h => by rw [h]⟩
theorem enc_cases (c : Cmd) : (good c = false ∧ encR c = ([], 1)) ∨ (good c = true ∧ 512 < (encC c).length ∧ encR c = ([], 8)) ∨ (good c = true ∧ (encC c).length ≤ 512 ∧ encR c = (encC c, 0)) := by
  unfold encR
  cases h : good c
  · exact .inl ⟨rfl, rfl⟩
  · by_cases h2 : 512 < (encC c).length
    · exact .inr (.inl ⟨rfl, h2, by simp [h2]⟩)
    · exact .inr (.inr ⟨rfl, by omega, by simp [h2]⟩)
end Go.Proofs.Ytoipgandilhdeaa.Wi
set_option linter.unusedVariables false
set_option linter.unusedSimpArgs false
namespace Go.Proofs.Ytoipgandilhdeaa.Wi
open Go Go.RowKit Fw Nu
open An (byv byv_len byv_app byv_back byv_range fitsB fits_iff wides bads wides_len fits_neg shr_ne nameB nameW bads_cons bads_nil bads_book fits_one)
structure ShC (c : Cmd) : Prop where
  asks : c.2.2.1.length ≤ 1000
  key : ∀ x ∈ c.2.2.1, x.2.1.length ≤ 300
  after : c.2.2.2.2.2.1.2.length ≤ 300
def cmdA (asks : AV) (c : Cmd) : Chunk := cmdC asks c.1 c.2.1 c.2.2.2.1 c.2.2.2.2.1.1 c.2.2.2.2.1.2.1 c.2.2.2.2.1.2.2.1 c.2.2.2.2.1.2.2.2 c.2.2.2.2.2.1.1 c.2.2.2.2.2.1.2 c.2.2.2.2.2.2
abbrev cmdW (c : Cmd) : Chunk := cmdA (lstA c.2.2.1) c
/-- What writing a command's fields comes to. -/
structure BodyQ (s : Bytes) (wrong : Bool) (c : Cmd) (y : Bytes × Bool) : Prop where
  ok : y.2 = false → wrong = false ∧ bodyW c = false ∧ y.1 = s ++ bodyB c
  bad : y.2 = true → wrong = true ∨ bodyW c = true
  len : y.1.length ≤ s.length + 400000
theorem nameB_len (x : Int × Bytes) : (nameB x).length ≤ 257 := by
  have := put_len x.2
  rw [nameB, List.length_append, wides1_len]; omega
theorem askB_len (x : Ask) : (askB x).length ≤ 261 := by
  have := nameB_len (x.1, x.2.1)
  rw [askB, List.length_append, wides1_len]; omega
theorem body_of {s b : Bytes} {wrong : Bool} {c : Cmd} {w : Bool} (hb : b = s ++ bodyB c) (hw : w = (wrong || bodyW c)) (hl : (bodyB c).length ≤ 400000) : BodyQ s wrong c (b, w) := by
  subst hb hw
  refine ⟨fun h => ?_, fun h => ?_, by simp; omega⟩
  · simp only [Bool.or_eq_false_iff] at h; exact ⟨h.1, h.2, rfl⟩
  · simpa using h
theorem askWM (s : Bytes) (wrong : Bool) (x : Ask) (hs : s.length ≤ 800000) (hv : x.2.1.length ≤ 300) :
    Meets Try.prog 83 [.ptr 0 0, .iptr AskT (fun _ => x) 0] (wN s wrong) (Y := Unit) (fun _ => True) (fun _ => .tup []) (fun _ => wN (s ++ askB x) (wrong || askW x)) := by
  have hpl := put_len x.2.1
  refine Meets.intro hm (fn := Try.f83) Try.func83 rfl (by decide) (Nat.le_of_ble_eq_true rfl) (fun _ => rfl) ?_; intro S hok; (conv => whnf)
  (repeat' ((conv => whnf); first | apply And.intro | exact ⟨by kernel_rfl⟩ | apply DrawN.mk | apply CodeN.step hm rfl | exact trivial | exact rfl | (intro hh; try simp only [bs] at hh))); all_goals (conv => whnf)
  (refine CallN.q (nWel0 s wrong x 1 (by omega) (by omega)) [0, 1] (fun _ _ => ?_); (repeat' ((conv => whnf); first | apply And.intro | exact ⟨by kernel_rfl⟩ | apply DrawN.mk | apply CodeN.step hm rfl | exact trivial | exact rfl | (intro hh; try simp only [bs] at hh; try exact absurd hh (by decide)))); all_goals (conv => whnf); all_goals try exact ⟨by decide⟩)
  (refine CallN.q (tWel (s ++ wides [(x.1, 1)]) (wrong || bads [(x.1, 1)]) x (by rw [List.length_append, wides1_len]; omega) (by omega)) [0, 1] (fun _ _ => ?_); (repeat' ((conv => whnf); first | apply And.intro | exact ⟨by kernel_rfl⟩ | apply DrawN.mk | apply CodeN.step hm rfl | exact trivial | exact rfl | (intro hh; try simp only [bs] at hh; try exact absurd hh (by decide)))); all_goals (conv => whnf); all_goals try exact ⟨by decide⟩)
  (refine CallN.q (nWel2 (s ++ wides [(x.1, 1)] ++ (put x.2.1).1) (wrong || bads [(x.1, 1)] || !(put x.2.1).2) x 4 (by omega) (by rw [List.length_append, List.length_append, wides1_len]; omega)) [0, 1] (fun _ _ => ?_); (repeat' ((conv => whnf); first | apply And.intro | exact ⟨by kernel_rfl⟩ | apply DrawN.mk | apply CodeN.step hm rfl | exact trivial | exact rfl | (intro hh; try simp only [bs] at hh; try exact absurd hh (by decide)))); all_goals (conv => whnf); all_goals try exact ⟨by decide⟩)
  (refine RetN.q () [0, 1] ?_ ?_ ?_ <;> (repeat' ((conv => whnf) <;> first | exact rfl | exact trivial | apply And.intro | exact Nat.zero_add _)); all_goals ((conv => whnf); try simp only []))
  all_goals first | (simp [askB, nameB]; done) | (simp [askB, nameB]; omega) | (simp [askW, nameW, Bool.or_assoc]; done) | skip
theorem nameWM (s : Bytes) (wrong : Bool) (c : Cmd) (hs : s.length ≤ 800000) (hv : c.2.2.2.2.2.1.2.length ≤ 300) :
    Meets Try.prog 73 [.ptr 0 0, .ptr 2 0] (wN s wrong ++ [cmdW c]) (Y := Unit) (fun _ => True) (fun _ => .tup []) (fun _ => wN (s ++ nameB c.2.2.2.2.2.1) (wrong || nameW c.2.2.2.2.2.1) ++ [cmdW c]) := by
  have hpl := put_len c.2.2.2.2.2.1.2
  refine Meets.intro hm (fn := Try.f73) Try.func73 rfl (by decide) (Nat.le_of_ble_eq_true rfl) (fun _ => rfl) ?_; intro S hok; (conv => whnf)
  (repeat' ((conv => whnf); first | apply And.intro | exact ⟨by kernel_rfl⟩ | apply DrawN.mk | apply CodeN.step hm rfl | exact trivial | exact rfl | (intro hh; try simp only [bs] at hh))); all_goals (conv => whnf)
  (refine CallN.q (nW8 s wrong c.2.2.1 c.1 c.2.1 c.2.2.2.1 c.2.2.2.2.1.1 c.2.2.2.2.1.2.1 c.2.2.2.2.1.2.2.1 c.2.2.2.2.1.2.2.2 c.2.2.2.2.2.1.1 c.2.2.2.2.2.1.2 c.2.2.2.2.2.2 1 (by omega) (by omega)) [0, 1, 2] (fun _ _ => ?_); (repeat' ((conv => whnf); first | apply And.intro | exact ⟨by kernel_rfl⟩ | apply DrawN.mk | apply CodeN.step hm rfl | exact trivial | exact rfl | (intro hh; try simp only [bs] at hh; try exact absurd hh (by decide)))); all_goals (conv => whnf); all_goals try exact ⟨by decide⟩)
  (refine CallN.q (tW9 (s ++ wides [(c.2.2.2.2.2.1.1, 1)]) (wrong || bads [(c.2.2.2.2.2.1.1, 1)]) c.2.2.1 c.1 c.2.1 c.2.2.2.1 c.2.2.2.2.1.1 c.2.2.2.2.1.2.1 c.2.2.2.2.1.2.2.1 c.2.2.2.2.1.2.2.2 c.2.2.2.2.2.1.1 c.2.2.2.2.2.1.2 c.2.2.2.2.2.2 (by rw [List.length_append, wides1_len]; omega) (by omega)) [0, 1, 2] (fun _ _ => ?_); (repeat' ((conv => whnf); first | apply And.intro | exact ⟨by kernel_rfl⟩ | apply DrawN.mk | apply CodeN.step hm rfl | exact trivial | exact rfl | (intro hh; try simp only [bs] at hh; try exact absurd hh (by decide)))); all_goals (conv => whnf); all_goals try exact ⟨by decide⟩)
  (refine RetN.q () [0, 1, 2] ?_ ?_ ?_ <;> (repeat' ((conv => whnf) <;> first | exact rfl | exact trivial | apply And.intro | exact Nat.zero_add _)); all_goals ((conv => whnf); try simp only []))
  all_goals first | (simp [nameB]; done) | (simp [nameB]; omega) | (simp [nameW, Bool.or_assoc]; done) | skip
theorem bookWM (s : Bytes) (wrong : Bool) (c : Cmd) (hs : s.length ≤ 800000) :
    Meets Try.prog 75 [.ptr 0 0, .ptr 2 0] (wN s wrong ++ [cmdW c]) (Y := Unit) (fun _ => True) (fun _ => .tup []) (fun _ => wN (s ++ wides [(c.2.2.2.1, 1)]) (wrong || bads [(c.2.2.2.1, 1)]) ++ [cmdW c]) := by
  refine Meets.intro hm (fn := Try.f75) Try.func75 rfl (by decide) (Nat.le_of_ble_eq_true rfl) (fun _ => rfl) ?_; intro S hok; (conv => whnf)
  (repeat' ((conv => whnf); first | apply And.intro | exact ⟨by kernel_rfl⟩ | apply DrawN.mk | apply CodeN.step hm rfl | exact trivial | exact rfl | (intro hh; try simp only [bs] at hh))); all_goals (conv => whnf)
  (refine CallN.q (nW3 s wrong c.2.2.1 c.1 c.2.1 c.2.2.2.1 c.2.2.2.2.1.1 c.2.2.2.2.1.2.1 c.2.2.2.2.1.2.2.1 c.2.2.2.2.1.2.2.2 c.2.2.2.2.2.1.1 c.2.2.2.2.2.1.2 c.2.2.2.2.2.2 1 (by omega) (by omega)) [0, 1, 2] (fun _ _ => ?_); (repeat' ((conv => whnf); first | apply And.intro | exact ⟨by kernel_rfl⟩ | apply DrawN.mk | apply CodeN.step hm rfl | exact trivial | exact rfl | (intro hh; try simp only [bs] at hh; try exact absurd hh (by decide)))); all_goals (conv => whnf); all_goals try exact ⟨by decide⟩)
  (refine RetN.q () [0, 1, 2] ?_ ?_ ?_ <;> (repeat' ((conv => whnf) <;> first | exact rfl | exact trivial | apply And.intro | exact Nat.zero_add _)); all_goals ((conv => whnf); try simp only []))
theorem setWM (s : Bytes) (wrong : Bool) (c : Cmd) (hs : s.length ≤ 800000) :
    Meets Try.prog 74 [.ptr 0 0, .ptr 2 0] (wN s wrong ++ [cmdW c]) (Y := Unit) (fun _ => True) (fun _ => .tup []) (fun _ => wN (s ++ wides [(c.2.2.2.1, 1), (c.2.2.2.2.1.1, 1), (c.2.2.2.2.1.2.1, 4), (c.2.2.2.2.1.2.2.1, 4), (c.2.2.2.2.1.2.2.2, 1)]) (wrong || bads [(c.2.2.2.1, 1), (c.2.2.2.2.1.1, 1), (c.2.2.2.2.1.2.1, 4), (c.2.2.2.2.1.2.2.1, 4), (c.2.2.2.2.1.2.2.2, 1)]) ++ [cmdW c]) := by
  have hl : ∀ (b : Bytes) (n : Int) (w : Nat), (b ++ wides [(n, w)]).length = b.length + w := fun b n w => by rw [List.length_append, wides1_len]
  have hw : wides [(c.2.2.2.1, 1), (c.2.2.2.2.1.1, 1), (c.2.2.2.2.1.2.1, 4), (c.2.2.2.2.1.2.2.1, 4), (c.2.2.2.2.1.2.2.2, 1)] = wides [(c.2.2.2.1, 1)] ++ wides [(c.2.2.2.2.1.1, 1)] ++ wides [(c.2.2.2.2.1.2.1, 4)] ++ wides [(c.2.2.2.2.1.2.2.1, 4)] ++ wides [(c.2.2.2.2.1.2.2.2, 1)] := by simp [wides]
  have hb : bads [(c.2.2.2.1, 1), (c.2.2.2.2.1.1, 1), (c.2.2.2.2.1.2.1, 4), (c.2.2.2.2.1.2.2.1, 4), (c.2.2.2.2.1.2.2.2, 1)] = (bads [(c.2.2.2.1, 1)] || bads [(c.2.2.2.2.1.1, 1)] || bads [(c.2.2.2.2.1.2.1, 4)] || bads [(c.2.2.2.2.1.2.2.1, 4)] || bads [(c.2.2.2.2.1.2.2.2, 1)]) := by simp [bads, Bool.or_assoc]
  rw [hw, hb]
  refine Meets.intro hm (fn := Try.f74) Try.func74 rfl (by decide) (Nat.le_of_ble_eq_true rfl) (fun _ => rfl) ?_; intro S hok; (conv => whnf)
  (repeat' ((conv => whnf); first | apply And.intro | exact ⟨by kernel_rfl⟩ | apply DrawN.mk | apply CodeN.step hm rfl | exact trivial | exact rfl | (intro hh; try simp only [bs] at hh))); all_goals (conv => whnf)
  (refine CallN.q (bookWM s wrong c hs) [0, 1, 2] (fun _ _ => ?_); (repeat' ((conv => whnf); first | apply And.intro | exact ⟨by kernel_rfl⟩ | apply DrawN.mk | apply CodeN.step hm rfl | exact trivial | exact rfl | (intro hh; try simp only [bs] at hh; try exact absurd hh (by decide)))); all_goals (conv => whnf); all_goals try exact ⟨by decide⟩)
  generalize h1 : s ++ wides [(c.2.2.2.1, 1)] = s1
  have l1 := hl s c.2.2.2.1 1
  rw [h1] at l1
  (refine CallN.q (nW4 s1 (wrong || bads [(c.2.2.2.1, 1)]) c.2.2.1 c.1 c.2.1 c.2.2.2.1 c.2.2.2.2.1.1 c.2.2.2.2.1.2.1 c.2.2.2.2.1.2.2.1 c.2.2.2.2.1.2.2.2 c.2.2.2.2.2.1.1 c.2.2.2.2.2.1.2 c.2.2.2.2.2.2 1 (by omega) (by omega)) [0, 1, 2] (fun _ _ => ?_); (repeat' ((conv => whnf); first | apply And.intro | exact ⟨by kernel_rfl⟩ | apply DrawN.mk | apply CodeN.step hm rfl | exact trivial | exact rfl | (intro hh; try simp only [bs] at hh; try exact absurd hh (by decide)))); all_goals (conv => whnf); all_goals try exact ⟨by decide⟩)
  generalize h2 : s1 ++ wides [(c.2.2.2.2.1.1, 1)] = s2
  have l2 := hl s1 c.2.2.2.2.1.1 1
  rw [h2] at l2
  (refine CallN.q (nW5 s2 (wrong || bads [(c.2.2.2.1, 1)] || bads [(c.2.2.2.2.1.1, 1)]) c.2.2.1 c.1 c.2.1 c.2.2.2.1 c.2.2.2.2.1.1 c.2.2.2.2.1.2.1 c.2.2.2.2.1.2.2.1 c.2.2.2.2.1.2.2.2 c.2.2.2.2.2.1.1 c.2.2.2.2.2.1.2 c.2.2.2.2.2.2 4 (by omega) (by omega)) [0, 1, 2] (fun _ _ => ?_); (repeat' ((conv => whnf); first | apply And.intro | exact ⟨by kernel_rfl⟩ | apply DrawN.mk | apply CodeN.step hm rfl | exact trivial | exact rfl | (intro hh; try simp only [bs] at hh; try exact absurd hh (by decide)))); all_goals (conv => whnf); all_goals try exact ⟨by decide⟩)
  generalize h3 : s2 ++ wides [(c.2.2.2.2.1.2.1, 4)] = s3
  have l3 := hl s2 c.2.2.2.2.1.2.1 4
  rw [h3] at l3
  (refine CallN.q (nW6 s3 (wrong || bads [(c.2.2.2.1, 1)] || bads [(c.2.2.2.2.1.1, 1)] || bads [(c.2.2.2.2.1.2.1, 4)]) c.2.2.1 c.1 c.2.1 c.2.2.2.1 c.2.2.2.2.1.1 c.2.2.2.2.1.2.1 c.2.2.2.2.1.2.2.1 c.2.2.2.2.1.2.2.2 c.2.2.2.2.2.1.1 c.2.2.2.2.2.1.2 c.2.2.2.2.2.2 4 (by omega) (by omega)) [0, 1, 2] (fun _ _ => ?_); (repeat' ((conv => whnf); first | apply And.intro | exact ⟨by kernel_rfl⟩ | apply DrawN.mk | apply CodeN.step hm rfl | exact trivial | exact rfl | (intro hh; try simp only [bs] at hh; try exact absurd hh (by decide)))); all_goals (conv => whnf); all_goals try exact ⟨by decide⟩)
  generalize h4 : s3 ++ wides [(c.2.2.2.2.1.2.2.1, 4)] = s4
  have l4 := hl s3 c.2.2.2.2.1.2.2.1 4
  rw [h4] at l4
  (refine CallN.q (nW7 s4 (wrong || bads [(c.2.2.2.1, 1)] || bads [(c.2.2.2.2.1.1, 1)] || bads [(c.2.2.2.2.1.2.1, 4)] || bads [(c.2.2.2.2.1.2.2.1, 4)]) c.2.2.1 c.1 c.2.1 c.2.2.2.1 c.2.2.2.2.1.1 c.2.2.2.2.1.2.1 c.2.2.2.2.1.2.2.1 c.2.2.2.2.1.2.2.2 c.2.2.2.2.2.1.1 c.2.2.2.2.2.1.2 c.2.2.2.2.2.2 1 (by omega) (by omega)) [0, 1, 2] (fun _ _ => ?_); (repeat' ((conv => whnf); first | apply And.intro | exact ⟨by kernel_rfl⟩ | apply DrawN.mk | apply CodeN.step hm rfl | exact trivial | exact rfl | (intro hh; try simp only [bs] at hh; try exact absurd hh (by decide)))); all_goals (conv => whnf); all_goals try exact ⟨by decide⟩)
  (refine RetN.q () [0, 1, 2] ?_ ?_ ?_ <;> (repeat' ((conv => whnf) <;> first | exact rfl | exact trivial | apply And.intro | exact Nat.zero_add _)); all_goals ((conv => whnf); try simp only []))
  all_goals first | (simp only [← h4, ← h3, ← h2, ← h1, List.append_assoc]; done) | (simp only [Bool.or_assoc]; done) | (simp only [← h4, ← h3, ← h2, ← h1, List.append_assoc, List.length_append]; omega) | skip
theorem pageWM (s : Bytes) (wrong : Bool) (c : Cmd) (hs : s.length ≤ 800000) (hv : c.2.2.2.2.2.1.2.length ≤ 300) :
    Meets Try.prog 77 [.ptr 0 0, .ptr 2 0] (wN s wrong ++ [cmdW c]) (Y := Unit) (fun _ => True) (fun _ => .tup []) (fun _ => wN (s ++ (nameB c.2.2.2.2.2.1 ++ wides [(c.2.2.2.2.2.2, 1)])) (wrong || (nameW c.2.2.2.2.2.1 || bads [(c.2.2.2.2.2.2, 1)])) ++ [cmdW c]) := by
  have hpl := nameB_len c.2.2.2.2.2.1
  refine Meets.intro hm (fn := Try.f77) Try.func77 rfl (by decide) (Nat.le_of_ble_eq_true rfl) (fun _ => rfl) ?_; intro S hok; (conv => whnf)
  (repeat' ((conv => whnf); first | apply And.intro | exact ⟨by kernel_rfl⟩ | apply DrawN.mk | apply CodeN.step hm rfl | exact trivial | exact rfl | (intro hh; try simp only [bs] at hh))); all_goals (conv => whnf)
  (refine CallN.q (nameWM s wrong c hs hv) [0, 1, 2] (fun _ _ => ?_); (repeat' ((conv => whnf); first | apply And.intro | exact ⟨by kernel_rfl⟩ | apply DrawN.mk | apply CodeN.step hm rfl | exact trivial | exact rfl | (intro hh; try simp only [bs] at hh; try exact absurd hh (by decide)))); all_goals (conv => whnf); all_goals try exact ⟨by decide⟩)
  (refine CallN.q (nW10 (s ++ nameB c.2.2.2.2.2.1) (wrong || nameW c.2.2.2.2.2.1) c.2.2.1 c.1 c.2.1 c.2.2.2.1 c.2.2.2.2.1.1 c.2.2.2.2.1.2.1 c.2.2.2.2.1.2.2.1 c.2.2.2.2.1.2.2.2 c.2.2.2.2.2.1.1 c.2.2.2.2.2.1.2 c.2.2.2.2.2.2 1 (by omega) (by rw [List.length_append]; omega)) [0, 1, 2] (fun _ _ => ?_); (repeat' ((conv => whnf); first | apply And.intro | exact ⟨by kernel_rfl⟩ | apply DrawN.mk | apply CodeN.step hm rfl | exact trivial | exact rfl | (intro hh; try simp only [bs] at hh; try exact absurd hh (by decide)))); all_goals (conv => whnf); all_goals try exact ⟨by decide⟩)
  (refine RetN.q () [0, 1, 2] ?_ ?_ ?_ <;> (repeat' ((conv => whnf) <;> first | exact rfl | exact trivial | apply And.intro | exact Nat.zero_add _)); all_goals ((conv => whnf); try simp only []))
  all_goals first | (simp only [List.append_assoc]; done) | (simp only [Bool.or_assoc]; done) | (simp only [List.append_assoc, List.length_append]; done) | skip
theorem nothingWM (s : Bytes) (wrong : Bool) (c : Cmd) :
    Meets Try.prog 76 [.ptr 0 0, .ptr 2 0] (wN s wrong ++ [cmdW c]) (Y := Unit) (fun _ => True) (fun _ => .tup []) (fun _ => wN s wrong ++ [cmdW c]) := by
  refine Meets.intro hm (fn := Try.f76) Try.func76 rfl (by decide) (Nat.le_of_ble_eq_true rfl) (fun _ => rfl) ?_; intro S hok; (conv => whnf)
  (repeat' ((conv => whnf); first | apply And.intro | exact ⟨by kernel_rfl⟩ | apply DrawN.mk | apply CodeN.step hm rfl | exact trivial | exact rfl | (intro hh; try simp only [bs] at hh))); all_goals (conv => whnf)
  (refine RetN.q () [0, 1, 2] ?_ ?_ ?_ <;> (repeat' ((conv => whnf) <;> first | exact rfl | exact trivial | apply And.intro | exact Nat.zero_add _)); all_goals ((conv => whnf); try simp only []))
theorem singleWM (s : Bytes) (wrong : Bool) (c : Cmd) (hk : c.1 = 1 ∨ c.1 = 3) (hs : s.length ≤ 100) (hc : ShC c) :
    Meets Try.prog 71 [.ptr 0 0, .ptr 2 0] (wN s wrong ++ [cmdW c]) (Y := Bytes × Bool) (BodyQ s wrong c) (fun _ => .tup []) (fun y => wN y.1 y.2 ++ [cmdW c]) := by
  have hbB : bodyB c = askB (c.2.2.1.getD 0 (0, [], 0)) := by unfold bodyB; rcases hk with e | e <;> rw [e] <;> rfl
  have hbW : bodyW c = (decide (c.2.2.1.length ≠ 1) || askW (c.2.2.1.getD 0 (0, [], 0))) := by unfold bodyW; rcases hk with e | e <;> rw [e] <;> rfl
  have hal := askB_len (c.2.2.1.getD 0 (0, [], 0))
  have hkey : 0 < c.2.2.1.length → (c.2.2.1.getD 0 (0, [], 0)).2.1.length ≤ 300 := fun h => hc.key _ (by rw [List.getD_eq_getElem?_getD, List.getElem?_eq_getElem h]; exact List.getElem_mem h)
  refine Meets.intro hm (fn := Try.f71) Try.func71 rfl (by decide) (Nat.le_of_ble_eq_true rfl) (fun _ => rfl) ?_; intro S hok; (conv => whnf)
  (repeat' ((conv => whnf); first | apply And.intro | exact ⟨by kernel_rfl⟩ | apply DrawN.mk | apply CodeN.step hm rfl | exact trivial | exact rfl | (intro hh; try simp only [bs] at hh))); all_goals (conv => whnf)
  · exact Ob.mk (by simp only []; omega)
  · have hl : c.2.2.1.length = 1 := by omega
    have hkey := hkey (by omega)
    have hw1 : (((c.2.2.1.length : Nat) : Int) != 1) = false := by simp; omega
    (refine CallN.q (askWM s (((c.2.2.1.length : Nat) : Int) != 1) (c.2.2.1.getD 0 (0, [], 0)) (by omega) hkey) [0, 1] (fun _ _ => ?_); (repeat' ((conv => whnf); first | apply And.intro | exact ⟨by kernel_rfl⟩ | apply DrawN.mk | apply CodeN.step hm rfl | exact trivial | exact rfl | (intro hh; try simp only [bs] at hh; try exact absurd hh (by decide)))); all_goals (conv => whnf); all_goals try exact ⟨by decide⟩)
    (refine RetN.q (s ++ askB (c.2.2.1.getD 0 (0, [], 0)), ((((c.2.2.1.length : Nat) : Int) != 1) || askW (c.2.2.1.getD 0 (0, [], 0)))) [0, 1, 2] ?_ ?_ ?_ <;> (repeat' ((conv => whnf) <;> first | exact rfl | exact trivial | apply And.intro | exact Nat.zero_add _)); all_goals ((conv => whnf); try simp only []))
    exact body_of (by rw [hbB]) (by rw [hbW, hw1, ‹wrong = false›, decide_eq_false (by omega)]; rfl) (by rw [hbB]; omega)
  · (refine RetN.q (s, true) [0, 1, 2] ?_ ?_ ?_ <;> (repeat' ((conv => whnf) <;> first | exact rfl | exact trivial | apply And.intro | exact Nat.zero_add _)); all_goals ((conv => whnf); try simp only []))
    all_goals first
      | exact ⟨fun h => (by cases h), fun _ => .inr (by rw [hbW, decide_eq_true (by omega)]; rfl), by simp only []; omega⟩
      | (simp; omega)
      | skip
  · (refine RetN.q (s, true) [0, 1, 2] ?_ ?_ ?_ <;> (repeat' ((conv => whnf) <;> first | exact rfl | exact trivial | apply And.intro | exact Nat.zero_add _)); all_goals ((conv => whnf); try simp only []))
    all_goals first
      | exact ⟨fun h => (by cases h), fun _ => .inl (by assumption), by simp only []; omega⟩
      | skip
theorem asks_len (l : List Ask) : (l.flatMap askB).length ≤ 261 * l.length := by
  induction l with
  | nil => simp
  | cons a r ih =>
    have := askB_len a
    simp only [List.flatMap_cons, List.length_append, List.length_cons]; omega
theorem asks_take {l : List Ask} {i : Nat} (h : i < l.length) : (l.take (i + 1)).flatMap askB = (l.take i).flatMap askB ++ askB (l.getD i (0, [], 0)) ∧ (l.take (i + 1)).any askW = ((l.take i).any askW || askW (l.getD i (0, [], 0))) := by
  rw [List.take_add_one, List.getElem?_eq_getElem h, List.flatMap_append, List.any_append, List.getD_eq_getElem?_getD, List.getElem?_eq_getElem h]; simp
theorem batchWM (s : Bytes) (wrong : Bool) (c : Cmd) (hk : c.1 = 2) (hs : s.length ≤ 100) (hc : ShC c) :
    Meets Try.prog 72 [.ptr 0 0, .ptr 2 0] (wN s wrong ++ [cmdW c]) (Y := Bytes × Bool) (BodyQ s wrong c) (fun _ => .tup []) (fun y => wN y.1 y.2 ++ [cmdW c]) := by
  have hbB : bodyB c = wides [(b01 c.2.1, 1), ((c.2.2.1.length : Int), 1)] ++ c.2.2.1.flatMap askB := by unfold bodyB; rw [hk]; rfl
  have hbW : bodyW c = (decide (32 < c.2.2.1.length) || c.2.2.1.any askW) := by unfold bodyW; rw [hk]; rfl
  have hasks := hc.asks
  have hal := asks_len c.2.2.1
  have hb1 : bads [(b01 c.2.1, 1)] = false := by rw [bads_book, fits_one (by unfold b01; split <;> simp)]; rfl
  have hbl : (bodyB c).length ≤ 400000 := by
    have h2 : (wides [(b01 c.2.1, 1), ((c.2.2.1.length : Int), 1)]).length = 2 := by rw [wides_len]; rfl
    rw [hbB, List.length_append, h2]; omega
  refine Meets.intro hm (fn := Try.f72) Try.func72 rfl (by decide) (Nat.le_of_ble_eq_true rfl) (fun _ => rfl) ?_; intro S hok; (conv => whnf)
  (repeat' ((conv => whnf); first | apply And.intro | exact ⟨by kernel_rfl⟩ | apply DrawN.mk | apply CodeN.step hm rfl | exact trivial | exact rfl | (intro hh; try simp only [bs] at hh))); all_goals (conv => whnf)
  · have ev : b01 c.2.1 = 1 := by unfold b01; rw [hh]; rfl
    rw [ev] at hbB hb1
    have hwd : wides [((1 : Int), 1), ((c.2.2.1.length : Int), 1)] = wides [((1 : Int), 1)] ++ wides [((c.2.2.1.length : Int), 1)] := by simp [wides]
    have hl2 : (s ++ wides [((1 : Int), 1)] ++ wides [((c.2.2.1.length : Int), 1)]).length = s.length + 2 := by rw [List.length_append, List.length_append, wides1_len, wides1_len]
    (refine CallN.q (nWown s wrong 1 1 (by omega) (by omega)) [0, 1, 3] (fun _ _ => ?_); (repeat' ((conv => whnf); first | apply And.intro | exact ⟨by kernel_rfl⟩ | apply DrawN.mk | apply CodeN.step hm rfl | exact trivial | exact rfl | (intro hh; try simp only [bs] at hh; try exact absurd hh (by decide)))); all_goals (conv => whnf); all_goals try exact ⟨by decide⟩)
    (refine CallN.q (nWown (s ++ wides [((1 : Int), 1)]) (wrong || bads [((1 : Int), 1)]) c.2.2.1.length 1 (by omega) (by rw [List.length_append, wides1_len]; omega)) [0, 1, 4] (fun _ _ => ?_); (repeat' ((conv => whnf); first | apply And.intro | exact ⟨by kernel_rfl⟩ | apply DrawN.mk | apply CodeN.step hm rfl | exact trivial | exact rfl | (intro hh; try simp only [bs] at hh; try exact absurd hh (by decide)))); all_goals (conv => whnf); all_goals try exact ⟨by decide⟩)
    all_goals first | (exfalso; exact absurd (by assumption) (by decide : ¬ ((1 : Int) < 1))) | skip
    · (refine RetN.q (s ++ wides [((1 : Int), 1)] ++ wides [((c.2.2.1.length : Int), 1)], true) [0, 1, 2] ?_ ?_ ?_ <;> (repeat' ((conv => whnf) <;> first | exact rfl | exact trivial | apply And.intro | exact Nat.zero_add _)); all_goals ((conv => whnf); try simp only []))
      all_goals first
        | exact decide_eq_true (by assumption)
        | exact ⟨fun h => (by cases h), fun _ => .inr (by rw [hbW, decide_eq_true (by omega)]; rfl), by simp only [hl2]; omega⟩
        | skip
    · have hf := ‹(wrong || bads [((1 : Int), 1)] || bads [((c.2.2.1.length : Int), 1)]) = false›
      simp only [Bool.or_eq_false_iff] at hf
      generalize hs2 : s ++ wides [((1 : Int), 1)] ++ wides [((c.2.2.1.length : Int), 1)] = s2 at hl2 ⊢
      have hbB2 : s ++ bodyB c = s2 ++ c.2.2.1.flatMap askB := by rw [hbB, hwd, ← hs2]; simp only [List.append_assoc]
      refine LoopN.intro hm (X := Nat × Bytes × Bool) (fun x => x.1 ≤ c.2.2.1.length ∧ x.2.1 = s2 ++ (c.2.2.1.take x.1).flatMap askB ∧ x.2.2 = (c.2.2.1.take x.1).any askW) (fun x => c.2.2.1.length - x.1)
        (fun x => [(58, .int .i64 fun _ => (x.1 : Int)), (57, .int .i64 fun _ => (c.2.2.1.length : Int)), (56, lstA c.2.2.1), (1, .ptr 2 0), (0, .ptr 0 0)])
        (fun x => wN x.2.1 x.2.2 ++ [cmdW c]) (0, s2, false) [0, 1, 2] ⟨rfl, rfl, ?_, ?_⟩ ⟨Nat.zero_le _, by simp, by simp⟩ (fun x hx => ?_)
      · (repeat' ((conv => whnf) <;> first | exact rfl | exact trivial | apply And.intro | exact Nat.zero_add _))
        all_goals exact decide_eq_false (by assumption)
      · (repeat' ((conv => whnf) <;> first | exact rfl | exact trivial | apply And.intro | exact Nat.zero_add _))
      obtain ⟨i, b, f⟩ := x
      obtain ⟨hi, hb, hf2⟩ := hx
      simp only [] at hi hb hf2
      have hbl2 : b.length ≤ 800000 := by
        have := asks_len (c.2.2.1.take i)
        rw [List.length_take] at this
        rw [hb, List.length_append]; omega
      (repeat' ((conv => whnf); first | apply And.intro | exact ⟨by kernel_rfl⟩ | apply DrawN.mk | apply CodeN.step hm rfl | exact trivial | exact rfl | (intro hh; try simp only [bs] at hh))); all_goals (conv => whnf)
      · exact Ob.mk (by simp only []; omega)
      · have hi2 : i < c.2.2.1.length := Int.ofNat_lt.1 (by assumption)
        have hkey := hc.key (c.2.2.1.getD i (0, [], 0)) (by rw [List.getD_eq_getElem?_getD, List.getElem?_eq_getElem hi2]; exact List.getElem_mem hi2)
        obtain ⟨e1, e2⟩ := asks_take hi2
        (refine CallN.q (askWM b f (c.2.2.1.getD i (0, [], 0)) hbl2 hkey) [0, 1] (fun _ _ => ?_); (repeat' ((conv => whnf); first | apply And.intro | exact ⟨by kernel_rfl⟩ | apply DrawN.mk | apply CodeN.step hm rfl | exact trivial | exact rfl | (intro hh; try simp only [bs] at hh; try exact absurd hh (by decide)))); all_goals (conv => whnf); all_goals try exact ⟨by decide⟩)
        refine ⟨(i + 1, b ++ askB (c.2.2.1.getD i (0, [], 0)), f || askW (c.2.2.1.getD i (0, [], 0))), [0, 1, 2], ⟨rfl, rfl, ?_, ?_⟩, ⟨by simp only []; omega, ?_, ?_⟩, by simp only []; omega⟩
        · (repeat' ((conv => whnf) <;> first | exact rfl | exact trivial | apply And.intro | exact Nat.zero_add _))
        · (repeat' ((conv => whnf) <;> first | exact rfl | exact trivial | apply And.intro | exact Nat.zero_add _))
          exact wr2 i hi2 (by omega)
        · simp only [hb, e1, List.append_assoc]
        · simp only [hf2, e2]
      · (refine RetN.q (b, f) [0, 1, 2] ?_ ?_ ?_ <;> (repeat' ((conv => whnf) <;> first | exact rfl | exact trivial | apply And.intro | exact Nat.zero_add _)); all_goals ((conv => whnf); try simp only []))
        have e : i = c.2.2.1.length := by omega
        subst e
        rw [List.take_length] at hb hf2
        exact body_of (by rw [hb, hbB2]) (by rw [hf2, hf.1.1, hbW, decide_eq_false (by omega)]; rfl) (by omega)
    · (refine RetN.q (s ++ wides [((1 : Int), 1)] ++ wides [((c.2.2.1.length : Int), 1)], true) [0, 1, 2] ?_ ?_ ?_ <;> (repeat' ((conv => whnf) <;> first | exact rfl | exact trivial | apply And.intro | exact Nat.zero_add _)); all_goals ((conv => whnf); try simp only []))
      have hf := ‹(wrong || bads [((1 : Int), 1)] || bads [((c.2.2.1.length : Int), 1)]) = true›
      refine ⟨fun h => (by cases h), fun _ => ?_, by simp only [hl2]; omega⟩
      rw [hb1, Bool.or_false, Bool.or_eq_true] at hf
      refine hf.imp id fun h => ?_
      rw [bads_book, Bool.not_eq_true'] at h
      have h3 : (256 : Int) ^ 1 = 256 := rfl
      have : ¬ (((c.2.2.1.length : Nat) : Int) < 256) := fun h4 => by
        rw [fits_iff.2 ⟨by omega, by omega⟩] at h; cases h
      rw [hbW, decide_eq_true (by omega)]; rfl
  · have ev : b01 c.2.1 = 0 := by unfold b01; rw [hh]; rfl
    rw [ev] at hbB hb1
    have hwd : wides [((0 : Int), 1), ((c.2.2.1.length : Int), 1)] = wides [((0 : Int), 1)] ++ wides [((c.2.2.1.length : Int), 1)] := by simp [wides]
    have hl2 : (s ++ wides [((0 : Int), 1)] ++ wides [((c.2.2.1.length : Int), 1)]).length = s.length + 2 := by rw [List.length_append, List.length_append, wides1_len, wides1_len]
    (refine CallN.q (nWown s wrong 0 1 (by omega) (by omega)) [0, 1, 3] (fun _ _ => ?_); (repeat' ((conv => whnf); first | apply And.intro | exact ⟨by kernel_rfl⟩ | apply DrawN.mk | apply CodeN.step hm rfl | exact trivial | exact rfl | (intro hh; try simp only [bs] at hh; try exact absurd hh (by decide)))); all_goals (conv => whnf); all_goals try exact ⟨by decide⟩)
    (refine CallN.q (nWown (s ++ wides [((0 : Int), 1)]) (wrong || bads [((0 : Int), 1)]) c.2.2.1.length 1 (by omega) (by rw [List.length_append, wides1_len]; omega)) [0, 1, 4] (fun _ _ => ?_); (repeat' ((conv => whnf); first | apply And.intro | exact ⟨by kernel_rfl⟩ | apply DrawN.mk | apply CodeN.step hm rfl | exact trivial | exact rfl | (intro hh; try simp only [bs] at hh; try exact absurd hh (by decide)))); all_goals (conv => whnf); all_goals try exact ⟨by decide⟩)
    all_goals first | (exfalso; exact absurd (by assumption) (by decide : ¬ ((1 : Int) < 0))) | skip
    · (refine RetN.q (s ++ wides [((0 : Int), 1)] ++ wides [((c.2.2.1.length : Int), 1)], true) [0, 1, 2] ?_ ?_ ?_ <;> (repeat' ((conv => whnf) <;> first | exact rfl | exact trivial | apply And.intro | exact Nat.zero_add _)); all_goals ((conv => whnf); try simp only []))
      all_goals first
        | exact decide_eq_true (by assumption)
        | exact ⟨fun h => (by cases h), fun _ => .inr (by rw [hbW, decide_eq_true (by omega)]; rfl), by simp only [hl2]; omega⟩
        | skip
    · have hf := ‹(wrong || bads [((0 : Int), 1)] || bads [((c.2.2.1.length : Int), 1)]) = false›
      simp only [Bool.or_eq_false_iff] at hf
      generalize hs2 : s ++ wides [((0 : Int), 1)] ++ wides [((c.2.2.1.length : Int), 1)] = s2 at hl2 ⊢
      have hbB2 : s ++ bodyB c = s2 ++ c.2.2.1.flatMap askB := by rw [hbB, hwd, ← hs2]; simp only [List.append_assoc]
      refine LoopN.intro hm (X := Nat × Bytes × Bool) (fun x => x.1 ≤ c.2.2.1.length ∧ x.2.1 = s2 ++ (c.2.2.1.take x.1).flatMap askB ∧ x.2.2 = (c.2.2.1.take x.1).any askW) (fun x => c.2.2.1.length - x.1)
        (fun x => [(58, .int .i64 fun _ => (x.1 : Int)), (57, .int .i64 fun _ => (c.2.2.1.length : Int)), (56, lstA c.2.2.1), (1, .ptr 2 0), (0, .ptr 0 0)])
        (fun x => wN x.2.1 x.2.2 ++ [cmdW c]) (0, s2, false) [0, 1, 2] ⟨rfl, rfl, ?_, ?_⟩ ⟨Nat.zero_le _, by simp, by simp⟩ (fun x hx => ?_)
      · (repeat' ((conv => whnf) <;> first | exact rfl | exact trivial | apply And.intro | exact Nat.zero_add _))
        all_goals exact decide_eq_false (by assumption)
      · (repeat' ((conv => whnf) <;> first | exact rfl | exact trivial | apply And.intro | exact Nat.zero_add _))
      obtain ⟨i, b, f⟩ := x
      obtain ⟨hi, hb, hf2⟩ := hx
      simp only [] at hi hb hf2
      have hbl2 : b.length ≤ 800000 := by
        have := asks_len (c.2.2.1.take i)
        rw [List.length_take] at this
        rw [hb, List.length_append]; omega
      (repeat' ((conv => whnf); first | apply And.intro | exact ⟨by kernel_rfl⟩ | apply DrawN.mk | apply CodeN.step hm rfl | exact trivial | exact rfl | (intro hh; try simp only [bs] at hh))); all_goals (conv => whnf)
      · exact Ob.mk (by simp only []; omega)
      · have hi2 : i < c.2.2.1.length := Int.ofNat_lt.1 (by assumption)
        have hkey := hc.key (c.2.2.1.getD i (0, [], 0)) (by rw [List.getD_eq_getElem?_getD, List.getElem?_eq_getElem hi2]; exact List.getElem_mem hi2)
        obtain ⟨e1, e2⟩ := asks_take hi2
        (refine CallN.q (askWM b f (c.2.2.1.getD i (0, [], 0)) hbl2 hkey) [0, 1] (fun _ _ => ?_); (repeat' ((conv => whnf); first | apply And.intro | exact ⟨by kernel_rfl⟩ | apply DrawN.mk | apply CodeN.step hm rfl | exact trivial | exact rfl | (intro hh; try simp only [bs] at hh; try exact absurd hh (by decide)))); all_goals (conv => whnf); all_goals try exact ⟨by decide⟩)
        refine ⟨(i + 1, b ++ askB (c.2.2.1.getD i (0, [], 0)), f || askW (c.2.2.1.getD i (0, [], 0))), [0, 1, 2], ⟨rfl, rfl, ?_, ?_⟩, ⟨by simp only []; omega, ?_, ?_⟩, by simp only []; omega⟩
        · (repeat' ((conv => whnf) <;> first | exact rfl | exact trivial | apply And.intro | exact Nat.zero_add _))
        · (repeat' ((conv => whnf) <;> first | exact rfl | exact trivial | apply And.intro | exact Nat.zero_add _))
          exact wr2 i hi2 (by omega)
        · simp only [hb, e1, List.append_assoc]
        · simp only [hf2, e2]
      · (refine RetN.q (b, f) [0, 1, 2] ?_ ?_ ?_ <;> (repeat' ((conv => whnf) <;> first | exact rfl | exact trivial | apply And.intro | exact Nat.zero_add _)); all_goals ((conv => whnf); try simp only []))
        have e : i = c.2.2.1.length := by omega
        subst e
        rw [List.take_length] at hb hf2
        exact body_of (by rw [hb, hbB2]) (by rw [hf2, hf.1.1, hbW, decide_eq_false (by omega)]; rfl) (by omega)
    · (refine RetN.q (s ++ wides [((0 : Int), 1)] ++ wides [((c.2.2.1.length : Int), 1)], true) [0, 1, 2] ?_ ?_ ?_ <;> (repeat' ((conv => whnf) <;> first | exact rfl | exact trivial | apply And.intro | exact Nat.zero_add _)); all_goals ((conv => whnf); try simp only []))
      have hf := ‹(wrong || bads [((0 : Int), 1)] || bads [((c.2.2.1.length : Int), 1)]) = true›
      refine ⟨fun h => (by cases h), fun _ => ?_, by simp only [hl2]; omega⟩
      rw [hb1, Bool.or_false, Bool.or_eq_true] at hf
      refine hf.imp id fun h => ?_
      rw [bads_book, Bool.not_eq_true'] at h
      have h3 : (256 : Int) ^ 1 = 256 := rfl
      have : ¬ (((c.2.2.1.length : Nat) : Int) < 256) := fun h4 => by
        rw [fits_iff.2 ⟨by omega, by omega⟩] at h; cases h
      rw [hbW, decide_eq_true (by omega)]; rfl
end Go.Proofs.Ytoipgandilhdeaa.Wi
set_option linter.unusedVariables false
set_option linter.unusedSimpArgs false
namespace Go.Proofs.Ytoipgandilhdeaa.Wi
open Go Go.RowKit Fw Nu
open An (byv byv_len byv_app byv_back byv_range fitsB fits_iff wides bads wides_len fits_neg shr_ne from_ readL readL_get readL_put readName nameB nameW name_get name_put readN readN_get readN_put bads_cons bads_nil bads_book fits_one)
/-- What reading something comes to. -/
structure RdQ {α : Type} (r : Option (α × Int)) (w0 : Bool) (y : α × Int × Bool) : Prop where
  ok : y.2.2 = false → w0 = false ∧ r = some (y.1, y.2.1)
  bad : y.2.2 = true → w0 = true ∨ r = none
theorem name_rd {s : Bytes} {t : Int} {w0 w1 w2 : Bool} {b : Int} {k : Bytes} {t1 t2 : Int} (h1 : NumQ s t 1 w0 (b, t1, w1)) (h2 : TxtQ s t1 w1 (k, t2, w2)) : RdQ (readName s t) w0 ((b, k), t2, w2) := by
  refine ⟨fun h => ?_, fun h => ?_⟩
  · obtain ⟨e1, e2⟩ := h2.ok h
    obtain ⟨e3, e4⟩ := h1.ok e1
    refine ⟨e3, ?_⟩
    unfold readName readL
    rw [e4]
    simp only [readL, e2, if_true]
  · rcases h2.bad h with e | e
    · rcases h1.bad e with e | e
      · exact .inl e
      · refine .inr ?_
        unfold readName readL
        rw [if_neg e]
    · by_cases hw : w1 = false
      · obtain ⟨e3, e4⟩ := h1.ok hw
        refine .inr ?_
        unfold readName readL
        rw [e4]
        simp only [readL, if_true, if_neg e]
      · rcases h1.bad (by simpa using hw) with e | e
        · exact .inl e
        · refine .inr ?_
          unfold readName readL
          rw [if_neg e]
theorem num_rd {s : Bytes} {t : Int} {w0 w1 : Bool} {b : Int} {t1 : Int} {w : Nat} (h1 : NumQ s t w w0 (b, t1, w1)) : RdQ (readL s t [w]) w0 ([b], t1, w1) := by
  refine ⟨fun h => ?_, fun h => ?_⟩
  · obtain ⟨e1, e2⟩ := h1.ok h
    exact ⟨e1, by unfold readL; rw [e2]; rfl⟩
  · exact (h1.bad h).imp id fun e => by unfold readL; rw [if_neg e]
/-- One behind the other. -/
theorem RdQ.seq {α β γ : Type} {r1 : Option (α × Int)} {f : α → Int → Option (β × Int)} {w0 w1 w2 : Bool} {a : α} {b : β} {t1 t2 : Int} (F : α → β → γ) (h1 : RdQ r1 w0 (a, t1, w1)) (h2 : RdQ (f a t1) w1 (b, t2, w2)) :
    RdQ (match r1 with | some (a, t1) => (match f a t1 with | some (b, t2) => some (F a b, t2) | none => none) | none => none) w0 (F a b, t2, w2) := by
  refine ⟨fun h => ?_, fun h => ?_⟩
  · obtain ⟨e1, e2⟩ := h2.ok h
    obtain ⟨e3, e4⟩ := h1.ok e1
    exact ⟨e3, by rw [e4]; simp only [e2]⟩
  · rcases h2.bad h with e | e
    · rcases h1.bad e with e | e
      · exact .inl e
      · exact .inr (by rw [e])
    · by_cases hw : w1 = false
      · obtain ⟨e3, e4⟩ := h1.ok hw
        exact .inr (by rw [e4]; simp only [e])
      · rcases h1.bad (by simpa using hw) with e | e
        · exact .inl e
        · exact .inr (by rw [e])
theorem RdQ.of {α : Type} {r r' : Option (α × Int)} {w0 : Bool} {y y' : α × Int × Bool} (h : RdQ r w0 y) (hr : r' = r) (hy : y' = y) : RdQ r' w0 y' := by subst hr hy; exact h
theorem readL1 (s : Bytes) (t : Int) (w : Nat) : readL s t [w] = if (number s t w).2.2 = 0 then some ([(number s t w).1], (number s t w).2.1) else none := rfl
theorem ask_rd {s : Bytes} {t : Int} {w0 w1 w2 w3 : Bool} {b : Int} {k : Bytes} {n : Int} {t1 t2 t3 : Int} (h1 : NumQ s t 1 w0 (b, t1, w1)) (h2 : TxtQ s t1 w1 (k, t2, w2)) (h3 : NumQ s t2 4 w2 (n, t3, w3)) : RdQ (readAsk s t) w0 ((b, k, n), t3, w3) := by
  have := RdQ.seq (f := fun _ t => readL s t [4]) (fun (x : Int × Bytes) (l : List Int) => (x.1, x.2, l.getD 0 0)) (name_rd h1 h2) (num_rd h3)
  refine this.of ?_ rfl
  unfold readAsk
  cases readName s t with
  | none => rfl
  | some x =>
    obtain ⟨⟨b, k⟩, t⟩ := x
    simp only [readL1]
    by_cases h : (number s t 4).2.2 = 0
    · simp only [h, if_true]; rfl
    · simp only [h, if_false]
theorem getD_set {l : List Ask} {i : Nat} (h : i < l.length) (x : Ask) : (l.set i x).getD i AskT.dflt = x := by
  rw [List.getD_eq_getElem?_getD, List.getElem?_set_self h]; rfl
theorem askRM (s : Bytes) (t : Int) (wrong : Bool) (l : List Ask) (i : Nat) (hi : i < l.length) (hs : s.length ≤ 1000000) :
    Meets Try.prog 83 [.ptr 0 0, .eptr 1 3 (fun _ => i) 0] [prC s t wrong, .row 80 AskT fun _ => l] (Y := Ask × Int × Bool) (RdQ (readAsk s t) wrong) (fun _ => .tup []) (fun y => [prC s y.2.1 y.2.2, .row 80 AskT fun _ => l.set i y.1]) := by
  refine Meets.intro hm (fn := Try.f83) Try.func83 rfl (by decide) (Nat.le_of_ble_eq_true rfl) (fun _ => rfl) ?_; intro S hok; (conv => whnf)
  (repeat' ((conv => whnf); first | apply And.intro | exact ⟨by kernel_rfl⟩ | apply DrawN.mk | apply CodeN.step hm rfl | exact trivial | exact rfl | (intro hh; try simp only [bs] at hh))); all_goals (conv => whnf)
  obtain ⟨x, hx⟩ : ∃ x, l.getD i AskT.dflt = x := ⟨_, rfl⟩
  (refine CallN.q (nRel0 s t wrong l i hi x hx 1 (by omega) hs) [0, 1] ?_; rintro ⟨b, t1, w1⟩ h1; (repeat' ((conv => whnf); first | apply And.intro | exact ⟨by kernel_rfl⟩ | apply DrawN.mk | apply CodeN.step hm rfl | exact trivial | exact rfl | (intro hh; try simp only [bs] at hh; try exact absurd hh (by decide)))); all_goals (conv => whnf); all_goals try exact ⟨by decide⟩)
  (refine CallN.q (tRel s t1 w1 (l.set i (b, x.2.1, x.2.2)) i (by rw [List.length_set]; exact hi) (b, x.2.1, x.2.2) (getD_set hi _) hs) [0, 1] ?_; rintro ⟨k, t2, w2⟩ h2; (repeat' ((conv => whnf); first | apply And.intro | exact ⟨by kernel_rfl⟩ | apply DrawN.mk | apply CodeN.step hm rfl | exact trivial | exact rfl | (intro hh; try simp only [bs] at hh; try exact absurd hh (by decide)))); all_goals (conv => whnf); all_goals try exact ⟨by decide⟩)
  rw [List.set_set]
  (refine CallN.q (nRel2 s t2 w2 (l.set i (b, k, x.2.2)) i (by rw [List.length_set]; exact hi) (b, k, x.2.2) (getD_set hi _) 4 (by omega) hs) [0, 1] ?_; rintro ⟨n, t3, w3⟩ h3; (repeat' ((conv => whnf); first | apply And.intro | exact ⟨by kernel_rfl⟩ | apply DrawN.mk | apply CodeN.step hm rfl | exact trivial | exact rfl | (intro hh; try simp only [bs] at hh; try exact absurd hh (by decide)))); all_goals (conv => whnf); all_goals try exact ⟨by decide⟩)
  rw [List.set_set]
  (refine RetN.q ((b, k, n), t3, w3) [0, 1] ?_ ?_ ?_ <;> (repeat' ((conv => whnf) <;> first | exact rfl | exact trivial | apply And.intro | exact Nat.zero_add _)); all_goals ((conv => whnf); try simp only []))
  exact ask_rd h1 h2 h3
theorem nums_rd {s : Bytes} {t : Int} {w : Nat} {ws : List Nat} {w0 w1 w2 : Bool} {b : Int} {bs : List Int} {t1 t2 : Int} (h1 : NumQ s t w w0 (b, t1, w1)) (h2 : RdQ (readL s t1 ws) w1 (bs, t2, w2)) : RdQ (readL s t (w :: ws)) w0 (b :: bs, t2, w2) := by
  refine ⟨fun h => ?_, fun h => ?_⟩
  · obtain ⟨e1, e2⟩ := h2.ok h
    obtain ⟨e3, e4⟩ := h1.ok e1
    exact ⟨e3, by rw [readL, e4]; simp only [e2, if_true]⟩
  · rcases h2.bad h with e | e
    · exact (h1.bad e).imp id fun e => by rw [readL, if_neg e]
    · by_cases hw : w1 = false
      · obtain ⟨e3, e4⟩ := h1.ok hw
        exact .inr (by rw [readL, e4]; simp only [e, if_true])
      · exact (h1.bad (by simpa using hw)).imp id fun e => by rw [readL, if_neg e]
/-- What is read of a kind. -/
abbrev ByQ (s : Bytes) (k : Int) (y : Cmd × Int × Bool) : Prop := RdQ (readB s k 1) false y
abbrev ByE (s : Bytes) (k : Int) (y : Cmd × Int × Bool) : Prop := ByQ s k y ∧ y.1.2.2.1 = []
theorem RdQ.map {α β : Type} {r : Option (α × Int)} {w0 : Bool} {a : α} {t : Int} {w : Bool} (F : α → β) (h : RdQ r w0 (a, t, w)) : RdQ (match r with | some (a, t) => some (F a, t) | none => none) w0 (F a, t, w) := by
  refine ⟨fun e => ?_, fun e => ?_⟩
  · obtain ⟨h1, h2⟩ := h.ok e; exact ⟨h1, by rw [h2]⟩
  · exact (h.bad e).imp id fun h => by rw [h]
def cmd0 (k : Int) : Cmd := (k, false, [], 0, (0, 0, 0, 0), (0, []), 0)
theorem bookRM (s : Bytes) (k : Int) (hk : k = 6 ∨ k = 7) (hs : s.length ≤ 1000000) : Meets Try.prog 75 [.ptr 0 0, .ptr 1 0] [prC s 1 false, cmdA .snil (cmd0 k)] (Y := Cmd × Int × Bool) (ByE s k) (fun _ => .tup []) (fun y => [prC s y.2.1 y.2.2, cmdA .snil y.1]) := by
  refine Meets.intro hm (fn := Try.f75) Try.func75 rfl (by decide) (Nat.le_of_ble_eq_true rfl) (fun _ => rfl) ?_; intro S hok; (conv => whnf)
  (repeat' ((conv => whnf); first | apply And.intro | exact ⟨by kernel_rfl⟩ | apply DrawN.mk | apply CodeN.step hm rfl | exact trivial | exact rfl | (intro hh; try simp only [bs] at hh))); all_goals (conv => whnf)
  (refine CallN.q (nR3 s 1 false k false 0 0 0 0 0 0 [] 0 1 (by omega) hs) [0, 1] ?_; rintro ⟨b, t1, w1⟩ h1; (repeat' ((conv => whnf); first | apply And.intro | exact ⟨by kernel_rfl⟩ | apply DrawN.mk | apply CodeN.step hm rfl | exact trivial | exact rfl | (intro hh; try simp only [bs] at hh; try exact absurd hh (by decide)))); all_goals (conv => whnf); all_goals try exact ⟨by decide⟩)
  (refine RetN.q ((k, false, [], b, (0, 0, 0, 0), (0, []), 0), t1, w1) [0, 1] ?_ ?_ ?_ <;> (repeat' ((conv => whnf) <;> first | exact rfl | exact trivial | apply And.intro | exact Nat.zero_add _)); all_goals ((conv => whnf); try simp only []))
  refine (RdQ.map (fun l : List Int => ((k, false, [], l.getD 0 0, (0, 0, 0, 0), (0, []), 0) : Cmd)) (num_rd h1)).of ?_ rfl
  rcases hk with rfl | rfl
  all_goals
    simp only [readB, readL1]
    by_cases h : (number s 1 1).2.2 = 0
    · simp only [h, if_true]; rfl
    · simp only [h, if_false]
theorem nameRM (s : Bytes) (hs : s.length ≤ 1000000) : Meets Try.prog 73 [.ptr 0 0, .ptr 1 0] [prC s 1 false, cmdA .snil (cmd0 4)] (Y := Cmd × Int × Bool) (ByE s 4) (fun _ => .tup []) (fun y => [prC s y.2.1 y.2.2, cmdA .snil y.1]) := by
  refine Meets.intro hm (fn := Try.f73) Try.func73 rfl (by decide) (Nat.le_of_ble_eq_true rfl) (fun _ => rfl) ?_; intro S hok; (conv => whnf)
  (repeat' ((conv => whnf); first | apply And.intro | exact ⟨by kernel_rfl⟩ | apply DrawN.mk | apply CodeN.step hm rfl | exact trivial | exact rfl | (intro hh; try simp only [bs] at hh))); all_goals (conv => whnf)
  (refine CallN.q (nR8 s 1 false 4 false 0 0 0 0 0 0 [] 0 1 (by omega) hs) [0, 1] ?_; rintro ⟨b, t1, w1⟩ h1; (repeat' ((conv => whnf); first | apply And.intro | exact ⟨by kernel_rfl⟩ | apply DrawN.mk | apply CodeN.step hm rfl | exact trivial | exact rfl | (intro hh; try simp only [bs] at hh; try exact absurd hh (by decide)))); all_goals (conv => whnf); all_goals try exact ⟨by decide⟩)
  (refine CallN.q (tR9 s t1 w1 4 false 0 0 0 0 0 b [] 0 hs) [0, 1] ?_; rintro ⟨n, t2, w2⟩ h2; (repeat' ((conv => whnf); first | apply And.intro | exact ⟨by kernel_rfl⟩ | apply DrawN.mk | apply CodeN.step hm rfl | exact trivial | exact rfl | (intro hh; try simp only [bs] at hh; try exact absurd hh (by decide)))); all_goals (conv => whnf); all_goals try exact ⟨by decide⟩)
  (refine RetN.q ((4, false, [], 0, (0, 0, 0, 0), (b, n), 0), t2, w2) [0, 1] ?_ ?_ ?_ <;> (repeat' ((conv => whnf) <;> first | exact rfl | exact trivial | apply And.intro | exact Nat.zero_add _)); all_goals ((conv => whnf); try simp only []))
  exact (RdQ.map (fun x : Int × Bytes => ((4, false, [], 0, (0, 0, 0, 0), x, 0) : Cmd)) (name_rd h1 h2)).of (by simp only [readB]; all_goals (cases readName s 1 <;> rfl)) rfl
theorem nameRM9 (s : Bytes) (hs : s.length ≤ 1000000) : Meets Try.prog 73 [.ptr 0 0, .ptr 1 0] [prC s 1 false, cmdA .snil (cmd0 9)] (Y := (Int × Bytes) × Int × Bool) (RdQ (readName s 1) false) (fun _ => .tup []) (fun y => [prC s y.2.1 y.2.2, cmdA .snil (9, false, [], 0, (0, 0, 0, 0), y.1, 0)]) := by
  refine Meets.intro hm (fn := Try.f73) Try.func73 rfl (by decide) (Nat.le_of_ble_eq_true rfl) (fun _ => rfl) ?_; intro S hok; (conv => whnf)
  (repeat' ((conv => whnf); first | apply And.intro | exact ⟨by kernel_rfl⟩ | apply DrawN.mk | apply CodeN.step hm rfl | exact trivial | exact rfl | (intro hh; try simp only [bs] at hh))); all_goals (conv => whnf)
  (refine CallN.q (nR8 s 1 false 9 false 0 0 0 0 0 0 [] 0 1 (by omega) hs) [0, 1] ?_; rintro ⟨b, t1, w1⟩ h1; (repeat' ((conv => whnf); first | apply And.intro | exact ⟨by kernel_rfl⟩ | apply DrawN.mk | apply CodeN.step hm rfl | exact trivial | exact rfl | (intro hh; try simp only [bs] at hh; try exact absurd hh (by decide)))); all_goals (conv => whnf); all_goals try exact ⟨by decide⟩)
  (refine CallN.q (tR9 s t1 w1 9 false 0 0 0 0 0 b [] 0 hs) [0, 1] ?_; rintro ⟨n, t2, w2⟩ h2; (repeat' ((conv => whnf); first | apply And.intro | exact ⟨by kernel_rfl⟩ | apply DrawN.mk | apply CodeN.step hm rfl | exact trivial | exact rfl | (intro hh; try simp only [bs] at hh; try exact absurd hh (by decide)))); all_goals (conv => whnf); all_goals try exact ⟨by decide⟩)
  (refine RetN.q ((b, n), t2, w2) [0, 1] ?_ ?_ ?_ <;> (repeat' ((conv => whnf) <;> first | exact rfl | exact trivial | apply And.intro | exact Nat.zero_add _)); all_goals ((conv => whnf); try simp only []))
  exact name_rd h1 h2
theorem pageRM (s : Bytes) (hs : s.length ≤ 1000000) : Meets Try.prog 77 [.ptr 0 0, .ptr 1 0] [prC s 1 false, cmdA .snil (cmd0 9)] (Y := Cmd × Int × Bool) (ByE s 9) (fun _ => .tup []) (fun y => [prC s y.2.1 y.2.2, cmdA .snil y.1]) := by
  refine Meets.intro hm (fn := Try.f77) Try.func77 rfl (by decide) (Nat.le_of_ble_eq_true rfl) (fun _ => rfl) ?_; intro S hok; (conv => whnf)
  (repeat' ((conv => whnf); first | apply And.intro | exact ⟨by kernel_rfl⟩ | apply DrawN.mk | apply CodeN.step hm rfl | exact trivial | exact rfl | (intro hh; try simp only [bs] at hh))); all_goals (conv => whnf)
  (refine CallN.q (nameRM9 s hs) [0, 1] ?_; rintro ⟨⟨b, n⟩, t1, w1⟩ h1; (repeat' ((conv => whnf); first | apply And.intro | exact ⟨by kernel_rfl⟩ | apply DrawN.mk | apply CodeN.step hm rfl | exact trivial | exact rfl | (intro hh; try simp only [bs] at hh; try exact absurd hh (by decide)))); all_goals (conv => whnf); all_goals try exact ⟨by decide⟩)
  (refine CallN.q (nR10 s t1 w1 9 false 0 0 0 0 0 b n 0 1 (by omega) hs) [0, 1] ?_; rintro ⟨m, t2, w2⟩ h2; (repeat' ((conv => whnf); first | apply And.intro | exact ⟨by kernel_rfl⟩ | apply DrawN.mk | apply CodeN.step hm rfl | exact trivial | exact rfl | (intro hh; try simp only [bs] at hh; try exact absurd hh (by decide)))); all_goals (conv => whnf); all_goals try exact ⟨by decide⟩)
  (refine RetN.q ((9, false, [], 0, (0, 0, 0, 0), (b, n), m), t2, w2) [0, 1] ?_ ?_ ?_ <;> (repeat' ((conv => whnf) <;> first | exact rfl | exact trivial | apply And.intro | exact Nat.zero_add _)); all_goals ((conv => whnf); try simp only []))
  refine (RdQ.seq (f := fun _ t => readL s t [1]) (fun (x : Int × Bytes) (l : List Int) => ((9, false, [], 0, (0, 0, 0, 0), x, l.getD 0 0) : Cmd)) h1 (num_rd h2)).of ?_ rfl
  simp only [readB]
  cases readName s 1 with
  | none => rfl
  | some x =>
    obtain ⟨x, t⟩ := x
    simp only [readL1]
    by_cases h : (number s t 1).2.2 = 0
    · simp only [h, if_true]; rfl
    · simp only [h, if_false]
theorem nothingRM (s : Bytes) (hs : s.length ≤ 1000000) : Meets Try.prog 76 [.ptr 0 0, .ptr 1 0] [prC s 1 false, cmdA .snil (cmd0 8)] (Y := Cmd × Int × Bool) (ByE s 8) (fun _ => .tup []) (fun y => [prC s y.2.1 y.2.2, cmdA .snil y.1]) := by
  refine Meets.intro hm (fn := Try.f76) Try.func76 rfl (by decide) (Nat.le_of_ble_eq_true rfl) (fun _ => rfl) ?_; intro S hok; (conv => whnf)
  (repeat' ((conv => whnf); first | apply And.intro | exact ⟨by kernel_rfl⟩ | apply DrawN.mk | apply CodeN.step hm rfl | exact trivial | exact rfl | (intro hh; try simp only [bs] at hh))); all_goals (conv => whnf)
  (refine RetN.q (cmd0 8, 1, false) [0, 1] ?_ ?_ ?_ <;> (repeat' ((conv => whnf) <;> first | exact rfl | exact trivial | apply And.intro | exact Nat.zero_add _)); all_goals ((conv => whnf); try simp only []))
  exact ⟨fun _ => ⟨rfl, rfl⟩, fun h => (by cases h)⟩
theorem setRM (s : Bytes) (hs : s.length ≤ 1000000) : Meets Try.prog 74 [.ptr 0 0, .ptr 1 0] [prC s 1 false, cmdA .snil (cmd0 5)] (Y := Cmd × Int × Bool) (ByE s 5) (fun _ => .tup []) (fun y => [prC s y.2.1 y.2.2, cmdA .snil y.1]) := by
  have hb : Meets Try.prog 75 [.ptr 0 0, .ptr 1 0] [prC s 1 false, cmdA .snil (cmd0 5)] (Y := Int × Int × Bool) (NumQ s 1 1 false) (fun _ => .tup []) (fun y => [prC s y.2.1 y.2.2, cmdA .snil (5, false, [], y.1, (0, 0, 0, 0), (0, []), 0)]) := by
    refine Meets.intro hm (fn := Try.f75) Try.func75 rfl (by decide) (Nat.le_of_ble_eq_true rfl) (fun _ => rfl) ?_; intro S hok; (conv => whnf)
    (repeat' ((conv => whnf); first | apply And.intro | exact ⟨by kernel_rfl⟩ | apply DrawN.mk | apply CodeN.step hm rfl | exact trivial | exact rfl | (intro hh; try simp only [bs] at hh))); all_goals (conv => whnf)
    (refine CallN.q (nR3 s 1 false 5 false 0 0 0 0 0 0 [] 0 1 (by omega) hs) [0, 1] ?_; rintro ⟨b, t1, w1⟩ h1; (repeat' ((conv => whnf); first | apply And.intro | exact ⟨by kernel_rfl⟩ | apply DrawN.mk | apply CodeN.step hm rfl | exact trivial | exact rfl | (intro hh; try simp only [bs] at hh; try exact absurd hh (by decide)))); all_goals (conv => whnf); all_goals try exact ⟨by decide⟩)
    (refine RetN.q (b, t1, w1) [0, 1] ?_ ?_ ?_ <;> (repeat' ((conv => whnf) <;> first | exact rfl | exact trivial | apply And.intro | exact Nat.zero_add _)); all_goals ((conv => whnf); try simp only []))
    exact h1
  refine Meets.intro hm (fn := Try.f74) Try.func74 rfl (by decide) (Nat.le_of_ble_eq_true rfl) (fun _ => rfl) ?_; intro S hok; (conv => whnf)
  (repeat' ((conv => whnf); first | apply And.intro | exact ⟨by kernel_rfl⟩ | apply DrawN.mk | apply CodeN.step hm rfl | exact trivial | exact rfl | (intro hh; try simp only [bs] at hh))); all_goals (conv => whnf)
  (refine CallN.q hb [0, 1] ?_; rintro ⟨b, t1, w1⟩ h1; (repeat' ((conv => whnf); first | apply And.intro | exact ⟨by kernel_rfl⟩ | apply DrawN.mk | apply CodeN.step hm rfl | exact trivial | exact rfl | (intro hh; try simp only [bs] at hh; try exact absurd hh (by decide)))); all_goals (conv => whnf); all_goals try exact ⟨by decide⟩)
  (refine CallN.q (nR4 s t1 w1 5 false b 0 0 0 0 0 [] 0 1 (by omega) hs) [0, 1] ?_; rintro ⟨p1, t2, w2⟩ h2; (repeat' ((conv => whnf); first | apply And.intro | exact ⟨by kernel_rfl⟩ | apply DrawN.mk | apply CodeN.step hm rfl | exact trivial | exact rfl | (intro hh; try simp only [bs] at hh; try exact absurd hh (by decide)))); all_goals (conv => whnf); all_goals try exact ⟨by decide⟩)
  (refine CallN.q (nR5 s t2 w2 5 false b p1 0 0 0 0 [] 0 4 (by omega) hs) [0, 1] ?_; rintro ⟨p2, t3, w3⟩ h3; (repeat' ((conv => whnf); first | apply And.intro | exact ⟨by kernel_rfl⟩ | apply DrawN.mk | apply CodeN.step hm rfl | exact trivial | exact rfl | (intro hh; try simp only [bs] at hh; try exact absurd hh (by decide)))); all_goals (conv => whnf); all_goals try exact ⟨by decide⟩)
  (refine CallN.q (nR6 s t3 w3 5 false b p1 p2 0 0 0 [] 0 4 (by omega) hs) [0, 1] ?_; rintro ⟨p3, t4, w4⟩ h4; (repeat' ((conv => whnf); first | apply And.intro | exact ⟨by kernel_rfl⟩ | apply DrawN.mk | apply CodeN.step hm rfl | exact trivial | exact rfl | (intro hh; try simp only [bs] at hh; try exact absurd hh (by decide)))); all_goals (conv => whnf); all_goals try exact ⟨by decide⟩)
  (refine CallN.q (nR7 s t4 w4 5 false b p1 p2 p3 0 0 [] 0 1 (by omega) hs) [0, 1] ?_; rintro ⟨p4, t5, w5⟩ h5; (repeat' ((conv => whnf); first | apply And.intro | exact ⟨by kernel_rfl⟩ | apply DrawN.mk | apply CodeN.step hm rfl | exact trivial | exact rfl | (intro hh; try simp only [bs] at hh; try exact absurd hh (by decide)))); all_goals (conv => whnf); all_goals try exact ⟨by decide⟩)
  (refine RetN.q ((5, false, [], b, (p1, p2, p3, p4), (0, []), 0), t5, w5) [0, 1] ?_ ?_ ?_ <;> (repeat' ((conv => whnf) <;> first | exact rfl | exact trivial | apply And.intro | exact Nat.zero_add _)); all_goals ((conv => whnf); try simp only []))
  have h := nums_rd h1 (nums_rd h2 (nums_rd h3 (nums_rd h4 (num_rd h5))))
  refine ⟨fun e => ?_, fun e => .inr ?_⟩
  · obtain ⟨g1, g2⟩ := h.ok e
    exact ⟨rfl, by simp only [readB, g2]⟩
  · rcases h.bad e with g | g
    · cases g
    · simp only [readB, g]
theorem singleRM (s : Bytes) (k : Int) (hk : k = 1 ∨ k = 3) (hs : s.length ≤ 1000000) : Meets Try.prog 71 [.ptr 0 0, .ptr 1 0] [prC s 1 false, cmdA .snil (cmd0 k)] (Y := Cmd × Int × Bool) (fun y => ByQ s k y ∧ y.1.2.2.1.length = 1) (fun _ => .tup []) (fun y => [prC s y.2.1 y.2.2, cmdA (.vec 2 3 (fun _ => 0) (fun _ => 1)) y.1, .row 80 AskT fun _ => y.1.2.2.1]) := by
  refine Meets.intro hm (fn := Try.f71) Try.func71 rfl (by decide) (Nat.le_of_ble_eq_true rfl) (fun _ => rfl) ?_; intro S hok; (conv => whnf)
  (repeat' ((conv => whnf); first | apply And.intro | exact ⟨by kernel_rfl⟩ | apply DrawN.mk | apply CodeN.step hm rfl | exact trivial | exact rfl | (intro hh; try simp only [bs] at hh))); all_goals (conv => whnf)
  · exact Ob.mk ⟨by decide, by decide, by decide, by show ((32 : Nat) : Int) * 1 ≤ _; omega⟩
  · exact Ob.mk (by simp)
  · (refine CallN.q (askRM s 1 false (List.replicate 1 (0, [], 0)) 0 (by simp) hs) [0, 2] ?_; rintro ⟨x, t1, w1⟩ h1; (repeat' ((conv => whnf); first | apply And.intro | exact ⟨by kernel_rfl⟩ | apply DrawN.mk | apply CodeN.step hm rfl | exact trivial | exact rfl | (intro hh; try simp only [bs] at hh; try exact absurd hh (by decide)))); all_goals (conv => whnf); all_goals try exact ⟨by decide⟩)
    (refine RetN.q ((k, false, [x], 0, (0, 0, 0, 0), (0, []), 0), t1, w1) [0, 1, 2] ?_ ?_ ?_ <;> (repeat' ((conv => whnf) <;> first | exact rfl | exact trivial | apply And.intro | exact Nat.zero_add _)); all_goals ((conv => whnf); try simp only []))
    refine (RdQ.map (fun a : Ask => ((k, false, [a], 0, (0, 0, 0, 0), (0, []), 0) : Cmd)) h1).of ?_ rfl
    rcases hk with rfl | rfl <;> (simp only [readB]; all_goals (cases readAsk s 1 <;> rfl))
  · exfalso; exact absurd hh (by decide)
  · exfalso; exact absurd hh (by decide)
theorem readB2 {s : Bytes} {al n t2 : Int} {w2 : Bool} (h : RdQ (readL s 1 [1, 1]) false ([al, n], t2, w2)) :
    (w2 = true ∨ 1 < al ∨ 32 < n → readB s 2 1 = none) ∧ (w2 = false → ¬ 1 < al → ¬ 32 < n → readB s 2 1 = match readN (readAsk s) n.toNat t2 with | some (l, t) => some ((2, decide (al = 1), l, 0, (0, 0, 0, 0), (0, []), 0), t) | none => none) := by
  refine ⟨fun e => ?_, fun h1 h2 h3 => ?_⟩
  · simp only [readB]
    cases w2
    · obtain ⟨_, g⟩ := h.ok rfl
      rw [g]
      simp only []
      rw [if_pos (e.resolve_left (by simp))]
    · rcases h.bad rfl with g | g
      · cases g
      · rw [g]
  · obtain ⟨_, g⟩ := h.ok h1
    simp only [readB]
    rw [g]
    simp only []
    rw [if_neg (by omega)]
    all_goals (cases readN (readAsk s) n.toNat t2 <;> rfl)
theorem num_nonneg {s : Bytes} {t : Int} {w : Nat} {w0 : Bool} {y : Int × Int × Bool} (hw : w ≤ 8) (h : NumQ s t w w0 y) (e : y.2.2 = false) : 0 ≤ y.1 := by
  obtain ⟨_, g⟩ := h.ok e
  have := (An.number_get hw (by rw [g])).2.2.2.1
  rw [g] at this
  exact (fits_iff.1 this).1
theorem RdQ.snoc {α : Type} {f : Int → Option (α × Int)} {i : Nat} {t0 t t' : Int} {w0 w w' : Bool} {l : List α} {x : α} (hr : RdQ (readN f i t0) w0 (l, t, w)) (hq : RdQ (f t) w (x, t', w')) : RdQ (readN f (i + 1) t0) w0 (l ++ [x], t', w') := by
  refine ⟨fun h => ?_, fun h => ?_⟩
  · obtain ⟨e1, e2⟩ := hq.ok h
    obtain ⟨e3, e4⟩ := hr.ok e1
    exact ⟨e3, by simp only [readN, e4, e2]⟩
  · rcases hq.bad h with e | e
    · exact (hr.bad e).imp id fun e => by simp only [readN, e]
    · by_cases hw : w = false
      · obtain ⟨e3, e4⟩ := hr.ok hw
        exact .inr (by simp only [readN, e4, e])
      · exact (hr.bad (by simpa using hw)).imp id fun e => by simp only [readN, e]
theorem batchRM (s : Bytes) (hs : s.length ≤ 1000000) : Meets Try.prog 72 [.ptr 0 0, .ptr 1 0] [prC s 1 false, cmdA .snil (cmd0 2)] (Y := (Cmd × Int × Bool) × Bool) (fun y => ByQ s 2 y.1 ∧ (y.2 = false → y.1.1.2.2.1 = [])) (fun _ => .tup [])
    (fun y => [prC s y.1.2.1 y.1.2.2, cmdA (match y.2 with | true => .vec 2 3 (fun _ => 0) (fun _ => y.1.1.2.2.1.length) | false => .snil) y.1.1] ++ (match y.2 with | true => [.row 80 AskT fun _ => y.1.1.2.2.1] | false => [])) := by
  refine Meets.intro hm (fn := Try.f72) Try.func72 rfl (by decide) (Nat.le_of_ble_eq_true rfl) (fun _ => rfl) ?_; intro S hok; (conv => whnf)
  (repeat' ((conv => whnf); first | apply And.intro | exact ⟨by kernel_rfl⟩ | apply DrawN.mk | apply CodeN.step hm rfl | exact trivial | exact rfl | (intro hh; try simp only [bs] at hh; try exact absurd hh (by decide)))); all_goals (conv => whnf)
  (refine CallN.q (nRown s 1 false 0 1 (by omega) hs) [0, 2] ?_; rintro ⟨al, t1, w1⟩ h1; (repeat' ((conv => whnf); first | apply And.intro | exact ⟨by kernel_rfl⟩ | apply DrawN.mk | apply CodeN.step hm rfl | exact trivial | exact rfl | (intro hh; try simp only [bs] at hh; try exact absurd hh (by decide)))); all_goals (conv => whnf); all_goals try exact ⟨by decide⟩)
  (refine CallN.q (nRown s t1 w1 0 1 (by omega) hs) [0, 3] ?_; rintro ⟨n, t2, w2⟩ h2; (repeat' ((conv => whnf); first | apply And.intro | exact ⟨by kernel_rfl⟩ | apply DrawN.mk | apply CodeN.step hm rfl | exact trivial | exact rfl | (intro hh; try simp only [bs] at hh; try exact absurd hh (by decide)))); all_goals (conv => whnf); all_goals try exact ⟨by decide⟩)
  all_goals have hrd := nums_rd h1 (num_rd h2)
  · (refine RetN.q (((2, false, [], 0, (0, 0, 0, 0), (0, []), 0), t2, true), false) [0, 1] ?_ ?_ ?_ <;> (repeat' ((conv => whnf) <;> first | exact rfl | exact trivial | apply And.intro | exact Nat.zero_add _)); all_goals ((conv => whnf); try simp only []))
    all_goals first
      | exact decide_eq_true (by assumption)
      | exact ⟨fun h => Bool.noConfusion h, fun _ => .inr ((readB2 hrd).1 (.inr (.inr (by assumption))))⟩
      | exact fun _ => trivial
      | skip
  · have hn0 : 0 ≤ n := num_nonneg (by omega) h2 (by assumption)
    exact Ob.mk ⟨by simp only []; omega, by simp only []; omega, by simp only []; omega, by show ((32 : Nat) : Int) * n ≤ _; omega⟩
  · have hn0 : 0 ≤ n := num_nonneg (by omega) h2 (by assumption)
    obtain ⟨m, rfl⟩ := Int.eq_ofNat_of_zero_le hn0
    have hw2 : w2 = false := by assumption
    subst hw2
    have hrb := (readB2 hrd).2 rfl (by assumption) (by assumption)
    simp only [Int.toNat_natCast] at hrb
    refine LoopN.intro hm (X := Nat × List Ask × Int × Bool) (fun x => x.1 ≤ m ∧ x.2.1.length = m ∧ RdQ (readN (readAsk s) x.1 t2) false (x.2.1.take x.1, x.2.2)) (fun x => m - x.1)
      (fun x => [(58, .int .i64 fun _ => (x.1 : Int)), (57, .int .i64 fun _ => (m : Int)), (1, .ptr 1 0), (0, .ptr 0 0)])
      (fun x => [prC s x.2.2.1 x.2.2.2, cmdA (.vec 2 3 (fun _ => 0) fun _ => m) (2, decide (al = 1), [], 0, (0, 0, 0, 0), (0, []), 0), .row 80 AskT fun _ => x.2.1])
      (0, List.replicate m (0, [], 0), t2, false) [0, 1, 4] ⟨rfl, rfl, ?_, ?_⟩ ⟨Nat.zero_le _, by simp, fun _ => ⟨rfl, rfl⟩, fun h => (by cases h)⟩ (fun x hx => ?_)
    · (repeat' ((conv => whnf) <;> first | exact rfl | exact trivial | apply And.intro | exact Nat.zero_add _))
      exact decide_eq_false (by assumption)
    · (repeat' ((conv => whnf) <;> first | exact rfl | exact trivial | apply And.intro | exact Nat.zero_add _))
    obtain ⟨i, l, t, w⟩ := x
    obtain ⟨hi, hl, hr⟩ := hx
    simp only [] at hi hl hr
    (repeat' ((conv => whnf); first | apply And.intro | exact ⟨by kernel_rfl⟩ | apply DrawN.mk | apply CodeN.step hm rfl | exact trivial | exact rfl | (intro hh; try simp only [bs] at hh))); all_goals (conv => whnf)
    · exact Ob.mk (by simp only []; omega)
    · have hi2 : i < l.length := by have := Int.ofNat_lt.1 (by assumption : (i : Int) < (m : Int)); omega
      (refine CallN.q (askRM s t w l i hi2 hs) [0, 2] ?_; rintro ⟨x, t', w'⟩ hq; (repeat' ((conv => whnf); first | apply And.intro | exact ⟨by kernel_rfl⟩ | apply DrawN.mk | apply CodeN.step hm rfl | exact trivial | exact rfl | (intro hh; try simp only [bs] at hh; try exact absurd hh (by decide)))); all_goals (conv => whnf); all_goals try exact ⟨by decide⟩)
      refine ⟨(i + 1, l.set i x, t', w'), [0, 1, 2], ⟨rfl, rfl, ?_, ?_⟩, ⟨by simp only []; omega, by simp only [List.length_set]; exact hl, ?_⟩, by simp only []; omega⟩
      · (repeat' ((conv => whnf) <;> first | exact rfl | exact trivial | apply And.intro | exact Nat.zero_add _))
      · (repeat' ((conv => whnf) <;> first | exact rfl | exact trivial | apply And.intro | exact Nat.zero_add _))
        exact wr2 i (n := m) (by omega) (by omega)
      · refine (RdQ.snoc hr hq).of rfl ?_
        simp only [Prod.mk.injEq, and_true]
        rw [List.take_add_one, List.getElem?_set_self hi2, List.take_set_of_le (Nat.le_refl _)]; rfl
    · have hi3 : i = m := by omega
      subst hi3
      (refine RetN.q (((2, decide (al = 1), l, 0, (0, 0, 0, 0), (0, []), 0), t, w), true) [0, 1, 2] ?_ ?_ ?_ <;> (repeat' ((conv => whnf) <;> first | exact rfl | exact trivial | apply And.intro | exact Nat.zero_add _)); all_goals ((conv => whnf); try simp only []))
      all_goals first
        | exact hl.symm
        | (rw [← hl, List.take_length] at hr
           rw [hl] at hr
           exact (RdQ.map (fun l : List Ask => ((2, decide (al = 1), l, 0, (0, 0, 0, 0), (0, []), 0) : Cmd)) hr).of (by rw [hrb]; all_goals (cases readN (readAsk s) i t2 <;> rfl)) rfl)
        | exact fun h => Bool.noConfusion h
        | exact fun h => h.elim
        | skip
  · have hn0 : 0 ≤ n := num_nonneg (by omega) h2 (by assumption)
    exact Ob.mk ⟨by simp only []; omega, by simp only []; omega, by simp only []; omega, by show ((32 : Nat) : Int) * n ≤ _; omega⟩
  · have hn0 : 0 ≤ n := num_nonneg (by omega) h2 (by assumption)
    obtain ⟨m, rfl⟩ := Int.eq_ofNat_of_zero_le hn0
    have hw2 : w2 = false := by assumption
    subst hw2
    have hrb := (readB2 hrd).2 rfl (by assumption) (by assumption)
    simp only [Int.toNat_natCast] at hrb
    refine LoopN.intro hm (X := Nat × List Ask × Int × Bool) (fun x => x.1 ≤ m ∧ x.2.1.length = m ∧ RdQ (readN (readAsk s) x.1 t2) false (x.2.1.take x.1, x.2.2)) (fun x => m - x.1)
      (fun x => [(58, .int .i64 fun _ => (x.1 : Int)), (57, .int .i64 fun _ => (m : Int)), (1, .ptr 1 0), (0, .ptr 0 0)])
      (fun x => [prC s x.2.2.1 x.2.2.2, cmdA (.vec 2 3 (fun _ => 0) fun _ => m) (2, decide (al = 1), [], 0, (0, 0, 0, 0), (0, []), 0), .row 80 AskT fun _ => x.2.1])
      (0, List.replicate m (0, [], 0), t2, false) [0, 1, 4] ⟨rfl, rfl, ?_, ?_⟩ ⟨Nat.zero_le _, by simp, fun _ => ⟨rfl, rfl⟩, fun h => (by cases h)⟩ (fun x hx => ?_)
    · (repeat' ((conv => whnf) <;> first | exact rfl | exact trivial | apply And.intro | exact Nat.zero_add _))
      exact decide_eq_false (by assumption)
    · (repeat' ((conv => whnf) <;> first | exact rfl | exact trivial | apply And.intro | exact Nat.zero_add _))
    obtain ⟨i, l, t, w⟩ := x
    obtain ⟨hi, hl, hr⟩ := hx
    simp only [] at hi hl hr
    (repeat' ((conv => whnf); first | apply And.intro | exact ⟨by kernel_rfl⟩ | apply DrawN.mk | apply CodeN.step hm rfl | exact trivial | exact rfl | (intro hh; try simp only [bs] at hh))); all_goals (conv => whnf)
    · exact Ob.mk (by simp only []; omega)
    · have hi2 : i < l.length := by have := Int.ofNat_lt.1 (by assumption : (i : Int) < (m : Int)); omega
      (refine CallN.q (askRM s t w l i hi2 hs) [0, 2] ?_; rintro ⟨x, t', w'⟩ hq; (repeat' ((conv => whnf); first | apply And.intro | exact ⟨by kernel_rfl⟩ | apply DrawN.mk | apply CodeN.step hm rfl | exact trivial | exact rfl | (intro hh; try simp only [bs] at hh; try exact absurd hh (by decide)))); all_goals (conv => whnf); all_goals try exact ⟨by decide⟩)
      refine ⟨(i + 1, l.set i x, t', w'), [0, 1, 2], ⟨rfl, rfl, ?_, ?_⟩, ⟨by simp only []; omega, by simp only [List.length_set]; exact hl, ?_⟩, by simp only []; omega⟩
      · (repeat' ((conv => whnf) <;> first | exact rfl | exact trivial | apply And.intro | exact Nat.zero_add _))
      · (repeat' ((conv => whnf) <;> first | exact rfl | exact trivial | apply And.intro | exact Nat.zero_add _))
        exact wr2 i (n := m) (by omega) (by omega)
      · refine (RdQ.snoc hr hq).of rfl ?_
        simp only [Prod.mk.injEq, and_true]
        rw [List.take_add_one, List.getElem?_set_self hi2, List.take_set_of_le (Nat.le_refl _)]; rfl
    · have hi3 : i = m := by omega
      subst hi3
      (refine RetN.q (((2, decide (al = 1), l, 0, (0, 0, 0, 0), (0, []), 0), t, w), true) [0, 1, 2] ?_ ?_ ?_ <;> (repeat' ((conv => whnf) <;> first | exact rfl | exact trivial | apply And.intro | exact Nat.zero_add _)); all_goals ((conv => whnf); try simp only []))
      all_goals first
        | exact hl.symm
        | (rw [← hl, List.take_length] at hr
           rw [hl] at hr
           exact (RdQ.map (fun l : List Ask => ((2, decide (al = 1), l, 0, (0, 0, 0, 0), (0, []), 0) : Cmd)) hr).of (by rw [hrb]; all_goals (cases readN (readAsk s) i t2 <;> rfl)) rfl)
        | exact fun h => Bool.noConfusion h
        | exact fun h => h.elim
        | skip
  · (refine RetN.q (((2, false, [], 0, (0, 0, 0, 0), (0, []), 0), t2, true), false) [0, 1] ?_ ?_ ?_ <;> (repeat' ((conv => whnf) <;> first | exact rfl | exact trivial | apply And.intro | exact Nat.zero_add _)); all_goals ((conv => whnf); try simp only []))
    all_goals first
      | exact decide_eq_true (by assumption)
      | exact ⟨fun h => Bool.noConfusion h, fun _ => .inr ((readB2 hrd).1 (.inr (.inl (by assumption))))⟩
      | exact fun _ => trivial
      | skip
  · (refine RetN.q (((2, false, [], 0, (0, 0, 0, 0), (0, []), 0), t2, true), false) [0, 1] ?_ ?_ ?_ <;> (repeat' ((conv => whnf) <;> first | exact rfl | exact trivial | apply And.intro | exact Nat.zero_add _)); all_goals ((conv => whnf); try simp only []))
    all_goals first
      | exact ⟨fun h => Bool.noConfusion h, fun _ => .inr ((readB2 hrd).1 (.inl (by assumption)))⟩
      | exact fun _ => trivial
      | skip
end Go.Proofs.Ytoipgandilhdeaa.Wi
set_option linter.unusedVariables false
set_option linter.unusedSimpArgs false
namespace Go.Proofs.Ytoipgandilhdeaa.Wi
open Go Go.RowKit Fw Nu
open An (byv byv_len byv_app byv_back byv_range fitsB fits_iff wides bads wides_len fits_neg shr_ne from_ readL readL_get readL_put readName nameB nameW name_get name_put readN readN_get readN_put bads_cons bads_nil bads_book fits_one)
def kindsC : Chunk := .smp .i64 [1, 3, 2, 4, 5, 6, 7, 8, 9] [.fn (.func 71) [] [], .fn (.func 71) [] [], .fn (.func 72) [] [], .fn (.func 73) [] [],
  .fn (.func 74) [] [], .fn (.func 75) [] [], .fn (.func 75) [] [], .fn (.func 76) [] [], .fn (.func 77) [] []]
theorem kindsM : Meets Try.prog 52 [] [] (Y := Unit) (fun _ => True) (fun _ => .mp 0) (fun _ => [kindsC]) := by
  refine Meets.intro hm (fn := Try.f52) Try.func52 rfl (by decide) (Nat.le_of_ble_eq_true rfl) (fun _ => rfl) ?_; intro S hok; (conv => whnf)
  (repeat' ((conv => whnf); first | apply And.intro | exact ⟨by kernel_rfl⟩ | apply DrawN.mk | apply CodeN.step hm rfl | exact trivial | exact rfl | (intro hh; try simp only [bs] at hh))); all_goals (conv => whnf)
  (refine RetN.q () [0] ?_ ?_ ?_ <;> (repeat' ((conv => whnf) <;> first | exact rfl | exact trivial | apply And.intro | exact Nat.zero_add _)); all_goals ((conv => whnf); try simp only []))
def cmdAV (c : Cmd) : AV := .agg [.int .i64 fun _ => c.1, .bool fun _ => c.2.1, .lst AskT fun _ => c.2.2.1, .int .i64 fun _ => c.2.2.2.1, .int .i64 fun _ => c.2.2.2.2.1.1, .int .i64 fun _ => c.2.2.2.2.1.2.1, .int .i64 fun _ => c.2.2.2.2.1.2.2.1, .int .i64 fun _ => c.2.2.2.2.1.2.2.2, .int .i64 fun _ => c.2.2.2.2.2.1.1, .str fun _ => c.2.2.2.2.2.1.2, .int .i64 fun _ => c.2.2.2.2.2.2]
structure ReadQ (s : Bytes) (k : Int) (y : Cmd × Bool) : Prop where
  ok : y.2 = true → readB s k 1 = some (y.1, (s.length : Int))
  bad : y.2 = false → ∀ c, readB s k 1 ≠ some (c, (s.length : Int))
theorem by_read {s : Bytes} {k : Int} {c : Cmd} {t : Int} {w b : Bool} (h : ByQ s k (c, t, w)) (hb : b = (!w && t == (s.length : Int))) : ReadQ s k (c, b) := by
  subst hb
  refine ⟨fun e => ?_, fun e c' hc => ?_⟩
  · simp only [Bool.and_eq_true, Bool.not_eq_true', beq_iff_eq] at e
    obtain ⟨_, g⟩ := h.ok e.1
    rw [g, e.2]
  · cases w
    · obtain ⟨_, g⟩ := h.ok rfl
      rw [g] at hc
      simp only [Option.some.injEq, Prod.mk.injEq] at hc
      have hc2 : t = (s.length : Int) := hc.2
      rw [hc2] at e
      simp at e
    · rcases h.bad rfl with g | g
      · cases g
      · rw [g] at hc; cases hc
theorem take_all (l : List Ask) : List.take l.length (List.drop 0 l) = l := by rw [List.drop_zero, List.take_length]
theorem take_one {l : List Ask} (h : l.length = 1) : List.take 1 (List.drop 0 l) = l := by rw [List.drop_zero, ← h, List.take_length]
theorem readM (s : Bytes) (k : Int) (hk : 1 ≤ k ∧ k ≤ 9) (hs : s.length ≤ 1000000) : Meets Try.prog 53 [.int .i64 fun _ => k, .str fun _ => s] [] (Y := Cmd × Bool) (ReadQ s k) (fun y => .tup [cmdAV y.1, .bool fun _ => y.2]) (fun _ => []) := by
  refine Meets.intro hm (fn := Try.f53) Try.func53 rfl (by decide) (Nat.le_of_ble_eq_true rfl) (fun _ => rfl) ?_; intro S hok; (conv => whnf)
  (repeat' ((conv => whnf); first | apply And.intro | exact ⟨by kernel_rfl⟩ | apply DrawN.mk | apply CodeN.step hm rfl | exact trivial | exact rfl | (intro hh; try simp only [bs] at hh))); all_goals (conv => whnf)
  (refine CallN.q kindsM [] (fun _ _ => ?_); (repeat' ((conv => whnf); first | apply And.intro | exact ⟨by kernel_rfl⟩ | apply DrawN.mk | apply CodeN.step hm rfl | exact trivial | exact rfl | (intro hh; try simp only [bs] at hh; try exact absurd hh (by decide)))); all_goals (conv => whnf); all_goals try exact ⟨by decide⟩)
  · have e : k = 1 := by assumption
    subst e
    (refine CallN.q (singleRM s 1 (.inl rfl) hs) [1, 2] ?_; rintro ⟨c, t, w⟩ ⟨h, h1⟩; (repeat' ((conv => whnf); first | apply And.intro | exact ⟨by kernel_rfl⟩ | apply DrawN.mk | apply CodeN.step hm rfl | exact trivial | exact rfl | (intro hh; try simp only [bs] at hh; try exact absurd hh (by decide)))); all_goals (conv => whnf); all_goals try exact ⟨by decide⟩)
    · refine RetN.unrow 4 rfl ?_; (conv => whnf); (refine RetN.frz 4 ?_; (conv => whnf))
      (refine RetN.q (c, t == (s.length : Int)) [] ?_ ?_ ?_ <;> (repeat' ((conv => whnf) <;> first | exact rfl | exact trivial | apply And.intro | exact Nat.zero_add _)); all_goals ((conv => whnf); try simp only []))
      all_goals first | exact by_read h (by simp [*]) | assumption | exact take_one h1 | exact take_all _ | exact h1 rfl | skip
    · refine RetN.unrow 4 rfl ?_; (conv => whnf); (refine RetN.frz 4 ?_; (conv => whnf))
      (refine RetN.q (c, false) [] ?_ ?_ ?_ <;> (repeat' ((conv => whnf) <;> first | exact rfl | exact trivial | apply And.intro | exact Nat.zero_add _)); all_goals ((conv => whnf); try simp only []))
      all_goals first | exact by_read h (by simp [*]) | assumption | exact take_one h1 | exact take_all _ | exact h1 rfl | skip
  · have e : k = 3 := by assumption
    subst e
    (refine CallN.q (singleRM s 3 (.inr rfl) hs) [1, 2] ?_; rintro ⟨c, t, w⟩ ⟨h, h1⟩; (repeat' ((conv => whnf); first | apply And.intro | exact ⟨by kernel_rfl⟩ | apply DrawN.mk | apply CodeN.step hm rfl | exact trivial | exact rfl | (intro hh; try simp only [bs] at hh; try exact absurd hh (by decide)))); all_goals (conv => whnf); all_goals try exact ⟨by decide⟩)
    · refine RetN.unrow 4 rfl ?_; (conv => whnf); (refine RetN.frz 4 ?_; (conv => whnf))
      (refine RetN.q (c, t == (s.length : Int)) [] ?_ ?_ ?_ <;> (repeat' ((conv => whnf) <;> first | exact rfl | exact trivial | apply And.intro | exact Nat.zero_add _)); all_goals ((conv => whnf); try simp only []))
      all_goals first | exact by_read h (by simp [*]) | assumption | exact take_one h1 | exact take_all _ | exact h1 rfl | skip
    · refine RetN.unrow 4 rfl ?_; (conv => whnf); (refine RetN.frz 4 ?_; (conv => whnf))
      (refine RetN.q (c, false) [] ?_ ?_ ?_ <;> (repeat' ((conv => whnf) <;> first | exact rfl | exact trivial | apply And.intro | exact Nat.zero_add _)); all_goals ((conv => whnf); try simp only []))
      all_goals first | exact by_read h (by simp [*]) | assumption | exact take_one h1 | exact take_all _ | exact h1 rfl | skip
  · have e : k = 2 := by assumption
    subst e
    (refine CallN.q (batchRM s hs) [1, 2] ?_; rintro ⟨⟨c, t, w⟩, _ | _⟩ ⟨h, h1⟩; (repeat' ((conv => whnf); first | apply And.intro | exact ⟨by kernel_rfl⟩ | apply DrawN.mk | apply CodeN.step hm rfl | exact trivial | exact rfl | (intro hh; try simp only [bs] at hh; try exact absurd hh (by decide)))); all_goals (conv => whnf); all_goals try exact ⟨by decide⟩)
    · skip
      (refine RetN.q (c, t == (s.length : Int)) [] ?_ ?_ ?_ <;> (repeat' ((conv => whnf) <;> first | exact rfl | exact trivial | apply And.intro | exact Nat.zero_add _)); all_goals ((conv => whnf); try simp only []))
      all_goals first | exact by_read h (by simp [*]) | assumption | exact take_one h1 | exact take_all _ | exact h1 rfl | skip
    · skip
      (refine RetN.q (c, false) [] ?_ ?_ ?_ <;> (repeat' ((conv => whnf) <;> first | exact rfl | exact trivial | apply And.intro | exact Nat.zero_add _)); all_goals ((conv => whnf); try simp only []))
      all_goals first | exact by_read h (by simp [*]) | assumption | exact take_one h1 | exact take_all _ | exact h1 rfl | skip
    · refine RetN.unrow 4 rfl ?_; (conv => whnf); (refine RetN.frz 4 ?_; (conv => whnf))
      (refine RetN.q (c, t == (s.length : Int)) [] ?_ ?_ ?_ <;> (repeat' ((conv => whnf) <;> first | exact rfl | exact trivial | apply And.intro | exact Nat.zero_add _)); all_goals ((conv => whnf); try simp only []))
      all_goals first | exact by_read h (by simp [*]) | assumption | exact take_one h1 | exact take_all _ | exact h1 rfl | skip
    · refine RetN.unrow 4 rfl ?_; (conv => whnf); (refine RetN.frz 4 ?_; (conv => whnf))
      (refine RetN.q (c, false) [] ?_ ?_ ?_ <;> (repeat' ((conv => whnf) <;> first | exact rfl | exact trivial | apply And.intro | exact Nat.zero_add _)); all_goals ((conv => whnf); try simp only []))
      all_goals first | exact by_read h (by simp [*]) | assumption | exact take_one h1 | exact take_all _ | exact h1 rfl | skip
  · have e : k = 4 := by assumption
    subst e
    (refine CallN.q (nameRM s hs) [1, 2] ?_; rintro ⟨c, t, w⟩ ⟨h, h1⟩; (repeat' ((conv => whnf); first | apply And.intro | exact ⟨by kernel_rfl⟩ | apply DrawN.mk | apply CodeN.step hm rfl | exact trivial | exact rfl | (intro hh; try simp only [bs] at hh; try exact absurd hh (by decide)))); all_goals (conv => whnf); all_goals try exact ⟨by decide⟩)
    · skip
      (refine RetN.q (c, t == (s.length : Int)) [] ?_ ?_ ?_ <;> (repeat' ((conv => whnf) <;> first | exact rfl | exact trivial | apply And.intro | exact Nat.zero_add _)); all_goals ((conv => whnf); try simp only []))
      all_goals first | exact by_read h (by simp [*]) | assumption | exact take_one h1 | exact take_all _ | exact h1 rfl | skip
    · skip
      (refine RetN.q (c, false) [] ?_ ?_ ?_ <;> (repeat' ((conv => whnf) <;> first | exact rfl | exact trivial | apply And.intro | exact Nat.zero_add _)); all_goals ((conv => whnf); try simp only []))
      all_goals first | exact by_read h (by simp [*]) | assumption | exact take_one h1 | exact take_all _ | exact h1 rfl | skip
  · have e : k = 5 := by assumption
    subst e
    (refine CallN.q (setRM s hs) [1, 2] ?_; rintro ⟨c, t, w⟩ ⟨h, h1⟩; (repeat' ((conv => whnf); first | apply And.intro | exact ⟨by kernel_rfl⟩ | apply DrawN.mk | apply CodeN.step hm rfl | exact trivial | exact rfl | (intro hh; try simp only [bs] at hh; try exact absurd hh (by decide)))); all_goals (conv => whnf); all_goals try exact ⟨by decide⟩)
    · skip
      (refine RetN.q (c, t == (s.length : Int)) [] ?_ ?_ ?_ <;> (repeat' ((conv => whnf) <;> first | exact rfl | exact trivial | apply And.intro | exact Nat.zero_add _)); all_goals ((conv => whnf); try simp only []))
      all_goals first | exact by_read h (by simp [*]) | assumption | exact take_one h1 | exact take_all _ | exact h1 rfl | skip
    · skip
      (refine RetN.q (c, false) [] ?_ ?_ ?_ <;> (repeat' ((conv => whnf) <;> first | exact rfl | exact trivial | apply And.intro | exact Nat.zero_add _)); all_goals ((conv => whnf); try simp only []))
      all_goals first | exact by_read h (by simp [*]) | assumption | exact take_one h1 | exact take_all _ | exact h1 rfl | skip
  · have e : k = 6 := by assumption
    subst e
    (refine CallN.q (bookRM s 6 (.inl rfl) hs) [1, 2] ?_; rintro ⟨c, t, w⟩ ⟨h, h1⟩; (repeat' ((conv => whnf); first | apply And.intro | exact ⟨by kernel_rfl⟩ | apply DrawN.mk | apply CodeN.step hm rfl | exact trivial | exact rfl | (intro hh; try simp only [bs] at hh; try exact absurd hh (by decide)))); all_goals (conv => whnf); all_goals try exact ⟨by decide⟩)
    · skip
      (refine RetN.q (c, t == (s.length : Int)) [] ?_ ?_ ?_ <;> (repeat' ((conv => whnf) <;> first | exact rfl | exact trivial | apply And.intro | exact Nat.zero_add _)); all_goals ((conv => whnf); try simp only []))
      all_goals first | exact by_read h (by simp [*]) | assumption | exact take_one h1 | exact take_all _ | exact h1 rfl | skip
    · skip
      (refine RetN.q (c, false) [] ?_ ?_ ?_ <;> (repeat' ((conv => whnf) <;> first | exact rfl | exact trivial | apply And.intro | exact Nat.zero_add _)); all_goals ((conv => whnf); try simp only []))
      all_goals first | exact by_read h (by simp [*]) | assumption | exact take_one h1 | exact take_all _ | exact h1 rfl | skip
  · have e : k = 7 := by assumption
    subst e
    (refine CallN.q (bookRM s 7 (.inr rfl) hs) [1, 2] ?_; rintro ⟨c, t, w⟩ ⟨h, h1⟩; (repeat' ((conv => whnf); first | apply And.intro | exact ⟨by kernel_rfl⟩ | apply DrawN.mk | apply CodeN.step hm rfl | exact trivial | exact rfl | (intro hh; try simp only [bs] at hh; try exact absurd hh (by decide)))); all_goals (conv => whnf); all_goals try exact ⟨by decide⟩)
    · skip
      (refine RetN.q (c, t == (s.length : Int)) [] ?_ ?_ ?_ <;> (repeat' ((conv => whnf) <;> first | exact rfl | exact trivial | apply And.intro | exact Nat.zero_add _)); all_goals ((conv => whnf); try simp only []))
      all_goals first | exact by_read h (by simp [*]) | assumption | exact take_one h1 | exact take_all _ | exact h1 rfl | skip
    · skip
      (refine RetN.q (c, false) [] ?_ ?_ ?_ <;> (repeat' ((conv => whnf) <;> first | exact rfl | exact trivial | apply And.intro | exact Nat.zero_add _)); all_goals ((conv => whnf); try simp only []))
      all_goals first | exact by_read h (by simp [*]) | assumption | exact take_one h1 | exact take_all _ | exact h1 rfl | skip
  · have e : k = 8 := by assumption
    subst e
    (refine CallN.q (nothingRM s hs) [1, 2] ?_; rintro ⟨c, t, w⟩ ⟨h, h1⟩; (repeat' ((conv => whnf); first | apply And.intro | exact ⟨by kernel_rfl⟩ | apply DrawN.mk | apply CodeN.step hm rfl | exact trivial | exact rfl | (intro hh; try simp only [bs] at hh; try exact absurd hh (by decide)))); all_goals (conv => whnf); all_goals try exact ⟨by decide⟩)
    · skip
      (refine RetN.q (c, t == (s.length : Int)) [] ?_ ?_ ?_ <;> (repeat' ((conv => whnf) <;> first | exact rfl | exact trivial | apply And.intro | exact Nat.zero_add _)); all_goals ((conv => whnf); try simp only []))
      all_goals first | exact by_read h (by simp [*]) | assumption | exact take_one h1 | exact take_all _ | exact h1 rfl | skip
    · skip
      (refine RetN.q (c, false) [] ?_ ?_ ?_ <;> (repeat' ((conv => whnf) <;> first | exact rfl | exact trivial | apply And.intro | exact Nat.zero_add _)); all_goals ((conv => whnf); try simp only []))
      all_goals first | exact by_read h (by simp [*]) | assumption | exact take_one h1 | exact take_all _ | exact h1 rfl | skip
  · have e : k = 9 := by assumption
    subst e
    (refine CallN.q (pageRM s hs) [1, 2] ?_; rintro ⟨c, t, w⟩ ⟨h, h1⟩; (repeat' ((conv => whnf); first | apply And.intro | exact ⟨by kernel_rfl⟩ | apply DrawN.mk | apply CodeN.step hm rfl | exact trivial | exact rfl | (intro hh; try simp only [bs] at hh; try exact absurd hh (by decide)))); all_goals (conv => whnf); all_goals try exact ⟨by decide⟩)
    · skip
      (refine RetN.q (c, t == (s.length : Int)) [] ?_ ?_ ?_ <;> (repeat' ((conv => whnf) <;> first | exact rfl | exact trivial | apply And.intro | exact Nat.zero_add _)); all_goals ((conv => whnf); try simp only []))
      all_goals first | exact by_read h (by simp [*]) | assumption | exact take_one h1 | exact take_all _ | exact h1 rfl | skip
    · skip
      (refine RetN.q (c, false) [] ?_ ?_ ?_ <;> (repeat' ((conv => whnf) <;> first | exact rfl | exact trivial | apply And.intro | exact Nat.zero_add _)); all_goals ((conv => whnf); try simp only []))
      all_goals first | exact by_read h (by simp [*]) | assumption | exact take_one h1 | exact take_all _ | exact h1 rfl | skip
  · exfalso; omega
end Go.Proofs.Ytoipgandilhdeaa.Wi
set_option linter.unusedVariables false
set_option linter.unusedSimpArgs false
namespace Go.Proofs.Ytoipgandilhdeaa.Wi
open Go Go.RowKit Fw Nu
open An (byv byv_len byv_app byv_back byv_range fitsB fits_iff wides bads wides_len fits_neg shr_ne from_ readL readL_get readL_put readName nameB nameW name_get name_put readN readN_get readN_put bads_cons bads_nil bads_book fits_one)
theorem cloneM (xs : List Ask) (hl : xs.length ≤ 100000) : Meets Try.prog 68 [.lst AskT fun _ => xs] [] (Y := Unit) (fun _ => True)
    (fun _ => .lst AskT fun _ => xs) (fun _ => []) := by
  refine Meets.intro hm (fn := Try.f68) Try.func68 rfl (by decide) (Nat.le_of_ble_eq_true rfl) (fun _ => rfl) ?_; intro S hok; (conv => whnf)
  (repeat' ((conv => whnf); first | apply And.intro | exact ⟨by kernel_rfl⟩ | apply DrawN.mk | apply CodeN.step hm rfl | exact trivial | exact rfl | (intro hh; try simp only [bs] at hh))); all_goals (conv => whnf)
  · (refine RetN.q () [] ?_ ?_ ?_ <;> (repeat' ((conv => whnf) <;> first | exact rfl | exact trivial | apply And.intro | exact Nat.zero_add _)); all_goals ((conv => whnf); try simp only []))
    exact (‹_ = true → xs = []› hh)
  · refine ⟨⟨rfl, ?_, ?_⟩⟩
    · show 0 + xs.length ≤ _
      omega
    · show (0 + xs.length) * 32 ≤ _
      omega
  · (refine RetN.frz 0 ?_; (conv => whnf))
    (refine RetN.q () [] ?_ ?_ ?_ <;> (repeat' ((conv => whnf) <;> first | exact rfl | exact trivial | apply And.intro | exact Nat.zero_add _)); all_goals ((conv => whnf); try simp only []))
    simp
theorem equalM (a b : List Ask) (ha : a.length ≤ 1000) (hb : b.length ≤ 1000) : Meets Try.prog 82 [.lst AskT fun _ => a, .lst AskT fun _ => b] [] (Y := Unit) (fun _ => True) (fun _ => .bool fun _ => decide (a = b)) (fun _ => []) := by
  refine Meets.intro hm (fn := Try.f82) Try.func82 rfl (by decide) (Nat.le_of_ble_eq_true rfl) (fun _ => rfl) ?_; intro S hok; (conv => whnf)
  (repeat' ((conv => whnf); first | apply And.intro | exact ⟨by kernel_rfl⟩ | apply DrawN.mk | apply CodeN.step hm rfl | exact trivial | exact rfl | (intro hh; try simp only [bs] at hh))); all_goals (conv => whnf)
  · (refine RetN.q () [] ?_ ?_ ?_ <;> (repeat' ((conv => whnf) <;> first | exact rfl | exact trivial | apply And.intro | exact Nat.zero_add _)); all_goals ((conv => whnf); try simp only []))
    refine decide_eq_false ?_; intro e
    exact hh (by rw [e])
  · have hl : a.length = b.length := by omega
    refine LoopN.intro hm (X := Nat) (fun i => i ≤ a.length ∧ a.take i = b.take i) (fun i => a.length - i)
      (fun i => [(13, .int .i64 fun _ => (i : Int)), (12, .int .i64 fun _ => (a.length : Int)), (11, .lst AskT fun _ => a), (0, .lst AskT fun _ => a), (1, .lst AskT fun _ => b)]) (fun _ => []) 0 [] ⟨rfl, rfl, ?_, ?_⟩ ⟨Nat.zero_le _, rfl⟩ (fun i hi => ?_)
    · (repeat' ((conv => whnf) <;> first | exact rfl | exact trivial | apply And.intro | exact Nat.zero_add _))
    · (repeat' ((conv => whnf) <;> first | exact rfl | exact trivial | apply And.intro | exact Nat.zero_add _))
    obtain ⟨hi1, hi2⟩ := hi
    (repeat' ((conv => whnf); first | apply And.intro | exact ⟨by kernel_rfl⟩ | apply DrawN.mk | apply CodeN.step hm rfl | exact trivial | exact rfl | (intro hh; try simp only [bs] at hh))); all_goals (conv => whnf)
    · exact Ob.mk (by simp only []; omega)
    · exact Ob.mk (by simp only []; omega)
    · have hx : a.getD i AskT.dflt ≠ b.getD i AskT.dflt := (eqD_no AskT rfl _ _).1 hh
      (refine RetN.q () [] ?_ ?_ ?_ <;> (repeat' ((conv => whnf) <;> first | exact rfl | exact trivial | apply And.intro | exact Nat.zero_add _)); all_goals ((conv => whnf); try simp only []))
      refine decide_eq_false ?_; intro e
      exact hx (by rw [e])
    · have hx : a.getD i AskT.dflt = b.getD i AskT.dflt := (eqD_iff AskT rfl _ _).1 hh
      refine ⟨i + 1, [], ⟨rfl, rfl, ?_, ?_⟩, ⟨by omega, take_eq_step (by omega) (by omega) hi2 hx⟩, by omega⟩
      · (repeat' ((conv => whnf) <;> first | exact rfl | exact trivial | apply And.intro | exact Nat.zero_add _))
      · (repeat' ((conv => whnf) <;> first | exact rfl | exact trivial | apply And.intro | exact Nat.zero_add _)); all_goals ((conv => whnf); try simp only [])
        exact wr2 i (n := a.length) (by omega) (by omega)
    · have e : i = a.length := by omega
      (refine RetN.q () [] ?_ ?_ ?_ <;> (repeat' ((conv => whnf) <;> first | exact rfl | exact trivial | apply And.intro | exact Nat.zero_add _)); all_goals ((conv => whnf); try simp only []))
      refine decide_eq_true ?_
      rw [e, List.take_length, hl, List.take_length] at hi2
      exact hi2
theorem sameM (a b : Cmd) (ha : a.2.2.1.length ≤ 1000) (hb : b.2.2.1.length ≤ 1000) : Meets Try.prog 70 [cmdAV a, cmdAV b] [] (Y := Unit) (fun _ => True) (fun _ => .bool fun _ => decide (a = b)) (fun _ => []) := by
  obtain ⟨ak, al, aa, ab, ap, an, am⟩ := a
  obtain ⟨bk, bl, ba, bb, bp, bn, bm⟩ := b
  refine Meets.intro hm (fn := Try.f70) Try.func70 rfl (by decide) (Nat.le_of_ble_eq_true rfl) (fun _ => rfl) ?_; intro S hok; (conv => whnf)
  (repeat' ((conv => whnf); first | apply And.intro | exact ⟨by kernel_rfl⟩ | apply DrawN.mk | apply CodeN.step hm rfl | exact trivial | exact rfl | (intro hh; try simp only [bs] at hh))); all_goals (conv => whnf)
  · (refine CallN.q (equalM aa ba ha hb) [] (fun _ _ => ?_); (repeat' ((conv => whnf); first | apply And.intro | exact ⟨by kernel_rfl⟩ | apply DrawN.mk | apply CodeN.step hm rfl | exact trivial | exact rfl | (intro hh; try simp only [bs] at hh; try exact absurd hh (by decide)))); all_goals (conv => whnf); all_goals try exact ⟨by decide⟩)
    have hp : ap = bp := (eqD_iff PolT rfl _ _).1 (by assumption)
    have hn : an = bn := (eqD_iff NameT rfl _ _).1 (by assumption)
    have e1 : ak = bk := by assumption
    have e2 : al = bl := by assumption
    have e3 : ab = bb := by assumption
    have e4 : am = bm := by assumption
    subst hp hn e1 e2 e3 e4
    (refine RetN.q () [] ?_ ?_ ?_ <;> (repeat' ((conv => whnf) <;> first | exact rfl | exact trivial | apply And.intro | exact Nat.zero_add _)); all_goals ((conv => whnf); try simp only []))
    simp
  all_goals
    (refine RetN.q () [] ?_ ?_ ?_ <;> (repeat' ((conv => whnf) <;> first | exact rfl | exact trivial | apply And.intro | exact Nat.zero_add _)); all_goals ((conv => whnf); try simp only []))
    refine decide_eq_false ?_; intro e
    simp only [Prod.mk.injEq] at e
    obtain ⟨e1, e2, e3, e4, e5, e6, e7⟩ := e
    subst e1 e2 e3 e4 e5 e6 e7
    first
      | exact hh rfl
      | exact absurd rfl ((eqD_no PolT rfl _ _).1 hh)
      | exact absurd rfl ((eqD_no NameT rfl _ _).1 hh)
structure WriteQ (c : Cmd) (y : Bytes × Bool) : Prop where
  ok : y.2 = good c
  same : good c = true → y.1 = encC c
  len : y.1.length ≤ 500000
theorem ReadQ.enc {c : Cmd} (h : bodyW c = false) {y : Cmd × Bool} (hy : ReadQ (encC c) c.1 y) : y = (strip c, true) := by
  have hr := enc_read (rest := []) h
  rw [List.append_nil] at hr
  obtain ⟨d, b⟩ := y
  cases b
  · exact absurd hr (hy.bad rfl _)
  · have := hy.ok rfl
    rw [hr] at this
    simp only [Option.some.injEq, Prod.mk.injEq, and_true] at this
    rw [this]
theorem kind_ok {k : Int} (h : 1 ≤ k ∧ k ≤ 9) : bads [(k, 1)] = false := by rw [bads_book, fits_one (by omega)]; rfl
theorem encC_len {c : Cmd} {b : Bytes} {w : Bool} (h : BodyQ (wides [(c.1, 1)]) (bads [(c.1, 1)]) c (b, w)) : b.length ≤ 400001 := by
  have := h.len
  simp only [wides1_len] at this
  omega
theorem nameBM (c : Cmd) (e : c.1 = 4) (hc : ShC c) : Meets Try.prog 73 [.ptr 0 0, .ptr 2 0] (wN (wides [(c.1, 1)]) (bads [(c.1, 1)]) ++ [cmdW c]) (Y := Bytes × Bool) (BodyQ (wides [(c.1, 1)]) (bads [(c.1, 1)]) c) (fun _ => .tup []) (fun y => wN y.1 y.2 ++ [cmdW c]) := by
  have hsl := wides1_len c.1 1
  have hb : bodyB c = nameB c.2.2.2.2.2.1 := by unfold bodyB; first | (rw [e]; rfl) | (rcases e with e | e <;> rw [e] <;> rfl)
  have hw : bodyW c = nameW c.2.2.2.2.2.1 := by unfold bodyW; first | (rw [e]; rfl) | (rcases e with e | e <;> rw [e] <;> rfl)
  have hl : (bodyB c).length ≤ 400000 := by
    rw [hb]
    have := nameB_len c.2.2.2.2.2.1
    first
      | (simp only [List.length_append, wides_len, List.map_cons, List.map_nil, List.sum_cons, List.sum_nil]; omega)
      | (simp; done)
      | omega
  refine Meets.le [0, 1, 2] (nameWM (wides [(c.1, 1)]) (bads [(c.1, 1)]) c (by omega) hc.after) rfl rfl (fun y _ => ⟨(wides [(c.1, 1)] ++ bodyB c, bads [(c.1, 1)] || bodyW c), body_of rfl rfl hl, ?_, ?_⟩)
  · (repeat' ((conv => whnf) <;> first | exact rfl | exact trivial | apply And.intro | exact Nat.zero_add _))
  · rw [hb, hw]
    (repeat' ((conv => whnf) <;> first | exact rfl | exact trivial | apply And.intro | exact Nat.zero_add _))
    all_goals first | (simp; done) | ((conv => whnf); simp; done) | skip
theorem setBM (c : Cmd) (e : c.1 = 5) (hc : ShC c) : Meets Try.prog 74 [.ptr 0 0, .ptr 2 0] (wN (wides [(c.1, 1)]) (bads [(c.1, 1)]) ++ [cmdW c]) (Y := Bytes × Bool) (BodyQ (wides [(c.1, 1)]) (bads [(c.1, 1)]) c) (fun _ => .tup []) (fun y => wN y.1 y.2 ++ [cmdW c]) := by
  have hsl := wides1_len c.1 1
  have hb : bodyB c = wides [(c.2.2.2.1, 1), (c.2.2.2.2.1.1, 1), (c.2.2.2.2.1.2.1, 4), (c.2.2.2.2.1.2.2.1, 4), (c.2.2.2.2.1.2.2.2, 1)] := by unfold bodyB; first | (rw [e]; rfl) | (rcases e with e | e <;> rw [e] <;> rfl)
  have hw : bodyW c = bads [(c.2.2.2.1, 1), (c.2.2.2.2.1.1, 1), (c.2.2.2.2.1.2.1, 4), (c.2.2.2.2.1.2.2.1, 4), (c.2.2.2.2.1.2.2.2, 1)] := by unfold bodyW; first | (rw [e]; rfl) | (rcases e with e | e <;> rw [e] <;> rfl)
  have hl : (bodyB c).length ≤ 400000 := by
    rw [hb]
    have := nameB_len c.2.2.2.2.2.1
    first
      | (simp only [List.length_append, wides_len, List.map_cons, List.map_nil, List.sum_cons, List.sum_nil]; omega)
      | (simp; done)
      | omega
  refine Meets.le [0, 1, 2] (setWM (wides [(c.1, 1)]) (bads [(c.1, 1)]) c (by omega)) rfl rfl (fun y _ => ⟨(wides [(c.1, 1)] ++ bodyB c, bads [(c.1, 1)] || bodyW c), body_of rfl rfl hl, ?_, ?_⟩)
  · (repeat' ((conv => whnf) <;> first | exact rfl | exact trivial | apply And.intro | exact Nat.zero_add _))
  · rw [hb, hw]
    (repeat' ((conv => whnf) <;> first | exact rfl | exact trivial | apply And.intro | exact Nat.zero_add _))
    all_goals first | (simp; done) | ((conv => whnf); simp; done) | skip
theorem bookBM (c : Cmd) (e : c.1 = 6 ∨ c.1 = 7) (hc : ShC c) : Meets Try.prog 75 [.ptr 0 0, .ptr 2 0] (wN (wides [(c.1, 1)]) (bads [(c.1, 1)]) ++ [cmdW c]) (Y := Bytes × Bool) (BodyQ (wides [(c.1, 1)]) (bads [(c.1, 1)]) c) (fun _ => .tup []) (fun y => wN y.1 y.2 ++ [cmdW c]) := by
  have hsl := wides1_len c.1 1
  have hb : bodyB c = wides [(c.2.2.2.1, 1)] := by unfold bodyB; first | (rw [e]; rfl) | (rcases e with e | e <;> rw [e] <;> rfl)
  have hw : bodyW c = bads [(c.2.2.2.1, 1)] := by unfold bodyW; first | (rw [e]; rfl) | (rcases e with e | e <;> rw [e] <;> rfl)
  have hl : (bodyB c).length ≤ 400000 := by
    rw [hb]
    have := nameB_len c.2.2.2.2.2.1
    first
      | (simp only [List.length_append, wides_len, List.map_cons, List.map_nil, List.sum_cons, List.sum_nil]; omega)
      | (simp; done)
      | omega
  refine Meets.le [0, 1, 2] (bookWM (wides [(c.1, 1)]) (bads [(c.1, 1)]) c (by omega)) rfl rfl (fun y _ => ⟨(wides [(c.1, 1)] ++ bodyB c, bads [(c.1, 1)] || bodyW c), body_of rfl rfl hl, ?_, ?_⟩)
  · (repeat' ((conv => whnf) <;> first | exact rfl | exact trivial | apply And.intro | exact Nat.zero_add _))
  · rw [hb, hw]
    (repeat' ((conv => whnf) <;> first | exact rfl | exact trivial | apply And.intro | exact Nat.zero_add _))
    all_goals first | (simp; done) | ((conv => whnf); simp; done) | skip
theorem nothingBM (c : Cmd) (e : c.1 = 8) (hc : ShC c) : Meets Try.prog 76 [.ptr 0 0, .ptr 2 0] (wN (wides [(c.1, 1)]) (bads [(c.1, 1)]) ++ [cmdW c]) (Y := Bytes × Bool) (BodyQ (wides [(c.1, 1)]) (bads [(c.1, 1)]) c) (fun _ => .tup []) (fun y => wN y.1 y.2 ++ [cmdW c]) := by
  have hsl := wides1_len c.1 1
  have hb : bodyB c = [] := by unfold bodyB; first | (rw [e]; rfl) | (rcases e with e | e <;> rw [e] <;> rfl)
  have hw : bodyW c = false := by unfold bodyW; first | (rw [e]; rfl) | (rcases e with e | e <;> rw [e] <;> rfl)
  have hl : (bodyB c).length ≤ 400000 := by
    rw [hb]
    have := nameB_len c.2.2.2.2.2.1
    first
      | (simp only [List.length_append, wides_len, List.map_cons, List.map_nil, List.sum_cons, List.sum_nil]; omega)
      | (simp; done)
      | omega
  refine Meets.le [0, 1, 2] (nothingWM (wides [(c.1, 1)]) (bads [(c.1, 1)]) c) rfl rfl (fun y _ => ⟨(wides [(c.1, 1)] ++ bodyB c, bads [(c.1, 1)] || bodyW c), body_of rfl rfl hl, ?_, ?_⟩)
  · (repeat' ((conv => whnf) <;> first | exact rfl | exact trivial | apply And.intro | exact Nat.zero_add _))
  · rw [hb, hw]
    (repeat' ((conv => whnf) <;> first | exact rfl | exact trivial | apply And.intro | exact Nat.zero_add _))
    all_goals first | (simp; done) | ((conv => whnf); simp; done) | skip
theorem pageBM (c : Cmd) (e : c.1 = 9) (hc : ShC c) : Meets Try.prog 77 [.ptr 0 0, .ptr 2 0] (wN (wides [(c.1, 1)]) (bads [(c.1, 1)]) ++ [cmdW c]) (Y := Bytes × Bool) (BodyQ (wides [(c.1, 1)]) (bads [(c.1, 1)]) c) (fun _ => .tup []) (fun y => wN y.1 y.2 ++ [cmdW c]) := by
  have hsl := wides1_len c.1 1
  have hb : bodyB c = nameB c.2.2.2.2.2.1 ++ wides [(c.2.2.2.2.2.2, 1)] := by unfold bodyB; first | (rw [e]; rfl) | (rcases e with e | e <;> rw [e] <;> rfl)
  have hw : bodyW c = (nameW c.2.2.2.2.2.1 || bads [(c.2.2.2.2.2.2, 1)]) := by unfold bodyW; first | (rw [e]; rfl) | (rcases e with e | e <;> rw [e] <;> rfl)
  have hl : (bodyB c).length ≤ 400000 := by
    rw [hb]
    have := nameB_len c.2.2.2.2.2.1
    first
      | (simp only [List.length_append, wides_len, List.map_cons, List.map_nil, List.sum_cons, List.sum_nil]; omega)
      | (simp; done)
      | omega
  refine Meets.le [0, 1, 2] (pageWM (wides [(c.1, 1)]) (bads [(c.1, 1)]) c (by omega) hc.after) rfl rfl (fun y _ => ⟨(wides [(c.1, 1)] ++ bodyB c, bads [(c.1, 1)] || bodyW c), body_of rfl rfl hl, ?_, ?_⟩)
  · (repeat' ((conv => whnf) <;> first | exact rfl | exact trivial | apply And.intro | exact Nat.zero_add _))
  · rw [hb, hw]
    (repeat' ((conv => whnf) <;> first | exact rfl | exact trivial | apply And.intro | exact Nat.zero_add _))
    all_goals first | (simp; done) | ((conv => whnf); simp; done) | skip
theorem writeM (c : Cmd) (hc : ShC c) : Meets Try.prog 45 [cmdAV c] [] (Y := Bytes × Bool) (WriteQ c) (fun y => .tup [.str fun _ => y.1, .bool fun _ => y.2]) (fun _ => []) := by
  refine Meets.intro hm (fn := Try.f45) Try.func45 rfl (by decide) (Nat.le_of_ble_eq_true rfl) (fun _ => rfl) ?_; intro S hok; (conv => whnf)
  (repeat' ((conv => whnf); first | apply And.intro | exact ⟨by kernel_rfl⟩ | apply DrawN.mk | apply CodeN.step hm rfl | exact trivial | exact rfl | (intro hh; try simp only [bs] at hh))); all_goals (conv => whnf)
  (refine CallN.q kindsM [] (fun _ _ => ?_); (repeat' ((conv => whnf); first | apply And.intro | exact ⟨by kernel_rfl⟩ | apply DrawN.mk | apply CodeN.step hm rfl | exact trivial | exact rfl | (intro hh; try simp only [bs] at hh; try exact absurd hh (by decide)))); all_goals (conv => whnf); all_goals try exact ⟨by decide⟩)
  · have e : c.1 = 1 := by assumption
    have hk : 1 ≤ c.1 ∧ c.1 ≤ 9 := by omega
    have hkb := kind_ok hk
    have hwl := wides1_len c.1 1
    (refine CallN.q (cloneM c.2.2.1 (by have := hc.asks; omega)) [] (fun _ _ => ?_); (repeat' ((conv => whnf); first | apply And.intro | exact ⟨by kernel_rfl⟩ | apply DrawN.mk | apply CodeN.step hm rfl | exact trivial | exact rfl | (intro hh; try simp only [bs] at hh; try exact absurd hh (by decide)))); all_goals (conv => whnf); all_goals try exact ⟨by decide⟩)
    (refine CallN.q (n0 c.2.2.1 c.1 c.2.1 c.2.2.2.1 c.2.2.2.2.1.1 c.2.2.2.2.1.2.1 c.2.2.2.2.1.2.2.1 c.2.2.2.2.1.2.2.2 c.2.2.2.2.2.1.1 c.2.2.2.2.2.1.2 c.2.2.2.2.2.2) [2, 0] (fun _ _ => ?_); (repeat' ((conv => whnf); first | apply And.intro | exact ⟨by kernel_rfl⟩ | apply DrawN.mk | apply CodeN.step hm rfl | exact trivial | exact rfl | (intro hh; try simp only [bs] at hh; try exact absurd hh (by decide)))); all_goals (conv => whnf); all_goals try exact ⟨by decide⟩)
    (refine CallN.q (singleWM (wides [(c.1, 1)]) (bads [(c.1, 1)]) c (.inl e) (by omega) hc) [2, 3, 0] ?_; rintro ⟨b, w⟩ hq; (repeat' ((conv => whnf); first | apply And.intro | exact ⟨by kernel_rfl⟩ | apply DrawN.mk | apply CodeN.step hm rfl | exact trivial | exact rfl | (intro hh; try simp only [bs] at hh; try exact absurd hh (by decide)))); all_goals (conv => whnf); all_goals try exact ⟨by decide⟩)
    · have hw : bodyW c = true := (hq.bad (by assumption)).resolve_left (by rw [hkb]; simp)
      have hg : good c = false := by rw [good, hw]; rfl
      (refine RetN.q ([], false) [] ?_ ?_ ?_ <;> (repeat' ((conv => whnf) <;> first | exact rfl | exact trivial | apply And.intro | exact Nat.zero_add _)); all_goals ((conv => whnf); try simp only []))
      exact ⟨hg.symm, fun h => (by rw [hg] at h; cases h), by simp⟩
    · obtain ⟨_, hw, hb⟩ := hq.ok (by assumption)
      have hlen := encC_len hq
      have hb : b = encC c := hb
      subst hb
      have hpos : 0 < (encC c).length := by rw [encC, List.length_append, hwl]; omega
      (refine CallN.q (stringN (encC c) w (by omega)) [2, 3] (fun _ _ => ?_); (repeat' ((conv => whnf); first | apply And.intro | exact ⟨by kernel_rfl⟩ | apply DrawN.mk | apply CodeN.step hm rfl | exact trivial | exact rfl | (intro hh; try simp only [bs] at hh; try exact absurd hh (by decide)))); all_goals (conv => whnf); all_goals try exact ⟨by decide⟩)
      refine CallN.intro (readM (encC c) c.1 hk (by omega)) [] rfl rfl ?_ ?_ ?_
      · (repeat' ((conv => whnf) <;> first | exact rfl | exact trivial | apply And.intro | exact Nat.zero_add _))
      · (repeat' ((conv => whnf) <;> first | exact rfl | exact trivial | apply And.intro | exact Nat.zero_add _))
      intro y hy
      obtain rfl := hy.enc hw
      have hsl : (strip c).2.2.1.length ≤ 1000 := by
        have := hc.asks
        unfold strip
        split <;> simp <;> omega
      (repeat' ((conv => whnf); first | apply And.intro | exact ⟨by kernel_rfl⟩ | apply DrawN.mk | apply CodeN.step hm rfl | exact trivial | exact rfl | (intro hh; try simp only [bs] at hh; try exact absurd hh (by decide)))); all_goals (conv => whnf)
      (refine CallN.q (sameM (strip c) c hsl hc.asks) [] (fun _ _ => ?_); (repeat' ((conv => whnf); first | apply And.intro | exact ⟨by kernel_rfl⟩ | apply DrawN.mk | apply CodeN.step hm rfl | exact trivial | exact rfl | (intro hh; try simp only [bs] at hh; try exact absurd hh (by decide)))); all_goals (conv => whnf); all_goals try exact ⟨by decide⟩)
      (refine RetN.q (encC c, decide (strip c = c)) [] ?_ ?_ ?_ <;> (repeat' ((conv => whnf) <;> first | exact rfl | exact trivial | apply And.intro | exact Nat.zero_add _)); all_goals ((conv => whnf); try simp only []))
      exact ⟨by simp [good, hw], fun _ => rfl, by show (encC c).length ≤ 500000; omega⟩
  · have e : c.1 = 3 := by assumption
    have hk : 1 ≤ c.1 ∧ c.1 ≤ 9 := by omega
    have hkb := kind_ok hk
    have hwl := wides1_len c.1 1
    (refine CallN.q (cloneM c.2.2.1 (by have := hc.asks; omega)) [] (fun _ _ => ?_); (repeat' ((conv => whnf); first | apply And.intro | exact ⟨by kernel_rfl⟩ | apply DrawN.mk | apply CodeN.step hm rfl | exact trivial | exact rfl | (intro hh; try simp only [bs] at hh; try exact absurd hh (by decide)))); all_goals (conv => whnf); all_goals try exact ⟨by decide⟩)
    (refine CallN.q (n0 c.2.2.1 c.1 c.2.1 c.2.2.2.1 c.2.2.2.2.1.1 c.2.2.2.2.1.2.1 c.2.2.2.2.1.2.2.1 c.2.2.2.2.1.2.2.2 c.2.2.2.2.2.1.1 c.2.2.2.2.2.1.2 c.2.2.2.2.2.2) [2, 0] (fun _ _ => ?_); (repeat' ((conv => whnf); first | apply And.intro | exact ⟨by kernel_rfl⟩ | apply DrawN.mk | apply CodeN.step hm rfl | exact trivial | exact rfl | (intro hh; try simp only [bs] at hh; try exact absurd hh (by decide)))); all_goals (conv => whnf); all_goals try exact ⟨by decide⟩)
    (refine CallN.q (singleWM (wides [(c.1, 1)]) (bads [(c.1, 1)]) c (.inr e) (by omega) hc) [2, 3, 0] ?_; rintro ⟨b, w⟩ hq; (repeat' ((conv => whnf); first | apply And.intro | exact ⟨by kernel_rfl⟩ | apply DrawN.mk | apply CodeN.step hm rfl | exact trivial | exact rfl | (intro hh; try simp only [bs] at hh; try exact absurd hh (by decide)))); all_goals (conv => whnf); all_goals try exact ⟨by decide⟩)
    · have hw : bodyW c = true := (hq.bad (by assumption)).resolve_left (by rw [hkb]; simp)
      have hg : good c = false := by rw [good, hw]; rfl
      (refine RetN.q ([], false) [] ?_ ?_ ?_ <;> (repeat' ((conv => whnf) <;> first | exact rfl | exact trivial | apply And.intro | exact Nat.zero_add _)); all_goals ((conv => whnf); try simp only []))
      exact ⟨hg.symm, fun h => (by rw [hg] at h; cases h), by simp⟩
    · obtain ⟨_, hw, hb⟩ := hq.ok (by assumption)
      have hlen := encC_len hq
      have hb : b = encC c := hb
      subst hb
      have hpos : 0 < (encC c).length := by rw [encC, List.length_append, hwl]; omega
      (refine CallN.q (stringN (encC c) w (by omega)) [2, 3] (fun _ _ => ?_); (repeat' ((conv => whnf); first | apply And.intro | exact ⟨by kernel_rfl⟩ | apply DrawN.mk | apply CodeN.step hm rfl | exact trivial | exact rfl | (intro hh; try simp only [bs] at hh; try exact absurd hh (by decide)))); all_goals (conv => whnf); all_goals try exact ⟨by decide⟩)
      refine CallN.intro (readM (encC c) c.1 hk (by omega)) [] rfl rfl ?_ ?_ ?_
      · (repeat' ((conv => whnf) <;> first | exact rfl | exact trivial | apply And.intro | exact Nat.zero_add _))
      · (repeat' ((conv => whnf) <;> first | exact rfl | exact trivial | apply And.intro | exact Nat.zero_add _))
      intro y hy
      obtain rfl := hy.enc hw
      have hsl : (strip c).2.2.1.length ≤ 1000 := by
        have := hc.asks
        unfold strip
        split <;> simp <;> omega
      (repeat' ((conv => whnf); first | apply And.intro | exact ⟨by kernel_rfl⟩ | apply DrawN.mk | apply CodeN.step hm rfl | exact trivial | exact rfl | (intro hh; try simp only [bs] at hh; try exact absurd hh (by decide)))); all_goals (conv => whnf)
      (refine CallN.q (sameM (strip c) c hsl hc.asks) [] (fun _ _ => ?_); (repeat' ((conv => whnf); first | apply And.intro | exact ⟨by kernel_rfl⟩ | apply DrawN.mk | apply CodeN.step hm rfl | exact trivial | exact rfl | (intro hh; try simp only [bs] at hh; try exact absurd hh (by decide)))); all_goals (conv => whnf); all_goals try exact ⟨by decide⟩)
      (refine RetN.q (encC c, decide (strip c = c)) [] ?_ ?_ ?_ <;> (repeat' ((conv => whnf) <;> first | exact rfl | exact trivial | apply And.intro | exact Nat.zero_add _)); all_goals ((conv => whnf); try simp only []))
      exact ⟨by simp [good, hw], fun _ => rfl, by show (encC c).length ≤ 500000; omega⟩
  · have e : c.1 = 2 := by assumption
    have hk : 1 ≤ c.1 ∧ c.1 ≤ 9 := by omega
    have hkb := kind_ok hk
    have hwl := wides1_len c.1 1
    (refine CallN.q (cloneM c.2.2.1 (by have := hc.asks; omega)) [] (fun _ _ => ?_); (repeat' ((conv => whnf); first | apply And.intro | exact ⟨by kernel_rfl⟩ | apply DrawN.mk | apply CodeN.step hm rfl | exact trivial | exact rfl | (intro hh; try simp only [bs] at hh; try exact absurd hh (by decide)))); all_goals (conv => whnf); all_goals try exact ⟨by decide⟩)
    (refine CallN.q (n0 c.2.2.1 c.1 c.2.1 c.2.2.2.1 c.2.2.2.2.1.1 c.2.2.2.2.1.2.1 c.2.2.2.2.1.2.2.1 c.2.2.2.2.1.2.2.2 c.2.2.2.2.2.1.1 c.2.2.2.2.2.1.2 c.2.2.2.2.2.2) [2, 0] (fun _ _ => ?_); (repeat' ((conv => whnf); first | apply And.intro | exact ⟨by kernel_rfl⟩ | apply DrawN.mk | apply CodeN.step hm rfl | exact trivial | exact rfl | (intro hh; try simp only [bs] at hh; try exact absurd hh (by decide)))); all_goals (conv => whnf); all_goals try exact ⟨by decide⟩)
    (refine CallN.q (batchWM (wides [(c.1, 1)]) (bads [(c.1, 1)]) c e (by omega) hc) [2, 3, 0] ?_; rintro ⟨b, w⟩ hq; (repeat' ((conv => whnf); first | apply And.intro | exact ⟨by kernel_rfl⟩ | apply DrawN.mk | apply CodeN.step hm rfl | exact trivial | exact rfl | (intro hh; try simp only [bs] at hh; try exact absurd hh (by decide)))); all_goals (conv => whnf); all_goals try exact ⟨by decide⟩)
    · have hw : bodyW c = true := (hq.bad (by assumption)).resolve_left (by rw [hkb]; simp)
      have hg : good c = false := by rw [good, hw]; rfl
      (refine RetN.q ([], false) [] ?_ ?_ ?_ <;> (repeat' ((conv => whnf) <;> first | exact rfl | exact trivial | apply And.intro | exact Nat.zero_add _)); all_goals ((conv => whnf); try simp only []))
      exact ⟨hg.symm, fun h => (by rw [hg] at h; cases h), by simp⟩
    · obtain ⟨_, hw, hb⟩ := hq.ok (by assumption)
      have hlen := encC_len hq
      have hb : b = encC c := hb
      subst hb
      have hpos : 0 < (encC c).length := by rw [encC, List.length_append, hwl]; omega
      (refine CallN.q (stringN (encC c) w (by omega)) [2, 3] (fun _ _ => ?_); (repeat' ((conv => whnf); first | apply And.intro | exact ⟨by kernel_rfl⟩ | apply DrawN.mk | apply CodeN.step hm rfl | exact trivial | exact rfl | (intro hh; try simp only [bs] at hh; try exact absurd hh (by decide)))); all_goals (conv => whnf); all_goals try exact ⟨by decide⟩)
      refine CallN.intro (readM (encC c) c.1 hk (by omega)) [] rfl rfl ?_ ?_ ?_
      · (repeat' ((conv => whnf) <;> first | exact rfl | exact trivial | apply And.intro | exact Nat.zero_add _))
      · (repeat' ((conv => whnf) <;> first | exact rfl | exact trivial | apply And.intro | exact Nat.zero_add _))
      intro y hy
      obtain rfl := hy.enc hw
      have hsl : (strip c).2.2.1.length ≤ 1000 := by
        have := hc.asks
        unfold strip
        split <;> simp <;> omega
      (repeat' ((conv => whnf); first | apply And.intro | exact ⟨by kernel_rfl⟩ | apply DrawN.mk | apply CodeN.step hm rfl | exact trivial | exact rfl | (intro hh; try simp only [bs] at hh; try exact absurd hh (by decide)))); all_goals (conv => whnf)
      (refine CallN.q (sameM (strip c) c hsl hc.asks) [] (fun _ _ => ?_); (repeat' ((conv => whnf); first | apply And.intro | exact ⟨by kernel_rfl⟩ | apply DrawN.mk | apply CodeN.step hm rfl | exact trivial | exact rfl | (intro hh; try simp only [bs] at hh; try exact absurd hh (by decide)))); all_goals (conv => whnf); all_goals try exact ⟨by decide⟩)
      (refine RetN.q (encC c, decide (strip c = c)) [] ?_ ?_ ?_ <;> (repeat' ((conv => whnf) <;> first | exact rfl | exact trivial | apply And.intro | exact Nat.zero_add _)); all_goals ((conv => whnf); try simp only []))
      exact ⟨by simp [good, hw], fun _ => rfl, by show (encC c).length ≤ 500000; omega⟩
  · have e : c.1 = 4 := by assumption
    have hk : 1 ≤ c.1 ∧ c.1 ≤ 9 := by omega
    have hkb := kind_ok hk
    have hwl := wides1_len c.1 1
    (refine CallN.q (cloneM c.2.2.1 (by have := hc.asks; omega)) [] (fun _ _ => ?_); (repeat' ((conv => whnf); first | apply And.intro | exact ⟨by kernel_rfl⟩ | apply DrawN.mk | apply CodeN.step hm rfl | exact trivial | exact rfl | (intro hh; try simp only [bs] at hh; try exact absurd hh (by decide)))); all_goals (conv => whnf); all_goals try exact ⟨by decide⟩)
    (refine CallN.q (n0 c.2.2.1 c.1 c.2.1 c.2.2.2.1 c.2.2.2.2.1.1 c.2.2.2.2.1.2.1 c.2.2.2.2.1.2.2.1 c.2.2.2.2.1.2.2.2 c.2.2.2.2.2.1.1 c.2.2.2.2.2.1.2 c.2.2.2.2.2.2) [2, 0] (fun _ _ => ?_); (repeat' ((conv => whnf); first | apply And.intro | exact ⟨by kernel_rfl⟩ | apply DrawN.mk | apply CodeN.step hm rfl | exact trivial | exact rfl | (intro hh; try simp only [bs] at hh; try exact absurd hh (by decide)))); all_goals (conv => whnf); all_goals try exact ⟨by decide⟩)
    (refine CallN.q (nameBM c e hc) [2, 3, 0] ?_; rintro ⟨b, w⟩ hq; (repeat' ((conv => whnf); first | apply And.intro | exact ⟨by kernel_rfl⟩ | apply DrawN.mk | apply CodeN.step hm rfl | exact trivial | exact rfl | (intro hh; try simp only [bs] at hh; try exact absurd hh (by decide)))); all_goals (conv => whnf); all_goals try exact ⟨by decide⟩)
    · have hw : bodyW c = true := (hq.bad (by assumption)).resolve_left (by rw [hkb]; simp)
      have hg : good c = false := by rw [good, hw]; rfl
      (refine RetN.q ([], false) [] ?_ ?_ ?_ <;> (repeat' ((conv => whnf) <;> first | exact rfl | exact trivial | apply And.intro | exact Nat.zero_add _)); all_goals ((conv => whnf); try simp only []))
      exact ⟨hg.symm, fun h => (by rw [hg] at h; cases h), by simp⟩
    · obtain ⟨_, hw, hb⟩ := hq.ok (by assumption)
      have hlen := encC_len hq
      have hb : b = encC c := hb
      subst hb
      have hpos : 0 < (encC c).length := by rw [encC, List.length_append, hwl]; omega
      (refine CallN.q (stringN (encC c) w (by omega)) [2, 3] (fun _ _ => ?_); (repeat' ((conv => whnf); first | apply And.intro | exact ⟨by kernel_rfl⟩ | apply DrawN.mk | apply CodeN.step hm rfl | exact trivial | exact rfl | (intro hh; try simp only [bs] at hh; try exact absurd hh (by decide)))); all_goals (conv => whnf); all_goals try exact ⟨by decide⟩)
      refine CallN.intro (readM (encC c) c.1 hk (by omega)) [] rfl rfl ?_ ?_ ?_
      · (repeat' ((conv => whnf) <;> first | exact rfl | exact trivial | apply And.intro | exact Nat.zero_add _))
      · (repeat' ((conv => whnf) <;> first | exact rfl | exact trivial | apply And.intro | exact Nat.zero_add _))
      intro y hy
      obtain rfl := hy.enc hw
      have hsl : (strip c).2.2.1.length ≤ 1000 := by
        have := hc.asks
        unfold strip
        split <;> simp <;> omega
      (repeat' ((conv => whnf); first | apply And.intro | exact ⟨by kernel_rfl⟩ | apply DrawN.mk | apply CodeN.step hm rfl | exact trivial | exact rfl | (intro hh; try simp only [bs] at hh; try exact absurd hh (by decide)))); all_goals (conv => whnf)
      (refine CallN.q (sameM (strip c) c hsl hc.asks) [] (fun _ _ => ?_); (repeat' ((conv => whnf); first | apply And.intro | exact ⟨by kernel_rfl⟩ | apply DrawN.mk | apply CodeN.step hm rfl | exact trivial | exact rfl | (intro hh; try simp only [bs] at hh; try exact absurd hh (by decide)))); all_goals (conv => whnf); all_goals try exact ⟨by decide⟩)
      (refine RetN.q (encC c, decide (strip c = c)) [] ?_ ?_ ?_ <;> (repeat' ((conv => whnf) <;> first | exact rfl | exact trivial | apply And.intro | exact Nat.zero_add _)); all_goals ((conv => whnf); try simp only []))
      exact ⟨by simp [good, hw], fun _ => rfl, by show (encC c).length ≤ 500000; omega⟩
  · have e : c.1 = 5 := by assumption
    have hk : 1 ≤ c.1 ∧ c.1 ≤ 9 := by omega
    have hkb := kind_ok hk
    have hwl := wides1_len c.1 1
    (refine CallN.q (cloneM c.2.2.1 (by have := hc.asks; omega)) [] (fun _ _ => ?_); (repeat' ((conv => whnf); first | apply And.intro | exact ⟨by kernel_rfl⟩ | apply DrawN.mk | apply CodeN.step hm rfl | exact trivial | exact rfl | (intro hh; try simp only [bs] at hh; try exact absurd hh (by decide)))); all_goals (conv => whnf); all_goals try exact ⟨by decide⟩)
    (refine CallN.q (n0 c.2.2.1 c.1 c.2.1 c.2.2.2.1 c.2.2.2.2.1.1 c.2.2.2.2.1.2.1 c.2.2.2.2.1.2.2.1 c.2.2.2.2.1.2.2.2 c.2.2.2.2.2.1.1 c.2.2.2.2.2.1.2 c.2.2.2.2.2.2) [2, 0] (fun _ _ => ?_); (repeat' ((conv => whnf); first | apply And.intro | exact ⟨by kernel_rfl⟩ | apply DrawN.mk | apply CodeN.step hm rfl | exact trivial | exact rfl | (intro hh; try simp only [bs] at hh; try exact absurd hh (by decide)))); all_goals (conv => whnf); all_goals try exact ⟨by decide⟩)
    (refine CallN.q (setBM c e hc) [2, 3, 0] ?_; rintro ⟨b, w⟩ hq; (repeat' ((conv => whnf); first | apply And.intro | exact ⟨by kernel_rfl⟩ | apply DrawN.mk | apply CodeN.step hm rfl | exact trivial | exact rfl | (intro hh; try simp only [bs] at hh; try exact absurd hh (by decide)))); all_goals (conv => whnf); all_goals try exact ⟨by decide⟩)
    · have hw : bodyW c = true := (hq.bad (by assumption)).resolve_left (by rw [hkb]; simp)
      have hg : good c = false := by rw [good, hw]; rfl
      (refine RetN.q ([], false) [] ?_ ?_ ?_ <;> (repeat' ((conv => whnf) <;> first | exact rfl | exact trivial | apply And.intro | exact Nat.zero_add _)); all_goals ((conv => whnf); try simp only []))
      exact ⟨hg.symm, fun h => (by rw [hg] at h; cases h), by simp⟩
    · obtain ⟨_, hw, hb⟩ := hq.ok (by assumption)
      have hlen := encC_len hq
      have hb : b = encC c := hb
      subst hb
      have hpos : 0 < (encC c).length := by rw [encC, List.length_append, hwl]; omega
      (refine CallN.q (stringN (encC c) w (by omega)) [2, 3] (fun _ _ => ?_); (repeat' ((conv => whnf); first | apply And.intro | exact ⟨by kernel_rfl⟩ | apply DrawN.mk | apply CodeN.step hm rfl | exact trivial | exact rfl | (intro hh; try simp only [bs] at hh; try exact absurd hh (by decide)))); all_goals (conv => whnf); all_goals try exact ⟨by decide⟩)
      refine CallN.intro (readM (encC c) c.1 hk (by omega)) [] rfl rfl ?_ ?_ ?_
      · (repeat' ((conv => whnf) <;> first | exact rfl | exact trivial | apply And.intro | exact Nat.zero_add _))
      · (repeat' ((conv => whnf) <;> first | exact rfl | exact trivial | apply And.intro | exact Nat.zero_add _))
      intro y hy
      obtain rfl := hy.enc hw
      have hsl : (strip c).2.2.1.length ≤ 1000 := by
        have := hc.asks
        unfold strip
        split <;> simp <;> omega
      (repeat' ((conv => whnf); first | apply And.intro | exact ⟨by kernel_rfl⟩ | apply DrawN.mk | apply CodeN.step hm rfl | exact trivial | exact rfl | (intro hh; try simp only [bs] at hh; try exact absurd hh (by decide)))); all_goals (conv => whnf)
      (refine CallN.q (sameM (strip c) c hsl hc.asks) [] (fun _ _ => ?_); (repeat' ((conv => whnf); first | apply And.intro | exact ⟨by kernel_rfl⟩ | apply DrawN.mk | apply CodeN.step hm rfl | exact trivial | exact rfl | (intro hh; try simp only [bs] at hh; try exact absurd hh (by decide)))); all_goals (conv => whnf); all_goals try exact ⟨by decide⟩)
      (refine RetN.q (encC c, decide (strip c = c)) [] ?_ ?_ ?_ <;> (repeat' ((conv => whnf) <;> first | exact rfl | exact trivial | apply And.intro | exact Nat.zero_add _)); all_goals ((conv => whnf); try simp only []))
      exact ⟨by simp [good, hw], fun _ => rfl, by show (encC c).length ≤ 500000; omega⟩
  · have e : c.1 = 6 := by assumption
    have hk : 1 ≤ c.1 ∧ c.1 ≤ 9 := by omega
    have hkb := kind_ok hk
    have hwl := wides1_len c.1 1
    (refine CallN.q (cloneM c.2.2.1 (by have := hc.asks; omega)) [] (fun _ _ => ?_); (repeat' ((conv => whnf); first | apply And.intro | exact ⟨by kernel_rfl⟩ | apply DrawN.mk | apply CodeN.step hm rfl | exact trivial | exact rfl | (intro hh; try simp only [bs] at hh; try exact absurd hh (by decide)))); all_goals (conv => whnf); all_goals try exact ⟨by decide⟩)
    (refine CallN.q (n0 c.2.2.1 c.1 c.2.1 c.2.2.2.1 c.2.2.2.2.1.1 c.2.2.2.2.1.2.1 c.2.2.2.2.1.2.2.1 c.2.2.2.2.1.2.2.2 c.2.2.2.2.2.1.1 c.2.2.2.2.2.1.2 c.2.2.2.2.2.2) [2, 0] (fun _ _ => ?_); (repeat' ((conv => whnf); first | apply And.intro | exact ⟨by kernel_rfl⟩ | apply DrawN.mk | apply CodeN.step hm rfl | exact trivial | exact rfl | (intro hh; try simp only [bs] at hh; try exact absurd hh (by decide)))); all_goals (conv => whnf); all_goals try exact ⟨by decide⟩)
    (refine CallN.q (bookBM c (.inl e) hc) [2, 3, 0] ?_; rintro ⟨b, w⟩ hq; (repeat' ((conv => whnf); first | apply And.intro | exact ⟨by kernel_rfl⟩ | apply DrawN.mk | apply CodeN.step hm rfl | exact trivial | exact rfl | (intro hh; try simp only [bs] at hh; try exact absurd hh (by decide)))); all_goals (conv => whnf); all_goals try exact ⟨by decide⟩)
    · have hw : bodyW c = true := (hq.bad (by assumption)).resolve_left (by rw [hkb]; simp)
      have hg : good c = false := by rw [good, hw]; rfl
      (refine RetN.q ([], false) [] ?_ ?_ ?_ <;> (repeat' ((conv => whnf) <;> first | exact rfl | exact trivial | apply And.intro | exact Nat.zero_add _)); all_goals ((conv => whnf); try simp only []))
      exact ⟨hg.symm, fun h => (by rw [hg] at h; cases h), by simp⟩
    · obtain ⟨_, hw, hb⟩ := hq.ok (by assumption)
      have hlen := encC_len hq
      have hb : b = encC c := hb
      subst hb
      have hpos : 0 < (encC c).length := by rw [encC, List.length_append, hwl]; omega
      (refine CallN.q (stringN (encC c) w (by omega)) [2, 3] (fun _ _ => ?_); (repeat' ((conv => whnf); first | apply And.intro | exact ⟨by kernel_rfl⟩ | apply DrawN.mk | apply CodeN.step hm rfl | exact trivial | exact rfl | (intro hh; try simp only [bs] at hh; try exact absurd hh (by decide)))); all_goals (conv => whnf); all_goals try exact ⟨by decide⟩)
      refine CallN.intro (readM (encC c) c.1 hk (by omega)) [] rfl rfl ?_ ?_ ?_
      · (repeat' ((conv => whnf) <;> first | exact rfl | exact trivial | apply And.intro | exact Nat.zero_add _))
      · (repeat' ((conv => whnf) <;> first | exact rfl | exact trivial | apply And.intro | exact Nat.zero_add _))
      intro y hy
      obtain rfl := hy.enc hw
      have hsl : (strip c).2.2.1.length ≤ 1000 := by
        have := hc.asks
        unfold strip
        split <;> simp <;> omega
      (repeat' ((conv => whnf); first | apply And.intro | exact ⟨by kernel_rfl⟩ | apply DrawN.mk | apply CodeN.step hm rfl | exact trivial | exact rfl | (intro hh; try simp only [bs] at hh; try exact absurd hh (by decide)))); all_goals (conv => whnf)
      (refine CallN.q (sameM (strip c) c hsl hc.asks) [] (fun _ _ => ?_); (repeat' ((conv => whnf); first | apply And.intro | exact ⟨by kernel_rfl⟩ | apply DrawN.mk | apply CodeN.step hm rfl | exact trivial | exact rfl | (intro hh; try simp only [bs] at hh; try exact absurd hh (by decide)))); all_goals (conv => whnf); all_goals try exact ⟨by decide⟩)
      (refine RetN.q (encC c, decide (strip c = c)) [] ?_ ?_ ?_ <;> (repeat' ((conv => whnf) <;> first | exact rfl | exact trivial | apply And.intro | exact Nat.zero_add _)); all_goals ((conv => whnf); try simp only []))
      exact ⟨by simp [good, hw], fun _ => rfl, by show (encC c).length ≤ 500000; omega⟩
  · have e : c.1 = 7 := by assumption
    have hk : 1 ≤ c.1 ∧ c.1 ≤ 9 := by omega
    have hkb := kind_ok hk
    have hwl := wides1_len c.1 1
    (refine CallN.q (cloneM c.2.2.1 (by have := hc.asks; omega)) [] (fun _ _ => ?_); (repeat' ((conv => whnf); first | apply And.intro | exact ⟨by kernel_rfl⟩ | apply DrawN.mk | apply CodeN.step hm rfl | exact trivial | exact rfl | (intro hh; try simp only [bs] at hh; try exact absurd hh (by decide)))); all_goals (conv => whnf); all_goals try exact ⟨by decide⟩)
    (refine CallN.q (n0 c.2.2.1 c.1 c.2.1 c.2.2.2.1 c.2.2.2.2.1.1 c.2.2.2.2.1.2.1 c.2.2.2.2.1.2.2.1 c.2.2.2.2.1.2.2.2 c.2.2.2.2.2.1.1 c.2.2.2.2.2.1.2 c.2.2.2.2.2.2) [2, 0] (fun _ _ => ?_); (repeat' ((conv => whnf); first | apply And.intro | exact ⟨by kernel_rfl⟩ | apply DrawN.mk | apply CodeN.step hm rfl | exact trivial | exact rfl | (intro hh; try simp only [bs] at hh; try exact absurd hh (by decide)))); all_goals (conv => whnf); all_goals try exact ⟨by decide⟩)
    (refine CallN.q (bookBM c (.inr e) hc) [2, 3, 0] ?_; rintro ⟨b, w⟩ hq; (repeat' ((conv => whnf); first | apply And.intro | exact ⟨by kernel_rfl⟩ | apply DrawN.mk | apply CodeN.step hm rfl | exact trivial | exact rfl | (intro hh; try simp only [bs] at hh; try exact absurd hh (by decide)))); all_goals (conv => whnf); all_goals try exact ⟨by decide⟩)
    · have hw : bodyW c = true := (hq.bad (by assumption)).resolve_left (by rw [hkb]; simp)
      have hg : good c = false := by rw [good, hw]; rfl
      (refine RetN.q ([], false) [] ?_ ?_ ?_ <;> (repeat' ((conv => whnf) <;> first | exact rfl | exact trivial | apply And.intro | exact Nat.zero_add _)); all_goals ((conv => whnf); try simp only []))
      exact ⟨hg.symm, fun h => (by rw [hg] at h; cases h), by simp⟩
    · obtain ⟨_, hw, hb⟩ := hq.ok (by assumption)
      have hlen := encC_len hq
      have hb : b = encC c := hb
      subst hb
      have hpos : 0 < (encC c).length := by rw [encC, List.length_append, hwl]; omega
      (refine CallN.q (stringN (encC c) w (by omega)) [2, 3] (fun _ _ => ?_); (repeat' ((conv => whnf); first | apply And.intro | exact ⟨by kernel_rfl⟩ | apply DrawN.mk | apply CodeN.step hm rfl | exact trivial | exact rfl | (intro hh; try simp only [bs] at hh; try exact absurd hh (by decide)))); all_goals (conv => whnf); all_goals try exact ⟨by decide⟩)
      refine CallN.intro (readM (encC c) c.1 hk (by omega)) [] rfl rfl ?_ ?_ ?_
      · (repeat' ((conv => whnf) <;> first | exact rfl | exact trivial | apply And.intro | exact Nat.zero_add _))
      · (repeat' ((conv => whnf) <;> first | exact rfl | exact trivial | apply And.intro | exact Nat.zero_add _))
      intro y hy
      obtain rfl := hy.enc hw
      have hsl : (strip c).2.2.1.length ≤ 1000 := by
        have := hc.asks
        unfold strip
        split <;> simp <;> omega
      (repeat' ((conv => whnf); first | apply And.intro | exact ⟨by kernel_rfl⟩ | apply DrawN.mk | apply CodeN.step hm rfl | exact trivial | exact rfl | (intro hh; try simp only [bs] at hh; try exact absurd hh (by decide)))); all_goals (conv => whnf)
      (refine CallN.q (sameM (strip c) c hsl hc.asks) [] (fun _ _ => ?_); (repeat' ((conv => whnf); first | apply And.intro | exact ⟨by kernel_rfl⟩ | apply DrawN.mk | apply CodeN.step hm rfl | exact trivial | exact rfl | (intro hh; try simp only [bs] at hh; try exact absurd hh (by decide)))); all_goals (conv => whnf); all_goals try exact ⟨by decide⟩)
      (refine RetN.q (encC c, decide (strip c = c)) [] ?_ ?_ ?_ <;> (repeat' ((conv => whnf) <;> first | exact rfl | exact trivial | apply And.intro | exact Nat.zero_add _)); all_goals ((conv => whnf); try simp only []))
      exact ⟨by simp [good, hw], fun _ => rfl, by show (encC c).length ≤ 500000; omega⟩
  · have e : c.1 = 8 := by assumption
    have hk : 1 ≤ c.1 ∧ c.1 ≤ 9 := by omega
    have hkb := kind_ok hk
    have hwl := wides1_len c.1 1
    (refine CallN.q (cloneM c.2.2.1 (by have := hc.asks; omega)) [] (fun _ _ => ?_); (repeat' ((conv => whnf); first | apply And.intro | exact ⟨by kernel_rfl⟩ | apply DrawN.mk | apply CodeN.step hm rfl | exact trivial | exact rfl | (intro hh; try simp only [bs] at hh; try exact absurd hh (by decide)))); all_goals (conv => whnf); all_goals try exact ⟨by decide⟩)
    (refine CallN.q (n0 c.2.2.1 c.1 c.2.1 c.2.2.2.1 c.2.2.2.2.1.1 c.2.2.2.2.1.2.1 c.2.2.2.2.1.2.2.1 c.2.2.2.2.1.2.2.2 c.2.2.2.2.2.1.1 c.2.2.2.2.2.1.2 c.2.2.2.2.2.2) [2, 0] (fun _ _ => ?_); (repeat' ((conv => whnf); first | apply And.intro | exact ⟨by kernel_rfl⟩ | apply DrawN.mk | apply CodeN.step hm rfl | exact trivial | exact rfl | (intro hh; try simp only [bs] at hh; try exact absurd hh (by decide)))); all_goals (conv => whnf); all_goals try exact ⟨by decide⟩)
    (refine CallN.q (nothingBM c e hc) [2, 3, 0] ?_; rintro ⟨b, w⟩ hq; (repeat' ((conv => whnf); first | apply And.intro | exact ⟨by kernel_rfl⟩ | apply DrawN.mk | apply CodeN.step hm rfl | exact trivial | exact rfl | (intro hh; try simp only [bs] at hh; try exact absurd hh (by decide)))); all_goals (conv => whnf); all_goals try exact ⟨by decide⟩)
    · have hw : bodyW c = true := (hq.bad (by assumption)).resolve_left (by rw [hkb]; simp)
      have hg : good c = false := by rw [good, hw]; rfl
      (refine RetN.q ([], false) [] ?_ ?_ ?_ <;> (repeat' ((conv => whnf) <;> first | exact rfl | exact trivial | apply And.intro | exact Nat.zero_add _)); all_goals ((conv => whnf); try simp only []))
      exact ⟨hg.symm, fun h => (by rw [hg] at h; cases h), by simp⟩
    · obtain ⟨_, hw, hb⟩ := hq.ok (by assumption)
      have hlen := encC_len hq
      have hb : b = encC c := hb
      subst hb
      have hpos : 0 < (encC c).length := by rw [encC, List.length_append, hwl]; omega
      (refine CallN.q (stringN (encC c) w (by omega)) [2, 3] (fun _ _ => ?_); (repeat' ((conv => whnf); first | apply And.intro | exact ⟨by kernel_rfl⟩ | apply DrawN.mk | apply CodeN.step hm rfl | exact trivial | exact rfl | (intro hh; try simp only [bs] at hh; try exact absurd hh (by decide)))); all_goals (conv => whnf); all_goals try exact ⟨by decide⟩)
      refine CallN.intro (readM (encC c) c.1 hk (by omega)) [] rfl rfl ?_ ?_ ?_
      · (repeat' ((conv => whnf) <;> first | exact rfl | exact trivial | apply And.intro | exact Nat.zero_add _))
      · (repeat' ((conv => whnf) <;> first | exact rfl | exact trivial | apply And.intro | exact Nat.zero_add _))
      intro y hy
      obtain rfl := hy.enc hw
      have hsl : (strip c).2.2.1.length ≤ 1000 := by
        have := hc.asks
        unfold strip
        split <;> simp <;> omega
      (repeat' ((conv => whnf); first | apply And.intro | exact ⟨by kernel_rfl⟩ | apply DrawN.mk | apply CodeN.step hm rfl | exact trivial | exact rfl | (intro hh; try simp only [bs] at hh; try exact absurd hh (by decide)))); all_goals (conv => whnf)
      (refine CallN.q (sameM (strip c) c hsl hc.asks) [] (fun _ _ => ?_); (repeat' ((conv => whnf); first | apply And.intro | exact ⟨by kernel_rfl⟩ | apply DrawN.mk | apply CodeN.step hm rfl | exact trivial | exact rfl | (intro hh; try simp only [bs] at hh; try exact absurd hh (by decide)))); all_goals (conv => whnf); all_goals try exact ⟨by decide⟩)
      (refine RetN.q (encC c, decide (strip c = c)) [] ?_ ?_ ?_ <;> (repeat' ((conv => whnf) <;> first | exact rfl | exact trivial | apply And.intro | exact Nat.zero_add _)); all_goals ((conv => whnf); try simp only []))
      exact ⟨by simp [good, hw], fun _ => rfl, by show (encC c).length ≤ 500000; omega⟩
  · have e : c.1 = 9 := by assumption
    have hk : 1 ≤ c.1 ∧ c.1 ≤ 9 := by omega
    have hkb := kind_ok hk
    have hwl := wides1_len c.1 1
    (refine CallN.q (cloneM c.2.2.1 (by have := hc.asks; omega)) [] (fun _ _ => ?_); (repeat' ((conv => whnf); first | apply And.intro | exact ⟨by kernel_rfl⟩ | apply DrawN.mk | apply CodeN.step hm rfl | exact trivial | exact rfl | (intro hh; try simp only [bs] at hh; try exact absurd hh (by decide)))); all_goals (conv => whnf); all_goals try exact ⟨by decide⟩)
    (refine CallN.q (n0 c.2.2.1 c.1 c.2.1 c.2.2.2.1 c.2.2.2.2.1.1 c.2.2.2.2.1.2.1 c.2.2.2.2.1.2.2.1 c.2.2.2.2.1.2.2.2 c.2.2.2.2.2.1.1 c.2.2.2.2.2.1.2 c.2.2.2.2.2.2) [2, 0] (fun _ _ => ?_); (repeat' ((conv => whnf); first | apply And.intro | exact ⟨by kernel_rfl⟩ | apply DrawN.mk | apply CodeN.step hm rfl | exact trivial | exact rfl | (intro hh; try simp only [bs] at hh; try exact absurd hh (by decide)))); all_goals (conv => whnf); all_goals try exact ⟨by decide⟩)
    (refine CallN.q (pageBM c e hc) [2, 3, 0] ?_; rintro ⟨b, w⟩ hq; (repeat' ((conv => whnf); first | apply And.intro | exact ⟨by kernel_rfl⟩ | apply DrawN.mk | apply CodeN.step hm rfl | exact trivial | exact rfl | (intro hh; try simp only [bs] at hh; try exact absurd hh (by decide)))); all_goals (conv => whnf); all_goals try exact ⟨by decide⟩)
    · have hw : bodyW c = true := (hq.bad (by assumption)).resolve_left (by rw [hkb]; simp)
      have hg : good c = false := by rw [good, hw]; rfl
      (refine RetN.q ([], false) [] ?_ ?_ ?_ <;> (repeat' ((conv => whnf) <;> first | exact rfl | exact trivial | apply And.intro | exact Nat.zero_add _)); all_goals ((conv => whnf); try simp only []))
      exact ⟨hg.symm, fun h => (by rw [hg] at h; cases h), by simp⟩
    · obtain ⟨_, hw, hb⟩ := hq.ok (by assumption)
      have hlen := encC_len hq
      have hb : b = encC c := hb
      subst hb
      have hpos : 0 < (encC c).length := by rw [encC, List.length_append, hwl]; omega
      (refine CallN.q (stringN (encC c) w (by omega)) [2, 3] (fun _ _ => ?_); (repeat' ((conv => whnf); first | apply And.intro | exact ⟨by kernel_rfl⟩ | apply DrawN.mk | apply CodeN.step hm rfl | exact trivial | exact rfl | (intro hh; try simp only [bs] at hh; try exact absurd hh (by decide)))); all_goals (conv => whnf); all_goals try exact ⟨by decide⟩)
      refine CallN.intro (readM (encC c) c.1 hk (by omega)) [] rfl rfl ?_ ?_ ?_
      · (repeat' ((conv => whnf) <;> first | exact rfl | exact trivial | apply And.intro | exact Nat.zero_add _))
      · (repeat' ((conv => whnf) <;> first | exact rfl | exact trivial | apply And.intro | exact Nat.zero_add _))
      intro y hy
      obtain rfl := hy.enc hw
      have hsl : (strip c).2.2.1.length ≤ 1000 := by
        have := hc.asks
        unfold strip
        split <;> simp <;> omega
      (repeat' ((conv => whnf); first | apply And.intro | exact ⟨by kernel_rfl⟩ | apply DrawN.mk | apply CodeN.step hm rfl | exact trivial | exact rfl | (intro hh; try simp only [bs] at hh; try exact absurd hh (by decide)))); all_goals (conv => whnf)
      (refine CallN.q (sameM (strip c) c hsl hc.asks) [] (fun _ _ => ?_); (repeat' ((conv => whnf); first | apply And.intro | exact ⟨by kernel_rfl⟩ | apply DrawN.mk | apply CodeN.step hm rfl | exact trivial | exact rfl | (intro hh; try simp only [bs] at hh; try exact absurd hh (by decide)))); all_goals (conv => whnf); all_goals try exact ⟨by decide⟩)
      (refine RetN.q (encC c, decide (strip c = c)) [] ?_ ?_ ?_ <;> (repeat' ((conv => whnf) <;> first | exact rfl | exact trivial | apply And.intro | exact Nat.zero_add _)); all_goals ((conv => whnf); try simp only []))
      exact ⟨by simp [good, hw], fun _ => rfl, by show (encC c).length ≤ 500000; omega⟩
  · have hg : good c = false := by
      cases hg : good c
      · rfl
      · have := good_kind (good_iff.1 hg).1
        omega
    (refine RetN.q ([], false) [] ?_ ?_ ?_ <;> (repeat' ((conv => whnf) <;> first | exact rfl | exact trivial | apply And.intro | exact Nat.zero_add _)); all_goals ((conv => whnf); try simp only []))
    exact ⟨hg.symm, fun h => (by rw [hg] at h; cases h), by simp⟩
theorem mayM (c : Cmd) (hc : ShC c) : Meets Try.prog 26 [cmdAV c] [] (Y := Unit) (fun _ => True) (fun _ => .bool fun _ => good c) (fun _ => []) := by
  refine Meets.intro hm (fn := Try.f26) Try.func26 rfl (by decide) (Nat.le_of_ble_eq_true rfl) (fun _ => rfl) ?_; intro S hok; (conv => whnf)
  (repeat' ((conv => whnf); first | apply And.intro | exact ⟨by kernel_rfl⟩ | apply DrawN.mk | apply CodeN.step hm rfl | exact trivial | exact rfl | (intro hh; try simp only [bs] at hh))); all_goals (conv => whnf)
  (refine CallN.q (writeM c hc) [] ?_; rintro ⟨b, w⟩ hq; (repeat' ((conv => whnf); first | apply And.intro | exact ⟨by kernel_rfl⟩ | apply DrawN.mk | apply CodeN.step hm rfl | exact trivial | exact rfl | (intro hh; try simp only [bs] at hh; try exact absurd hh (by decide)))); all_goals (conv => whnf); all_goals try exact ⟨by decide⟩)
  (refine RetN.q () [] ?_ ?_ ?_ <;> (repeat' ((conv => whnf) <;> first | exact rfl | exact trivial | apply And.intro | exact Nat.zero_add _)); all_goals ((conv => whnf); try simp only []))
  exact hq.ok
theorem encodeM (c : Cmd) (hc : ShC c) : Meets Try.prog 24 [cmdAV c] [] (Y := Unit) (fun _ => True) (fun _ => .tup [.str fun _ => (encR c).1, .int .i64 fun _ => (encR c).2]) (fun _ => []) := by
  refine Meets.intro hm (fn := Try.f24) Try.func24 rfl (by decide) (Nat.le_of_ble_eq_true rfl) (fun _ => rfl) ?_; intro S hok; (conv => whnf)
  (repeat' ((conv => whnf); first | apply And.intro | exact ⟨by kernel_rfl⟩ | apply DrawN.mk | apply CodeN.step hm rfl | exact trivial | exact rfl | (intro hh; try simp only [bs] at hh))); all_goals (conv => whnf)
  (refine CallN.q (writeM c hc) [] ?_; rintro ⟨b, w⟩ hq; (repeat' ((conv => whnf); first | apply And.intro | exact ⟨by kernel_rfl⟩ | apply DrawN.mk | apply CodeN.step hm rfl | exact trivial | exact rfl | (intro hh; try simp only [bs] at hh; try exact absurd hh (by decide)))); all_goals (conv => whnf); all_goals try exact ⟨by decide⟩)
  all_goals
    have hw : w = good c := hq.ok
    subst hw
  · (refine RetN.q () [] ?_ ?_ ?_ <;> (repeat' ((conv => whnf) <;> first | exact rfl | exact trivial | apply And.intro | exact Nat.zero_add _)); all_goals ((conv => whnf); try simp only []))
    all_goals
      unfold encR
      rw [if_neg (by simp [*])]
  · have hg : good c = true := by assumption
    obtain rfl : b = encC c := hq.same hg
    (refine RetN.q () [] ?_ ?_ ?_ <;> (repeat' ((conv => whnf) <;> first | exact rfl | exact trivial | apply And.intro | exact Nat.zero_add _)); all_goals ((conv => whnf); try simp only []))
    all_goals
      unfold encR
      rw [if_pos hg, if_pos (by omega)]
  · have hg : good c = true := by assumption
    obtain rfl : b = encC c := hq.same hg
    (refine RetN.q () [] ?_ ?_ ?_ <;> (repeat' ((conv => whnf) <;> first | exact rfl | exact trivial | apply And.intro | exact Nat.zero_add _)); all_goals ((conv => whnf); try simp only []))
    all_goals
      unfold encR
      rw [if_pos hg, if_neg (by omega)]
end Go.Proofs.Ytoipgandilhdeaa.Wi
set_option linter.unusedVariables false
set_option linter.unusedSimpArgs false
namespace Go.Proofs.Ytoipgandilhdeaa.Wi
open Go Go.RowKit Fw Nu
open An (byv byv_len byv_app byv_back byv_range fitsB fits_iff wides bads wides_len fits_neg shr_ne from_ readL readL_get readL_put readName nameB nameW name_get name_put readN readN_get readN_put bads_cons bads_nil bads_book fits_one)
theorem hd_wrap {s : Bytes} : IntKind.i64.wrap (((s.getD 0 0).toNat : Nat) : Int) = hd s := by
  have := (s.getD 0 0).toNat_lt
  rw [wr (by omega)]; rfl
theorem dec_read {s : Bytes} (h1 : s ≠ []) (h2 : 1 ≤ hd s ∧ hd s ≤ 9) {c : Cmd} {b : Bool} (h : ReadQ s (hd s) (c, b)) : decR s = if b = true ∧ s.length ≤ 512 then (c, 0) else (zeroC, 3) := by
  unfold decR decP
  rw [if_neg h1, if_pos h2]
  cases b
  · rw [if_neg (by simp)]
    have := h.bad rfl
    cases hr : readB s (hd s) 1 with
    | none => rfl
    | some x =>
      obtain ⟨d, t⟩ := x
      simp only []
      by_cases ht : t = s.length
      · exact absurd (by rw [hr, ht]) (this d)
      · rw [if_neg (by simp [ht])]
  · have := h.ok rfl
    rw [this]
    simp only [true_and]
    by_cases hl : s.length ≤ 512
    · rw [if_pos hl, if_pos hl]
    · rw [if_neg hl, if_neg hl]
theorem decodeM (s : Bytes) (hs : s.length ≤ 1000000) : Meets Try.prog 28 [.str fun _ => s] [] (Y := Unit) (fun _ => True) (fun _ => .tup [cmdAV (decR s).1, .int .i64 fun _ => (decR s).2]) (fun _ => []) := by
  refine Meets.intro hm (fn := Try.f28) Try.func28 rfl (by decide) (Nat.le_of_ble_eq_true rfl) (fun _ => rfl) ?_; intro S hok; (conv => whnf)
  (repeat' ((conv => whnf); first | apply And.intro | exact ⟨by kernel_rfl⟩ | apply DrawN.mk | apply CodeN.step hm rfl | exact trivial | exact rfl | (intro hh; try simp only [bs] at hh))); all_goals (conv => whnf)
  · have e : decR s = (zeroC, 3) := by unfold decR; rw [if_pos (by assumption)]
    (refine RetN.q () [] ?_ ?_ ?_ <;> (repeat' ((conv => whnf) <;> first | exact rfl | exact trivial | apply And.intro | exact Nat.zero_add _)); all_goals ((conv => whnf); try simp only []))
    all_goals first | (rw [e]; done) | (rw [e]; rfl)
  · have := List.length_pos_iff.2 ‹s ≠ []›
    exact Ob.mk (by simp only []; omega)
  · (refine CallN.q kindsM [] (fun _ _ => ?_); (repeat' ((conv => whnf); first | apply And.intro | exact ⟨by kernel_rfl⟩ | apply DrawN.mk | apply CodeN.step hm rfl | exact trivial | exact rfl | (intro hh; try simp only [bs] at hh; try exact absurd hh (by decide)))); all_goals (conv => whnf); all_goals try exact ⟨by decide⟩)
    · have ek : IntKind.i64.wrap (((s.getD (Int.toNat 0) 0).toNat : Nat) : Int) = hd s := hd_wrap
      have hk : 1 ≤ hd s ∧ hd s ≤ 9 := by omega
      refine CallN.intro (readM s (hd s) hk hs) [] rfl rfl ?_ ?_ ?_
      · (repeat' ((conv => whnf) <;> first | exact rfl | exact trivial | apply And.intro | exact Nat.zero_add _))
        exact ek
      · (repeat' ((conv => whnf) <;> first | exact rfl | exact trivial | apply And.intro | exact Nat.zero_add _))
      rintro ⟨c, b⟩ hq
      have hr := dec_read (by assumption) hk hq
      (repeat' ((conv => whnf); first | apply And.intro | exact ⟨by kernel_rfl⟩ | apply DrawN.mk | apply CodeN.step hm rfl | exact trivial | exact rfl | (intro hh; try simp only [bs] at hh; try exact absurd hh (by decide)))); all_goals (conv => whnf)
      · have e : decR s = (zeroC, 3) := by rw [hr, if_neg (fun h => by omega)]
        (refine RetN.q () [] ?_ ?_ ?_ <;> (repeat' ((conv => whnf) <;> first | exact rfl | exact trivial | apply And.intro | exact Nat.zero_add _)); all_goals ((conv => whnf); try simp only []))
        all_goals first | (rw [e]; done) | (rw [e]; rfl)
      · have e : decR s = (c, 0) := by rw [hr, if_pos ⟨by assumption, by omega⟩]
        (refine RetN.q () [] ?_ ?_ ?_ <;> (repeat' ((conv => whnf) <;> first | exact rfl | exact trivial | apply And.intro | exact Nat.zero_add _)); all_goals ((conv => whnf); try simp only []))
        all_goals first | (rw [e]; done) | (rw [e]; rfl)
      · have e : decR s = (zeroC, 3) := by rw [hr, if_neg (fun h => by simp [*] at h)]
        (refine RetN.q () [] ?_ ?_ ?_ <;> (repeat' ((conv => whnf) <;> first | exact rfl | exact trivial | apply And.intro | exact Nat.zero_add _)); all_goals ((conv => whnf); try simp only []))
        all_goals first | (rw [e]; done) | (rw [e]; rfl)
    · have ek : IntKind.i64.wrap (((s.getD (Int.toNat 0) 0).toNat : Nat) : Int) = hd s := hd_wrap
      have hk : 1 ≤ hd s ∧ hd s ≤ 9 := by omega
      refine CallN.intro (readM s (hd s) hk hs) [] rfl rfl ?_ ?_ ?_
      · (repeat' ((conv => whnf) <;> first | exact rfl | exact trivial | apply And.intro | exact Nat.zero_add _))
        exact ek
      · (repeat' ((conv => whnf) <;> first | exact rfl | exact trivial | apply And.intro | exact Nat.zero_add _))
      rintro ⟨c, b⟩ hq
      have hr := dec_read (by assumption) hk hq
      (repeat' ((conv => whnf); first | apply And.intro | exact ⟨by kernel_rfl⟩ | apply DrawN.mk | apply CodeN.step hm rfl | exact trivial | exact rfl | (intro hh; try simp only [bs] at hh; try exact absurd hh (by decide)))); all_goals (conv => whnf)
      · have e : decR s = (zeroC, 3) := by rw [hr, if_neg (fun h => by omega)]
        (refine RetN.q () [] ?_ ?_ ?_ <;> (repeat' ((conv => whnf) <;> first | exact rfl | exact trivial | apply And.intro | exact Nat.zero_add _)); all_goals ((conv => whnf); try simp only []))
        all_goals first | (rw [e]; done) | (rw [e]; rfl)
      · have e : decR s = (c, 0) := by rw [hr, if_pos ⟨by assumption, by omega⟩]
        (refine RetN.q () [] ?_ ?_ ?_ <;> (repeat' ((conv => whnf) <;> first | exact rfl | exact trivial | apply And.intro | exact Nat.zero_add _)); all_goals ((conv => whnf); try simp only []))
        all_goals first | (rw [e]; done) | (rw [e]; rfl)
      · have e : decR s = (zeroC, 3) := by rw [hr, if_neg (fun h => by simp [*] at h)]
        (refine RetN.q () [] ?_ ?_ ?_ <;> (repeat' ((conv => whnf) <;> first | exact rfl | exact trivial | apply And.intro | exact Nat.zero_add _)); all_goals ((conv => whnf); try simp only []))
        all_goals first | (rw [e]; done) | (rw [e]; rfl)
    · have ek : IntKind.i64.wrap (((s.getD (Int.toNat 0) 0).toNat : Nat) : Int) = hd s := hd_wrap
      have hk : 1 ≤ hd s ∧ hd s ≤ 9 := by omega
      refine CallN.intro (readM s (hd s) hk hs) [] rfl rfl ?_ ?_ ?_
      · (repeat' ((conv => whnf) <;> first | exact rfl | exact trivial | apply And.intro | exact Nat.zero_add _))
        exact ek
      · (repeat' ((conv => whnf) <;> first | exact rfl | exact trivial | apply And.intro | exact Nat.zero_add _))
      rintro ⟨c, b⟩ hq
      have hr := dec_read (by assumption) hk hq
      (repeat' ((conv => whnf); first | apply And.intro | exact ⟨by kernel_rfl⟩ | apply DrawN.mk | apply CodeN.step hm rfl | exact trivial | exact rfl | (intro hh; try simp only [bs] at hh; try exact absurd hh (by decide)))); all_goals (conv => whnf)
      · have e : decR s = (zeroC, 3) := by rw [hr, if_neg (fun h => by omega)]
        (refine RetN.q () [] ?_ ?_ ?_ <;> (repeat' ((conv => whnf) <;> first | exact rfl | exact trivial | apply And.intro | exact Nat.zero_add _)); all_goals ((conv => whnf); try simp only []))
        all_goals first | (rw [e]; done) | (rw [e]; rfl)
      · have e : decR s = (c, 0) := by rw [hr, if_pos ⟨by assumption, by omega⟩]
        (refine RetN.q () [] ?_ ?_ ?_ <;> (repeat' ((conv => whnf) <;> first | exact rfl | exact trivial | apply And.intro | exact Nat.zero_add _)); all_goals ((conv => whnf); try simp only []))
        all_goals first | (rw [e]; done) | (rw [e]; rfl)
      · have e : decR s = (zeroC, 3) := by rw [hr, if_neg (fun h => by simp [*] at h)]
        (refine RetN.q () [] ?_ ?_ ?_ <;> (repeat' ((conv => whnf) <;> first | exact rfl | exact trivial | apply And.intro | exact Nat.zero_add _)); all_goals ((conv => whnf); try simp only []))
        all_goals first | (rw [e]; done) | (rw [e]; rfl)
    · have ek : IntKind.i64.wrap (((s.getD (Int.toNat 0) 0).toNat : Nat) : Int) = hd s := hd_wrap
      have hk : 1 ≤ hd s ∧ hd s ≤ 9 := by omega
      refine CallN.intro (readM s (hd s) hk hs) [] rfl rfl ?_ ?_ ?_
      · (repeat' ((conv => whnf) <;> first | exact rfl | exact trivial | apply And.intro | exact Nat.zero_add _))
        exact ek
      · (repeat' ((conv => whnf) <;> first | exact rfl | exact trivial | apply And.intro | exact Nat.zero_add _))
      rintro ⟨c, b⟩ hq
      have hr := dec_read (by assumption) hk hq
      (repeat' ((conv => whnf); first | apply And.intro | exact ⟨by kernel_rfl⟩ | apply DrawN.mk | apply CodeN.step hm rfl | exact trivial | exact rfl | (intro hh; try simp only [bs] at hh; try exact absurd hh (by decide)))); all_goals (conv => whnf)
      · have e : decR s = (zeroC, 3) := by rw [hr, if_neg (fun h => by omega)]
        (refine RetN.q () [] ?_ ?_ ?_ <;> (repeat' ((conv => whnf) <;> first | exact rfl | exact trivial | apply And.intro | exact Nat.zero_add _)); all_goals ((conv => whnf); try simp only []))
        all_goals first | (rw [e]; done) | (rw [e]; rfl)
      · have e : decR s = (c, 0) := by rw [hr, if_pos ⟨by assumption, by omega⟩]
        (refine RetN.q () [] ?_ ?_ ?_ <;> (repeat' ((conv => whnf) <;> first | exact rfl | exact trivial | apply And.intro | exact Nat.zero_add _)); all_goals ((conv => whnf); try simp only []))
        all_goals first | (rw [e]; done) | (rw [e]; rfl)
      · have e : decR s = (zeroC, 3) := by rw [hr, if_neg (fun h => by simp [*] at h)]
        (refine RetN.q () [] ?_ ?_ ?_ <;> (repeat' ((conv => whnf) <;> first | exact rfl | exact trivial | apply And.intro | exact Nat.zero_add _)); all_goals ((conv => whnf); try simp only []))
        all_goals first | (rw [e]; done) | (rw [e]; rfl)
    · have ek : IntKind.i64.wrap (((s.getD (Int.toNat 0) 0).toNat : Nat) : Int) = hd s := hd_wrap
      have hk : 1 ≤ hd s ∧ hd s ≤ 9 := by omega
      refine CallN.intro (readM s (hd s) hk hs) [] rfl rfl ?_ ?_ ?_
      · (repeat' ((conv => whnf) <;> first | exact rfl | exact trivial | apply And.intro | exact Nat.zero_add _))
        exact ek
      · (repeat' ((conv => whnf) <;> first | exact rfl | exact trivial | apply And.intro | exact Nat.zero_add _))
      rintro ⟨c, b⟩ hq
      have hr := dec_read (by assumption) hk hq
      (repeat' ((conv => whnf); first | apply And.intro | exact ⟨by kernel_rfl⟩ | apply DrawN.mk | apply CodeN.step hm rfl | exact trivial | exact rfl | (intro hh; try simp only [bs] at hh; try exact absurd hh (by decide)))); all_goals (conv => whnf)
      · have e : decR s = (zeroC, 3) := by rw [hr, if_neg (fun h => by omega)]
        (refine RetN.q () [] ?_ ?_ ?_ <;> (repeat' ((conv => whnf) <;> first | exact rfl | exact trivial | apply And.intro | exact Nat.zero_add _)); all_goals ((conv => whnf); try simp only []))
        all_goals first | (rw [e]; done) | (rw [e]; rfl)
      · have e : decR s = (c, 0) := by rw [hr, if_pos ⟨by assumption, by omega⟩]
        (refine RetN.q () [] ?_ ?_ ?_ <;> (repeat' ((conv => whnf) <;> first | exact rfl | exact trivial | apply And.intro | exact Nat.zero_add _)); all_goals ((conv => whnf); try simp only []))
        all_goals first | (rw [e]; done) | (rw [e]; rfl)
      · have e : decR s = (zeroC, 3) := by rw [hr, if_neg (fun h => by simp [*] at h)]
        (refine RetN.q () [] ?_ ?_ ?_ <;> (repeat' ((conv => whnf) <;> first | exact rfl | exact trivial | apply And.intro | exact Nat.zero_add _)); all_goals ((conv => whnf); try simp only []))
        all_goals first | (rw [e]; done) | (rw [e]; rfl)
    · have ek : IntKind.i64.wrap (((s.getD (Int.toNat 0) 0).toNat : Nat) : Int) = hd s := hd_wrap
      have hk : 1 ≤ hd s ∧ hd s ≤ 9 := by omega
      refine CallN.intro (readM s (hd s) hk hs) [] rfl rfl ?_ ?_ ?_
      · (repeat' ((conv => whnf) <;> first | exact rfl | exact trivial | apply And.intro | exact Nat.zero_add _))
        exact ek
      · (repeat' ((conv => whnf) <;> first | exact rfl | exact trivial | apply And.intro | exact Nat.zero_add _))
      rintro ⟨c, b⟩ hq
      have hr := dec_read (by assumption) hk hq
      (repeat' ((conv => whnf); first | apply And.intro | exact ⟨by kernel_rfl⟩ | apply DrawN.mk | apply CodeN.step hm rfl | exact trivial | exact rfl | (intro hh; try simp only [bs] at hh; try exact absurd hh (by decide)))); all_goals (conv => whnf)
      · have e : decR s = (zeroC, 3) := by rw [hr, if_neg (fun h => by omega)]
        (refine RetN.q () [] ?_ ?_ ?_ <;> (repeat' ((conv => whnf) <;> first | exact rfl | exact trivial | apply And.intro | exact Nat.zero_add _)); all_goals ((conv => whnf); try simp only []))
        all_goals first | (rw [e]; done) | (rw [e]; rfl)
      · have e : decR s = (c, 0) := by rw [hr, if_pos ⟨by assumption, by omega⟩]
        (refine RetN.q () [] ?_ ?_ ?_ <;> (repeat' ((conv => whnf) <;> first | exact rfl | exact trivial | apply And.intro | exact Nat.zero_add _)); all_goals ((conv => whnf); try simp only []))
        all_goals first | (rw [e]; done) | (rw [e]; rfl)
      · have e : decR s = (zeroC, 3) := by rw [hr, if_neg (fun h => by simp [*] at h)]
        (refine RetN.q () [] ?_ ?_ ?_ <;> (repeat' ((conv => whnf) <;> first | exact rfl | exact trivial | apply And.intro | exact Nat.zero_add _)); all_goals ((conv => whnf); try simp only []))
        all_goals first | (rw [e]; done) | (rw [e]; rfl)
    · have ek : IntKind.i64.wrap (((s.getD (Int.toNat 0) 0).toNat : Nat) : Int) = hd s := hd_wrap
      have hk : 1 ≤ hd s ∧ hd s ≤ 9 := by omega
      refine CallN.intro (readM s (hd s) hk hs) [] rfl rfl ?_ ?_ ?_
      · (repeat' ((conv => whnf) <;> first | exact rfl | exact trivial | apply And.intro | exact Nat.zero_add _))
        exact ek
      · (repeat' ((conv => whnf) <;> first | exact rfl | exact trivial | apply And.intro | exact Nat.zero_add _))
      rintro ⟨c, b⟩ hq
      have hr := dec_read (by assumption) hk hq
      (repeat' ((conv => whnf); first | apply And.intro | exact ⟨by kernel_rfl⟩ | apply DrawN.mk | apply CodeN.step hm rfl | exact trivial | exact rfl | (intro hh; try simp only [bs] at hh; try exact absurd hh (by decide)))); all_goals (conv => whnf)
      · have e : decR s = (zeroC, 3) := by rw [hr, if_neg (fun h => by omega)]
        (refine RetN.q () [] ?_ ?_ ?_ <;> (repeat' ((conv => whnf) <;> first | exact rfl | exact trivial | apply And.intro | exact Nat.zero_add _)); all_goals ((conv => whnf); try simp only []))
        all_goals first | (rw [e]; done) | (rw [e]; rfl)
      · have e : decR s = (c, 0) := by rw [hr, if_pos ⟨by assumption, by omega⟩]
        (refine RetN.q () [] ?_ ?_ ?_ <;> (repeat' ((conv => whnf) <;> first | exact rfl | exact trivial | apply And.intro | exact Nat.zero_add _)); all_goals ((conv => whnf); try simp only []))
        all_goals first | (rw [e]; done) | (rw [e]; rfl)
      · have e : decR s = (zeroC, 3) := by rw [hr, if_neg (fun h => by simp [*] at h)]
        (refine RetN.q () [] ?_ ?_ ?_ <;> (repeat' ((conv => whnf) <;> first | exact rfl | exact trivial | apply And.intro | exact Nat.zero_add _)); all_goals ((conv => whnf); try simp only []))
        all_goals first | (rw [e]; done) | (rw [e]; rfl)
    · have ek : IntKind.i64.wrap (((s.getD (Int.toNat 0) 0).toNat : Nat) : Int) = hd s := hd_wrap
      have hk : 1 ≤ hd s ∧ hd s ≤ 9 := by omega
      refine CallN.intro (readM s (hd s) hk hs) [] rfl rfl ?_ ?_ ?_
      · (repeat' ((conv => whnf) <;> first | exact rfl | exact trivial | apply And.intro | exact Nat.zero_add _))
        exact ek
      · (repeat' ((conv => whnf) <;> first | exact rfl | exact trivial | apply And.intro | exact Nat.zero_add _))
      rintro ⟨c, b⟩ hq
      have hr := dec_read (by assumption) hk hq
      (repeat' ((conv => whnf); first | apply And.intro | exact ⟨by kernel_rfl⟩ | apply DrawN.mk | apply CodeN.step hm rfl | exact trivial | exact rfl | (intro hh; try simp only [bs] at hh; try exact absurd hh (by decide)))); all_goals (conv => whnf)
      · have e : decR s = (zeroC, 3) := by rw [hr, if_neg (fun h => by omega)]
        (refine RetN.q () [] ?_ ?_ ?_ <;> (repeat' ((conv => whnf) <;> first | exact rfl | exact trivial | apply And.intro | exact Nat.zero_add _)); all_goals ((conv => whnf); try simp only []))
        all_goals first | (rw [e]; done) | (rw [e]; rfl)
      · have e : decR s = (c, 0) := by rw [hr, if_pos ⟨by assumption, by omega⟩]
        (refine RetN.q () [] ?_ ?_ ?_ <;> (repeat' ((conv => whnf) <;> first | exact rfl | exact trivial | apply And.intro | exact Nat.zero_add _)); all_goals ((conv => whnf); try simp only []))
        all_goals first | (rw [e]; done) | (rw [e]; rfl)
      · have e : decR s = (zeroC, 3) := by rw [hr, if_neg (fun h => by simp [*] at h)]
        (refine RetN.q () [] ?_ ?_ ?_ <;> (repeat' ((conv => whnf) <;> first | exact rfl | exact trivial | apply And.intro | exact Nat.zero_add _)); all_goals ((conv => whnf); try simp only []))
        all_goals first | (rw [e]; done) | (rw [e]; rfl)
    · have ek : IntKind.i64.wrap (((s.getD (Int.toNat 0) 0).toNat : Nat) : Int) = hd s := hd_wrap
      have hk : 1 ≤ hd s ∧ hd s ≤ 9 := by omega
      refine CallN.intro (readM s (hd s) hk hs) [] rfl rfl ?_ ?_ ?_
      · (repeat' ((conv => whnf) <;> first | exact rfl | exact trivial | apply And.intro | exact Nat.zero_add _))
        exact ek
      · (repeat' ((conv => whnf) <;> first | exact rfl | exact trivial | apply And.intro | exact Nat.zero_add _))
      rintro ⟨c, b⟩ hq
      have hr := dec_read (by assumption) hk hq
      (repeat' ((conv => whnf); first | apply And.intro | exact ⟨by kernel_rfl⟩ | apply DrawN.mk | apply CodeN.step hm rfl | exact trivial | exact rfl | (intro hh; try simp only [bs] at hh; try exact absurd hh (by decide)))); all_goals (conv => whnf)
      · have e : decR s = (zeroC, 3) := by rw [hr, if_neg (fun h => by omega)]
        (refine RetN.q () [] ?_ ?_ ?_ <;> (repeat' ((conv => whnf) <;> first | exact rfl | exact trivial | apply And.intro | exact Nat.zero_add _)); all_goals ((conv => whnf); try simp only []))
        all_goals first | (rw [e]; done) | (rw [e]; rfl)
      · have e : decR s = (c, 0) := by rw [hr, if_pos ⟨by assumption, by omega⟩]
        (refine RetN.q () [] ?_ ?_ ?_ <;> (repeat' ((conv => whnf) <;> first | exact rfl | exact trivial | apply And.intro | exact Nat.zero_add _)); all_goals ((conv => whnf); try simp only []))
        all_goals first | (rw [e]; done) | (rw [e]; rfl)
      · have e : decR s = (zeroC, 3) := by rw [hr, if_neg (fun h => by simp [*] at h)]
        (refine RetN.q () [] ?_ ?_ ?_ <;> (repeat' ((conv => whnf) <;> first | exact rfl | exact trivial | apply And.intro | exact Nat.zero_add _)); all_goals ((conv => whnf); try simp only []))
        all_goals first | (rw [e]; done) | (rw [e]; rfl)
    · have ek : IntKind.i64.wrap (((s.getD (Int.toNat 0) 0).toNat : Nat) : Int) = hd s := hd_wrap
      have e : decR s = (zeroC, 9) := by unfold decR; rw [if_neg (by assumption), if_neg (by omega)]
      (refine RetN.q () [] ?_ ?_ ?_ <;> (repeat' ((conv => whnf) <;> first | exact rfl | exact trivial | apply And.intro | exact Nat.zero_add _)); all_goals ((conv => whnf); try simp only []))
      all_goals first | (rw [e]; done) | (rw [e]; rfl)
end Go.Proofs.Ytoipgandilhdeaa.Wi
set_option linter.unusedVariables false
set_option linter.unusedSimpArgs false
namespace Go.Proofs.Ytoipgandilhdeaa.Wi
open Go Go.RowKit Fw Nu
open An (byv byv_len byv_app byv_back byv_range fitsB fits_iff wides bads wides_len fits_neg shr_ne from_ readL readL_get readL_put readName nameB nameW name_get name_put readN readN_get readN_put bads_cons bads_nil bads_book fits_one rFitsM byteM fourM policyM)
theorem rpolM (p : Int × Int × Int × Int) : Meets Try.prog 51 [.agg [.int .i64 fun _ => p.1, .int .i64 fun _ => p.2.1, .int .i64 fun _ => p.2.2.1, .int .i64 fun _ => p.2.2.2]] [] (Y := Unit) (fun _ => True) (fun _ => .bool fun _ => !bads [(p.1, 1), (p.2.1, 4), (p.2.2.1, 4), (p.2.2.2, 1)]) (fun _ => []) := by
  refine Meets.intro hm (fn := Try.f51) Try.func51 rfl (by decide) (Nat.le_of_ble_eq_true rfl) (fun _ => rfl) ?_; intro S hok; (conv => whnf)
  (repeat' ((conv => whnf); first | apply And.intro | exact ⟨by kernel_rfl⟩ | apply DrawN.mk | apply CodeN.step hm rfl | exact trivial | exact rfl | (intro hh; try simp only [bs] at hh))); all_goals (conv => whnf)
  (refine CallN.q (rFitsM p.1 1 (by omega)) [] (fun _ _ => ?_); (repeat' ((conv => whnf); first | apply And.intro | exact ⟨by kernel_rfl⟩ | apply DrawN.mk | apply CodeN.step hm rfl | exact trivial | exact rfl | (intro hh; try simp only [bs] at hh; try exact absurd hh (by decide)))); all_goals (conv => whnf); all_goals try exact ⟨by decide⟩)
  · (refine CallN.q (rFitsM p.2.1 4 (by omega)) [] (fun _ _ => ?_); (repeat' ((conv => whnf); first | apply And.intro | exact ⟨by kernel_rfl⟩ | apply DrawN.mk | apply CodeN.step hm rfl | exact trivial | exact rfl | (intro hh; try simp only [bs] at hh; try exact absurd hh (by decide)))); all_goals (conv => whnf); all_goals try exact ⟨by decide⟩)
    · (refine CallN.q (rFitsM p.2.2.1 4 (by omega)) [] (fun _ _ => ?_); (repeat' ((conv => whnf); first | apply And.intro | exact ⟨by kernel_rfl⟩ | apply DrawN.mk | apply CodeN.step hm rfl | exact trivial | exact rfl | (intro hh; try simp only [bs] at hh; try exact absurd hh (by decide)))); all_goals (conv => whnf); all_goals try exact ⟨by decide⟩)
      · (refine CallN.q (rFitsM p.2.2.2 1 (by omega)) [] (fun _ _ => ?_); (repeat' ((conv => whnf); first | apply And.intro | exact ⟨by kernel_rfl⟩ | apply DrawN.mk | apply CodeN.step hm rfl | exact trivial | exact rfl | (intro hh; try simp only [bs] at hh; try exact absurd hh (by decide)))); all_goals (conv => whnf); all_goals try exact ⟨by decide⟩)
        (refine RetN.q () [] ?_ ?_ ?_ <;> (repeat' ((conv => whnf) <;> first | exact rfl | exact trivial | apply And.intro | exact Nat.zero_add _)); all_goals ((conv => whnf); try simp only []))
        simp [bads_cons, bads_nil, *]
      · (refine RetN.q () [] ?_ ?_ ?_ <;> (repeat' ((conv => whnf) <;> first | exact rfl | exact trivial | apply And.intro | exact Nat.zero_add _)); all_goals ((conv => whnf); try simp only []))
        simp [bads_cons, bads_nil, *]
    · (refine RetN.q () [] ?_ ?_ ?_ <;> (repeat' ((conv => whnf) <;> first | exact rfl | exact trivial | apply And.intro | exact Nat.zero_add _)); all_goals ((conv => whnf); try simp only []))
      simp [bads_cons, bads_nil, *]
  · (refine RetN.q () [] ?_ ?_ ?_ <;> (repeat' ((conv => whnf) <;> first | exact rfl | exact trivial | apply And.intro | exact Nat.zero_add _)); all_goals ((conv => whnf); try simp only []))
    simp [bads_cons, bads_nil, *]
theorem rnameM (n : Int × Bytes) : Meets Try.prog 50 [.agg [.int .i64 fun _ => n.1, .str fun _ => n.2]] [] (Y := Unit) (fun _ => True) (fun _ => .bool fun _ => !nameW n) (fun _ => []) := by
  refine Meets.intro hm (fn := Try.f50) Try.func50 rfl (by decide) (Nat.le_of_ble_eq_true rfl) (fun _ => rfl) ?_; intro S hok; (conv => whnf)
  (repeat' ((conv => whnf); first | apply And.intro | exact ⟨by kernel_rfl⟩ | apply DrawN.mk | apply CodeN.step hm rfl | exact trivial | exact rfl | (intro hh; try simp only [bs] at hh))); all_goals (conv => whnf)
  (refine CallN.q (rFitsM n.1 1 (by omega)) [] (fun _ _ => ?_); (repeat' ((conv => whnf); first | apply And.intro | exact ⟨by kernel_rfl⟩ | apply DrawN.mk | apply CodeN.step hm rfl | exact trivial | exact rfl | (intro hh; try simp only [bs] at hh; try exact absurd hh (by decide)))); all_goals (conv => whnf); all_goals try exact ⟨by decide⟩)
  · (refine RetN.q () [] ?_ ?_ ?_ <;> (repeat' ((conv => whnf) <;> first | exact rfl | exact trivial | apply And.intro | exact Nat.zero_add _)); all_goals ((conv => whnf); try simp only []))
    have h : fitsB n.1 1 = true := by assumption
    simp only [nameW, bads_book, An.put_ok, h]
    rw [Bool.eq_iff_iff]; simp
    try omega
  · (refine RetN.q () [] ?_ ?_ ?_ <;> (repeat' ((conv => whnf) <;> first | exact rfl | exact trivial | apply And.intro | exact Nat.zero_add _)); all_goals ((conv => whnf); try simp only []))
    simp [nameW, bads_book, *]
/-- What may be, field by field. -/
def goodB (c : Cmd) : Bool := !(c.2.2.1.any askW) && (decide (1 ≤ c.1) && decide (c.1 ≤ 9)) && (if c.1 = 1 ∨ c.1 = 3 then decide ((c.2.2.1.length : Int) = 1) else if c.1 = 2 then decide ((c.2.2.1.length : Int) ≤ 32) else decide ((c.2.2.1.length : Int) = 0)) &&
  (decide (c.1 = 2) || !c.2.1) && (if c.1 = 5 ∨ c.1 = 6 ∨ c.1 = 7 then fitsB c.2.2.2.1 1 else decide (c.2.2.2.1 = 0)) && (if c.1 = 5 then !bads [(c.2.2.2.2.1.1, 1), (c.2.2.2.2.1.2.1, 4), (c.2.2.2.2.1.2.2.1, 4), (c.2.2.2.2.1.2.2.2, 1)] else eqD PolT c.2.2.2.2.1 (0, 0, 0, 0)) &&
  (if c.1 = 4 ∨ c.1 = 9 then !nameW c.2.2.2.2.2.1 else eqD NameT c.2.2.2.2.2.1 (0, [])) && (if c.1 = 9 then fitsB c.2.2.2.2.2.2 1 else decide (c.2.2.2.2.2.2 = 0))
theorem len_one {l : List Ask} : l.length = 1 ↔ l = [l.getD 0 (0, [], 0)] := by
  constructor
  · intro h
    match l, h with
    | [a], _ => rfl
  · intro h; rw [h]; rfl
theorem goodB_eq (c : Cmd) : good c = goodB c := by
  obtain ⟨k, al, asks, b, p, x, m⟩ := c
  have ep : ∀ p : Int × Int × Int × Int, (eqD PolT p (0, 0, 0, 0) = true) = (p = (0, 0, 0, 0)) := fun p => propext (eqD_iff PolT rfl p (0, 0, 0, 0))
  have ex : ∀ x : Int × Bytes, (eqD NameT x (0, []) = true) = (x = (0, [])) := fun x => propext (eqD_iff NameT rfl x (0, []))
  rw [Bool.eq_iff_iff]
  by_cases hk : 1 ≤ k ∧ k ≤ 9
  · rcases kinds_cases hk with rfl | rfl | rfl | rfl | rfl | rfl | rfl | rfl | rfl
    all_goals rcases asks with _ | ⟨a, _ | ⟨a', r⟩⟩
    all_goals simp only [good, goodB, bodyW, strip]
    all_goals simp [ep, ex, bads_cons, bads_nil]
    all_goals first | grind | skip
  · have h1 : goodB (k, al, asks, b, p, x, m) = false := by
      have : (decide (1 ≤ k) && decide (k ≤ 9)) = false := by simp; omega
      simp [goodB, this]
    have h2 : ¬ good (k, al, asks, b, p, x, m) = true := fun h => hk (good_kind (good_iff.1 h).1)
    rw [h1]; simp [h2]
set_option maxHeartbeats 1000000 in
theorem rmayB (c : Cmd) (hc : ShC c) : Meets Try.prog 27 [cmdAV c] [] (Y := Unit) (fun _ => True) (fun _ => .bool fun _ => goodB c) (fun _ => []) := by
  have hal := hc.asks
  have hgb : goodB c = (!(c.2.2.1.any askW) && goodB c) := by unfold goodB; cases c.2.2.1.any askW <;> simp
  obtain ⟨k, al, asks, b, ⟨p1, p2, p3, p4⟩, ⟨xb, xk⟩, m⟩ := c
  have hal : asks.length ≤ 1000 := hal
  refine Meets.intro hm (fn := Try.f27) Try.func27 rfl (by decide) (Nat.le_of_ble_eq_true rfl) (fun _ => rfl) ?_; intro S hok; (conv => whnf)
  (repeat' ((conv => whnf); first | apply And.intro | exact ⟨by kernel_rfl⟩ | apply DrawN.mk | apply CodeN.step hm rfl | exact trivial | exact rfl | (intro hh; try simp only [bs] at hh))); all_goals (conv => whnf)
  refine LoopN.intro hm (X := Nat) (fun i => i ≤ asks.length ∧ (asks.take i).any askW = false) (fun i => asks.length - i)
    (fun i => [(3, .int .i64 fun _ => (i : Int)), (2, .ff), (1, .ptr 0 0)]) (fun _ => [cmdW (k, al, asks, b, (p1, p2, p3, p4), (xb, xk), m)]) 0 [0] ⟨rfl, rfl, ?_, ?_⟩ ⟨Nat.zero_le _, rfl⟩ (fun i hi => ?_)
  · (repeat' ((conv => whnf) <;> first | exact rfl | exact trivial | apply And.intro | exact Nat.zero_add _))
  · (repeat' ((conv => whnf) <;> first | exact rfl | exact trivial | apply And.intro | exact Nat.zero_add _))
  obtain ⟨hi, ha⟩ := hi
  have hx0 : ∀ h : i < asks.length, (asks.take (i + 1)).any askW = ((asks.take i).any askW || askW (asks.getD (i : Int).toNat AskT.dflt)) := fun h => (asks_take h).2
  have hmem : i < asks.length → asks.getD (i : Int).toNat AskT.dflt ∈ asks := fun h => by
    show asks.getD i _ ∈ _
    rw [List.getD_eq_getElem?_getD, List.getElem?_eq_getElem h]; exact List.getElem_mem h
  have hbad0 : i < asks.length → askW (asks.getD (i : Int).toNat AskT.dflt) = true → goodB (k, al, asks, b, (p1, p2, p3, p4), (xb, xk), m) = false := fun h h2 => by
    rw [hgb, List.any_eq_true.2 ⟨_, hmem h, h2⟩]; rfl
  obtain ⟨x, hx⟩ : ∃ x, asks.getD (i : Int).toNat AskT.dflt = x := ⟨_, rfl⟩
  rw [hx] at hx0 hmem hbad0
  have hend : ¬ i < asks.length → asks.any askW = false := fun h => by
    rw [List.take_of_length_le (by omega)] at ha; exact ha
  (repeat' ((conv => whnf); first | apply And.intro | exact ⟨by kernel_rfl⟩ | apply DrawN.mk | apply CodeN.step hm rfl | exact trivial | exact rfl | (intro hh; try simp only [bs] at hh))); all_goals (conv => whnf)
  all_goals try simp only [hx] at hh
  all_goals try simp only [hx]
  · exact Ob.mk (by omega)
  · have hi2 : i < asks.length := by omega
    (refine CallN.q (rFitsM x.1 1 (by omega)) [] (fun _ _ => ?_); (repeat' ((conv => whnf); first | apply And.intro | exact ⟨by kernel_rfl⟩ | apply DrawN.mk | apply CodeN.step hm rfl | exact trivial | exact rfl | (intro hh; try simp only [bs] at hh; try exact absurd hh (by decide)))); all_goals (conv => whnf); all_goals try exact ⟨by decide⟩)
    all_goals try
      (refine CallN.q (rFitsM x.2.2 4 (by omega)) [] (fun _ _ => ?_); (repeat' ((conv => whnf); first | apply And.intro | exact ⟨by kernel_rfl⟩ | apply DrawN.mk | apply CodeN.step hm rfl | exact trivial | exact rfl | (intro hh; try simp only [bs] at hh; try exact absurd hh (by decide)))); all_goals (conv => whnf); all_goals try exact ⟨by decide⟩)
    all_goals first
      | ((refine RetN.q () [] ?_ ?_ ?_ <;> (repeat' ((conv => whnf) <;> first | exact rfl | exact trivial | apply And.intro | exact Nat.zero_add _)); all_goals ((conv => whnf); try simp only []))
         exact hbad0 hi2 (by simp [askW, nameW, bads_cons, bads_nil, An.put_ok, *]; try omega))
      | (refine ⟨i + 1, [0], ⟨rfl, rfl, ?_, ?_⟩, ⟨by omega, ?_⟩, by omega⟩
         · (repeat' ((conv => whnf) <;> first | exact rfl | exact trivial | apply And.intro | exact Nat.zero_add _))
         · (repeat' ((conv => whnf) <;> first | exact rfl | exact trivial | apply And.intro | exact Nat.zero_add _)); all_goals ((conv => whnf); try simp only [])
           exact wr2 i (n := asks.length) hi2 (by omega)
         · rw [hx0 hi2, ha]
           simp [askW, nameW, bads_cons, bads_nil, An.put_ok, *]
           try omega)
  all_goals have hany := hend (by omega)
  all_goals try
    (refine CallN.intro (rnameM (xb, xk)) [] rfl rfl ?_ ?_ (fun _ _ => ?_); (· (repeat' ((conv => whnf) <;> first | exact rfl | exact trivial | apply And.intro | exact Nat.zero_add _))); (· (repeat' ((conv => whnf) <;> first | exact rfl | exact trivial | apply And.intro | exact Nat.zero_add _))); (repeat' ((conv => whnf); first | apply And.intro | exact ⟨by kernel_rfl⟩ | apply DrawN.mk | apply CodeN.step hm rfl | exact trivial | exact rfl | (intro hh; try simp only [bs] at hh; try exact absurd hh (by decide)))); all_goals (conv => whnf); all_goals try exact ⟨by decide⟩)
  all_goals try
    (refine CallN.intro (rFitsM b 1 (by omega)) [] rfl rfl ?_ ?_ (fun _ _ => ?_); (· (repeat' ((conv => whnf) <;> first | exact rfl | exact trivial | apply And.intro | exact Nat.zero_add _))); (· (repeat' ((conv => whnf) <;> first | exact rfl | exact trivial | apply And.intro | exact Nat.zero_add _))); (repeat' ((conv => whnf); first | apply And.intro | exact ⟨by kernel_rfl⟩ | apply DrawN.mk | apply CodeN.step hm rfl | exact trivial | exact rfl | (intro hh; try simp only [bs] at hh; try exact absurd hh (by decide)))); all_goals (conv => whnf); all_goals try exact ⟨by decide⟩)
  all_goals try
    (refine CallN.intro (rpolM (p1, p2, p3, p4)) [] rfl rfl ?_ ?_ (fun _ _ => ?_); (· (repeat' ((conv => whnf) <;> first | exact rfl | exact trivial | apply And.intro | exact Nat.zero_add _))); (· (repeat' ((conv => whnf) <;> first | exact rfl | exact trivial | apply And.intro | exact Nat.zero_add _))); (repeat' ((conv => whnf); first | apply And.intro | exact ⟨by kernel_rfl⟩ | apply DrawN.mk | apply CodeN.step hm rfl | exact trivial | exact rfl | (intro hh; try simp only [bs] at hh; try exact absurd hh (by decide)))); all_goals (conv => whnf); all_goals try exact ⟨by decide⟩)
  all_goals try
    (refine CallN.intro (rFitsM m 1 (by omega)) [] rfl rfl ?_ ?_ (fun _ _ => ?_); (· (repeat' ((conv => whnf) <;> first | exact rfl | exact trivial | apply And.intro | exact Nat.zero_add _))); (· (repeat' ((conv => whnf) <;> first | exact rfl | exact trivial | apply And.intro | exact Nat.zero_add _))); (repeat' ((conv => whnf); first | apply And.intro | exact ⟨by kernel_rfl⟩ | apply DrawN.mk | apply CodeN.step hm rfl | exact trivial | exact rfl | (intro hh; try simp only [bs] at hh; try exact absurd hh (by decide)))); all_goals (conv => whnf); all_goals try exact ⟨by decide⟩)
  all_goals
    (refine RetN.q () [] ?_ ?_ ?_ <;> (repeat' ((conv => whnf) <;> first | exact rfl | exact trivial | apply And.intro | exact Nat.zero_add _)); all_goals ((conv => whnf); try simp only []))
    first | (simp [goodB, hany, *]; done) | (rw [Bool.eq_iff_iff]; simp [goodB, hany, *]; done) | (simp [goodB, hany, *]; omega) | (rw [goodB, hany]; simp only [*, Int.reduceEq, or_self, if_true, if_false, decide_eq_false_iff_not.2 hh]; simp; done) | (have hz := mt (fun e : asks = [] => by rw [e]; rfl) hh; simp [goodB, hany, hz, *]; done) | skip
theorem rmayM (c : Cmd) (hc : ShC c) : Meets Try.prog 27 [cmdAV c] [] (Y := Unit) (fun _ => True) (fun _ => .bool fun _ => good c) (fun _ => []) := by
  have := rmayB c hc
  rw [← goodB_eq] at this
  exact this
end Go.Proofs.Ytoipgandilhdeaa.Wi
set_option linter.unusedVariables false
set_option linter.unusedSimpArgs false
namespace Go.Proofs.Ytoipgandilhdeaa.Wi
open Go Go.RowKit Fw Nu
open An (byv byv_len byv_app byv_back byv_range fitsB fits_iff wides bads wides_len fits_neg shr_ne from_ readL readL_get readL_put readName nameB nameW name_get name_put readN readN_get readN_put bads_cons bads_nil bads_book fits_one rFitsM byteM fourM policyM)
theorem rtextM (s : Bytes) (hs : s.length ≤ 1000) : Meets Try.prog 48 [.str fun _ => s] [] (Y := Unit) (fun _ => True) (fun _ => .str fun _ => (put s).1) (fun _ => []) := by
  refine Meets.intro hm (fn := Try.f48) Try.func48 rfl (by decide) (Nat.le_of_ble_eq_true rfl) (fun _ => rfl) ?_; intro S hok; (conv => whnf)
  (repeat' ((conv => whnf); first | apply And.intro | exact ⟨by kernel_rfl⟩ | apply DrawN.mk | apply CodeN.step hm rfl | exact trivial | exact rfl | (intro hh; try simp only [bs] at hh))); all_goals (conv => whnf)
  (refine CallN.q (rputM s (by omega)) [] (fun _ _ => ?_); (repeat' ((conv => whnf); first | apply And.intro | exact ⟨by kernel_rfl⟩ | apply DrawN.mk | apply CodeN.step hm rfl | exact trivial | exact rfl | (intro hh; try simp only [bs] at hh; try exact absurd hh (by decide)))); all_goals (conv => whnf); all_goals try exact ⟨by decide⟩)
  (refine RetN.q () [] ?_ ?_ ?_ <;> (repeat' ((conv => whnf) <;> first | exact rfl | exact trivial | apply And.intro | exact Nat.zero_add _)); all_goals ((conv => whnf); try simp only []))
theorem raskM (x : Ask) (hs : x.2.1.length ≤ 1000) : Meets Try.prog 47 [.agg [.int .i64 fun _ => x.1, .str fun _ => x.2.1, .int .i64 fun _ => x.2.2]] [] (Y := Unit) (fun _ => True) (fun _ => .str fun _ => askB x) (fun _ => []) := by
  have hp := put_len x.2.1
  refine Meets.intro hm (fn := Try.f47) Try.func47 rfl (by decide) (Nat.le_of_ble_eq_true rfl) (fun _ => rfl) ?_; intro S hok; (conv => whnf)
  (repeat' ((conv => whnf); first | apply And.intro | exact ⟨by kernel_rfl⟩ | apply DrawN.mk | apply CodeN.step hm rfl | exact trivial | exact rfl | (intro hh; try simp only [bs] at hh))); all_goals (conv => whnf)
  (refine CallN.q (byteM x.1) [] (fun _ _ => ?_); (repeat' ((conv => whnf); first | apply And.intro | exact ⟨by kernel_rfl⟩ | apply DrawN.mk | apply CodeN.step hm rfl | exact trivial | exact rfl | (intro hh; try simp only [bs] at hh; try exact absurd hh (by decide)))); all_goals (conv => whnf); all_goals try exact ⟨by decide⟩)
  (refine CallN.q (rtextM x.2.1 hs) [] (fun _ _ => ?_); (repeat' ((conv => whnf); first | apply And.intro | exact ⟨by kernel_rfl⟩ | apply DrawN.mk | apply CodeN.step hm rfl | exact trivial | exact rfl | (intro hh; try simp only [bs] at hh; try exact absurd hh (by decide)))); all_goals (conv => whnf); all_goals try exact ⟨by decide⟩)
  all_goals first | (exact Ob.mk (by simp only [List.length_append, wide_len, wides_len, List.map_cons, List.map_nil, List.sum_cons, List.sum_nil]; omega)) | skip
  (refine CallN.q (fourM x.2.2) [] (fun _ _ => ?_); (repeat' ((conv => whnf); first | apply And.intro | exact ⟨by kernel_rfl⟩ | apply DrawN.mk | apply CodeN.step hm rfl | exact trivial | exact rfl | (intro hh; try simp only [bs] at hh; try exact absurd hh (by decide)))); all_goals (conv => whnf); all_goals try exact ⟨by decide⟩)
  all_goals first | (exact Ob.mk (by simp only [List.length_append, wide_len, wides_len, List.map_cons, List.map_nil, List.sum_cons, List.sum_nil]; omega)) | skip
  (refine RetN.q () [] ?_ ?_ ?_ <;> (repeat' ((conv => whnf) <;> first | exact rfl | exact trivial | apply And.intro | exact Nat.zero_add _)); all_goals ((conv => whnf); try simp only []))
theorem bodyW_one {c : Cmd} (h : bodyW c = false) (hk : c.1 = 1 ∨ c.1 = 3) : c.2.2.1.length = 1 ∧ c.2.2.1.getD 0 (0, [], 0) ∈ c.2.2.1 := by
  have hl : c.2.2.1.length = 1 := by
    rcases hk with e | e <;> (unfold bodyW at h; rw [e] at h; simp at h; exact h.1)
  refine ⟨hl, ?_⟩
  rw [List.getD_eq_getElem?_getD, List.getElem?_eq_getElem (by omega)]; exact List.getElem_mem _
theorem rencodeM (c : Cmd) (hc : ShC c) : Meets Try.prog 25 [cmdAV c] [] (Y := Unit) (fun _ => True) (fun _ => .tup [.str fun _ => (encR c).1, .int .i64 fun _ => (encR c).2]) (fun _ => []) := by
  refine Meets.intro hm (fn := Try.f25) Try.func25 rfl (by decide) (Nat.le_of_ble_eq_true rfl) (fun _ => rfl) ?_; intro S hok; (conv => whnf)
  (repeat' ((conv => whnf); first | apply And.intro | exact ⟨by kernel_rfl⟩ | apply DrawN.mk | apply CodeN.step hm rfl | exact trivial | exact rfl | (intro hh; try simp only [bs] at hh))); all_goals (conv => whnf)
  (refine CallN.q (rmayM c hc) [] (fun _ _ => ?_); (repeat' ((conv => whnf); first | apply And.intro | exact ⟨by kernel_rfl⟩ | apply DrawN.mk | apply CodeN.step hm rfl | exact trivial | exact rfl | (intro hh; try simp only [bs] at hh; try exact absurd hh (by decide)))); all_goals (conv => whnf); all_goals try exact ⟨by decide⟩)
  · have e : encR c = ([], 1) := by unfold encR; rw [if_neg (by simp [*])]
    (refine RetN.q () [] ?_ ?_ ?_ <;> (repeat' ((conv => whnf) <;> first | exact rfl | exact trivial | apply And.intro | exact Nat.zero_add _)); all_goals ((conv => whnf); try simp only []))
    all_goals rw [e]
  · have hg : good c = true := by assumption
    obtain ⟨hw, hst⟩ := good_iff.1 hg
    have hk := good_kind hw
    (refine CallN.q (byteM c.1) [] (fun _ _ => ?_); (repeat' ((conv => whnf); first | apply And.intro | exact ⟨by kernel_rfl⟩ | apply DrawN.mk | apply CodeN.step hm rfl | exact trivial | exact rfl | (intro hh; try simp only [bs] at hh; try exact absurd hh (by decide)))); all_goals (conv => whnf); all_goals try exact ⟨by decide⟩)
    all_goals first | (exact Ob.mk (by simp only [List.length_append, wide_len, wides_len, List.map_cons, List.map_nil, List.sum_cons, List.sum_nil]; omega)) | skip
    all_goals try (exfalso; omega)
    all_goals have hwl := wides1_len c.1 1
    all_goals have hwl2 := wide_len (IntKind.u64.wrap c.1) 1
    all_goals have hpl := put_len c.2.2.2.2.2.1.2
    · exact Ob.mk (by have := (bodyW_one hw (.inl (by assumption))).1; simp only []; omega)
    · have hx := bodyW_one hw (.inl (by assumption))
      have hal := askB_len (c.2.2.1.getD 0 (0, [], 0))
      (refine CallN.q (raskM (c.2.2.1.getD 0 (0, [], 0)) (by have := hc.key _ hx.2; omega)) [] (fun _ _ => ?_); (repeat' ((conv => whnf); first | apply And.intro | exact ⟨by kernel_rfl⟩ | apply DrawN.mk | apply CodeN.step hm rfl | exact trivial | exact rfl | (intro hh; try simp only [bs] at hh; try exact absurd hh (by decide)))); all_goals (conv => whnf); all_goals try exact ⟨by decide⟩)
      all_goals first | (exact Ob.mk (by simp only [List.length_append, wide_len, wides_len, List.map_cons, List.map_nil, List.sum_cons, List.sum_nil]; omega)) | skip
      all_goals
        have hT : wide (IntKind.u64.wrap c.1) 1 ++ askB (c.2.2.1.getD 0 (0, [], 0)) = encC c := by
          rw [encC, wides1]
          unfold bodyB
          simp [*, wides, nameB, b01]
        rw [hT] at hh
        (refine RetN.q () [] ?_ ?_ ?_ <;> (repeat' ((conv => whnf) <;> first | exact rfl | exact trivial | apply And.intro | exact Nat.zero_add _)); all_goals ((conv => whnf); try simp only []))
        all_goals
          unfold encR
          first | (rw [if_pos hg, if_pos (by omega)]; done) | (rw [if_pos hg, if_neg (by omega)]; done) | (rw [if_pos hg, if_neg (by omega)]; exact hT) | skip
    · exact Ob.mk (by have := (bodyW_one hw (.inr (by assumption))).1; simp only []; omega)
    · have hx := bodyW_one hw (.inr (by assumption))
      have hal := askB_len (c.2.2.1.getD 0 (0, [], 0))
      (refine CallN.q (raskM (c.2.2.1.getD 0 (0, [], 0)) (by have := hc.key _ hx.2; omega)) [] (fun _ _ => ?_); (repeat' ((conv => whnf); first | apply And.intro | exact ⟨by kernel_rfl⟩ | apply DrawN.mk | apply CodeN.step hm rfl | exact trivial | exact rfl | (intro hh; try simp only [bs] at hh; try exact absurd hh (by decide)))); all_goals (conv => whnf); all_goals try exact ⟨by decide⟩)
      all_goals first | (exact Ob.mk (by simp only [List.length_append, wide_len, wides_len, List.map_cons, List.map_nil, List.sum_cons, List.sum_nil]; omega)) | skip
      all_goals
        have hT : wide (IntKind.u64.wrap c.1) 1 ++ askB (c.2.2.1.getD 0 (0, [], 0)) = encC c := by
          rw [encC, wides1]
          unfold bodyB
          simp [*, wides, nameB, b01]
        rw [hT] at hh
        (refine RetN.q () [] ?_ ?_ ?_ <;> (repeat' ((conv => whnf) <;> first | exact rfl | exact trivial | apply And.intro | exact Nat.zero_add _)); all_goals ((conv => whnf); try simp only []))
        all_goals
          unfold encR
          first | (rw [if_pos hg, if_pos (by omega)]; done) | (rw [if_pos hg, if_neg (by omega)]; done) | (rw [if_pos hg, if_neg (by omega)]; exact hT) | skip
    · have ev : b01 c.2.1 = 1 := by unfold b01; rw [hh]; rfl
      have hw2 : c.2.2.1.length ≤ 32 ∧ c.2.2.1.any askW = false := by
        unfold bodyW at hw
        rw [‹c.1 = 2›] at hw
        simp only [Bool.or_eq_false_iff, decide_eq_false_iff_not] at hw
        exact ⟨by omega, hw.2⟩
      (refine CallN.q (byteM 1) [] (fun _ _ => ?_); (repeat' ((conv => whnf); first | apply And.intro | exact ⟨by kernel_rfl⟩ | apply DrawN.mk | apply CodeN.step hm rfl | exact trivial | exact rfl | (intro hh; try simp only [bs] at hh; try exact absurd hh (by decide)))); all_goals (conv => whnf); all_goals try exact ⟨by decide⟩)
      all_goals first | (exact Ob.mk (by simp only [List.length_append, wide_len, wides_len, List.map_cons, List.map_nil, List.sum_cons, List.sum_nil]; omega)) | skip
      (refine CallN.q (byteM c.2.2.1.length) [] (fun _ _ => ?_); (repeat' ((conv => whnf); first | apply And.intro | exact ⟨by kernel_rfl⟩ | apply DrawN.mk | apply CodeN.step hm rfl | exact trivial | exact rfl | (intro hh; try simp only [bs] at hh; try exact absurd hh (by decide)))); all_goals (conv => whnf); all_goals try exact ⟨by decide⟩)
      all_goals first | (exact Ob.mk (by simp only [List.length_append, wide_len, wides_len, List.map_cons, List.map_nil, List.sum_cons, List.sum_nil]; omega)) | skip
      generalize hb1 : wide (IntKind.u64.wrap c.1) 1 ++ wide (IntKind.u64.wrap 1) 1 ++ wide (IntKind.u64.wrap (c.2.2.1.length : Int)) 1 = b1
      have hb1l : b1.length = 3 := by rw [← hb1]; simp [wide_len]
      have hbe : encC c = b1 ++ c.2.2.1.flatMap askB := by
        rw [← hb1, encC, wides1]
        unfold bodyB
        simp [*, wides, b01]
      refine LoopN.intro hm (X := Nat × Bytes) (fun x => x.1 ≤ c.2.2.1.length ∧ x.2 = b1 ++ (c.2.2.1.take x.1).flatMap askB) (fun x => c.2.2.1.length - x.1)
        (fun x => [(6, .int .i64 fun _ => (x.1 : Int)), (4, .str fun _ => x.2), (1, .ptr 0 0)]) (fun _ => [cmdW c]) (0, b1) [0] ⟨rfl, rfl, ?_, ?_⟩ ⟨Nat.zero_le _, by simp⟩ (fun x hx => ?_)
      · (repeat' ((conv => whnf) <;> first | exact rfl | exact trivial | apply And.intro | exact Nat.zero_add _))
      · (repeat' ((conv => whnf) <;> first | exact rfl | exact trivial | apply And.intro | exact Nat.zero_add _)); all_goals ((conv => whnf); try simp only [])
        exact hb1
      obtain ⟨i, b⟩ := x
      obtain ⟨hi, hb⟩ := hx
      simp only [] at hi hb
      have hbl : b.length ≤ 10000 := by
        have := asks_len (c.2.2.1.take i)
        rw [List.length_take] at this
        rw [hb, List.length_append]; omega
      (repeat' ((conv => whnf); first | apply And.intro | exact ⟨by kernel_rfl⟩ | apply DrawN.mk | apply CodeN.step hm rfl | exact trivial | exact rfl | (intro hh; try simp only [bs] at hh))); all_goals (conv => whnf)
      · exact Ob.mk (by simp only []; omega)
      · have hi2 : i < c.2.2.1.length := by omega
        have hkey := hc.key (c.2.2.1.getD i (0, [], 0)) (by rw [List.getD_eq_getElem?_getD, List.getElem?_eq_getElem hi2]; exact List.getElem_mem hi2)
        have hal := askB_len (c.2.2.1.getD i (0, [], 0))
        (refine CallN.q (raskM (c.2.2.1.getD i (0, [], 0)) (by omega)) [] (fun _ _ => ?_); (repeat' ((conv => whnf); first | apply And.intro | exact ⟨by kernel_rfl⟩ | apply DrawN.mk | apply CodeN.step hm rfl | exact trivial | exact rfl | (intro hh; try simp only [bs] at hh; try exact absurd hh (by decide)))); all_goals (conv => whnf); all_goals try exact ⟨by decide⟩)
        all_goals first | (exact Ob.mk (by simp only [List.length_append, wide_len, wides_len, List.map_cons, List.map_nil, List.sum_cons, List.sum_nil]; omega)) | skip
        refine ⟨(i + 1, b ++ askB (c.2.2.1.getD i (0, [], 0))), [0], ⟨rfl, rfl, ?_, ?_⟩, ⟨by simp only []; omega, ?_⟩, by simp only []; omega⟩
        · (repeat' ((conv => whnf) <;> first | exact rfl | exact trivial | apply And.intro | exact Nat.zero_add _))
        · (repeat' ((conv => whnf) <;> first | exact rfl | exact trivial | apply And.intro | exact Nat.zero_add _)); all_goals ((conv => whnf); try simp only [])
          exact wr2 i hi2 (by omega)
        · simp only [hb, (asks_take hi2).1, List.append_assoc]
      all_goals
        have e : i = c.2.2.1.length := by omega
        rw [e, List.take_length, ← hbe] at hb
        rw [hb] at hh
        (refine RetN.q () [] ?_ ?_ ?_ <;> (repeat' ((conv => whnf) <;> first | exact rfl | exact trivial | apply And.intro | exact Nat.zero_add _)); all_goals ((conv => whnf); try simp only []))
        all_goals
          unfold encR
          first | (rw [if_pos hg, if_pos (by omega)]; done) | (rw [if_pos hg, if_neg (by omega)]; done) | (rw [if_pos hg, if_neg (by omega)]; exact hb) | skip
    · have ev : b01 c.2.1 = 0 := by unfold b01; rw [hh]; rfl
      have hw2 : c.2.2.1.length ≤ 32 ∧ c.2.2.1.any askW = false := by
        unfold bodyW at hw
        rw [‹c.1 = 2›] at hw
        simp only [Bool.or_eq_false_iff, decide_eq_false_iff_not] at hw
        exact ⟨by omega, hw.2⟩
      (refine CallN.q (byteM 0) [] (fun _ _ => ?_); (repeat' ((conv => whnf); first | apply And.intro | exact ⟨by kernel_rfl⟩ | apply DrawN.mk | apply CodeN.step hm rfl | exact trivial | exact rfl | (intro hh; try simp only [bs] at hh; try exact absurd hh (by decide)))); all_goals (conv => whnf); all_goals try exact ⟨by decide⟩)
      all_goals first | (exact Ob.mk (by simp only [List.length_append, wide_len, wides_len, List.map_cons, List.map_nil, List.sum_cons, List.sum_nil]; omega)) | skip
      (refine CallN.q (byteM c.2.2.1.length) [] (fun _ _ => ?_); (repeat' ((conv => whnf); first | apply And.intro | exact ⟨by kernel_rfl⟩ | apply DrawN.mk | apply CodeN.step hm rfl | exact trivial | exact rfl | (intro hh; try simp only [bs] at hh; try exact absurd hh (by decide)))); all_goals (conv => whnf); all_goals try exact ⟨by decide⟩)
      all_goals first | (exact Ob.mk (by simp only [List.length_append, wide_len, wides_len, List.map_cons, List.map_nil, List.sum_cons, List.sum_nil]; omega)) | skip
      generalize hb1 : wide (IntKind.u64.wrap c.1) 1 ++ wide (IntKind.u64.wrap 0) 1 ++ wide (IntKind.u64.wrap (c.2.2.1.length : Int)) 1 = b1
      have hb1l : b1.length = 3 := by rw [← hb1]; simp [wide_len]
      have hbe : encC c = b1 ++ c.2.2.1.flatMap askB := by
        rw [← hb1, encC, wides1]
        unfold bodyB
        simp [*, wides, b01]
      refine LoopN.intro hm (X := Nat × Bytes) (fun x => x.1 ≤ c.2.2.1.length ∧ x.2 = b1 ++ (c.2.2.1.take x.1).flatMap askB) (fun x => c.2.2.1.length - x.1)
        (fun x => [(6, .int .i64 fun _ => (x.1 : Int)), (4, .str fun _ => x.2), (1, .ptr 0 0)]) (fun _ => [cmdW c]) (0, b1) [0] ⟨rfl, rfl, ?_, ?_⟩ ⟨Nat.zero_le _, by simp⟩ (fun x hx => ?_)
      · (repeat' ((conv => whnf) <;> first | exact rfl | exact trivial | apply And.intro | exact Nat.zero_add _))
      · (repeat' ((conv => whnf) <;> first | exact rfl | exact trivial | apply And.intro | exact Nat.zero_add _)); all_goals ((conv => whnf); try simp only [])
        exact hb1
      obtain ⟨i, b⟩ := x
      obtain ⟨hi, hb⟩ := hx
      simp only [] at hi hb
      have hbl : b.length ≤ 10000 := by
        have := asks_len (c.2.2.1.take i)
        rw [List.length_take] at this
        rw [hb, List.length_append]; omega
      (repeat' ((conv => whnf); first | apply And.intro | exact ⟨by kernel_rfl⟩ | apply DrawN.mk | apply CodeN.step hm rfl | exact trivial | exact rfl | (intro hh; try simp only [bs] at hh))); all_goals (conv => whnf)
      · exact Ob.mk (by simp only []; omega)
      · have hi2 : i < c.2.2.1.length := by omega
        have hkey := hc.key (c.2.2.1.getD i (0, [], 0)) (by rw [List.getD_eq_getElem?_getD, List.getElem?_eq_getElem hi2]; exact List.getElem_mem hi2)
        have hal := askB_len (c.2.2.1.getD i (0, [], 0))
        (refine CallN.q (raskM (c.2.2.1.getD i (0, [], 0)) (by omega)) [] (fun _ _ => ?_); (repeat' ((conv => whnf); first | apply And.intro | exact ⟨by kernel_rfl⟩ | apply DrawN.mk | apply CodeN.step hm rfl | exact trivial | exact rfl | (intro hh; try simp only [bs] at hh; try exact absurd hh (by decide)))); all_goals (conv => whnf); all_goals try exact ⟨by decide⟩)
        all_goals first | (exact Ob.mk (by simp only [List.length_append, wide_len, wides_len, List.map_cons, List.map_nil, List.sum_cons, List.sum_nil]; omega)) | skip
        refine ⟨(i + 1, b ++ askB (c.2.2.1.getD i (0, [], 0))), [0], ⟨rfl, rfl, ?_, ?_⟩, ⟨by simp only []; omega, ?_⟩, by simp only []; omega⟩
        · (repeat' ((conv => whnf) <;> first | exact rfl | exact trivial | apply And.intro | exact Nat.zero_add _))
        · (repeat' ((conv => whnf) <;> first | exact rfl | exact trivial | apply And.intro | exact Nat.zero_add _)); all_goals ((conv => whnf); try simp only [])
          exact wr2 i hi2 (by omega)
        · simp only [hb, (asks_take hi2).1, List.append_assoc]
      all_goals
        have e : i = c.2.2.1.length := by omega
        rw [e, List.take_length, ← hbe] at hb
        rw [hb] at hh
        (refine RetN.q () [] ?_ ?_ ?_ <;> (repeat' ((conv => whnf) <;> first | exact rfl | exact trivial | apply And.intro | exact Nat.zero_add _)); all_goals ((conv => whnf); try simp only []))
        all_goals
          unfold encR
          first | (rw [if_pos hg, if_pos (by omega)]; done) | (rw [if_pos hg, if_neg (by omega)]; done) | (rw [if_pos hg, if_neg (by omega)]; exact hb) | skip
    · (refine CallN.q (byteM c.2.2.2.2.2.1.1) [] (fun _ _ => ?_); (repeat' ((conv => whnf); first | apply And.intro | exact ⟨by kernel_rfl⟩ | apply DrawN.mk | apply CodeN.step hm rfl | exact trivial | exact rfl | (intro hh; try simp only [bs] at hh; try exact absurd hh (by decide)))); all_goals (conv => whnf); all_goals try exact ⟨by decide⟩)
      all_goals first | (exact Ob.mk (by simp only [List.length_append, wide_len, wides_len, List.map_cons, List.map_nil, List.sum_cons, List.sum_nil]; omega)) | skip
      (refine CallN.q (rtextM c.2.2.2.2.2.1.2 (by have := hc.after; omega)) [] (fun _ _ => ?_); (repeat' ((conv => whnf); first | apply And.intro | exact ⟨by kernel_rfl⟩ | apply DrawN.mk | apply CodeN.step hm rfl | exact trivial | exact rfl | (intro hh; try simp only [bs] at hh; try exact absurd hh (by decide)))); all_goals (conv => whnf); all_goals try exact ⟨by decide⟩)
      all_goals first | (exact Ob.mk (by simp only [List.length_append, wide_len, wides_len, List.map_cons, List.map_nil, List.sum_cons, List.sum_nil]; omega)) | skip
      all_goals
        have hT : wide (IntKind.u64.wrap c.1) 1 ++ wide (IntKind.u64.wrap c.2.2.2.2.2.1.1) 1 ++ (put c.2.2.2.2.2.1.2).1 = encC c := by
          rw [encC, wides1]
          unfold bodyB
          simp [*, wides, nameB, b01]
        rw [hT] at hh
        (refine RetN.q () [] ?_ ?_ ?_ <;> (repeat' ((conv => whnf) <;> first | exact rfl | exact trivial | apply And.intro | exact Nat.zero_add _)); all_goals ((conv => whnf); try simp only []))
        all_goals
          unfold encR
          first | (rw [if_pos hg, if_pos (by omega)]; done) | (rw [if_pos hg, if_neg (by omega)]; done) | (rw [if_pos hg, if_neg (by omega)]; exact hT) | skip
    · (refine CallN.q (byteM c.2.2.2.1) [] (fun _ _ => ?_); (repeat' ((conv => whnf); first | apply And.intro | exact ⟨by kernel_rfl⟩ | apply DrawN.mk | apply CodeN.step hm rfl | exact trivial | exact rfl | (intro hh; try simp only [bs] at hh; try exact absurd hh (by decide)))); all_goals (conv => whnf); all_goals try exact ⟨by decide⟩)
      all_goals first | (exact Ob.mk (by simp only [List.length_append, wide_len, wides_len, List.map_cons, List.map_nil, List.sum_cons, List.sum_nil]; omega)) | skip
      (refine CallN.q (policyM c.2.2.2.2.1) [] (fun _ _ => ?_); (repeat' ((conv => whnf); first | apply And.intro | exact ⟨by kernel_rfl⟩ | apply DrawN.mk | apply CodeN.step hm rfl | exact trivial | exact rfl | (intro hh; try simp only [bs] at hh; try exact absurd hh (by decide)))); all_goals (conv => whnf); all_goals try exact ⟨by decide⟩)
      all_goals first | (exact Ob.mk (by simp only [List.length_append, wide_len, wides_len, List.map_cons, List.map_nil, List.sum_cons, List.sum_nil]; omega)) | skip
      all_goals
        have hT : wide (IntKind.u64.wrap c.1) 1 ++ wide (IntKind.u64.wrap c.2.2.2.1) 1 ++ wides [(c.2.2.2.2.1.1, 1), (c.2.2.2.2.1.2.1, 4), (c.2.2.2.2.1.2.2.1, 4), (c.2.2.2.2.1.2.2.2, 1)] = encC c := by
          rw [encC, wides1]
          unfold bodyB
          simp [*, wides, nameB, b01]
        rw [hT] at hh
        (refine RetN.q () [] ?_ ?_ ?_ <;> (repeat' ((conv => whnf) <;> first | exact rfl | exact trivial | apply And.intro | exact Nat.zero_add _)); all_goals ((conv => whnf); try simp only []))
        all_goals
          unfold encR
          first | (rw [if_pos hg, if_pos (by omega)]; done) | (rw [if_pos hg, if_neg (by omega)]; done) | (rw [if_pos hg, if_neg (by omega)]; exact hT) | skip
    · (refine CallN.q (byteM c.2.2.2.1) [] (fun _ _ => ?_); (repeat' ((conv => whnf); first | apply And.intro | exact ⟨by kernel_rfl⟩ | apply DrawN.mk | apply CodeN.step hm rfl | exact trivial | exact rfl | (intro hh; try simp only [bs] at hh; try exact absurd hh (by decide)))); all_goals (conv => whnf); all_goals try exact ⟨by decide⟩)
      all_goals first | (exact Ob.mk (by simp only [List.length_append, wide_len, wides_len, List.map_cons, List.map_nil, List.sum_cons, List.sum_nil]; omega)) | skip
      all_goals
        have hT : wide (IntKind.u64.wrap c.1) 1 ++ wide (IntKind.u64.wrap c.2.2.2.1) 1 = encC c := by
          rw [encC, wides1]
          unfold bodyB
          simp [*, wides, nameB, b01]
        rw [hT] at hh
        (refine RetN.q () [] ?_ ?_ ?_ <;> (repeat' ((conv => whnf) <;> first | exact rfl | exact trivial | apply And.intro | exact Nat.zero_add _)); all_goals ((conv => whnf); try simp only []))
        all_goals
          unfold encR
          first | (rw [if_pos hg, if_pos (by omega)]; done) | (rw [if_pos hg, if_neg (by omega)]; done) | (rw [if_pos hg, if_neg (by omega)]; exact hT) | skip
    · (refine CallN.q (byteM c.2.2.2.1) [] (fun _ _ => ?_); (repeat' ((conv => whnf); first | apply And.intro | exact ⟨by kernel_rfl⟩ | apply DrawN.mk | apply CodeN.step hm rfl | exact trivial | exact rfl | (intro hh; try simp only [bs] at hh; try exact absurd hh (by decide)))); all_goals (conv => whnf); all_goals try exact ⟨by decide⟩)
      all_goals first | (exact Ob.mk (by simp only [List.length_append, wide_len, wides_len, List.map_cons, List.map_nil, List.sum_cons, List.sum_nil]; omega)) | skip
      all_goals
        have hT : wide (IntKind.u64.wrap c.1) 1 ++ wide (IntKind.u64.wrap c.2.2.2.1) 1 = encC c := by
          rw [encC, wides1]
          unfold bodyB
          simp [*, wides, nameB, b01]
        rw [hT] at hh
        (refine RetN.q () [] ?_ ?_ ?_ <;> (repeat' ((conv => whnf) <;> first | exact rfl | exact trivial | apply And.intro | exact Nat.zero_add _)); all_goals ((conv => whnf); try simp only []))
        all_goals
          unfold encR
          first | (rw [if_pos hg, if_pos (by omega)]; done) | (rw [if_pos hg, if_neg (by omega)]; done) | (rw [if_pos hg, if_neg (by omega)]; exact hT) | skip
    · (refine CallN.q (byteM c.2.2.2.2.2.1.1) [] (fun _ _ => ?_); (repeat' ((conv => whnf); first | apply And.intro | exact ⟨by kernel_rfl⟩ | apply DrawN.mk | apply CodeN.step hm rfl | exact trivial | exact rfl | (intro hh; try simp only [bs] at hh; try exact absurd hh (by decide)))); all_goals (conv => whnf); all_goals try exact ⟨by decide⟩)
      all_goals first | (exact Ob.mk (by simp only [List.length_append, wide_len, wides_len, List.map_cons, List.map_nil, List.sum_cons, List.sum_nil]; omega)) | skip
      (refine CallN.q (rtextM c.2.2.2.2.2.1.2 (by have := hc.after; omega)) [] (fun _ _ => ?_); (repeat' ((conv => whnf); first | apply And.intro | exact ⟨by kernel_rfl⟩ | apply DrawN.mk | apply CodeN.step hm rfl | exact trivial | exact rfl | (intro hh; try simp only [bs] at hh; try exact absurd hh (by decide)))); all_goals (conv => whnf); all_goals try exact ⟨by decide⟩)
      all_goals first | (exact Ob.mk (by simp only [List.length_append, wide_len, wides_len, List.map_cons, List.map_nil, List.sum_cons, List.sum_nil]; omega)) | skip
      (refine CallN.q (byteM c.2.2.2.2.2.2) [] (fun _ _ => ?_); (repeat' ((conv => whnf); first | apply And.intro | exact ⟨by kernel_rfl⟩ | apply DrawN.mk | apply CodeN.step hm rfl | exact trivial | exact rfl | (intro hh; try simp only [bs] at hh; try exact absurd hh (by decide)))); all_goals (conv => whnf); all_goals try exact ⟨by decide⟩)
      all_goals first | (exact Ob.mk (by simp only [List.length_append, wide_len, wides_len, List.map_cons, List.map_nil, List.sum_cons, List.sum_nil]; omega)) | skip
      all_goals
        have hT : wide (IntKind.u64.wrap c.1) 1 ++ wide (IntKind.u64.wrap c.2.2.2.2.2.1.1) 1 ++ (put c.2.2.2.2.2.1.2).1 ++ wide (IntKind.u64.wrap c.2.2.2.2.2.2) 1 = encC c := by
          rw [encC, wides1]
          unfold bodyB
          simp [*, wides, nameB, b01]
        rw [hT] at hh
        (refine RetN.q () [] ?_ ?_ ?_ <;> (repeat' ((conv => whnf) <;> first | exact rfl | exact trivial | apply And.intro | exact Nat.zero_add _)); all_goals ((conv => whnf); try simp only []))
        all_goals
          unfold encR
          first | (rw [if_pos hg, if_pos (by omega)]; done) | (rw [if_pos hg, if_neg (by omega)]; done) | (rw [if_pos hg, if_neg (by omega)]; exact hT) | skip
    all_goals have e8 : c.1 = 8 := by omega
    all_goals
      have hT : wide (IntKind.u64.wrap c.1) 1 = encC c := by
        rw [encC, wides1]
        unfold bodyB
        simp [*, wides, nameB, b01]
      rw [hT] at hh
      (refine RetN.q () [] ?_ ?_ ?_ <;> (repeat' ((conv => whnf) <;> first | exact rfl | exact trivial | apply And.intro | exact Nat.zero_add _)); all_goals ((conv => whnf); try simp only []))
      all_goals
        unfold encR
        first | (rw [if_pos hg, if_pos (by omega)]; done) | (rw [if_pos hg, if_neg (by omega)]; done) | (rw [if_pos hg, if_neg (by omega)]; exact hT) | skip
end Go.Proofs.Ytoipgandilhdeaa.Wi
