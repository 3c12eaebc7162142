/- The law AnswerReads holds at every input that its statement lets in; part 5 of its proof. -/
import Derived.Test.YtoipgandilhdeaaMAnswerReads3
import Derived.ProofKit
import Derived.OpenShut
import Derived.JoinedCond
import Derived.Test.YtoipgandilhdeaaRows
set_option linter.unusedVariables false
set_option linter.unusedSimpArgs false
namespace Go.Proofs.Ytoipgandilhdeaa.An
open Go Go.RowKit Fw Nu
def flat : Ty → Bool
  | .list _ => false | .pair a b => flat a && flat b | _ => true
theorem eqD_iff : ∀ (t : Ty), flat t = true → ∀ x y : t.den, (eqD t x y = true ↔ x = y)
  | .int k, _, x, y => by
    show (@BEq.beq Int _ x y = true ↔ x = y)
    exact beq_iff_eq
  | .bool, _, x, y => by
    show (@BEq.beq Bool _ x y = true ↔ x = y)
    exact beq_iff_eq
  | .str, _, x, y => by
    show (@BEq.beq (List UInt8) _ x y = true ↔ x = y)
    exact beq_iff_eq
  | .list e, h, x, y => by cases h
  | .pair a b, h, x, y => by
    have h : (flat a && flat b) = true := h
    rw [Bool.and_eq_true] at h
    show ((eqD a x.1 y.1 && eqD b x.2 y.2) = true ↔ x = y)
    rw [Bool.and_eq_true, eqD_iff a h.1, eqD_iff b h.2]
    exact Prod.ext_iff.symm
theorem eqD_no (t : Ty) (h : flat t = true) (x y : t.den) : eqD t x y = false ↔ x ≠ y := by
  rw [← Bool.not_eq_true, eqD_iff t h]
theorem shortM (a : Ans) : Meets Try.prog 13 [ansAV a] [] (Y := Bool) (fun y => y = true → Sh a ∧ a.2.2.1.length ≤ 40 ∧ a.2.2.2.2.2.2.2.length ≤ 40) (fun y => .bool fun _ => y) (fun _ => []) := by
  refine Meets.intro hm (fn := Try.f13) Try.func13 rfl (by decide) (Nat.le_of_ble_eq_true rfl) (fun _ => rfl) ?_; intro S hok; (conv => whnf)
  (repeat' ((conv => whnf); first | refine And.intro ?_ ?_ | exact Cl.mk (by kernel_rfl) | exact Ck.mk (by kernel_rfl) | refine DrawN.mk ?_ | refine CodeN.step hm rfl ?_ | exact trivial | exact rfl | (intro hh; try simp only [decide_eq_true_eq, decide_eq_false_iff_not, beq_iff_eq, beq_eq_false_iff_ne, bne_iff_ne, bne_eq_false_iff_eq, Bool.not_eq_true', Bool.not_eq_false', Bool.not_true, Bool.not_false] at hh))); all_goals (conv => whnf)
  · (refine RetN.intro false [] rfl rfl ?_ ?_ ?_; ((repeat' (first | exact rfl | exact trivial | refine And.intro ?_ ?_ | ((conv => whnf); first | exact rfl | exact trivial | refine And.intro ?_ ?_)))); ((repeat' (first | exact rfl | exact trivial | refine And.intro ?_ ?_ | ((conv => whnf); first | exact rfl | exact trivial | refine And.intro ?_ ?_))); all_goals (conv => whnf); all_goals (try simp only [])))
    exact fun h => (by cases h)
  · refine LoopN.intro hm (X := Nat) (fun i => i ≤ a.2.2.2.2.2.2.2.length ∧ ∀ n ∈ a.2.2.2.2.2.2.2.take i, n.2.length ≤ 300) (fun i => a.2.2.2.2.2.2.2.length - i)
      (fun i => [(3, .int .i64 fun _ => (i : Int)), (1, .ptr 0 0)]) (fun i => [ansC a]) 0 [0] ⟨rfl, rfl, ?_, ?_⟩ ⟨Nat.zero_le _, by simp⟩ (fun i hi => ?_)
    · (repeat' (first | exact rfl | exact trivial | refine And.intro ?_ ?_ | ((conv => whnf); first | exact rfl | exact trivial | refine And.intro ?_ ?_)))
    · (repeat' (first | exact rfl | exact trivial | refine And.intro ?_ ?_ | ((conv => whnf); first | exact rfl | exact trivial | refine And.intro ?_ ?_)))
    · obtain ⟨hi, hk⟩ := hi
      have hx' : a.2.2.2.2.2.2.2.getD (i : Int).toNat NameT.dflt = a.2.2.2.2.2.2.2.getD i (0, []) := rfl
      have hst : i < a.2.2.2.2.2.2.2.length → a.2.2.2.2.2.2.2.take (i + 1) = a.2.2.2.2.2.2.2.take i ++ [a.2.2.2.2.2.2.2.getD i (0, [])] := fun h => by
        rw [List.take_add_one, List.getElem?_eq_getElem h, List.getD_eq_getElem?_getD, List.getElem?_eq_getElem h]; rfl
      generalize a.2.2.2.2.2.2.2.getD i (0, []) = n at hx' hst
      (repeat' ((conv => whnf); first | refine And.intro ?_ ?_ | exact Cl.mk (by kernel_rfl) | exact Ck.mk (by kernel_rfl) | refine DrawN.mk ?_ | refine CodeN.step hm rfl ?_ | exact trivial | exact rfl | (intro hh; try simp only [decide_eq_true_eq, decide_eq_false_iff_not, beq_iff_eq, beq_eq_false_iff_ne, bne_iff_ne, bne_eq_false_iff_eq, Bool.not_eq_true', Bool.not_eq_false', Bool.not_true, Bool.not_false] at hh))); all_goals (conv => whnf)
      all_goals (try simp only [hx'] at hh ⊢)
      · (refine Ob.mk ?_; (try simp only [Ty.dflt, Nat.zero_add, Nat.add_zero, Int.toNat_natCast, Int.toNat_zero, Int.toNat_one, List.length_take, List.length_drop, List.length_append, List.length_replicate, List.length_cons, List.length_nil, List.length_set, List.length_map, true_and, and_true]); omega)
      · (refine RetN.intro false [] rfl rfl ?_ ?_ ?_; ((repeat' (first | exact rfl | exact trivial | refine And.intro ?_ ?_ | ((conv => whnf); first | exact rfl | exact trivial | refine And.intro ?_ ?_)))); ((repeat' (first | exact rfl | exact trivial | refine And.intro ?_ ?_ | ((conv => whnf); first | exact rfl | exact trivial | refine And.intro ?_ ?_))); all_goals (conv => whnf); all_goals (try simp only [])))
        exact fun h => (by cases h)
      · have hi1 : i < a.2.2.2.2.2.2.2.length := by omega
        refine ⟨i + 1, [0], ⟨rfl, rfl, ?_, ?_⟩, ⟨hi1, ?_⟩, by omega⟩
        · (repeat' (first | exact rfl | exact trivial | refine And.intro ?_ ?_ | ((conv => whnf); first | exact rfl | exact trivial | refine And.intro ?_ ?_)))
        · (repeat' (first | exact rfl | exact trivial | refine And.intro ?_ ?_ | ((conv => whnf); first | exact rfl | exact trivial | refine And.intro ?_ ?_))); all_goals (conv => whnf); all_goals (try simp only [])
          exact wr2 i hi1 (by omega)
        · rw [hst hi1]
          intro x hx
          rcases List.mem_append.1 hx with hx | hx
          · exact hk x hx
          · simp at hx; subst hx; omega
      · have ei : i = a.2.2.2.2.2.2.2.length := by omega
        rw [ei, List.take_length] at hk
        (refine RetN.intro true [] rfl rfl ?_ ?_ ?_; ((repeat' (first | exact rfl | exact trivial | refine And.intro ?_ ?_ | ((conv => whnf); first | exact rfl | exact trivial | refine And.intro ?_ ?_)))); ((repeat' (first | exact rfl | exact trivial | refine And.intro ?_ ?_ | ((conv => whnf); first | exact rfl | exact trivial | refine And.intro ?_ ?_))); all_goals (conv => whnf); all_goals (try simp only [])))
        exact fun _ => ⟨⟨by omega, by omega, hk⟩, by omega, by omega⟩
  · (refine RetN.intro false [] rfl rfl ?_ ?_ ?_; ((repeat' (first | exact rfl | exact trivial | refine And.intro ?_ ?_ | ((conv => whnf); first | exact rfl | exact trivial | refine And.intro ?_ ?_)))); ((repeat' (first | exact rfl | exact trivial | refine And.intro ?_ ?_ | ((conv => whnf); first | exact rfl | exact trivial | refine And.intro ?_ ?_))); all_goals (conv => whnf); all_goals (try simp only [])))
    exact fun h => (by cases h)
theorem take_eq {α : Type} {a b : List α} {d : α} {i : Nat} (hi : i < a.length) (hl : a.length = b.length) (h : a.take i = b.take i) (hx : a.getD i d = b.getD i d) : a.take (i + 1) = b.take (i + 1) := by
  rw [List.getD_eq_getElem?_getD, List.getD_eq_getElem?_getD, List.getElem?_eq_getElem hi, List.getElem?_eq_getElem (by omega)] at hx
  rw [List.take_add_one, List.take_add_one, h, List.getElem?_eq_getElem hi, List.getElem?_eq_getElem (by omega)]
  simp at hx
  rw [hx]
set_option maxRecDepth 4000 in
theorem sameM (a b : Ans) (ha : a.2.2.1.length ≤ 1000000 ∧ a.2.2.2.2.2.2.2.length ≤ 1000000) : Meets Try.prog 21 [ansAV a, ansAV b] [] (Y := Bool) (fun y => y = true ↔ a = b) (fun y => .bool fun _ => y) (fun _ => []) := by
  refine Meets.intro hm (fn := Try.f21) Try.func21 rfl (by decide) (Nat.le_of_ble_eq_true rfl) (fun _ => rfl) ?_; intro S hok; (conv => whnf)
  (repeat' ((conv => whnf); first | refine And.intro ?_ ?_ | exact Cl.mk (by kernel_rfl) | exact Ck.mk (by kernel_rfl) | refine DrawN.mk ?_ | refine CodeN.step hm rfl ?_ | exact trivial | exact rfl | (intro hh; try simp only [decide_eq_true_eq, decide_eq_false_iff_not, beq_iff_eq, beq_eq_false_iff_ne, bne_iff_ne, bne_eq_false_iff_eq, Bool.not_eq_true', Bool.not_eq_false', Bool.not_true, Bool.not_false] at hh))); all_goals (conv => whnf)
  rotate_left
  · have hpol : a.2.2.2.2.1 = b.2.2.2.2.1 := (eqD_iff PolT rfl _ _).1 (by assumption)
    have hlt : a.2.2.1.length = b.2.2.1.length := by omega
    have hln : a.2.2.2.2.2.2.2.length = b.2.2.2.2.2.2.2.length := by omega
    refine LoopN.intro hm (X := Nat) (fun i => i ≤ a.2.2.1.length ∧ a.2.2.1.take i = b.2.2.1.take i) (fun i => a.2.2.1.length - i)
      (fun i => [(5, .int .i64 fun _ => (i : Int)), (2, .ptr 0 0), (3, .ptr 1 0)]) (fun i => [ansC a, ansC b]) 0 [0, 1] ⟨rfl, rfl, ?_, ?_⟩ ⟨Nat.zero_le _, rfl⟩ (fun i hi => ?_)
    · (repeat' (first | exact rfl | exact trivial | refine And.intro ?_ ?_ | ((conv => whnf); first | exact rfl | exact trivial | refine And.intro ?_ ?_)))
    · (repeat' (first | exact rfl | exact trivial | refine And.intro ?_ ?_ | ((conv => whnf); first | exact rfl | exact trivial | refine And.intro ?_ ?_)))
    · obtain ⟨hi, hti⟩ := hi
      (repeat' ((conv => whnf); first | refine And.intro ?_ ?_ | exact Cl.mk (by kernel_rfl) | exact Ck.mk (by kernel_rfl) | refine DrawN.mk ?_ | refine CodeN.step hm rfl ?_ | exact trivial | exact rfl | (intro hh; try simp only [decide_eq_true_eq, decide_eq_false_iff_not, beq_iff_eq, beq_eq_false_iff_ne, bne_iff_ne, bne_eq_false_iff_eq, Bool.not_eq_true', Bool.not_eq_false', Bool.not_true, Bool.not_false] at hh))); all_goals (conv => whnf)
      · (refine Ob.mk ?_; (try simp only [Ty.dflt, Nat.zero_add, Nat.add_zero, Int.toNat_natCast, Int.toNat_zero, Int.toNat_one, List.length_take, List.length_drop, List.length_append, List.length_replicate, List.length_cons, List.length_nil, List.length_set, List.length_map, true_and, and_true]); omega)
      · (refine Ob.mk ?_; (try simp only [Ty.dflt, Nat.zero_add, Nat.add_zero, Int.toNat_natCast, Int.toNat_zero, Int.toNat_one, List.length_take, List.length_drop, List.length_append, List.length_replicate, List.length_cons, List.length_nil, List.length_set, List.length_map, true_and, and_true]); omega)
      · (refine RetN.intro false [] rfl rfl ?_ ?_ ?_; ((repeat' (first | exact rfl | exact trivial | refine And.intro ?_ ?_ | ((conv => whnf); first | exact rfl | exact trivial | refine And.intro ?_ ?_)))); ((repeat' (first | exact rfl | exact trivial | refine And.intro ?_ ?_ | ((conv => whnf); first | exact rfl | exact trivial | refine And.intro ?_ ?_))); all_goals (conv => whnf); all_goals (try simp only [])))
        refine ⟨fun h => (by cases h), fun h => ?_⟩
        subst h
        exact absurd rfl ((eqD_no ToldT rfl _ _).1 hh)
      · have hi1 : i < a.2.2.1.length := by omega
        have hx : a.2.2.1.getD i ToldT.dflt = b.2.2.1.getD i ToldT.dflt := (eqD_iff ToldT rfl _ _).1 hh
        refine ⟨i + 1, [0, 1], ⟨rfl, rfl, ?_, ?_⟩, ⟨hi1, take_eq hi1 hlt hti hx⟩, by omega⟩
        · (repeat' (first | exact rfl | exact trivial | refine And.intro ?_ ?_ | ((conv => whnf); first | exact rfl | exact trivial | refine And.intro ?_ ?_)))
        · (repeat' (first | exact rfl | exact trivial | refine And.intro ?_ ?_ | ((conv => whnf); first | exact rfl | exact trivial | refine And.intro ?_ ?_))); all_goals (conv => whnf); all_goals (try simp only [])
          exact wr2 i hi1 (by omega)
      · have ei : i = a.2.2.1.length := by omega
        have htold : a.2.2.1 = b.2.2.1 := by
          rw [ei, List.take_length, hlt, List.take_length] at hti; exact hti
        clear hti hh
        refine LoopN.intro hm (X := Nat) (fun i => i ≤ a.2.2.2.2.2.2.2.length ∧ a.2.2.2.2.2.2.2.take i = b.2.2.2.2.2.2.2.take i) (fun i => a.2.2.2.2.2.2.2.length - i)
          (fun i => [(6, .int .i64 fun _ => (i : Int)), (2, .ptr 0 0), (3, .ptr 1 0)]) (fun i => [ansC a, ansC b]) 0 [0, 1] ⟨rfl, rfl, ?_, ?_⟩ ⟨Nat.zero_le _, rfl⟩ (fun j hj => ?_)
        · (repeat' (first | exact rfl | exact trivial | refine And.intro ?_ ?_ | ((conv => whnf); first | exact rfl | exact trivial | refine And.intro ?_ ?_)))
        · (repeat' (first | exact rfl | exact trivial | refine And.intro ?_ ?_ | ((conv => whnf); first | exact rfl | exact trivial | refine And.intro ?_ ?_)))
        · obtain ⟨hj, htj⟩ := hj
          (repeat' ((conv => whnf); first | refine And.intro ?_ ?_ | exact Cl.mk (by kernel_rfl) | exact Ck.mk (by kernel_rfl) | refine DrawN.mk ?_ | refine CodeN.step hm rfl ?_ | exact trivial | exact rfl | (intro hh; try simp only [decide_eq_true_eq, decide_eq_false_iff_not, beq_iff_eq, beq_eq_false_iff_ne, bne_iff_ne, bne_eq_false_iff_eq, Bool.not_eq_true', Bool.not_eq_false', Bool.not_true, Bool.not_false] at hh))); all_goals (conv => whnf)
          · (refine Ob.mk ?_; (try simp only [Ty.dflt, Nat.zero_add, Nat.add_zero, Int.toNat_natCast, Int.toNat_zero, Int.toNat_one, List.length_take, List.length_drop, List.length_append, List.length_replicate, List.length_cons, List.length_nil, List.length_set, List.length_map, true_and, and_true]); omega)
          · (refine Ob.mk ?_; (try simp only [Ty.dflt, Nat.zero_add, Nat.add_zero, Int.toNat_natCast, Int.toNat_zero, Int.toNat_one, List.length_take, List.length_drop, List.length_append, List.length_replicate, List.length_cons, List.length_nil, List.length_set, List.length_map, true_and, and_true]); omega)
          · (refine RetN.intro false [] rfl rfl ?_ ?_ ?_; ((repeat' (first | exact rfl | exact trivial | refine And.intro ?_ ?_ | ((conv => whnf); first | exact rfl | exact trivial | refine And.intro ?_ ?_)))); ((repeat' (first | exact rfl | exact trivial | refine And.intro ?_ ?_ | ((conv => whnf); first | exact rfl | exact trivial | refine And.intro ?_ ?_))); all_goals (conv => whnf); all_goals (try simp only [])))
            refine ⟨fun h => (by cases h), fun h => ?_⟩
            subst h
            exact absurd rfl ((eqD_no NameT rfl _ _).1 hh)
          · have hj1 : j < a.2.2.2.2.2.2.2.length := by omega
            have hx : a.2.2.2.2.2.2.2.getD j NameT.dflt = b.2.2.2.2.2.2.2.getD j NameT.dflt := (eqD_iff NameT rfl _ _).1 hh
            refine ⟨j + 1, [0, 1], ⟨rfl, rfl, ?_, ?_⟩, ⟨hj1, take_eq hj1 hln htj hx⟩, by omega⟩
            · (repeat' (first | exact rfl | exact trivial | refine And.intro ?_ ?_ | ((conv => whnf); first | exact rfl | exact trivial | refine And.intro ?_ ?_)))
            · (repeat' (first | exact rfl | exact trivial | refine And.intro ?_ ?_ | ((conv => whnf); first | exact rfl | exact trivial | refine And.intro ?_ ?_))); all_goals (conv => whnf); all_goals (try simp only [])
              exact wr2 j hj1 (by omega)
          · have ej : j = a.2.2.2.2.2.2.2.length := by omega
            have hnames : a.2.2.2.2.2.2.2 = b.2.2.2.2.2.2.2 := by
              rw [ej, List.take_length, hln, List.take_length] at htj; exact htj
            (refine RetN.intro true [] rfl rfl ?_ ?_ ?_; ((repeat' (first | exact rfl | exact trivial | refine And.intro ?_ ?_ | ((conv => whnf); first | exact rfl | exact trivial | refine And.intro ?_ ?_)))); ((repeat' (first | exact rfl | exact trivial | refine And.intro ?_ ?_ | ((conv => whnf); first | exact rfl | exact trivial | refine And.intro ?_ ?_))); all_goals (conv => whnf); all_goals (try simp only [])))
            refine ⟨fun _ => ?_, fun _ => trivial⟩
            refine Prod.ext (by assumption) (Prod.ext (by assumption) (Prod.ext htold (Prod.ext (by assumption) (Prod.ext hpol (Prod.ext (by assumption) (Prod.ext (by assumption) hnames))))))
  all_goals
    (refine RetN.intro false [] rfl rfl ?_ ?_ ?_; ((repeat' (first | exact rfl | exact trivial | refine And.intro ?_ ?_ | ((conv => whnf); first | exact rfl | exact trivial | refine And.intro ?_ ?_)))); ((repeat' (first | exact rfl | exact trivial | refine And.intro ?_ ?_ | ((conv => whnf); first | exact rfl | exact trivial | refine And.intro ?_ ?_))); all_goals (conv => whnf); all_goals (try simp only [])))
    refine ⟨fun h => (by cases h), fun h => ?_⟩
    subst h
    first
      | exact absurd rfl hh
      | exact absurd rfl ((eqD_no PolT rfl _ _).1 hh)
end Go.Proofs.Ytoipgandilhdeaa.An
set_option linter.unusedVariables false
set_option linter.unusedSimpArgs false
namespace Go.Proofs.Ytoipgandilhdeaa.An
open Go Go.RowKit Fw Nu
def exA : Ans := (1, 0, [(0, true, 258, 2199023255552, 0)], 0, (0, 0, 0, 0), 0, 0, [(1, [107])])
def exS : Bytes := encA exA
theorem ex1 : encR exA = (exS, 0) := by kernel_rfl
theorem ex2 : decR exS = (exA, 0) := by kernel_rfl
theorem ex9 : (exS.take 26).drop 24 = [1, 0] := by kernel_rfl
theorem ex10 : (exS.take 31).drop 26 = [1, 0, 0, 1, 2] := by kernel_rfl
def exZ : Bytes := encA zeroA
theorem ex3 : encR zeroA = (exZ, 0) := by kernel_rfl
theorem ex3l : exZ.length = 26 := by kernel_rfl
theorem exl : exS.length = 47 := by kernel_rfl
theorem ex4 : decR (exS ++ [120]) = (zeroA, 3) := by kernel_rfl
theorem ex5 : encR (-1, 0, [], 0, (0, 0, 0, 0), 0, 0, []) = ([], 1) := by kernel_rfl
theorem ex6 : decR [] = (zeroA, 3) := by kernel_rfl
theorem ex7 : wrongA exA = false := by kernel_rfl
theorem ex8 : wrongA (0, 0, [], 0, (0, 0, 0, 0), 281474976710656, 0, []) = true := by kernel_rfl
theorem liveM : Meets Try.prog 14 [] [] (Y := Unit) (fun _ => True) (fun _ => .tt) (fun _ => []) := by
  refine Meets.intro hm (fn := Try.f14) Try.func14 rfl (by decide) (Nat.le_of_ble_eq_true rfl) (fun _ => rfl) ?_; intro S hok; (conv => whnf)
  (repeat' ((conv => whnf); first | refine And.intro ?_ ?_ | exact Cl.mk (by kernel_rfl) | exact Ck.mk (by kernel_rfl) | refine DrawN.mk ?_ | refine CodeN.step hm rfl ?_ | exact trivial | exact rfl | (intro hh; try simp only [decide_eq_true_eq, decide_eq_false_iff_not, beq_iff_eq, beq_eq_false_iff_ne, bne_iff_ne, bne_eq_false_iff_eq, Bool.not_eq_true', Bool.not_eq_false', Bool.not_true, Bool.not_false] at hh))); all_goals (conv => whnf)
  have M1 := encodeM exA ⟨by decide, by decide, by decide⟩
  have M2 := decodeM exS (by rw [exl]; omega)
  have M3 := encodeM zeroA ⟨by decide, by decide, by decide⟩
  have M4 := decodeM (exS ++ [120]) (by rw [List.length_append, exl]; decide)
  have M5 := encodeM (-1, 0, [], 0, (0, 0, 0, 0), 0, 0, []) ⟨by decide, by decide, by decide⟩
  have M6 := decodeM [] (by decide)
  have M7 := mayM exA ⟨by decide, by decide, by decide⟩
  have M8 := mayM (0, 0, [], 0, (0, 0, 0, 0), 281474976710656, 0, []) ⟨by decide, by decide, by decide⟩
  rw [ex1] at M1
  rw [ex2] at M2
  rw [ex3] at M3
  rw [ex4] at M4
  rw [ex5] at M5
  rw [ex6] at M6
  rw [ex7] at M7
  rw [ex8] at M8
  refine CallN.frz 0 ?_ M1.callable
  (conv => whnf)
  refine CallN.frz 1 ?_ M1.callable
  (conv => whnf)
  (refine CallN.intro M1 [] rfl rfl ?_ ?_ ?_; ((repeat' (first | exact rfl | exact trivial | refine And.intro ?_ ?_ | ((conv => whnf); first | exact rfl | exact trivial | refine And.intro ?_ ?_)))); ((repeat' (first | exact rfl | exact trivial | refine And.intro ?_ ?_ | ((conv => whnf); first | exact rfl | exact trivial | refine And.intro ?_ ?_)))); (intro y hy; (repeat' ((conv => whnf); first | refine And.intro ?_ ?_ | exact Cl.mk (by kernel_rfl) | exact Ck.mk (by kernel_rfl) | refine DrawN.mk ?_ | refine CodeN.step hm rfl ?_ | exact trivial | exact rfl | (intro hh; try simp only [decide_eq_true_eq, decide_eq_false_iff_not, beq_iff_eq, beq_eq_false_iff_ne, bne_iff_ne, bne_eq_false_iff_eq, Bool.not_eq_true', Bool.not_eq_false', Bool.not_true, Bool.not_false] at hh))); all_goals (conv => whnf)))
  (refine CallN.intro M2 [] rfl rfl ?_ ?_ ?_; ((repeat' (first | exact rfl | exact trivial | refine And.intro ?_ ?_ | ((conv => whnf); first | exact rfl | exact trivial | refine And.intro ?_ ?_)))); ((repeat' (first | exact rfl | exact trivial | refine And.intro ?_ ?_ | ((conv => whnf); first | exact rfl | exact trivial | refine And.intro ?_ ?_)))); (intro y hy; (repeat' ((conv => whnf); first | refine And.intro ?_ ?_ | exact Cl.mk (by kernel_rfl) | exact Ck.mk (by kernel_rfl) | refine DrawN.mk ?_ | refine CodeN.step hm rfl ?_ | exact trivial | exact rfl | (intro hh; try simp only [decide_eq_true_eq, decide_eq_false_iff_not, beq_iff_eq, beq_eq_false_iff_ne, bne_iff_ne, bne_eq_false_iff_eq, Bool.not_eq_true', Bool.not_eq_false', Bool.not_true, Bool.not_false] at hh))); all_goals (conv => whnf)))
  (refine CallN.intro M3 [] rfl rfl ?_ ?_ ?_; ((repeat' (first | exact rfl | exact trivial | refine And.intro ?_ ?_ | ((conv => whnf); first | exact rfl | exact trivial | refine And.intro ?_ ?_)))); ((repeat' (first | exact rfl | exact trivial | refine And.intro ?_ ?_ | ((conv => whnf); first | exact rfl | exact trivial | refine And.intro ?_ ?_)))); (intro y hy; (repeat' ((conv => whnf); first | refine And.intro ?_ ?_ | exact Cl.mk (by kernel_rfl) | exact Ck.mk (by kernel_rfl) | refine DrawN.mk ?_ | refine CodeN.step hm rfl ?_ | exact trivial | exact rfl | (intro hh; try simp only [decide_eq_true_eq, decide_eq_false_iff_not, beq_iff_eq, beq_eq_false_iff_ne, bne_iff_ne, bne_eq_false_iff_eq, Bool.not_eq_true', Bool.not_eq_false', Bool.not_true, Bool.not_false] at hh))); all_goals (conv => whnf)))
  all_goals first | (exact Ob.mk (by simp only [exl]; decide)) | skip
  (refine CallN.intro M4 [] rfl rfl ?_ ?_ ?_; ((repeat' (first | exact rfl | exact trivial | refine And.intro ?_ ?_ | ((conv => whnf); first | exact rfl | exact trivial | refine And.intro ?_ ?_)))); ((repeat' (first | exact rfl | exact trivial | refine And.intro ?_ ?_ | ((conv => whnf); first | exact rfl | exact trivial | refine And.intro ?_ ?_)))); (intro y hy; (repeat' ((conv => whnf); first | refine And.intro ?_ ?_ | exact Cl.mk (by kernel_rfl) | exact Ck.mk (by kernel_rfl) | refine DrawN.mk ?_ | refine CodeN.step hm rfl ?_ | exact trivial | exact rfl | (intro hh; try simp only [decide_eq_true_eq, decide_eq_false_iff_not, beq_iff_eq, beq_eq_false_iff_ne, bne_iff_ne, bne_eq_false_iff_eq, Bool.not_eq_true', Bool.not_eq_false', Bool.not_true, Bool.not_false] at hh))); all_goals (conv => whnf)))
  (refine CallN.intro M5 [] rfl rfl ?_ ?_ ?_; ((repeat' (first | exact rfl | exact trivial | refine And.intro ?_ ?_ | ((conv => whnf); first | exact rfl | exact trivial | refine And.intro ?_ ?_)))); ((repeat' (first | exact rfl | exact trivial | refine And.intro ?_ ?_ | ((conv => whnf); first | exact rfl | exact trivial | refine And.intro ?_ ?_)))); (intro y hy; (repeat' ((conv => whnf); first | refine And.intro ?_ ?_ | exact Cl.mk (by kernel_rfl) | exact Ck.mk (by kernel_rfl) | refine DrawN.mk ?_ | refine CodeN.step hm rfl ?_ | exact trivial | exact rfl | (intro hh; try simp only [decide_eq_true_eq, decide_eq_false_iff_not, beq_iff_eq, beq_eq_false_iff_ne, bne_iff_ne, bne_eq_false_iff_eq, Bool.not_eq_true', Bool.not_eq_false', Bool.not_true, Bool.not_false] at hh))); all_goals (conv => whnf)))
  (refine CallN.intro M6 [] rfl rfl ?_ ?_ ?_; ((repeat' (first | exact rfl | exact trivial | refine And.intro ?_ ?_ | ((conv => whnf); first | exact rfl | exact trivial | refine And.intro ?_ ?_)))); ((repeat' (first | exact rfl | exact trivial | refine And.intro ?_ ?_ | ((conv => whnf); first | exact rfl | exact trivial | refine And.intro ?_ ?_)))); (intro y hy; (repeat' ((conv => whnf); first | refine And.intro ?_ ?_ | exact Cl.mk (by kernel_rfl) | exact Ck.mk (by kernel_rfl) | refine DrawN.mk ?_ | refine CodeN.step hm rfl ?_ | exact trivial | exact rfl | (intro hh; try simp only [decide_eq_true_eq, decide_eq_false_iff_not, beq_iff_eq, beq_eq_false_iff_ne, bne_iff_ne, bne_eq_false_iff_eq, Bool.not_eq_true', Bool.not_eq_false', Bool.not_true, Bool.not_false] at hh))); all_goals (conv => whnf)))
  all_goals first
    | (exact Ob.mk (by simp only [exl]; decide))
    | exact absurd rfl hh
    | exact absurd ex9 hh
    | exact absurd ex10 hh
    | (exfalso; rw [exl] at hh; exact absurd rfl hh)
    | (exfalso; rw [ex3l] at hh; exact absurd rfl hh)
    | (exfalso; exact absurd hh (by decide))
    | skip
  refine CallN.intro (sameM exA exA ⟨by decide, by decide⟩) [] rfl rfl ?_ ?_ ?_
  · (repeat' (first | exact rfl | exact trivial | refine And.intro ?_ ?_ | ((conv => whnf); first | exact rfl | exact trivial | refine And.intro ?_ ?_)))
  · (repeat' (first | exact rfl | exact trivial | refine And.intro ?_ ?_ | ((conv => whnf); first | exact rfl | exact trivial | refine And.intro ?_ ?_)))
  intro q hq
  (repeat' ((conv => whnf); first | refine And.intro ?_ ?_ | exact Cl.mk (by kernel_rfl) | exact Ck.mk (by kernel_rfl) | refine DrawN.mk ?_ | refine CodeN.step hm rfl ?_ | exact trivial | exact rfl | (intro hh; try simp only [decide_eq_true_eq, decide_eq_false_iff_not, beq_iff_eq, beq_eq_false_iff_ne, bne_iff_ne, bne_eq_false_iff_eq, Bool.not_eq_true', Bool.not_eq_false', Bool.not_true, Bool.not_false] at hh))); all_goals (conv => whnf)
  all_goals first
    | (exact Ob.mk (by simp only [exl]; decide))
    | exact absurd rfl hh
    | exact absurd ex9 hh
    | exact absurd ex10 hh
    | (exfalso; rw [exl] at hh; exact absurd rfl hh)
    | (exfalso; rw [ex3l] at hh; exact absurd rfl hh)
    | (exfalso; exact absurd hh (by decide))
    | skip
  all_goals try (exfalso; rw [hq.2 rfl] at hh; cases hh; done)
  (refine CallN.intro M7 [] rfl rfl ?_ ?_ ?_; ((repeat' (first | exact rfl | exact trivial | refine And.intro ?_ ?_ | ((conv => whnf); first | exact rfl | exact trivial | refine And.intro ?_ ?_)))); ((repeat' (first | exact rfl | exact trivial | refine And.intro ?_ ?_ | ((conv => whnf); first | exact rfl | exact trivial | refine And.intro ?_ ?_)))); (intro y hy; (repeat' ((conv => whnf); first | refine And.intro ?_ ?_ | exact Cl.mk (by kernel_rfl) | exact Ck.mk (by kernel_rfl) | refine DrawN.mk ?_ | refine CodeN.step hm rfl ?_ | exact trivial | exact rfl | (intro hh; try simp only [decide_eq_true_eq, decide_eq_false_iff_not, beq_iff_eq, beq_eq_false_iff_ne, bne_iff_ne, bne_eq_false_iff_eq, Bool.not_eq_true', Bool.not_eq_false', Bool.not_true, Bool.not_false] at hh))); all_goals (conv => whnf)))
  all_goals first
    | (exact Ob.mk (by simp only [exl]; decide))
    | exact absurd rfl hh
    | exact absurd ex9 hh
    | exact absurd ex10 hh
    | (exfalso; rw [exl] at hh; exact absurd rfl hh)
    | (exfalso; rw [ex3l] at hh; exact absurd rfl hh)
    | (exfalso; exact absurd hh (by decide))
    | skip
  (refine CallN.intro M8 [] rfl rfl ?_ ?_ ?_; ((repeat' (first | exact rfl | exact trivial | refine And.intro ?_ ?_ | ((conv => whnf); first | exact rfl | exact trivial | refine And.intro ?_ ?_)))); ((repeat' (first | exact rfl | exact trivial | refine And.intro ?_ ?_ | ((conv => whnf); first | exact rfl | exact trivial | refine And.intro ?_ ?_)))); (intro y hy; (repeat' ((conv => whnf); first | refine And.intro ?_ ?_ | exact Cl.mk (by kernel_rfl) | exact Ck.mk (by kernel_rfl) | refine DrawN.mk ?_ | refine CodeN.step hm rfl ?_ | exact trivial | exact rfl | (intro hh; try simp only [decide_eq_true_eq, decide_eq_false_iff_not, beq_iff_eq, beq_eq_false_iff_ne, bne_iff_ne, bne_eq_false_iff_eq, Bool.not_eq_true', Bool.not_eq_false', Bool.not_true, Bool.not_false] at hh))); all_goals (conv => whnf)))
  all_goals first
    | (exact Ob.mk (by simp only [exl]; decide))
    | exact absurd rfl hh
    | exact absurd ex9 hh
    | exact absurd ex10 hh
    | (exfalso; rw [exl] at hh; exact absurd rfl hh)
    | (exfalso; rw [ex3l] at hh; exact absurd rfl hh)
    | (exfalso; exact absurd hh (by decide))
    | skip
  (refine RetN.intro () [] rfl rfl ?_ ?_ ?_; ((repeat' (first | exact rfl | exact trivial | refine And.intro ?_ ?_ | ((conv => whnf); first | exact rfl | exact trivial | refine And.intro ?_ ?_)))); ((repeat' (first | exact rfl | exact trivial | refine And.intro ?_ ?_ | ((conv => whnf); first | exact rfl | exact trivial | refine And.intro ?_ ?_))); all_goals (conv => whnf); all_goals (try simp only [])))
end Go.Proofs.Ytoipgandilhdeaa.An
set_option linter.unusedVariables false
set_option linter.unusedSimpArgs false
namespace Go.Proofs.Ytoipgandilhdeaa.An
open Go Go.RowKit Fw Nu
def nlen (l : List Name) : Nat := (l.map fun n => 2 + n.2.length).sum
theorem nlen_take {l : List Name} {i : Nat} (h : i < l.length) : nlen (l.take (i + 1)) = nlen (l.take i) + (2 + (l.getD i (0, [])).2.length) := by
  rw [List.take_add_one, List.getElem?_eq_getElem h, nlen, nlen, List.map_append, List.sum_append, List.getD_eq_getElem?_getD, List.getElem?_eq_getElem h]; simp
theorem nlen_le {l : List Name} (h : ∀ n ∈ l, n.2.length ≤ 300) : nlen l ≤ 302 * l.length := by
  induction l with
  | nil => simp [nlen]
  | cons t r ih =>
    have h1 := ih fun n hn => h n (List.mem_cons_of_mem _ hn)
    have h2 := h t (List.mem_cons_self ..)
    simp only [nlen, List.map_cons, List.sum_cons, List.length_cons] at h1 ⊢
    omega
theorem namesB_nlen {l : List Name} (h : namesW l = false) : (namesB l).length = nlen l := by
  induction l with
  | nil => rfl
  | cons t r ih =>
    simp only [namesW, List.any_cons, Bool.or_eq_false_iff] at h
    have h1 := ih (by simpa only [namesW] using h.2)
    have h3 := h.1.2
    rw [Bool.not_eq_false', put_ok, decide_eq_true_eq] at h3
    have hp : (put t.2).1.length = t.2.length + 1 := by unfold put; rw [if_pos h3]; rfl
    have h4 : (wides [(t.1, 1)]).length = 1 := by rw [wides_len]; rfl
    simp only [namesB, nlen, List.flatMap_cons, List.map_cons, List.sum_cons, List.length_append] at h1 ⊢
    omega
theorem wrong_no {a : Ans} (h : wrongA a = false) : bads (ansNums a) = false ∧ a.2.2.1.length ≤ 32 ∧ toldsW a.2.2.1 = false ∧ a.2.2.2.2.2.2.2.length ≤ 32 ∧ namesW a.2.2.2.2.2.2.2 = false := by
  simp only [wrongA, Bool.or_eq_false_iff] at h
  obtain ⟨⟨⟨⟨⟨⟨w1, w2⟩, w3⟩, w4⟩, w5⟩, w6⟩, w7⟩ := h
  have w2 := of_decide_eq_false w2
  have w5 := of_decide_eq_false w5
  exact ⟨w1, by omega, w4, by omega, w7⟩
theorem encA_len {a : Ans} (h : wrongA a = false) : (encA a).length = 26 + 18 * a.2.2.1.length + nlen a.2.2.2.2.2.2.2 := by
  obtain ⟨w1, w2, w4, w5, w7⟩ := wrong_no h
  have hone : ∀ x : Int, (wides [(x, 1)]).length = 1 := fun x => by rw [wides_len]; rfl
  simp only [encA, List.length_append, hone, toldsB_len, namesB_nlen w7, heads_len]
  omega
theorem wide_one {n : Int} (h : fitsB n 1 = true) : wide (IntKind.u64.wrap n) 1 = [UInt8.ofNat n.toNat] ∧ ((UInt8.ofNat n.toNat).toNat : Int) = n := by
  have h2 := fits_iff.1 h
  have h3 : (256 : Int) ^ 1 = 256 := rfl
  rw [fits_wrap (by omega) h]
  refine ⟨?_, ?_⟩
  · have e : n % 256 = n := by omega
    rw [show (1 : Nat) = 0 + 1 from rfl, wide_succ, e]; rfl
  · rw [UInt8.toNat_ofNat']; omega
theorem encA_heads {a : Ans} (h : wrongA a = false) : (((encA a).getD 0 0).toNat : Int) = a.1 ∧ (((encA a).getD 1 0).toNat : Int) = a.2.1 ∧ (((encA a).getD 24 0).toNat : Int) = a.2.2.1.length := by
  obtain ⟨w1, w2, w4, w5, w7⟩ := wrong_no h
  have f1 := fits_one (n := (a.2.2.1.length : Int)) (by omega)
  have hl := heads_len a
  have w1' := w1
  simp only [ansNums, bads_cons, Bool.or_eq_false_iff, Bool.not_eq_false'] at w1
  obtain ⟨g1, e1⟩ := wide_one w1.1
  obtain ⟨g2, e2⟩ := wide_one w1.2.1
  obtain ⟨g3, e3⟩ := wide_one f1
  have hh : wides (ansNums a) = UInt8.ofNat a.1.toNat :: UInt8.ofNat a.2.1.toNat :: wides ((ansNums a).drop 2) := by
    show wides ((a.1, 1) :: (a.2.1, 1) :: (ansNums a).drop 2) = _
    simp only [wides, List.flatMap_cons, g1, g2]; rfl
  have ht : wides [((a.2.2.1.length : Int), 1)] = [UInt8.ofNat (a.2.2.1.length : Int).toNat] := by
    simp only [wides, List.flatMap_cons, g3]; rfl
  refine ⟨?_, ?_, ?_⟩
  · simp only [encA, hh]; exact e1
  · simp only [encA, hh]; exact e2
  · have : (encA a).getD 24 0 = UInt8.ofNat (a.2.2.1.length : Int).toNat := by
      simp only [encA, ht, List.append_assoc]
      rw [List.getD_eq_getElem?_getD, List.getElem?_append_right (by omega), hl]; rfl
    rw [this]; exact e3
theorem enc_cases (a : Ans) : (wrongA a = true ∧ encR a = ([], 1)) ∨ (wrongA a = false ∧ 512 < (encA a).length ∧ encR a = ([], 8)) ∨ (wrongA a = false ∧ (encA a).length ≤ 512 ∧ encR a = (encA a, 0)) := by
  unfold encR
  cases h : wrongA a
  · by_cases h2 : 512 < (encA a).length
    · exact .inr (.inl ⟨rfl, h2, by simp [h2]⟩)
    · exact .inr (.inr ⟨rfl, by omega, by simp [h2]⟩)
  · exact .inl ⟨rfl, by simp⟩
theorem enc_inj {a b : Ans} (ha : wrongA a = false ∧ (encA a).length ≤ 512) (hb : wrongA b = false ∧ (encA b).length ≤ 512) : encA a = encA b ↔ a = b :=
  ⟨fun h => by
    have h1 := dec_put ha.1 ha.2
    rw [h, dec_put hb.1 hb.2] at h1
    exact (Option.some.inj h1).symm, fun h => by rw [h]⟩
set_option maxRecDepth 4000 in
theorem lengthLawM (a : Ans) : Meets Try.prog 7 [ansAV a] [] (Y := Unit) (fun _ => True) (fun _ => .tt) (fun _ => []) := by
  refine Meets.intro hm (fn := Try.f7) Try.func7 rfl (by decide) (Nat.le_of_ble_eq_true rfl) (fun _ => rfl) ?_; intro S hok; (conv => whnf)
  (repeat' ((conv => whnf); first | refine And.intro ?_ ?_ | exact Cl.mk (by kernel_rfl) | exact Ck.mk (by kernel_rfl) | refine DrawN.mk ?_ | refine CodeN.step hm rfl ?_ | exact trivial | exact rfl | (intro hh; try simp only [decide_eq_true_eq, decide_eq_false_iff_not, beq_iff_eq, beq_eq_false_iff_ne, bne_iff_ne, bne_eq_false_iff_eq, Bool.not_eq_true', Bool.not_eq_false', Bool.not_true, Bool.not_false] at hh))); all_goals (conv => whnf)
  refine CallN.intro (shortM a) [] rfl rfl ?_ ?_ ?_
  · (repeat' (first | exact rfl | exact trivial | refine And.intro ?_ ?_ | ((conv => whnf); first | exact rfl | exact trivial | refine And.intro ?_ ?_)))
  · (repeat' (first | exact rfl | exact trivial | refine And.intro ?_ ?_ | ((conv => whnf); first | exact rfl | exact trivial | refine And.intro ?_ ?_)))
  intro q hq
  (repeat' ((conv => whnf); first | refine And.intro ?_ ?_ | exact Cl.mk (by kernel_rfl) | exact Ck.mk (by kernel_rfl) | refine DrawN.mk ?_ | refine CodeN.step hm rfl ?_ | exact trivial | exact rfl | (intro hh; try simp only [decide_eq_true_eq, decide_eq_false_iff_not, beq_iff_eq, beq_eq_false_iff_ne, bne_iff_ne, bne_eq_false_iff_eq, Bool.not_eq_true', Bool.not_eq_false', Bool.not_true, Bool.not_false] at hh))); all_goals (conv => whnf)
  · (refine CallN.intro liveM [] rfl rfl ?_ ?_ ?_; ((repeat' (first | exact rfl | exact trivial | refine And.intro ?_ ?_ | ((conv => whnf); first | exact rfl | exact trivial | refine And.intro ?_ ?_)))); ((repeat' (first | exact rfl | exact trivial | refine And.intro ?_ ?_ | ((conv => whnf); first | exact rfl | exact trivial | refine And.intro ?_ ?_)))); (intro y hy; clear y hy; (repeat' ((conv => whnf); first | refine And.intro ?_ ?_ | exact Cl.mk (by kernel_rfl) | exact Ck.mk (by kernel_rfl) | refine DrawN.mk ?_ | refine CodeN.step hm rfl ?_ | exact trivial | exact rfl | (intro hh; try simp only [decide_eq_true_eq, decide_eq_false_iff_not, beq_iff_eq, beq_eq_false_iff_ne, bne_iff_ne, bne_eq_false_iff_eq, Bool.not_eq_true', Bool.not_eq_false', Bool.not_true, Bool.not_false] at hh; try exact absurd hh (by decide)))); all_goals (conv => whnf); (all_goals first | (exact Ob.mk (by decide)) | skip)))
    (refine RetN.intro () [] rfl rfl ?_ ?_ ?_; ((repeat' (first | exact rfl | exact trivial | refine And.intro ?_ ?_ | ((conv => whnf); first | exact rfl | exact trivial | refine And.intro ?_ ?_)))); ((repeat' (first | exact rfl | exact trivial | refine And.intro ?_ ?_ | ((conv => whnf); first | exact rfl | exact trivial | refine And.intro ?_ ?_))); all_goals (conv => whnf); all_goals (try simp only [])))
  · obtain ⟨sh, h1, h2⟩ := hq (by first | assumption | rfl)
    refine LoopN.intro hm (X := Nat) (fun i => i ≤ a.2.2.2.2.2.2.2.length) (fun i => a.2.2.2.2.2.2.2.length - i)
      (fun i => [(4, .int .i64 fun _ => (i : Int)), (3, .int .i64 fun _ => ((26 + 18 * a.2.2.1.length + nlen (a.2.2.2.2.2.2.2.take i) : Nat) : Int)), (1, .ptr 0 0)]) (fun i => [ansC a]) 0 [0] ⟨rfl, rfl, ?_, ?_⟩ (Nat.zero_le _) (fun i hi => ?_)
    · (repeat' (first | exact rfl | exact trivial | refine And.intro ?_ ?_ | ((conv => whnf); first | exact rfl | exact trivial | refine And.intro ?_ ?_)))
    · (repeat' (first | exact rfl | exact trivial | refine And.intro ?_ ?_ | ((conv => whnf); first | exact rfl | exact trivial | refine And.intro ?_ ?_))); all_goals (conv => whnf); all_goals (try simp only [])
      simp only [IntKind.wrap_i64]
      simp [nlen]; omega
    · have hkt : ∀ n ∈ a.2.2.2.2.2.2.2.take i, n.2.length ≤ 300 := fun n hn => sh.key n (List.mem_of_mem_take hn)
      have hnl := nlen_le hkt
      rw [List.length_take] at hnl
      have htk := nlen_take (l := a.2.2.2.2.2.2.2) (i := i)
      have hkm : i < a.2.2.2.2.2.2.2.length → (a.2.2.2.2.2.2.2.getD i (0, [])).2.length ≤ 300 := fun h => sh.key _ (by rw [List.getD_eq_getElem?_getD, List.getElem?_eq_getElem h]; exact List.getElem_mem h)
      have hx' : a.2.2.2.2.2.2.2.getD (i : Int).toNat NameT.dflt = a.2.2.2.2.2.2.2.getD i (0, []) := rfl
      generalize a.2.2.2.2.2.2.2.getD i (0, []) = n at htk hx' hkm
      (repeat' ((conv => whnf); first | refine And.intro ?_ ?_ | exact Cl.mk (by kernel_rfl) | exact Ck.mk (by kernel_rfl) | refine DrawN.mk ?_ | refine CodeN.step hm rfl ?_ | exact trivial | exact rfl | (intro hh; try simp only [decide_eq_true_eq, decide_eq_false_iff_not, beq_iff_eq, beq_eq_false_iff_ne, bne_iff_ne, bne_eq_false_iff_eq, Bool.not_eq_true', Bool.not_eq_false', Bool.not_true, Bool.not_false] at hh))); all_goals (conv => whnf)
      all_goals (try simp only [hx'] at hh ⊢)
      · (refine Ob.mk ?_; (try simp only [Ty.dflt, Nat.zero_add, Nat.add_zero, Int.toNat_natCast, Int.toNat_zero, Int.toNat_one, List.length_take, List.length_drop, List.length_append, List.length_replicate, List.length_cons, List.length_nil, List.length_set, List.length_map, true_and, and_true]); omega)
      · have hi1 : i < a.2.2.2.2.2.2.2.length := by omega
        have hkm := hkm hi1
        have htk := htk hi1
        refine ⟨i + 1, [0], ⟨rfl, rfl, ?_, ?_⟩, hi1, by omega⟩
        · (repeat' (first | exact rfl | exact trivial | refine And.intro ?_ ?_ | ((conv => whnf); first | exact rfl | exact trivial | refine And.intro ?_ ?_)))
        · (repeat' (first | exact rfl | exact trivial | refine And.intro ?_ ?_ | ((conv => whnf); first | exact rfl | exact trivial | refine And.intro ?_ ?_))); all_goals (conv => whnf); all_goals (try simp only [])
          · exact wr2 i hi1 (by omega)
          · try simp only [hx']
            rw [htk]
            simp only [IntKind.wrap_i64]
            omega
      · have ei : i = a.2.2.2.2.2.2.2.length := by omega
        subst ei
        rw [List.take_length] at hnl ⊢
        clear htk hx' hkm hh
        have M1 := encodeM a sh
        rcases enc_cases a with ⟨c1, c2⟩ | ⟨c1, c2, c3⟩ | ⟨c1, c2, c3⟩
        · rw [c2] at M1
          (refine CallN.intro M1 [] rfl rfl ?_ ?_ ?_; ((repeat' (first | exact rfl | exact trivial | refine And.intro ?_ ?_ | ((conv => whnf); first | exact rfl | exact trivial | refine And.intro ?_ ?_)))); ((repeat' (first | exact rfl | exact trivial | refine And.intro ?_ ?_ | ((conv => whnf); first | exact rfl | exact trivial | refine And.intro ?_ ?_)))); (intro y hy; clear y hy; (repeat' ((conv => whnf); first | refine And.intro ?_ ?_ | exact Cl.mk (by kernel_rfl) | exact Ck.mk (by kernel_rfl) | refine DrawN.mk ?_ | refine CodeN.step hm rfl ?_ | exact trivial | exact rfl | (intro hh; try simp only [decide_eq_true_eq, decide_eq_false_iff_not, beq_iff_eq, beq_eq_false_iff_ne, bne_iff_ne, bne_eq_false_iff_eq, Bool.not_eq_true', Bool.not_eq_false', Bool.not_true, Bool.not_false] at hh; try exact absurd hh (by decide)))); all_goals (conv => whnf); (all_goals first | (exact Ob.mk (by decide)) | skip)))
          (refine CallN.intro liveM [] rfl rfl ?_ ?_ ?_; ((repeat' (first | exact rfl | exact trivial | refine And.intro ?_ ?_ | ((conv => whnf); first | exact rfl | exact trivial | refine And.intro ?_ ?_)))); ((repeat' (first | exact rfl | exact trivial | refine And.intro ?_ ?_ | ((conv => whnf); first | exact rfl | exact trivial | refine And.intro ?_ ?_)))); (intro y hy; clear y hy; (repeat' ((conv => whnf); first | refine And.intro ?_ ?_ | exact Cl.mk (by kernel_rfl) | exact Ck.mk (by kernel_rfl) | refine DrawN.mk ?_ | refine CodeN.step hm rfl ?_ | exact trivial | exact rfl | (intro hh; try simp only [decide_eq_true_eq, decide_eq_false_iff_not, beq_iff_eq, beq_eq_false_iff_ne, bne_iff_ne, bne_eq_false_iff_eq, Bool.not_eq_true', Bool.not_eq_false', Bool.not_true, Bool.not_false] at hh; try exact absurd hh (by decide)))); all_goals (conv => whnf); (all_goals first | (exact Ob.mk (by decide)) | skip)))
          (refine RetN.intro () [] rfl rfl ?_ ?_ ?_; ((repeat' (first | exact rfl | exact trivial | refine And.intro ?_ ?_ | ((conv => whnf); first | exact rfl | exact trivial | refine And.intro ?_ ?_)))); ((repeat' (first | exact rfl | exact trivial | refine And.intro ?_ ?_ | ((conv => whnf); first | exact rfl | exact trivial | refine And.intro ?_ ?_))); all_goals (conv => whnf); all_goals (try simp only [])))
        · rw [c3] at M1
          have hl := encA_len c1
          (refine CallN.intro M1 [] rfl rfl ?_ ?_ ?_; ((repeat' (first | exact rfl | exact trivial | refine And.intro ?_ ?_ | ((conv => whnf); first | exact rfl | exact trivial | refine And.intro ?_ ?_)))); ((repeat' (first | exact rfl | exact trivial | refine And.intro ?_ ?_ | ((conv => whnf); first | exact rfl | exact trivial | refine And.intro ?_ ?_)))); (intro y hy; clear y hy; (repeat' ((conv => whnf); first | refine And.intro ?_ ?_ | exact Cl.mk (by kernel_rfl) | exact Ck.mk (by kernel_rfl) | refine DrawN.mk ?_ | refine CodeN.step hm rfl ?_ | exact trivial | exact rfl | (intro hh; try simp only [decide_eq_true_eq, decide_eq_false_iff_not, beq_iff_eq, beq_eq_false_iff_ne, bne_iff_ne, bne_eq_false_iff_eq, Bool.not_eq_true', Bool.not_eq_false', Bool.not_true, Bool.not_false] at hh; try exact absurd hh (by decide)))); all_goals (conv => whnf); (all_goals first | (exact Ob.mk (by decide)) | skip)))
          all_goals first | (exfalso; omega) | skip
          (refine CallN.intro liveM [] rfl rfl ?_ ?_ ?_; ((repeat' (first | exact rfl | exact trivial | refine And.intro ?_ ?_ | ((conv => whnf); first | exact rfl | exact trivial | refine And.intro ?_ ?_)))); ((repeat' (first | exact rfl | exact trivial | refine And.intro ?_ ?_ | ((conv => whnf); first | exact rfl | exact trivial | refine And.intro ?_ ?_)))); (intro y hy; clear y hy; (repeat' ((conv => whnf); first | refine And.intro ?_ ?_ | exact Cl.mk (by kernel_rfl) | exact Ck.mk (by kernel_rfl) | refine DrawN.mk ?_ | refine CodeN.step hm rfl ?_ | exact trivial | exact rfl | (intro hh; try simp only [decide_eq_true_eq, decide_eq_false_iff_not, beq_iff_eq, beq_eq_false_iff_ne, bne_iff_ne, bne_eq_false_iff_eq, Bool.not_eq_true', Bool.not_eq_false', Bool.not_true, Bool.not_false] at hh; try exact absurd hh (by decide)))); all_goals (conv => whnf); (all_goals first | (exact Ob.mk (by decide)) | skip)))
          (refine RetN.intro () [] rfl rfl ?_ ?_ ?_; ((repeat' (first | exact rfl | exact trivial | refine And.intro ?_ ?_ | ((conv => whnf); first | exact rfl | exact trivial | refine And.intro ?_ ?_)))); ((repeat' (first | exact rfl | exact trivial | refine And.intro ?_ ?_ | ((conv => whnf); first | exact rfl | exact trivial | refine And.intro ?_ ?_))); all_goals (conv => whnf); all_goals (try simp only [])))
        · rw [c3] at M1
          have hl := encA_len c1
          obtain ⟨b1, b2, b3⟩ := encA_heads c1
          have u1 := UInt8.toNat_lt ((encA a).getD 0 0)
          have u2 := UInt8.toNat_lt ((encA a).getD 1 0)
          have u3 := UInt8.toNat_lt ((encA a).getD 24 0)
          have g1 : IntKind.i64.wrap (((encA a).getD 0 0).toNat : Int) = a.1 := by rw [wr (by omega)]; exact b1
          have g2 : IntKind.i64.wrap (((encA a).getD 1 0).toNat : Int) = a.2.1 := by rw [wr (by omega)]; exact b2
          have g3 : IntKind.i64.wrap (((encA a).getD 24 0).toNat : Int) = a.2.2.1.length := by rw [wr (by omega)]; exact b3
          (refine CallN.intro M1 [] rfl rfl ?_ ?_ ?_; ((repeat' (first | exact rfl | exact trivial | refine And.intro ?_ ?_ | ((conv => whnf); first | exact rfl | exact trivial | refine And.intro ?_ ?_)))); ((repeat' (first | exact rfl | exact trivial | refine And.intro ?_ ?_ | ((conv => whnf); first | exact rfl | exact trivial | refine And.intro ?_ ?_)))); (intro y hy; clear y hy; (repeat' ((conv => whnf); first | refine And.intro ?_ ?_ | exact Cl.mk (by kernel_rfl) | exact Ck.mk (by kernel_rfl) | refine DrawN.mk ?_ | refine CodeN.step hm rfl ?_ | exact trivial | exact rfl | (intro hh; try simp only [decide_eq_true_eq, decide_eq_false_iff_not, beq_iff_eq, beq_eq_false_iff_ne, bne_iff_ne, bne_eq_false_iff_eq, Bool.not_eq_true', Bool.not_eq_false', Bool.not_true, Bool.not_false] at hh; try exact absurd hh (by decide)))); all_goals (conv => whnf); (all_goals first | (exact Ob.mk (by decide)) | skip)))
          all_goals first | (exact Ob.mk (by simp only []; omega)) | skip
          · (refine CallN.intro liveM [] rfl rfl ?_ ?_ ?_; ((repeat' (first | exact rfl | exact trivial | refine And.intro ?_ ?_ | ((conv => whnf); first | exact rfl | exact trivial | refine And.intro ?_ ?_)))); ((repeat' (first | exact rfl | exact trivial | refine And.intro ?_ ?_ | ((conv => whnf); first | exact rfl | exact trivial | refine And.intro ?_ ?_)))); (intro y hy; clear y hy; (repeat' ((conv => whnf); first | refine And.intro ?_ ?_ | exact Cl.mk (by kernel_rfl) | exact Ck.mk (by kernel_rfl) | refine DrawN.mk ?_ | refine CodeN.step hm rfl ?_ | exact trivial | exact rfl | (intro hh; try simp only [decide_eq_true_eq, decide_eq_false_iff_not, beq_iff_eq, beq_eq_false_iff_ne, bne_iff_ne, bne_eq_false_iff_eq, Bool.not_eq_true', Bool.not_eq_false', Bool.not_true, Bool.not_false] at hh; try exact absurd hh (by decide)))); all_goals (conv => whnf); (all_goals first | (exact Ob.mk (by decide)) | skip)))
            (refine RetN.intro () [] rfl rfl ?_ ?_ ?_; ((repeat' (first | exact rfl | exact trivial | refine And.intro ?_ ?_ | ((conv => whnf); first | exact rfl | exact trivial | refine And.intro ?_ ?_)))); ((repeat' (first | exact rfl | exact trivial | refine And.intro ?_ ?_ | ((conv => whnf); first | exact rfl | exact trivial | refine And.intro ?_ ?_))); all_goals (conv => whnf); all_goals (try simp only [])))
          all_goals
            exfalso
            try simp only [show Int.toNat 0 = 0 from rfl, show Int.toNat 1 = 1 from rfl, show Int.toNat 24 = 24 from rfl] at hh
            first
              | (rw [g3] at hh; exact hh rfl)
              | (rw [g2] at hh; exact hh rfl)
              | (rw [g1] at hh; exact hh rfl)
              | omega
set_option maxRecDepth 4000 in
theorem apartLawM (a b : Ans) : Meets Try.prog 6 [ansAV a, ansAV b] [] (Y := Unit) (fun _ => True) (fun _ => .tt) (fun _ => []) := by
  refine Meets.intro hm (fn := Try.f6) Try.func6 rfl (by decide) (Nat.le_of_ble_eq_true rfl) (fun _ => rfl) ?_; intro S hok; (conv => whnf)
  (repeat' ((conv => whnf); first | refine And.intro ?_ ?_ | exact Cl.mk (by kernel_rfl) | exact Ck.mk (by kernel_rfl) | refine DrawN.mk ?_ | refine CodeN.step hm rfl ?_ | exact trivial | exact rfl | (intro hh; try simp only [decide_eq_true_eq, decide_eq_false_iff_not, beq_iff_eq, beq_eq_false_iff_ne, bne_iff_ne, bne_eq_false_iff_eq, Bool.not_eq_true', Bool.not_eq_false', Bool.not_true, Bool.not_false] at hh))); all_goals (conv => whnf)
  refine CallN.intro (shortM a) [] rfl rfl ?_ ?_ ?_
  · (repeat' (first | exact rfl | exact trivial | refine And.intro ?_ ?_ | ((conv => whnf); first | exact rfl | exact trivial | refine And.intro ?_ ?_)))
  · (repeat' (first | exact rfl | exact trivial | refine And.intro ?_ ?_ | ((conv => whnf); first | exact rfl | exact trivial | refine And.intro ?_ ?_)))
  intro q hq
  (repeat' ((conv => whnf); first | refine And.intro ?_ ?_ | exact Cl.mk (by kernel_rfl) | exact Ck.mk (by kernel_rfl) | refine DrawN.mk ?_ | refine CodeN.step hm rfl ?_ | exact trivial | exact rfl | (intro hh; try simp only [decide_eq_true_eq, decide_eq_false_iff_not, beq_iff_eq, beq_eq_false_iff_ne, bne_iff_ne, bne_eq_false_iff_eq, Bool.not_eq_true', Bool.not_eq_false', Bool.not_true, Bool.not_false] at hh))); all_goals (conv => whnf)
  · obtain ⟨sh, h1, h2⟩ := hq (by first | assumption | rfl)
    refine CallN.intro (shortM b) [] rfl rfl ?_ ?_ ?_
    · (repeat' (first | exact rfl | exact trivial | refine And.intro ?_ ?_ | ((conv => whnf); first | exact rfl | exact trivial | refine And.intro ?_ ?_)))
    · (repeat' (first | exact rfl | exact trivial | refine And.intro ?_ ?_ | ((conv => whnf); first | exact rfl | exact trivial | refine And.intro ?_ ?_)))
    intro q' hq'
    (repeat' ((conv => whnf); first | refine And.intro ?_ ?_ | exact Cl.mk (by kernel_rfl) | exact Ck.mk (by kernel_rfl) | refine DrawN.mk ?_ | refine CodeN.step hm rfl ?_ | exact trivial | exact rfl | (intro hh; try simp only [decide_eq_true_eq, decide_eq_false_iff_not, beq_iff_eq, beq_eq_false_iff_ne, bne_iff_ne, bne_eq_false_iff_eq, Bool.not_eq_true', Bool.not_eq_false', Bool.not_true, Bool.not_false] at hh))); all_goals (conv => whnf)
    · (refine CallN.intro liveM [] rfl rfl ?_ ?_ ?_; ((repeat' (first | exact rfl | exact trivial | refine And.intro ?_ ?_ | ((conv => whnf); first | exact rfl | exact trivial | refine And.intro ?_ ?_)))); ((repeat' (first | exact rfl | exact trivial | refine And.intro ?_ ?_ | ((conv => whnf); first | exact rfl | exact trivial | refine And.intro ?_ ?_)))); (intro y hy; clear y hy; (repeat' ((conv => whnf); first | refine And.intro ?_ ?_ | exact Cl.mk (by kernel_rfl) | exact Ck.mk (by kernel_rfl) | refine DrawN.mk ?_ | refine CodeN.step hm rfl ?_ | exact trivial | exact rfl | (intro hh; try simp only [decide_eq_true_eq, decide_eq_false_iff_not, beq_iff_eq, beq_eq_false_iff_ne, bne_iff_ne, bne_eq_false_iff_eq, Bool.not_eq_true', Bool.not_eq_false', Bool.not_true, Bool.not_false] at hh; try exact absurd hh (by decide)))); all_goals (conv => whnf); (all_goals first | (exact Ob.mk (by decide)) | skip)))
      (refine RetN.intro () [] rfl rfl ?_ ?_ ?_; ((repeat' (first | exact rfl | exact trivial | refine And.intro ?_ ?_ | ((conv => whnf); first | exact rfl | exact trivial | refine And.intro ?_ ?_)))); ((repeat' (first | exact rfl | exact trivial | refine And.intro ?_ ?_ | ((conv => whnf); first | exact rfl | exact trivial | refine And.intro ?_ ?_))); all_goals (conv => whnf); all_goals (try simp only [])))
    · obtain ⟨sh', h1', h2'⟩ := hq' (by first | assumption | rfl)
      have M1 := encodeM a sh
      have M2 := encodeM b sh'
      rcases enc_cases a with ⟨c1, c2⟩ | ⟨c1, c2, c3⟩ | ⟨c1, c2, c3⟩ <;> rcases enc_cases b with ⟨d1, d2⟩ | ⟨d1, d2, d3⟩ | ⟨d1, d2, d3⟩
      all_goals (try rw [c2] at M1)
      all_goals (try rw [c3] at M1)
      all_goals (try rw [d2] at M2)
      all_goals (try rw [d3] at M2)
      all_goals
        (refine CallN.intro M1 [] rfl rfl ?_ ?_ ?_; ((repeat' (first | exact rfl | exact trivial | refine And.intro ?_ ?_ | ((conv => whnf); first | exact rfl | exact trivial | refine And.intro ?_ ?_)))); ((repeat' (first | exact rfl | exact trivial | refine And.intro ?_ ?_ | ((conv => whnf); first | exact rfl | exact trivial | refine And.intro ?_ ?_)))); (intro y hy; clear y hy; (repeat' ((conv => whnf); first | refine And.intro ?_ ?_ | exact Cl.mk (by kernel_rfl) | exact Ck.mk (by kernel_rfl) | refine DrawN.mk ?_ | refine CodeN.step hm rfl ?_ | exact trivial | exact rfl | (intro hh; try simp only [decide_eq_true_eq, decide_eq_false_iff_not, beq_iff_eq, beq_eq_false_iff_ne, bne_iff_ne, bne_eq_false_iff_eq, Bool.not_eq_true', Bool.not_eq_false', Bool.not_true, Bool.not_false] at hh; try exact absurd hh (by decide)))); all_goals (conv => whnf); (all_goals first | (exact Ob.mk (by decide)) | skip)))
      all_goals
        (refine CallN.intro M2 [] rfl rfl ?_ ?_ ?_; ((repeat' (first | exact rfl | exact trivial | refine And.intro ?_ ?_ | ((conv => whnf); first | exact rfl | exact trivial | refine And.intro ?_ ?_)))); ((repeat' (first | exact rfl | exact trivial | refine And.intro ?_ ?_ | ((conv => whnf); first | exact rfl | exact trivial | refine And.intro ?_ ?_)))); (intro y hy; clear y hy; (repeat' ((conv => whnf); first | refine And.intro ?_ ?_ | exact Cl.mk (by kernel_rfl) | exact Ck.mk (by kernel_rfl) | refine DrawN.mk ?_ | refine CodeN.step hm rfl ?_ | exact trivial | exact rfl | (intro hh; try simp only [decide_eq_true_eq, decide_eq_false_iff_not, beq_iff_eq, beq_eq_false_iff_ne, bne_iff_ne, bne_eq_false_iff_eq, Bool.not_eq_true', Bool.not_eq_false', Bool.not_true, Bool.not_false] at hh; try exact absurd hh (by decide)))); all_goals (conv => whnf); (all_goals first | (exact Ob.mk (by decide)) | skip)))
      iterate 8
        · (refine CallN.intro liveM [] rfl rfl ?_ ?_ ?_; ((repeat' (first | exact rfl | exact trivial | refine And.intro ?_ ?_ | ((conv => whnf); first | exact rfl | exact trivial | refine And.intro ?_ ?_)))); ((repeat' (first | exact rfl | exact trivial | refine And.intro ?_ ?_ | ((conv => whnf); first | exact rfl | exact trivial | refine And.intro ?_ ?_)))); (intro y hy; clear y hy; (repeat' ((conv => whnf); first | refine And.intro ?_ ?_ | exact Cl.mk (by kernel_rfl) | exact Ck.mk (by kernel_rfl) | refine DrawN.mk ?_ | refine CodeN.step hm rfl ?_ | exact trivial | exact rfl | (intro hh; try simp only [decide_eq_true_eq, decide_eq_false_iff_not, beq_iff_eq, beq_eq_false_iff_ne, bne_iff_ne, bne_eq_false_iff_eq, Bool.not_eq_true', Bool.not_eq_false', Bool.not_true, Bool.not_false] at hh; try exact absurd hh (by decide)))); all_goals (conv => whnf); (all_goals first | (exact Ob.mk (by decide)) | skip)))
          (refine RetN.intro () [] rfl rfl ?_ ?_ ?_; ((repeat' (first | exact rfl | exact trivial | refine And.intro ?_ ?_ | ((conv => whnf); first | exact rfl | exact trivial | refine And.intro ?_ ?_)))); ((repeat' (first | exact rfl | exact trivial | refine And.intro ?_ ?_ | ((conv => whnf); first | exact rfl | exact trivial | refine And.intro ?_ ?_))); all_goals (conv => whnf); all_goals (try simp only [])))
      have hi := enc_inj ⟨c1, c2⟩ ⟨d1, d2⟩
      refine CallN.intro (sameM a b ⟨by omega, by omega⟩) [] rfl rfl ?_ ?_ ?_
      · (repeat' (first | exact rfl | exact trivial | refine And.intro ?_ ?_ | ((conv => whnf); first | exact rfl | exact trivial | refine And.intro ?_ ?_)))
      · (repeat' (first | exact rfl | exact trivial | refine And.intro ?_ ?_ | ((conv => whnf); first | exact rfl | exact trivial | refine And.intro ?_ ?_)))
      intro z hz
      (repeat' ((conv => whnf); first | refine And.intro ?_ ?_ | exact Cl.mk (by kernel_rfl) | exact Ck.mk (by kernel_rfl) | refine DrawN.mk ?_ | refine CodeN.step hm rfl ?_ | exact trivial | exact rfl | (intro hh; try simp only [decide_eq_true_eq, decide_eq_false_iff_not, beq_iff_eq, beq_eq_false_iff_ne, bne_iff_ne, bne_eq_false_iff_eq, Bool.not_eq_true', Bool.not_eq_false', Bool.not_true, Bool.not_false] at hh))); all_goals (conv => whnf)
      · (refine CallN.intro liveM [] rfl rfl ?_ ?_ ?_; ((repeat' (first | exact rfl | exact trivial | refine And.intro ?_ ?_ | ((conv => whnf); first | exact rfl | exact trivial | refine And.intro ?_ ?_)))); ((repeat' (first | exact rfl | exact trivial | refine And.intro ?_ ?_ | ((conv => whnf); first | exact rfl | exact trivial | refine And.intro ?_ ?_)))); (intro y hy; clear y hy; (repeat' ((conv => whnf); first | refine And.intro ?_ ?_ | exact Cl.mk (by kernel_rfl) | exact Ck.mk (by kernel_rfl) | refine DrawN.mk ?_ | refine CodeN.step hm rfl ?_ | exact trivial | exact rfl | (intro hh; try simp only [decide_eq_true_eq, decide_eq_false_iff_not, beq_iff_eq, beq_eq_false_iff_ne, bne_iff_ne, bne_eq_false_iff_eq, Bool.not_eq_true', Bool.not_eq_false', Bool.not_true, Bool.not_false] at hh; try exact absurd hh (by decide)))); all_goals (conv => whnf); (all_goals first | (exact Ob.mk (by decide)) | skip)))
        (refine RetN.intro () [] rfl rfl ?_ ?_ ?_; ((repeat' (first | exact rfl | exact trivial | refine And.intro ?_ ?_ | ((conv => whnf); first | exact rfl | exact trivial | refine And.intro ?_ ?_)))); ((repeat' (first | exact rfl | exact trivial | refine And.intro ?_ ?_ | ((conv => whnf); first | exact rfl | exact trivial | refine And.intro ?_ ?_))); all_goals (conv => whnf); all_goals (try simp only [])))
      exfalso
      apply hh
      rw [Bool.eq_iff_iff, beq_iff_eq, hi, hz]
  · (refine CallN.intro liveM [] rfl rfl ?_ ?_ ?_; ((repeat' (first | exact rfl | exact trivial | refine And.intro ?_ ?_ | ((conv => whnf); first | exact rfl | exact trivial | refine And.intro ?_ ?_)))); ((repeat' (first | exact rfl | exact trivial | refine And.intro ?_ ?_ | ((conv => whnf); first | exact rfl | exact trivial | refine And.intro ?_ ?_)))); (intro y hy; clear y hy; (repeat' ((conv => whnf); first | refine And.intro ?_ ?_ | exact Cl.mk (by kernel_rfl) | exact Ck.mk (by kernel_rfl) | refine DrawN.mk ?_ | refine CodeN.step hm rfl ?_ | exact trivial | exact rfl | (intro hh; try simp only [decide_eq_true_eq, decide_eq_false_iff_not, beq_iff_eq, beq_eq_false_iff_ne, bne_iff_ne, bne_eq_false_iff_eq, Bool.not_eq_true', Bool.not_eq_false', Bool.not_true, Bool.not_false] at hh; try exact absurd hh (by decide)))); all_goals (conv => whnf); (all_goals first | (exact Ob.mk (by decide)) | skip)))
    (refine RetN.intro () [] rfl rfl ?_ ?_ ?_; ((repeat' (first | exact rfl | exact trivial | refine And.intro ?_ ?_ | ((conv => whnf); first | exact rfl | exact trivial | refine And.intro ?_ ?_)))); ((repeat' (first | exact rfl | exact trivial | refine And.intro ?_ ?_ | ((conv => whnf); first | exact rfl | exact trivial | refine And.intro ?_ ?_))); all_goals (conv => whnf); all_goals (try simp only [])))
end Go.Proofs.Ytoipgandilhdeaa.An
set_option linter.unusedVariables false
set_option linter.unusedSimpArgs false
namespace Go.Proofs.Ytoipgandilhdeaa.An
open Go Go.RowKit Fw Nu
/-- Answer's bytes, with others behind them, are read. -/
theorem reads_put {a : Ans} {s rest : Bytes} (hw : wrongA a = false) (hs : s = encA a ++ rest) : ∃ vs t1 t2, readL s 0 headsW = some (vs, t1) ∧ readC s (readTold s) t1 = some (a.2.2.1, t2) ∧ readC s (readName s) t2 = some (a.2.2.2.2.2.2.2, ((encA a).length : Int)) ∧ ansOf vs a.2.2.1 a.2.2.2.2.2.2.2 = some a := by
  obtain ⟨k, c, told, v, ⟨p1, p2, p3, p4⟩, nw, cn, names⟩ := a
  generalize ha : ((k, c, told, v, (p1, p2, p3, p4), nw, cn, names) : Ans) = a at hw hs ⊢
  have t1 : a.2.2.1 = told := by rw [← ha]
  have t2 : a.2.2.2.2.2.2.2 = names := by rw [← ha]
  obtain ⟨w1, w2, w4, w5, w7⟩ := wrong_no hw
  rw [t1] at w2 w4 ⊢
  rw [t2] at w5 w7 ⊢
  have hse : from_ s 0 = wides (ansNums a) ++ (wides [((told.length : Int), 1)] ++ toldsB told ++ (wides [((names.length : Int), 1)] ++ namesB names ++ rest)) := by
    show s = _
    rw [hs, encA, t1, t2]; simp
  obtain ⟨k1, k2, k3⟩ := readL_put (ansNums a) 0 _ (by simp [ansNums]) (by omega) w1 hse
  obtain ⟨l1, l2, l3⟩ := readC_put (s := s) (f := readTold s) (B := fun t => wides (toldNums t)) (W := fun t => bads (toldNums t)) (fun t x rest h0 hw h => told_put h0 hw h) told (by omega) (by omega) w4 k2
  obtain ⟨n1, n2, n3⟩ := readC_put (s := s) (f := readName s) (B := nameB) (W := nameW) (fun t x rest h0 hw h => name_put h0 hw h) names (by omega) (by omega) w7 l2
  have k1 : readL s 0 headsW = some ([k, c, v, p1, p2, p3, p4, nw, cn], (0 : Int) + ((wides (ansNums a)).length : Int)) := by rw [← ha] at k1 ⊢; exact k1
  refine ⟨_, _, _, k1, l1, ?_, by rw [← ha]; rfl⟩
  have e : (0 : Int) + ((wides (ansNums a)).length : Int) + ((wides [((told.length : Int), 1)] ++ toldsB told).length : Nat) + ((wides [((names.length : Int), 1)] ++ namesB names).length : Nat) = ((encA a).length : Int) := by
    rw [encA, t1, t2]; simp only [List.length_append]; omega
  rw [← e]
  exact n1
/-- No answer's bytes begin another's. -/
theorem enc_pre {a o : Ans} {rest : Bytes} (ha : wrongA a = false) (ho : wrongA o = false) (h : encA a = encA o ++ rest) : a = o ∧ rest = [] := by
  obtain ⟨vs, t1, t2, g1, g2, g3, g4⟩ := reads_put (rest := []) ha (List.append_nil _).symm
  obtain ⟨us, u1, u2, k1, k2, k3, k4⟩ := reads_put ho h
  rw [g1] at k1
  simp only [Option.some.injEq, Prod.mk.injEq] at k1
  obtain ⟨rfl, rfl⟩ := k1
  rw [g2] at k2
  simp only [Option.some.injEq, Prod.mk.injEq] at k2
  obtain ⟨e1, rfl⟩ := k2
  rw [g3] at k3
  simp only [Option.some.injEq, Prod.mk.injEq] at k3
  obtain ⟨e2, e3⟩ := k3
  rw [e1, e2, k4] at g4
  refine ⟨(Option.some.inj g4).symm, ?_⟩
  have hl := congrArg List.length h
  rw [List.length_append] at hl
  exact List.length_eq_zero_iff.1 (by omega)
theorem dec_cut {a : Ans} {n : Nat} (ha : wrongA a = false) (hn : n < (encA a).length) : decR ((encA a).take n) = (zeroA, 3) := by
  unfold decR
  cases h : decP ((encA a).take n) with
  | none => rfl
  | some o =>
    obtain ⟨w, e, _⟩ := dec_get h
    obtain ⟨_, h2⟩ := enc_pre (rest := (encA a).drop n) ha w (by rw [e, List.take_append_drop])
    have := congrArg List.length h2
    rw [List.length_drop] at this
    simp at this; omega
theorem dec_more {a : Ans} {b : Bytes} (ha : wrongA a = false) (hb : b ≠ []) : decR (encA a ++ b) = (zeroA, 3) := by
  unfold decR
  cases h : decP (encA a ++ b) with
  | none => rfl
  | some o =>
    obtain ⟨w, e, _⟩ := dec_get h
    obtain ⟨_, h2⟩ := enc_pre w ha e
    exact absurd h2 hb
theorem dec_enc {a : Ans} (ha : wrongA a = false) (hl : (encA a).length ≤ 512) : decR (encA a) = (a, 0) := by
  unfold decR; rw [dec_put ha hl]
theorem dec_cases (s : Bytes) : (decR s = (zeroA, 3)) ∨ (∃ o, decR s = (o, 0) ∧ wrongA o = false ∧ encA o = s ∧ s.length ≤ 512 ∧ Sh o) := by
  unfold decR
  cases h : decP s with
  | none => exact .inl rfl
  | some o =>
    obtain ⟨w, e, l⟩ := dec_get h
    refine .inr ⟨o, rfl, w, e, l, ?_⟩
    obtain ⟨w1, w2, w4, w5, w7⟩ := wrong_no w
    refine ⟨by omega, by omega, fun n hn => ?_⟩
    have := List.any_eq_false.1 w7 n hn
    simp only [Bool.or_eq_true, not_or, Bool.not_eq_true] at this
    have h2 := this.2
    rw [Bool.not_eq_false', put_ok, decide_eq_true_eq] at h2
    omega
theorem sh0 : Sh zeroA := ⟨by decide, by decide, by decide⟩
set_option maxRecDepth 4000 in
theorem backLawM (a : Ans) (s : Bytes) (cut : Int) : Meets Try.prog 5 [ansAV a, .str fun _ => s, .int .i64 fun _ => cut] [] (Y := Unit) (fun _ => True) (fun _ => .tt) (fun _ => []) := by
  refine Meets.intro hm (fn := Try.f5) Try.func5 rfl (by decide) (Nat.le_of_ble_eq_true rfl) (fun _ => rfl) ?_; intro S hok; (conv => whnf)
  (repeat' ((conv => whnf); first | refine And.intro ?_ ?_ | exact Cl.mk (by kernel_rfl) | exact Ck.mk (by kernel_rfl) | refine DrawN.mk ?_ | refine CodeN.step hm rfl ?_ | exact trivial | exact rfl | (intro hh; try simp only [decide_eq_true_eq, decide_eq_false_iff_not, beq_iff_eq, beq_eq_false_iff_ne, bne_iff_ne, bne_eq_false_iff_eq, Bool.not_eq_true', Bool.not_eq_false', Bool.not_true, Bool.not_false] at hh))); all_goals (conv => whnf)
  refine CallN.intro (shortM a) [] rfl rfl ?_ ?_ ?_
  · (repeat' (first | exact rfl | exact trivial | refine And.intro ?_ ?_ | ((conv => whnf); first | exact rfl | exact trivial | refine And.intro ?_ ?_)))
  · (repeat' (first | exact rfl | exact trivial | refine And.intro ?_ ?_ | ((conv => whnf); first | exact rfl | exact trivial | refine And.intro ?_ ?_)))
  intro q hq
  (repeat' ((conv => whnf); first | refine And.intro ?_ ?_ | exact Cl.mk (by kernel_rfl) | exact Ck.mk (by kernel_rfl) | refine DrawN.mk ?_ | refine CodeN.step hm rfl ?_ | exact trivial | exact rfl | (intro hh; try simp only [decide_eq_true_eq, decide_eq_false_iff_not, beq_iff_eq, beq_eq_false_iff_ne, bne_iff_ne, bne_eq_false_iff_eq, Bool.not_eq_true', Bool.not_eq_false', Bool.not_true, Bool.not_false] at hh))); all_goals (conv => whnf)
  · (refine CallN.intro liveM [] rfl rfl ?_ ?_ ?_; ((repeat' (first | exact rfl | exact trivial | refine And.intro ?_ ?_ | ((conv => whnf); first | exact rfl | exact trivial | refine And.intro ?_ ?_)))); ((repeat' (first | exact rfl | exact trivial | refine And.intro ?_ ?_ | ((conv => whnf); first | exact rfl | exact trivial | refine And.intro ?_ ?_)))); (intro y hy; clear y hy; (repeat' ((conv => whnf); first | refine And.intro ?_ ?_ | exact Cl.mk (by kernel_rfl) | exact Ck.mk (by kernel_rfl) | refine DrawN.mk ?_ | refine CodeN.step hm rfl ?_ | exact trivial | exact rfl | (intro hh; try simp only [decide_eq_true_eq, decide_eq_false_iff_not, beq_iff_eq, beq_eq_false_iff_ne, bne_iff_ne, bne_eq_false_iff_eq, Bool.not_eq_true', Bool.not_eq_false', Bool.not_true, Bool.not_false] at hh; try exact absurd hh (by decide)))); all_goals (conv => whnf); (all_goals first | (exact Ob.mk (by decide)) | skip)))
    (refine RetN.intro () [] rfl rfl ?_ ?_ ?_; ((repeat' (first | exact rfl | exact trivial | refine And.intro ?_ ?_ | ((conv => whnf); first | exact rfl | exact trivial | refine And.intro ?_ ?_)))); ((repeat' (first | exact rfl | exact trivial | refine And.intro ?_ ?_ | ((conv => whnf); first | exact rfl | exact trivial | refine And.intro ?_ ?_))); all_goals (conv => whnf); all_goals (try simp only [])))
  rotate_left
  · (refine CallN.intro liveM [] rfl rfl ?_ ?_ ?_; ((repeat' (first | exact rfl | exact trivial | refine And.intro ?_ ?_ | ((conv => whnf); first | exact rfl | exact trivial | refine And.intro ?_ ?_)))); ((repeat' (first | exact rfl | exact trivial | refine And.intro ?_ ?_ | ((conv => whnf); first | exact rfl | exact trivial | refine And.intro ?_ ?_)))); (intro y hy; clear y hy; (repeat' ((conv => whnf); first | refine And.intro ?_ ?_ | exact Cl.mk (by kernel_rfl) | exact Ck.mk (by kernel_rfl) | refine DrawN.mk ?_ | refine CodeN.step hm rfl ?_ | exact trivial | exact rfl | (intro hh; try simp only [decide_eq_true_eq, decide_eq_false_iff_not, beq_iff_eq, beq_eq_false_iff_ne, bne_iff_ne, bne_eq_false_iff_eq, Bool.not_eq_true', Bool.not_eq_false', Bool.not_true, Bool.not_false] at hh; try exact absurd hh (by decide)))); all_goals (conv => whnf); (all_goals first | (exact Ob.mk (by decide)) | skip)))
    (refine RetN.intro () [] rfl rfl ?_ ?_ ?_; ((repeat' (first | exact rfl | exact trivial | refine And.intro ?_ ?_ | ((conv => whnf); first | exact rfl | exact trivial | refine And.intro ?_ ?_)))); ((repeat' (first | exact rfl | exact trivial | refine And.intro ?_ ?_ | ((conv => whnf); first | exact rfl | exact trivial | refine And.intro ?_ ?_))); all_goals (conv => whnf); all_goals (try simp only [])))
  obtain ⟨sh, h1, h2⟩ := hq (by first | assumption | rfl)
  have M1 := encodeM a sh
  have M2 := decodeM (encR a).1 (by rcases enc_cases a with ⟨c1, c2⟩ | ⟨c1, c2, c3⟩ | ⟨c1, c2, c3⟩ <;> simp [*]; omega)
  have M3 := decodeM s (by omega)
  have M4 := mayM a sh
  have MM : ∃ o f, decR s = (o, f) ∧ Sh o ∧ ((f = 3 ∧ o = zeroA) ∨ (f = 0 ∧ encR o = (s, 0))) := by
    rcases dec_cases s with h | ⟨o, h, d1, d2, d3, d4⟩
    · exact ⟨_, _, h, sh0, .inl ⟨rfl, rfl⟩⟩
    · refine ⟨_, _, h, d4, .inr ⟨rfl, ?_⟩⟩
      rcases enc_cases o with ⟨c1, c2⟩ | ⟨c1, c2, c3⟩ | ⟨c1, c2, c3⟩
      · rw [c1] at d1; cases d1
      · rw [d2] at c2; omega
      · rw [c3, d2]
  obtain ⟨o, f, ho, sho, hof⟩ := MM
  have M5 := encodeM o sho
  rw [ho] at M3
  have k1 : f = 0 → (encR o).1 = s := fun h => by
    rcases hof with ⟨g, _⟩ | ⟨_, g⟩
    · rw [g] at h; cases h
    · rw [g]
  have k2 : f = 0 → (encR o).2 = 0 := fun h => by
    rcases hof with ⟨g, _⟩ | ⟨_, g⟩
    · rw [g] at h; cases h
    · rw [g]
  rcases enc_cases a with ⟨c1, c2⟩ | ⟨c1, c2, c3⟩ | ⟨c1, c2, c3⟩
  · rw [c2] at M1 M2
    rw [ex6] at M2
    rw [c1] at M4
    (refine CallN.intro M1 [] rfl rfl ?_ ?_ ?_; ((repeat' (first | exact rfl | exact trivial | refine And.intro ?_ ?_ | ((conv => whnf); first | exact rfl | exact trivial | refine And.intro ?_ ?_)))); ((repeat' (first | exact rfl | exact trivial | refine And.intro ?_ ?_ | ((conv => whnf); first | exact rfl | exact trivial | refine And.intro ?_ ?_)))); (intro y hy; clear y hy; (repeat' ((conv => whnf); first | refine And.intro ?_ ?_ | exact Cl.mk (by kernel_rfl) | exact Ck.mk (by kernel_rfl) | refine DrawN.mk ?_ | refine CodeN.step hm rfl ?_ | exact trivial | exact rfl | (intro hh; try simp only [decide_eq_true_eq, decide_eq_false_iff_not, beq_iff_eq, beq_eq_false_iff_ne, bne_iff_ne, bne_eq_false_iff_eq, Bool.not_eq_true', Bool.not_eq_false', Bool.not_true, Bool.not_false] at hh; try exact absurd hh (by decide)))); all_goals (conv => whnf); (all_goals first | (exact Ob.mk (by decide)) | skip)))
    (refine CallN.intro M2 [] rfl rfl ?_ ?_ ?_; ((repeat' (first | exact rfl | exact trivial | refine And.intro ?_ ?_ | ((conv => whnf); first | exact rfl | exact trivial | refine And.intro ?_ ?_)))); ((repeat' (first | exact rfl | exact trivial | refine And.intro ?_ ?_ | ((conv => whnf); first | exact rfl | exact trivial | refine And.intro ?_ ?_)))); (intro y hy; clear y hy; (repeat' ((conv => whnf); first | refine And.intro ?_ ?_ | exact Cl.mk (by kernel_rfl) | exact Ck.mk (by kernel_rfl) | refine DrawN.mk ?_ | refine CodeN.step hm rfl ?_ | exact trivial | exact rfl | (intro hh; try simp only [decide_eq_true_eq, decide_eq_false_iff_not, beq_iff_eq, beq_eq_false_iff_ne, bne_iff_ne, bne_eq_false_iff_eq, Bool.not_eq_true', Bool.not_eq_false', Bool.not_true, Bool.not_false] at hh; try exact absurd hh (by decide)))); all_goals (conv => whnf); (all_goals first | (exact Ob.mk (by decide)) | skip)))
    (refine CallN.intro M4 [] rfl rfl ?_ ?_ ?_; ((repeat' (first | exact rfl | exact trivial | refine And.intro ?_ ?_ | ((conv => whnf); first | exact rfl | exact trivial | refine And.intro ?_ ?_)))); ((repeat' (first | exact rfl | exact trivial | refine And.intro ?_ ?_ | ((conv => whnf); first | exact rfl | exact trivial | refine And.intro ?_ ?_)))); (intro y hy; clear y hy; (repeat' ((conv => whnf); first | refine And.intro ?_ ?_ | exact Cl.mk (by kernel_rfl) | exact Ck.mk (by kernel_rfl) | refine DrawN.mk ?_ | refine CodeN.step hm rfl ?_ | exact trivial | exact rfl | (intro hh; try simp only [decide_eq_true_eq, decide_eq_false_iff_not, beq_iff_eq, beq_eq_false_iff_ne, bne_iff_ne, bne_eq_false_iff_eq, Bool.not_eq_true', Bool.not_eq_false', Bool.not_true, Bool.not_false] at hh; try exact absurd hh (by decide)))); all_goals (conv => whnf); (all_goals first | (exact Ob.mk (by decide)) | skip)))
    (refine CallN.intro M3 [] rfl rfl ?_ ?_ ?_; ((repeat' (first | exact rfl | exact trivial | refine And.intro ?_ ?_ | ((conv => whnf); first | exact rfl | exact trivial | refine And.intro ?_ ?_)))); ((repeat' (first | exact rfl | exact trivial | refine And.intro ?_ ?_ | ((conv => whnf); first | exact rfl | exact trivial | refine And.intro ?_ ?_)))); (intro y hy; clear y hy; (repeat' ((conv => whnf); first | refine And.intro ?_ ?_ | exact Cl.mk (by kernel_rfl) | exact Ck.mk (by kernel_rfl) | refine DrawN.mk ?_ | refine CodeN.step hm rfl ?_ | exact trivial | exact rfl | (intro hh; try simp only [decide_eq_true_eq, decide_eq_false_iff_not, beq_iff_eq, beq_eq_false_iff_ne, bne_iff_ne, bne_eq_false_iff_eq, Bool.not_eq_true', Bool.not_eq_false', Bool.not_true, Bool.not_false] at hh; try exact absurd hh (by decide)))); all_goals (conv => whnf); (all_goals first | (exact Ob.mk (by decide)) | skip)))
    (refine CallN.intro M5 [] rfl rfl ?_ ?_ ?_; ((repeat' (first | exact rfl | exact trivial | refine And.intro ?_ ?_ | ((conv => whnf); first | exact rfl | exact trivial | refine And.intro ?_ ?_)))); ((repeat' (first | exact rfl | exact trivial | refine And.intro ?_ ?_ | ((conv => whnf); first | exact rfl | exact trivial | refine And.intro ?_ ?_)))); (intro y hy; clear y hy; (repeat' ((conv => whnf); first | refine And.intro ?_ ?_ | exact Cl.mk (by kernel_rfl) | exact Ck.mk (by kernel_rfl) | refine DrawN.mk ?_ | refine CodeN.step hm rfl ?_ | exact trivial | exact rfl | (intro hh; try simp only [decide_eq_true_eq, decide_eq_false_iff_not, beq_iff_eq, beq_eq_false_iff_ne, bne_iff_ne, bne_eq_false_iff_eq, Bool.not_eq_true', Bool.not_eq_false', Bool.not_true, Bool.not_false] at hh; try exact absurd hh (by decide)))); all_goals (conv => whnf); (all_goals first | (exact Ob.mk (by decide)) | skip)))
    all_goals first
      | (exfalso; exact hh (k1 (by assumption)); done)
      | (exfalso; exact hh (k2 (by assumption)); done)
      | skip
    all_goals
      (refine CallN.intro liveM [] rfl rfl ?_ ?_ ?_; ((repeat' (first | exact rfl | exact trivial | refine And.intro ?_ ?_ | ((conv => whnf); first | exact rfl | exact trivial | refine And.intro ?_ ?_)))); ((repeat' (first | exact rfl | exact trivial | refine And.intro ?_ ?_ | ((conv => whnf); first | exact rfl | exact trivial | refine And.intro ?_ ?_)))); (intro y hy; clear y hy; (repeat' ((conv => whnf); first | refine And.intro ?_ ?_ | exact Cl.mk (by kernel_rfl) | exact Ck.mk (by kernel_rfl) | refine DrawN.mk ?_ | refine CodeN.step hm rfl ?_ | exact trivial | exact rfl | (intro hh; try simp only [decide_eq_true_eq, decide_eq_false_iff_not, beq_iff_eq, beq_eq_false_iff_ne, bne_iff_ne, bne_eq_false_iff_eq, Bool.not_eq_true', Bool.not_eq_false', Bool.not_true, Bool.not_false] at hh; try exact absurd hh (by decide)))); all_goals (conv => whnf); (all_goals first | (exact Ob.mk (by decide)) | skip)))
      (refine RetN.intro () [] rfl rfl ?_ ?_ ?_; ((repeat' (first | exact rfl | exact trivial | refine And.intro ?_ ?_ | ((conv => whnf); first | exact rfl | exact trivial | refine And.intro ?_ ?_)))); ((repeat' (first | exact rfl | exact trivial | refine And.intro ?_ ?_ | ((conv => whnf); first | exact rfl | exact trivial | refine And.intro ?_ ?_))); all_goals (conv => whnf); all_goals (try simp only [])))
  · rw [c3] at M1 M2
    rw [ex6] at M2
    (refine CallN.intro M1 [] rfl rfl ?_ ?_ ?_; ((repeat' (first | exact rfl | exact trivial | refine And.intro ?_ ?_ | ((conv => whnf); first | exact rfl | exact trivial | refine And.intro ?_ ?_)))); ((repeat' (first | exact rfl | exact trivial | refine And.intro ?_ ?_ | ((conv => whnf); first | exact rfl | exact trivial | refine And.intro ?_ ?_)))); (intro y hy; clear y hy; (repeat' ((conv => whnf); first | refine And.intro ?_ ?_ | exact Cl.mk (by kernel_rfl) | exact Ck.mk (by kernel_rfl) | refine DrawN.mk ?_ | refine CodeN.step hm rfl ?_ | exact trivial | exact rfl | (intro hh; try simp only [decide_eq_true_eq, decide_eq_false_iff_not, beq_iff_eq, beq_eq_false_iff_ne, bne_iff_ne, bne_eq_false_iff_eq, Bool.not_eq_true', Bool.not_eq_false', Bool.not_true, Bool.not_false] at hh; try exact absurd hh (by decide)))); all_goals (conv => whnf); (all_goals first | (exact Ob.mk (by decide)) | skip)))
    (refine CallN.intro M2 [] rfl rfl ?_ ?_ ?_; ((repeat' (first | exact rfl | exact trivial | refine And.intro ?_ ?_ | ((conv => whnf); first | exact rfl | exact trivial | refine And.intro ?_ ?_)))); ((repeat' (first | exact rfl | exact trivial | refine And.intro ?_ ?_ | ((conv => whnf); first | exact rfl | exact trivial | refine And.intro ?_ ?_)))); (intro y hy; clear y hy; (repeat' ((conv => whnf); first | refine And.intro ?_ ?_ | exact Cl.mk (by kernel_rfl) | exact Ck.mk (by kernel_rfl) | refine DrawN.mk ?_ | refine CodeN.step hm rfl ?_ | exact trivial | exact rfl | (intro hh; try simp only [decide_eq_true_eq, decide_eq_false_iff_not, beq_iff_eq, beq_eq_false_iff_ne, bne_iff_ne, bne_eq_false_iff_eq, Bool.not_eq_true', Bool.not_eq_false', Bool.not_true, Bool.not_false] at hh; try exact absurd hh (by decide)))); all_goals (conv => whnf); (all_goals first | (exact Ob.mk (by decide)) | skip)))
    (refine CallN.intro M3 [] rfl rfl ?_ ?_ ?_; ((repeat' (first | exact rfl | exact trivial | refine And.intro ?_ ?_ | ((conv => whnf); first | exact rfl | exact trivial | refine And.intro ?_ ?_)))); ((repeat' (first | exact rfl | exact trivial | refine And.intro ?_ ?_ | ((conv => whnf); first | exact rfl | exact trivial | refine And.intro ?_ ?_)))); (intro y hy; clear y hy; (repeat' ((conv => whnf); first | refine And.intro ?_ ?_ | exact Cl.mk (by kernel_rfl) | exact Ck.mk (by kernel_rfl) | refine DrawN.mk ?_ | refine CodeN.step hm rfl ?_ | exact trivial | exact rfl | (intro hh; try simp only [decide_eq_true_eq, decide_eq_false_iff_not, beq_iff_eq, beq_eq_false_iff_ne, bne_iff_ne, bne_eq_false_iff_eq, Bool.not_eq_true', Bool.not_eq_false', Bool.not_true, Bool.not_false] at hh; try exact absurd hh (by decide)))); all_goals (conv => whnf); (all_goals first | (exact Ob.mk (by decide)) | skip)))
    (refine CallN.intro M5 [] rfl rfl ?_ ?_ ?_; ((repeat' (first | exact rfl | exact trivial | refine And.intro ?_ ?_ | ((conv => whnf); first | exact rfl | exact trivial | refine And.intro ?_ ?_)))); ((repeat' (first | exact rfl | exact trivial | refine And.intro ?_ ?_ | ((conv => whnf); first | exact rfl | exact trivial | refine And.intro ?_ ?_)))); (intro y hy; clear y hy; (repeat' ((conv => whnf); first | refine And.intro ?_ ?_ | exact Cl.mk (by kernel_rfl) | exact Ck.mk (by kernel_rfl) | refine DrawN.mk ?_ | refine CodeN.step hm rfl ?_ | exact trivial | exact rfl | (intro hh; try simp only [decide_eq_true_eq, decide_eq_false_iff_not, beq_iff_eq, beq_eq_false_iff_ne, bne_iff_ne, bne_eq_false_iff_eq, Bool.not_eq_true', Bool.not_eq_false', Bool.not_true, Bool.not_false] at hh; try exact absurd hh (by decide)))); all_goals (conv => whnf); (all_goals first | (exact Ob.mk (by decide)) | skip)))
    all_goals first
      | (exfalso; exact hh (k1 (by assumption)); done)
      | (exfalso; exact hh (k2 (by assumption)); done)
      | skip
    all_goals
      (refine CallN.intro liveM [] rfl rfl ?_ ?_ ?_; ((repeat' (first | exact rfl | exact trivial | refine And.intro ?_ ?_ | ((conv => whnf); first | exact rfl | exact trivial | refine And.intro ?_ ?_)))); ((repeat' (first | exact rfl | exact trivial | refine And.intro ?_ ?_ | ((conv => whnf); first | exact rfl | exact trivial | refine And.intro ?_ ?_)))); (intro y hy; clear y hy; (repeat' ((conv => whnf); first | refine And.intro ?_ ?_ | exact Cl.mk (by kernel_rfl) | exact Ck.mk (by kernel_rfl) | refine DrawN.mk ?_ | refine CodeN.step hm rfl ?_ | exact trivial | exact rfl | (intro hh; try simp only [decide_eq_true_eq, decide_eq_false_iff_not, beq_iff_eq, beq_eq_false_iff_ne, bne_iff_ne, bne_eq_false_iff_eq, Bool.not_eq_true', Bool.not_eq_false', Bool.not_true, Bool.not_false] at hh; try exact absurd hh (by decide)))); all_goals (conv => whnf); (all_goals first | (exact Ob.mk (by decide)) | skip)))
      (refine RetN.intro () [] rfl rfl ?_ ?_ ?_; ((repeat' (first | exact rfl | exact trivial | refine And.intro ?_ ?_ | ((conv => whnf); first | exact rfl | exact trivial | refine And.intro ?_ ?_)))); ((repeat' (first | exact rfl | exact trivial | refine And.intro ?_ ?_ | ((conv => whnf); first | exact rfl | exact trivial | refine And.intro ?_ ?_))); all_goals (conv => whnf); all_goals (try simp only [])))
  · rw [c3] at M1 M2
    rw [dec_enc c1 c2] at M2
    rw [c1] at M4
    (refine CallN.intro M1 [] rfl rfl ?_ ?_ ?_; ((repeat' (first | exact rfl | exact trivial | refine And.intro ?_ ?_ | ((conv => whnf); first | exact rfl | exact trivial | refine And.intro ?_ ?_)))); ((repeat' (first | exact rfl | exact trivial | refine And.intro ?_ ?_ | ((conv => whnf); first | exact rfl | exact trivial | refine And.intro ?_ ?_)))); (intro y hy; clear y hy; (repeat' ((conv => whnf); first | refine And.intro ?_ ?_ | exact Cl.mk (by kernel_rfl) | exact Ck.mk (by kernel_rfl) | refine DrawN.mk ?_ | refine CodeN.step hm rfl ?_ | exact trivial | exact rfl | (intro hh; try simp only [decide_eq_true_eq, decide_eq_false_iff_not, beq_iff_eq, beq_eq_false_iff_ne, bne_iff_ne, bne_eq_false_iff_eq, Bool.not_eq_true', Bool.not_eq_false', Bool.not_true, Bool.not_false] at hh; try exact absurd hh (by decide)))); all_goals (conv => whnf); (all_goals first | (exact Ob.mk (by decide)) | skip)))
    (refine CallN.intro M2 [] rfl rfl ?_ ?_ ?_; ((repeat' (first | exact rfl | exact trivial | refine And.intro ?_ ?_ | ((conv => whnf); first | exact rfl | exact trivial | refine And.intro ?_ ?_)))); ((repeat' (first | exact rfl | exact trivial | refine And.intro ?_ ?_ | ((conv => whnf); first | exact rfl | exact trivial | refine And.intro ?_ ?_)))); (intro y hy; clear y hy; (repeat' ((conv => whnf); first | refine And.intro ?_ ?_ | exact Cl.mk (by kernel_rfl) | exact Ck.mk (by kernel_rfl) | refine DrawN.mk ?_ | refine CodeN.step hm rfl ?_ | exact trivial | exact rfl | (intro hh; try simp only [decide_eq_true_eq, decide_eq_false_iff_not, beq_iff_eq, beq_eq_false_iff_ne, bne_iff_ne, bne_eq_false_iff_eq, Bool.not_eq_true', Bool.not_eq_false', Bool.not_true, Bool.not_false] at hh; try exact absurd hh (by decide)))); all_goals (conv => whnf); (all_goals first | (exact Ob.mk (by decide)) | skip)))
    refine CallN.intro (sameM a a ⟨by omega, by omega⟩) [] rfl rfl ?_ ?_ ?_
    · (repeat' (first | exact rfl | exact trivial | refine And.intro ?_ ?_ | ((conv => whnf); first | exact rfl | exact trivial | refine And.intro ?_ ?_)))
    · (repeat' (first | exact rfl | exact trivial | refine And.intro ?_ ?_ | ((conv => whnf); first | exact rfl | exact trivial | refine And.intro ?_ ?_)))
    intro z hz
    have hz : z = true := hz.2 rfl
    subst hz
    (repeat' ((conv => whnf); first | refine And.intro ?_ ?_ | exact Cl.mk (by kernel_rfl) | exact Ck.mk (by kernel_rfl) | refine DrawN.mk ?_ | refine CodeN.step hm rfl ?_ | exact trivial | exact rfl | (intro hh; try simp only [decide_eq_true_eq, decide_eq_false_iff_not, beq_iff_eq, beq_eq_false_iff_ne, bne_iff_ne, bne_eq_false_iff_eq, Bool.not_eq_true', Bool.not_eq_false', Bool.not_true, Bool.not_false] at hh))); all_goals (conv => whnf)
    (refine CallN.intro M4 [] rfl rfl ?_ ?_ ?_; ((repeat' (first | exact rfl | exact trivial | refine And.intro ?_ ?_ | ((conv => whnf); first | exact rfl | exact trivial | refine And.intro ?_ ?_)))); ((repeat' (first | exact rfl | exact trivial | refine And.intro ?_ ?_ | ((conv => whnf); first | exact rfl | exact trivial | refine And.intro ?_ ?_)))); (intro y hy; clear y hy; (repeat' ((conv => whnf); first | refine And.intro ?_ ?_ | exact Cl.mk (by kernel_rfl) | exact Ck.mk (by kernel_rfl) | refine DrawN.mk ?_ | refine CodeN.step hm rfl ?_ | exact trivial | exact rfl | (intro hh; try simp only [decide_eq_true_eq, decide_eq_false_iff_not, beq_iff_eq, beq_eq_false_iff_ne, bne_iff_ne, bne_eq_false_iff_eq, Bool.not_eq_true', Bool.not_eq_false', Bool.not_true, Bool.not_false] at hh; try exact absurd hh (by decide)))); all_goals (conv => whnf); (all_goals first | (exact Ob.mk (by decide)) | skip)))
    (refine CallN.intro M3 [] rfl rfl ?_ ?_ ?_; ((repeat' (first | exact rfl | exact trivial | refine And.intro ?_ ?_ | ((conv => whnf); first | exact rfl | exact trivial | refine And.intro ?_ ?_)))); ((repeat' (first | exact rfl | exact trivial | refine And.intro ?_ ?_ | ((conv => whnf); first | exact rfl | exact trivial | refine And.intro ?_ ?_)))); (intro y hy; clear y hy; (repeat' ((conv => whnf); first | refine And.intro ?_ ?_ | exact Cl.mk (by kernel_rfl) | exact Ck.mk (by kernel_rfl) | refine DrawN.mk ?_ | refine CodeN.step hm rfl ?_ | exact trivial | exact rfl | (intro hh; try simp only [decide_eq_true_eq, decide_eq_false_iff_not, beq_iff_eq, beq_eq_false_iff_ne, bne_iff_ne, bne_eq_false_iff_eq, Bool.not_eq_true', Bool.not_eq_false', Bool.not_true, Bool.not_false] at hh; try exact absurd hh (by decide)))); all_goals (conv => whnf); (all_goals first | (exact Ob.mk (by decide)) | skip)))
    (refine CallN.intro M5 [] rfl rfl ?_ ?_ ?_; ((repeat' (first | exact rfl | exact trivial | refine And.intro ?_ ?_ | ((conv => whnf); first | exact rfl | exact trivial | refine And.intro ?_ ?_)))); ((repeat' (first | exact rfl | exact trivial | refine And.intro ?_ ?_ | ((conv => whnf); first | exact rfl | exact trivial | refine And.intro ?_ ?_)))); (intro y hy; clear y hy; (repeat' ((conv => whnf); first | refine And.intro ?_ ?_ | exact Cl.mk (by kernel_rfl) | exact Ck.mk (by kernel_rfl) | refine DrawN.mk ?_ | refine CodeN.step hm rfl ?_ | exact trivial | exact rfl | (intro hh; try simp only [decide_eq_true_eq, decide_eq_false_iff_not, beq_iff_eq, beq_eq_false_iff_ne, bne_iff_ne, bne_eq_false_iff_eq, Bool.not_eq_true', Bool.not_eq_false', Bool.not_true, Bool.not_false] at hh; try exact absurd hh (by decide)))); all_goals (conv => whnf); (all_goals first | (exact Ob.mk (by decide)) | skip)))
    all_goals first
      | (exfalso; exact hh (k1 (by assumption)); done)
      | (exfalso; exact hh (k2 (by assumption)); done)
      | skip
    all_goals first
      | (exfalso; cases hh; done)
      | (exact Ob.mk (by simp only []; omega))
      | ((refine CallN.intro liveM [] rfl rfl ?_ ?_ ?_; ((repeat' (first | exact rfl | exact trivial | refine And.intro ?_ ?_ | ((conv => whnf); first | exact rfl | exact trivial | refine And.intro ?_ ?_)))); ((repeat' (first | exact rfl | exact trivial | refine And.intro ?_ ?_ | ((conv => whnf); first | exact rfl | exact trivial | refine And.intro ?_ ?_)))); (intro y hy; clear y hy; (repeat' ((conv => whnf); first | refine And.intro ?_ ?_ | exact Cl.mk (by kernel_rfl) | exact Ck.mk (by kernel_rfl) | refine DrawN.mk ?_ | refine CodeN.step hm rfl ?_ | exact trivial | exact rfl | (intro hh; try simp only [decide_eq_true_eq, decide_eq_false_iff_not, beq_iff_eq, beq_eq_false_iff_ne, bne_iff_ne, bne_eq_false_iff_eq, Bool.not_eq_true', Bool.not_eq_false', Bool.not_true, Bool.not_false] at hh; try exact absurd hh (by decide)))); all_goals (conv => whnf); (all_goals first | (exact Ob.mk (by decide)) | skip)))
         (refine RetN.intro () [] rfl rfl ?_ ?_ ?_; ((repeat' (first | exact rfl | exact trivial | refine And.intro ?_ ?_ | ((conv => whnf); first | exact rfl | exact trivial | refine And.intro ?_ ?_)))); ((repeat' (first | exact rfl | exact trivial | refine And.intro ?_ ?_ | ((conv => whnf); first | exact rfl | exact trivial | refine And.intro ?_ ?_))); all_goals (conv => whnf); all_goals (try simp only [])))
         done)
      | skip
    all_goals
      have hc : cut.toNat < (encA a).length := by omega
      have M6 := decodeM ((encA a).take cut.toNat) (by rw [List.length_take]; omega)
      rw [dec_cut c1 hc] at M6
      have M7 := decodeM (encA a ++ [0]) (by rw [List.length_append]; simp; omega)
      rw [dec_more c1 (by simp)] at M7
      (refine CallN.intro M6 [] rfl rfl ?_ ?_ ?_; ((repeat' (first | exact rfl | exact trivial | refine And.intro ?_ ?_ | ((conv => whnf); first | exact rfl | exact trivial | refine And.intro ?_ ?_)))); ((repeat' (first | exact rfl | exact trivial | refine And.intro ?_ ?_ | ((conv => whnf); first | exact rfl | exact trivial | refine And.intro ?_ ?_)))); (intro y hy; clear y hy; (repeat' ((conv => whnf); first | refine And.intro ?_ ?_ | exact Cl.mk (by kernel_rfl) | exact Ck.mk (by kernel_rfl) | refine DrawN.mk ?_ | refine CodeN.step hm rfl ?_ | exact trivial | exact rfl | (intro hh; try simp only [decide_eq_true_eq, decide_eq_false_iff_not, beq_iff_eq, beq_eq_false_iff_ne, bne_iff_ne, bne_eq_false_iff_eq, Bool.not_eq_true', Bool.not_eq_false', Bool.not_true, Bool.not_false] at hh; try exact absurd hh (by decide)))); all_goals (conv => whnf); (all_goals first | (exact Ob.mk (by decide)) | skip)))
      all_goals first | (exact Ob.mk (by simp only [List.length_append]; simp; omega)) | skip
      (refine CallN.intro M7 [] rfl rfl ?_ ?_ ?_; ((repeat' (first | exact rfl | exact trivial | refine And.intro ?_ ?_ | ((conv => whnf); first | exact rfl | exact trivial | refine And.intro ?_ ?_)))); ((repeat' (first | exact rfl | exact trivial | refine And.intro ?_ ?_ | ((conv => whnf); first | exact rfl | exact trivial | refine And.intro ?_ ?_)))); (intro y hy; clear y hy; (repeat' ((conv => whnf); first | refine And.intro ?_ ?_ | exact Cl.mk (by kernel_rfl) | exact Ck.mk (by kernel_rfl) | refine DrawN.mk ?_ | refine CodeN.step hm rfl ?_ | exact trivial | exact rfl | (intro hh; try simp only [decide_eq_true_eq, decide_eq_false_iff_not, beq_iff_eq, beq_eq_false_iff_ne, bne_iff_ne, bne_eq_false_iff_eq, Bool.not_eq_true', Bool.not_eq_false', Bool.not_true, Bool.not_false] at hh; try exact absurd hh (by decide)))); all_goals (conv => whnf); (all_goals first | (exact Ob.mk (by decide)) | skip)))
      (refine CallN.intro liveM [] rfl rfl ?_ ?_ ?_; ((repeat' (first | exact rfl | exact trivial | refine And.intro ?_ ?_ | ((conv => whnf); first | exact rfl | exact trivial | refine And.intro ?_ ?_)))); ((repeat' (first | exact rfl | exact trivial | refine And.intro ?_ ?_ | ((conv => whnf); first | exact rfl | exact trivial | refine And.intro ?_ ?_)))); (intro y hy; clear y hy; (repeat' ((conv => whnf); first | refine And.intro ?_ ?_ | exact Cl.mk (by kernel_rfl) | exact Ck.mk (by kernel_rfl) | refine DrawN.mk ?_ | refine CodeN.step hm rfl ?_ | exact trivial | exact rfl | (intro hh; try simp only [decide_eq_true_eq, decide_eq_false_iff_not, beq_iff_eq, beq_eq_false_iff_ne, bne_iff_ne, bne_eq_false_iff_eq, Bool.not_eq_true', Bool.not_eq_false', Bool.not_true, Bool.not_false] at hh; try exact absurd hh (by decide)))); all_goals (conv => whnf); (all_goals first | (exact Ob.mk (by decide)) | skip)))
      (refine RetN.intro () [] rfl rfl ?_ ?_ ?_; ((repeat' (first | exact rfl | exact trivial | refine And.intro ?_ ?_ | ((conv => whnf); first | exact rfl | exact trivial | refine And.intro ?_ ?_)))); ((repeat' (first | exact rfl | exact trivial | refine And.intro ?_ ?_ | ((conv => whnf); first | exact rfl | exact trivial | refine And.intro ?_ ?_))); all_goals (conv => whnf); all_goals (try simp only [])))
end Go.Proofs.Ytoipgandilhdeaa.An
set_option linter.unusedVariables false
set_option linter.unusedSimpArgs false
namespace Go.Proofs.Ytoipgandilhdeaa.An
open Go Go.RowKit Fw Nu
def rnv (s : Bytes) (t : Int) (w : Nat) : Int × Int := if t < 0 ∨ (number s t w).2.2 ≠ 0 then (0, -1) else ((number s t w).1, (number s t w).2.1)
def rrC (s : Bytes) (t : Int) : Chunk := .cells 75 [.str fun _ => s, .int .i64 fun _ => t]
theorem rnM (s : Bytes) (t : Int) (w : Nat) (hw : w ≤ 7) (hs : s.length ≤ 1000000) : Meets Try.prog 43 [.ptr 0 0, .int .i64 fun _ => (w : Int)] [rrC s t] (Y := Unit) (fun _ => True) (fun _ => .int .i64 fun _ => (rnv s t w).1) (fun _ => [rrC s (rnv s t w).2]) := by
  refine Meets.intro hm (fn := Try.f43) Try.func43 rfl (by decide) (Nat.le_of_ble_eq_true rfl) (fun _ => rfl) ?_; intro S hok; (conv => whnf)
  (repeat' ((conv => whnf); first | refine And.intro ?_ ?_ | exact Cl.mk (by kernel_rfl) | exact Ck.mk (by kernel_rfl) | refine DrawN.mk ?_ | refine CodeN.step hm rfl ?_ | exact trivial | exact rfl | (intro hh; try simp only [decide_eq_true_eq, decide_eq_false_iff_not, beq_iff_eq, beq_eq_false_iff_ne, bne_iff_ne, bne_eq_false_iff_eq, Bool.not_eq_true', Bool.not_eq_false', Bool.not_true, Bool.not_false] at hh))); all_goals (conv => whnf)
  (refine CallN.intro (rnumberM s t w (by omega) hs) [] rfl rfl ?_ ?_ ?_; ((repeat' (first | exact rfl | exact trivial | refine And.intro ?_ ?_ | ((conv => whnf); first | exact rfl | exact trivial | refine And.intro ?_ ?_)))); ((repeat' (first | exact rfl | exact trivial | refine And.intro ?_ ?_ | ((conv => whnf); first | exact rfl | exact trivial | refine And.intro ?_ ?_)))); (intro y hy; clear y hy; (repeat' ((conv => whnf); first | refine And.intro ?_ ?_ | exact Cl.mk (by kernel_rfl) | exact Ck.mk (by kernel_rfl) | refine DrawN.mk ?_ | refine CodeN.step hm rfl ?_ | exact trivial | exact rfl | (intro hh; try simp only [decide_eq_true_eq, decide_eq_false_iff_not, beq_iff_eq, beq_eq_false_iff_ne, bne_iff_ne, bne_eq_false_iff_eq, Bool.not_eq_true', Bool.not_eq_false', Bool.not_true, Bool.not_false] at hh; try exact absurd hh (by decide)))); all_goals (conv => whnf); (all_goals first | (exact Ob.mk (by decide)) | skip)))
  · have h : rnv s t w = (0, -1) := by unfold rnv; rw [if_pos (.inr hh)]
    (refine RetN.intro () [0] rfl rfl ?_ ?_ ?_; ((repeat' (first | exact rfl | exact trivial | refine And.intro ?_ ?_ | ((conv => whnf); first | exact rfl | exact trivial | refine And.intro ?_ ?_)))); ((repeat' (first | exact rfl | exact trivial | refine And.intro ?_ ?_ | ((conv => whnf); first | exact rfl | exact trivial | refine And.intro ?_ ?_))); all_goals (conv => whnf); all_goals (try simp only [])))
    all_goals rw [h]
  · have h : rnv s t w = ((number s t w).1, (number s t w).2.1) := by unfold rnv; rw [if_neg (by simp [hh]; omega)]
    have h2 := num_wrap hw hh
    (refine RetN.intro () [0] rfl rfl ?_ ?_ ?_; ((repeat' (first | exact rfl | exact trivial | refine And.intro ?_ ?_ | ((conv => whnf); first | exact rfl | exact trivial | refine And.intro ?_ ?_)))); ((repeat' (first | exact rfl | exact trivial | refine And.intro ?_ ?_ | ((conv => whnf); first | exact rfl | exact trivial | refine And.intro ?_ ?_))); all_goals (conv => whnf); all_goals (try simp only [])))
    all_goals rw [h]
    exact h2
  · have h : rnv s t w = (0, -1) := by unfold rnv; rw [if_pos (.inl hh)]
    (refine RetN.intro () [0] rfl rfl ?_ ?_ ?_; ((repeat' (first | exact rfl | exact trivial | refine And.intro ?_ ?_ | ((conv => whnf); first | exact rfl | exact trivial | refine And.intro ?_ ?_)))); ((repeat' (first | exact rfl | exact trivial | refine And.intro ?_ ?_ | ((conv => whnf); first | exact rfl | exact trivial | refine And.intro ?_ ?_))); all_goals (conv => whnf); all_goals (try simp only [])))
    all_goals rw [h]
/-- A number that is there. -/
theorem rnv_put {s rest : Bytes} {t n : Int} {w : Nat} (hw : w ≤ 8) (h0 : 0 ≤ t ∧ t ≤ s.length) (hf : fitsB n w = true) (h : from_ s t = wide (IntKind.u64.wrap n) w ++ rest) :
    rnv s t w = (n, t + w) ∧ from_ s (t + w) = rest ∧ t + w ≤ s.length := by
  obtain ⟨h1, h2, h3⟩ := number_put hw h0 hf h
  refine ⟨?_, h2, h3⟩
  unfold rnv
  rw [h1, if_neg (by simp only [ne_eq, not_true, or_false]; omega)]
theorem rnv_range (s : Bytes) (t : Int) (w : Nat) (hw : w ≤ 7) : 0 ≤ (rnv s t w).1 ∧ (rnv s t w).1 < (256 : Int) ^ w ∧ -1 ≤ (rnv s t w).2 ∧ (rnv s t w).2 ≤ s.length := by
  have hp : (0 : Int) < (256 : Int) ^ w := Int.pow_pos (by decide)
  unfold rnv
  split
  · exact ⟨by simp, by simpa using hp, by simp, by show (-1 : Int) ≤ _; omega⟩
  · rename_i h
    simp only [not_or, Decidable.not_not] at h
    obtain ⟨g1, g2, g3, g4, g5⟩ := number_get (by omega) h.2
    have := fits_iff.1 g4
    exact ⟨this.1, this.2, by simp only []; omega, by simp only []; omega⟩
theorem enc_none {s : Bytes} {a : Ans} (hd : decP s = none) (h2 : (encR a).2 = 0) (h3 : (encR a).1 = s) : False := by
  rcases enc_cases a with ⟨c1, c2⟩ | ⟨c1, c2, c3⟩ | ⟨c1, c2, c3⟩
  · rw [c2] at h2; cases h2
  · rw [c3] at h2; cases h2
  · rw [c3] at h3
    have h3 : encA a = s := h3
    have := dec_put c1 c2
    rw [h3, hd] at this
    cases this
theorem text_range (s : Bytes) (t : Int) : (text s t).2.2 = 0 → (text s t).1.length ≤ 255 ∧ (text s t).2.1 ≤ s.length := fun h => by
  obtain ⟨h1, h2, h3, h4, h5⟩ := text_get h
  rw [put_ok, decide_eq_true_eq] at h4
  exact ⟨h4, h3⟩
end Go.Proofs.Ytoipgandilhdeaa.An
set_option linter.unusedVariables false
set_option linter.unusedSimpArgs false
namespace Go.Proofs.Ytoipgandilhdeaa.An
open Go Go.RowKit Fw Nu
set_option maxRecDepth 4000 in
set_option maxHeartbeats 1000000 in
theorem rdecN (s : Bytes) (hs : s.length ≤ 1000000) (hd : decP s = none) : Meets Try.prog 20 [.str fun _ => s] [] (Y := Unit) (fun _ => True) (fun _ => .tup [ansAV zeroA, .int .i64 fun _ => 3]) (fun _ => []) := by
  refine Meets.intro hm (fn := Try.f20) Try.func20 rfl (by decide) (Nat.le_of_ble_eq_true rfl) (fun _ => rfl) ?_; intro S hok; (conv => whnf)
  (repeat' ((conv => whnf); first | refine And.intro ?_ ?_ | exact Cl.mk (by kernel_rfl) | exact Ck.mk (by kernel_rfl) | refine DrawN.mk ?_ | refine CodeN.step hm rfl ?_ | exact trivial | exact rfl | (intro hh; try simp only [decide_eq_true_eq, decide_eq_false_iff_not, beq_iff_eq, beq_eq_false_iff_ne, bne_iff_ne, bne_eq_false_iff_eq, Bool.not_eq_true', Bool.not_eq_false', Bool.not_true, Bool.not_false] at hh))); all_goals (conv => whnf)
  (refine CallN.intro (rnM s 0 1 (by omega) hs) [1] rfl rfl ?_ ?_ ?_; ((repeat' (first | exact rfl | exact trivial | refine And.intro ?_ ?_ | ((conv => whnf); first | exact rfl | exact trivial | refine And.intro ?_ ?_)))); ((repeat' (first | exact rfl | exact trivial | refine And.intro ?_ ?_ | ((conv => whnf); first | exact rfl | exact trivial | refine And.intro ?_ ?_)))); (intro y hy; clear y hy; (repeat' ((conv => whnf); first | refine And.intro ?_ ?_ | exact Cl.mk (by kernel_rfl) | exact Ck.mk (by kernel_rfl) | refine DrawN.mk ?_ | refine CodeN.step hm rfl ?_ | exact trivial | exact rfl | (intro hh; try simp only [decide_eq_true_eq, decide_eq_false_iff_not, beq_iff_eq, beq_eq_false_iff_ne, bne_iff_ne, bne_eq_false_iff_eq, Bool.not_eq_true', Bool.not_eq_false', Bool.not_true, Bool.not_false] at hh; try exact absurd hh (by decide)))); all_goals (conv => whnf); (all_goals first | (exact Ob.mk (by decide)) | skip)))
  have q0 := rnv_range s 0 1 (by omega)
  generalize rnv s 0 1 = v0 at q0 ⊢
  obtain ⟨n0, t0⟩ := v0
  simp only [] at q0 ⊢
  (refine CallN.intro (rnM s t0 1 (by omega) hs) [1] rfl rfl ?_ ?_ ?_; ((repeat' (first | exact rfl | exact trivial | refine And.intro ?_ ?_ | ((conv => whnf); first | exact rfl | exact trivial | refine And.intro ?_ ?_)))); ((repeat' (first | exact rfl | exact trivial | refine And.intro ?_ ?_ | ((conv => whnf); first | exact rfl | exact trivial | refine And.intro ?_ ?_)))); (intro y hy; clear y hy; (repeat' ((conv => whnf); first | refine And.intro ?_ ?_ | exact Cl.mk (by kernel_rfl) | exact Ck.mk (by kernel_rfl) | refine DrawN.mk ?_ | refine CodeN.step hm rfl ?_ | exact trivial | exact rfl | (intro hh; try simp only [decide_eq_true_eq, decide_eq_false_iff_not, beq_iff_eq, beq_eq_false_iff_ne, bne_iff_ne, bne_eq_false_iff_eq, Bool.not_eq_true', Bool.not_eq_false', Bool.not_true, Bool.not_false] at hh; try exact absurd hh (by decide)))); all_goals (conv => whnf); (all_goals first | (exact Ob.mk (by decide)) | skip)))
  have q1 := rnv_range s t0 1 (by omega)
  generalize rnv s t0 1 = v1 at q1 ⊢
  obtain ⟨n1, t1⟩ := v1
  simp only [] at q1 ⊢
  (refine CallN.intro (rnM s t1 4 (by omega) hs) [1] rfl rfl ?_ ?_ ?_; ((repeat' (first | exact rfl | exact trivial | refine And.intro ?_ ?_ | ((conv => whnf); first | exact rfl | exact trivial | refine And.intro ?_ ?_)))); ((repeat' (first | exact rfl | exact trivial | refine And.intro ?_ ?_ | ((conv => whnf); first | exact rfl | exact trivial | refine And.intro ?_ ?_)))); (intro y hy; clear y hy; (repeat' ((conv => whnf); first | refine And.intro ?_ ?_ | exact Cl.mk (by kernel_rfl) | exact Ck.mk (by kernel_rfl) | refine DrawN.mk ?_ | refine CodeN.step hm rfl ?_ | exact trivial | exact rfl | (intro hh; try simp only [decide_eq_true_eq, decide_eq_false_iff_not, beq_iff_eq, beq_eq_false_iff_ne, bne_iff_ne, bne_eq_false_iff_eq, Bool.not_eq_true', Bool.not_eq_false', Bool.not_true, Bool.not_false] at hh; try exact absurd hh (by decide)))); all_goals (conv => whnf); (all_goals first | (exact Ob.mk (by decide)) | skip)))
  have q2 := rnv_range s t1 4 (by omega)
  generalize rnv s t1 4 = v2 at q2 ⊢
  obtain ⟨n2, t2⟩ := v2
  simp only [] at q2 ⊢
  (refine CallN.intro (rnM s t2 1 (by omega) hs) [1] rfl rfl ?_ ?_ ?_; ((repeat' (first | exact rfl | exact trivial | refine And.intro ?_ ?_ | ((conv => whnf); first | exact rfl | exact trivial | refine And.intro ?_ ?_)))); ((repeat' (first | exact rfl | exact trivial | refine And.intro ?_ ?_ | ((conv => whnf); first | exact rfl | exact trivial | refine And.intro ?_ ?_)))); (intro y hy; clear y hy; (repeat' ((conv => whnf); first | refine And.intro ?_ ?_ | exact Cl.mk (by kernel_rfl) | exact Ck.mk (by kernel_rfl) | refine DrawN.mk ?_ | refine CodeN.step hm rfl ?_ | exact trivial | exact rfl | (intro hh; try simp only [decide_eq_true_eq, decide_eq_false_iff_not, beq_iff_eq, beq_eq_false_iff_ne, bne_iff_ne, bne_eq_false_iff_eq, Bool.not_eq_true', Bool.not_eq_false', Bool.not_true, Bool.not_false] at hh; try exact absurd hh (by decide)))); all_goals (conv => whnf); (all_goals first | (exact Ob.mk (by decide)) | skip)))
  have q3 := rnv_range s t2 1 (by omega)
  generalize rnv s t2 1 = v3 at q3 ⊢
  obtain ⟨n3, t3⟩ := v3
  simp only [] at q3 ⊢
  (refine CallN.intro (rnM s t3 4 (by omega) hs) [1] rfl rfl ?_ ?_ ?_; ((repeat' (first | exact rfl | exact trivial | refine And.intro ?_ ?_ | ((conv => whnf); first | exact rfl | exact trivial | refine And.intro ?_ ?_)))); ((repeat' (first | exact rfl | exact trivial | refine And.intro ?_ ?_ | ((conv => whnf); first | exact rfl | exact trivial | refine And.intro ?_ ?_)))); (intro y hy; clear y hy; (repeat' ((conv => whnf); first | refine And.intro ?_ ?_ | exact Cl.mk (by kernel_rfl) | exact Ck.mk (by kernel_rfl) | refine DrawN.mk ?_ | refine CodeN.step hm rfl ?_ | exact trivial | exact rfl | (intro hh; try simp only [decide_eq_true_eq, decide_eq_false_iff_not, beq_iff_eq, beq_eq_false_iff_ne, bne_iff_ne, bne_eq_false_iff_eq, Bool.not_eq_true', Bool.not_eq_false', Bool.not_true, Bool.not_false] at hh; try exact absurd hh (by decide)))); all_goals (conv => whnf); (all_goals first | (exact Ob.mk (by decide)) | skip)))
  have q4 := rnv_range s t3 4 (by omega)
  generalize rnv s t3 4 = v4 at q4 ⊢
  obtain ⟨n4, t4⟩ := v4
  simp only [] at q4 ⊢
  (refine CallN.intro (rnM s t4 4 (by omega) hs) [1] rfl rfl ?_ ?_ ?_; ((repeat' (first | exact rfl | exact trivial | refine And.intro ?_ ?_ | ((conv => whnf); first | exact rfl | exact trivial | refine And.intro ?_ ?_)))); ((repeat' (first | exact rfl | exact trivial | refine And.intro ?_ ?_ | ((conv => whnf); first | exact rfl | exact trivial | refine And.intro ?_ ?_)))); (intro y hy; clear y hy; (repeat' ((conv => whnf); first | refine And.intro ?_ ?_ | exact Cl.mk (by kernel_rfl) | exact Ck.mk (by kernel_rfl) | refine DrawN.mk ?_ | refine CodeN.step hm rfl ?_ | exact trivial | exact rfl | (intro hh; try simp only [decide_eq_true_eq, decide_eq_false_iff_not, beq_iff_eq, beq_eq_false_iff_ne, bne_iff_ne, bne_eq_false_iff_eq, Bool.not_eq_true', Bool.not_eq_false', Bool.not_true, Bool.not_false] at hh; try exact absurd hh (by decide)))); all_goals (conv => whnf); (all_goals first | (exact Ob.mk (by decide)) | skip)))
  have q5 := rnv_range s t4 4 (by omega)
  generalize rnv s t4 4 = v5 at q5 ⊢
  obtain ⟨n5, t5⟩ := v5
  simp only [] at q5 ⊢
  (refine CallN.intro (rnM s t5 1 (by omega) hs) [1] rfl rfl ?_ ?_ ?_; ((repeat' (first | exact rfl | exact trivial | refine And.intro ?_ ?_ | ((conv => whnf); first | exact rfl | exact trivial | refine And.intro ?_ ?_)))); ((repeat' (first | exact rfl | exact trivial | refine And.intro ?_ ?_ | ((conv => whnf); first | exact rfl | exact trivial | refine And.intro ?_ ?_)))); (intro y hy; clear y hy; (repeat' ((conv => whnf); first | refine And.intro ?_ ?_ | exact Cl.mk (by kernel_rfl) | exact Ck.mk (by kernel_rfl) | refine DrawN.mk ?_ | refine CodeN.step hm rfl ?_ | exact trivial | exact rfl | (intro hh; try simp only [decide_eq_true_eq, decide_eq_false_iff_not, beq_iff_eq, beq_eq_false_iff_ne, bne_iff_ne, bne_eq_false_iff_eq, Bool.not_eq_true', Bool.not_eq_false', Bool.not_true, Bool.not_false] at hh; try exact absurd hh (by decide)))); all_goals (conv => whnf); (all_goals first | (exact Ob.mk (by decide)) | skip)))
  have q6 := rnv_range s t5 1 (by omega)
  generalize rnv s t5 1 = v6 at q6 ⊢
  obtain ⟨n6, t6⟩ := v6
  simp only [] at q6 ⊢
  (refine CallN.intro (rnM s t6 6 (by omega) hs) [1] rfl rfl ?_ ?_ ?_; ((repeat' (first | exact rfl | exact trivial | refine And.intro ?_ ?_ | ((conv => whnf); first | exact rfl | exact trivial | refine And.intro ?_ ?_)))); ((repeat' (first | exact rfl | exact trivial | refine And.intro ?_ ?_ | ((conv => whnf); first | exact rfl | exact trivial | refine And.intro ?_ ?_)))); (intro y hy; clear y hy; (repeat' ((conv => whnf); first | refine And.intro ?_ ?_ | exact Cl.mk (by kernel_rfl) | exact Ck.mk (by kernel_rfl) | refine DrawN.mk ?_ | refine CodeN.step hm rfl ?_ | exact trivial | exact rfl | (intro hh; try simp only [decide_eq_true_eq, decide_eq_false_iff_not, beq_iff_eq, beq_eq_false_iff_ne, bne_iff_ne, bne_eq_false_iff_eq, Bool.not_eq_true', Bool.not_eq_false', Bool.not_true, Bool.not_false] at hh; try exact absurd hh (by decide)))); all_goals (conv => whnf); (all_goals first | (exact Ob.mk (by decide)) | skip)))
  have q7 := rnv_range s t6 6 (by omega)
  generalize rnv s t6 6 = v7 at q7 ⊢
  obtain ⟨n7, t7⟩ := v7
  simp only [] at q7 ⊢
  (refine CallN.intro (rnM s t7 2 (by omega) hs) [1] rfl rfl ?_ ?_ ?_; ((repeat' (first | exact rfl | exact trivial | refine And.intro ?_ ?_ | ((conv => whnf); first | exact rfl | exact trivial | refine And.intro ?_ ?_)))); ((repeat' (first | exact rfl | exact trivial | refine And.intro ?_ ?_ | ((conv => whnf); first | exact rfl | exact trivial | refine And.intro ?_ ?_)))); (intro y hy; clear y hy; (repeat' ((conv => whnf); first | refine And.intro ?_ ?_ | exact Cl.mk (by kernel_rfl) | exact Ck.mk (by kernel_rfl) | refine DrawN.mk ?_ | refine CodeN.step hm rfl ?_ | exact trivial | exact rfl | (intro hh; try simp only [decide_eq_true_eq, decide_eq_false_iff_not, beq_iff_eq, beq_eq_false_iff_ne, bne_iff_ne, bne_eq_false_iff_eq, Bool.not_eq_true', Bool.not_eq_false', Bool.not_true, Bool.not_false] at hh; try exact absurd hh (by decide)))); all_goals (conv => whnf); (all_goals first | (exact Ob.mk (by decide)) | skip)))
  have q8 := rnv_range s t7 2 (by omega)
  generalize rnv s t7 2 = v8 at q8 ⊢
  obtain ⟨n8, t8⟩ := v8
  simp only [] at q8 ⊢
  (refine CallN.intro (rnM s t8 1 (by omega) hs) [1] rfl rfl ?_ ?_ ?_; ((repeat' (first | exact rfl | exact trivial | refine And.intro ?_ ?_ | ((conv => whnf); first | exact rfl | exact trivial | refine And.intro ?_ ?_)))); ((repeat' (first | exact rfl | exact trivial | refine And.intro ?_ ?_ | ((conv => whnf); first | exact rfl | exact trivial | refine And.intro ?_ ?_)))); (intro y hy; clear y hy; (repeat' ((conv => whnf); first | refine And.intro ?_ ?_ | exact Cl.mk (by kernel_rfl) | exact Ck.mk (by kernel_rfl) | refine DrawN.mk ?_ | refine CodeN.step hm rfl ?_ | exact trivial | exact rfl | (intro hh; try simp only [decide_eq_true_eq, decide_eq_false_iff_not, beq_iff_eq, beq_eq_false_iff_ne, bne_iff_ne, bne_eq_false_iff_eq, Bool.not_eq_true', Bool.not_eq_false', Bool.not_true, Bool.not_false] at hh; try exact absurd hh (by decide)))); all_goals (conv => whnf); (all_goals first | (exact Ob.mk (by decide)) | skip)))
  have q9 := rnv_range s t8 1 (by omega)
  generalize rnv s t8 1 = v9 at q9 ⊢
  obtain ⟨n9, t9⟩ := v9
  simp only [] at q9 ⊢
  obtain ⟨m, rfl⟩ : ∃ m : Nat, n9 = m := ⟨n9.toNat, by omega⟩
  have eb : (Try.t53.bytes : Nat) = 40 := rfl
  have en : (Try.t39.bytes : Nat) = 24 := rfl
  refine LoopN.intro hm (X := (Nat × Int) × List Told × Bool) (fun x => x.1.1 ≤ m ∧ x.2.1.length = x.1.1 ∧ (x.2.2 = false → x.2.1 = []) ∧ x.1.2 ≤ s.length) (fun x => m - x.1.1)
    (fun x => [(7, .int .i64 fun _ => (x.1.1 : Int)), (6, .int .i64 fun _ => (m : Int)), (5, .ptr 2 0), (4, .ptr 1 0), (3, .int .i64 fun _ => 0), (2, .ptr 0 0), (0, .str fun _ => s)])
    (fun x => [ans0C, rrC s x.1.2, .cells 28 [.int .i64 fun _ => n0, .int .i64 fun _ => n1, (match x.2.2 with | true => .vec 3 5 (fun _ => 0) (fun _ => x.2.1.length) | false => .snil), .int .i64 fun _ => n2, .int .i64 fun _ => n3, .int .i64 fun _ => n4, .int .i64 fun _ => n5, .int .i64 fun _ => n6, .int .i64 fun _ => n7, .int .i64 fun _ => n8, .snil]] ++ (match x.2.2 with | true => [.vect 53 ToldT fun _ => x.2.1] | false => []))
    ((0, t9), [], false) [0, 1, 2] ⟨rfl, rfl, ?_, ?_⟩ ⟨Nat.zero_le _, rfl, fun _ => rfl, q9.2.2.2⟩ (fun x hx => ?_)
  · (repeat' (first | exact rfl | exact trivial | refine And.intro ?_ ?_ | ((conv => whnf); first | exact rfl | exact trivial | refine And.intro ?_ ?_)))
  · (repeat' (first | exact rfl | exact trivial | refine And.intro ?_ ?_ | ((conv => whnf); first | exact rfl | exact trivial | refine And.intro ?_ ?_)))
  · obtain ⟨⟨i, t⟩, l, c⟩ := x
    obtain ⟨hi, hll, hcl, ht⟩ := hx
    simp only [] at hi hll hcl ht
    cases c
    · have hl0 := hcl rfl
      subst hl0
      (repeat' ((conv => whnf); first | refine And.intro ?_ ?_ | exact Cl.mk (by kernel_rfl) | exact Ck.mk (by kernel_rfl) | refine DrawN.mk ?_ | refine CodeN.step hm rfl ?_ | exact trivial | exact rfl | (intro hh; try simp only [decide_eq_true_eq, decide_eq_false_iff_not, beq_iff_eq, beq_eq_false_iff_ne, bne_iff_ne, bne_eq_false_iff_eq, Bool.not_eq_true', Bool.not_eq_false', Bool.not_true, Bool.not_false] at hh))); all_goals (conv => whnf)
      · skip
        (refine CallN.intro (rnM s t 1 (by omega) hs) [1] rfl rfl ?_ ?_ ?_; ((repeat' (first | exact rfl | exact trivial | refine And.intro ?_ ?_ | ((conv => whnf); first | exact rfl | exact trivial | refine And.intro ?_ ?_)))); ((repeat' (first | exact rfl | exact trivial | refine And.intro ?_ ?_ | ((conv => whnf); first | exact rfl | exact trivial | refine And.intro ?_ ?_)))); (intro y hy; clear y hy; (repeat' ((conv => whnf); first | refine And.intro ?_ ?_ | exact Cl.mk (by kernel_rfl) | exact Ck.mk (by kernel_rfl) | refine DrawN.mk ?_ | refine CodeN.step hm rfl ?_ | exact trivial | exact rfl | (intro hh; try simp only [decide_eq_true_eq, decide_eq_false_iff_not, beq_iff_eq, beq_eq_false_iff_ne, bne_iff_ne, bne_eq_false_iff_eq, Bool.not_eq_true', Bool.not_eq_false', Bool.not_true, Bool.not_false] at hh; try exact absurd hh (by decide)))); all_goals (conv => whnf); (all_goals first | (exact Ob.mk (by decide)) | skip)))
        have qa := rnv_range s t 1 (by omega)
        generalize rnv s t 1 = va at qa ⊢
        obtain ⟨na, ta⟩ := va
        simp only [] at qa ⊢
        (refine CallN.intro (rnM s ta 1 (by omega) hs) [1] rfl rfl ?_ ?_ ?_; ((repeat' (first | exact rfl | exact trivial | refine And.intro ?_ ?_ | ((conv => whnf); first | exact rfl | exact trivial | refine And.intro ?_ ?_)))); ((repeat' (first | exact rfl | exact trivial | refine And.intro ?_ ?_ | ((conv => whnf); first | exact rfl | exact trivial | refine And.intro ?_ ?_)))); (intro y hy; clear y hy; (repeat' ((conv => whnf); first | refine And.intro ?_ ?_ | exact Cl.mk (by kernel_rfl) | exact Ck.mk (by kernel_rfl) | refine DrawN.mk ?_ | refine CodeN.step hm rfl ?_ | exact trivial | exact rfl | (intro hh; try simp only [decide_eq_true_eq, decide_eq_false_iff_not, beq_iff_eq, beq_eq_false_iff_ne, bne_iff_ne, bne_eq_false_iff_eq, Bool.not_eq_true', Bool.not_eq_false', Bool.not_true, Bool.not_false] at hh; try exact absurd hh (by decide)))); all_goals (conv => whnf); (all_goals first | (exact Ob.mk (by decide)) | skip)))
        have qb := rnv_range s ta 1 (by omega)
        generalize rnv s ta 1 = vb at qb ⊢
        obtain ⟨nb, tb⟩ := vb
        simp only [] at qb ⊢
        (refine CallN.intro (rnM s tb 4 (by omega) hs) [1] rfl rfl ?_ ?_ ?_; ((repeat' (first | exact rfl | exact trivial | refine And.intro ?_ ?_ | ((conv => whnf); first | exact rfl | exact trivial | refine And.intro ?_ ?_)))); ((repeat' (first | exact rfl | exact trivial | refine And.intro ?_ ?_ | ((conv => whnf); first | exact rfl | exact trivial | refine And.intro ?_ ?_)))); (intro y hy; clear y hy; (repeat' ((conv => whnf); first | refine And.intro ?_ ?_ | exact Cl.mk (by kernel_rfl) | exact Ck.mk (by kernel_rfl) | refine DrawN.mk ?_ | refine CodeN.step hm rfl ?_ | exact trivial | exact rfl | (intro hh; try simp only [decide_eq_true_eq, decide_eq_false_iff_not, beq_iff_eq, beq_eq_false_iff_ne, bne_iff_ne, bne_eq_false_iff_eq, Bool.not_eq_true', Bool.not_eq_false', Bool.not_true, Bool.not_false] at hh; try exact absurd hh (by decide)))); all_goals (conv => whnf); (all_goals first | (exact Ob.mk (by decide)) | skip)))
        have qc := rnv_range s tb 4 (by omega)
        generalize rnv s tb 4 = vc at qc ⊢
        obtain ⟨nc, tc⟩ := vc
        simp only [] at qc ⊢
        (refine CallN.intro (rnM s tc 6 (by omega) hs) [1] rfl rfl ?_ ?_ ?_; ((repeat' (first | exact rfl | exact trivial | refine And.intro ?_ ?_ | ((conv => whnf); first | exact rfl | exact trivial | refine And.intro ?_ ?_)))); ((repeat' (first | exact rfl | exact trivial | refine And.intro ?_ ?_ | ((conv => whnf); first | exact rfl | exact trivial | refine And.intro ?_ ?_)))); (intro y hy; clear y hy; (repeat' ((conv => whnf); first | refine And.intro ?_ ?_ | exact Cl.mk (by kernel_rfl) | exact Ck.mk (by kernel_rfl) | refine DrawN.mk ?_ | refine CodeN.step hm rfl ?_ | exact trivial | exact rfl | (intro hh; try simp only [decide_eq_true_eq, decide_eq_false_iff_not, beq_iff_eq, beq_eq_false_iff_ne, bne_iff_ne, bne_eq_false_iff_eq, Bool.not_eq_true', Bool.not_eq_false', Bool.not_true, Bool.not_false] at hh; try exact absurd hh (by decide)))); all_goals (conv => whnf); (all_goals first | (exact Ob.mk (by decide)) | skip)))
        have qd := rnv_range s tc 6 (by omega)
        generalize rnv s tc 6 = vd at qd ⊢
        obtain ⟨nd, td⟩ := vd
        simp only [] at qd ⊢
        (refine CallN.intro (rnM s td 6 (by omega) hs) [1] rfl rfl ?_ ?_ ?_; ((repeat' (first | exact rfl | exact trivial | refine And.intro ?_ ?_ | ((conv => whnf); first | exact rfl | exact trivial | refine And.intro ?_ ?_)))); ((repeat' (first | exact rfl | exact trivial | refine And.intro ?_ ?_ | ((conv => whnf); first | exact rfl | exact trivial | refine And.intro ?_ ?_)))); (intro y hy; clear y hy; (repeat' ((conv => whnf); first | refine And.intro ?_ ?_ | exact Cl.mk (by kernel_rfl) | exact Ck.mk (by kernel_rfl) | refine DrawN.mk ?_ | refine CodeN.step hm rfl ?_ | exact trivial | exact rfl | (intro hh; try simp only [decide_eq_true_eq, decide_eq_false_iff_not, beq_iff_eq, beq_eq_false_iff_ne, bne_iff_ne, bne_eq_false_iff_eq, Bool.not_eq_true', Bool.not_eq_false', Bool.not_true, Bool.not_false] at hh; try exact absurd hh (by decide)))); all_goals (conv => whnf); (all_goals first | (exact Ob.mk (by decide)) | skip)))
        all_goals
          have qe := rnv_range s td 6 (by omega)
          generalize rnv s td 6 = ve at qe ⊢
          obtain ⟨ne, te⟩ := ve
          simp only [] at qe ⊢
        · exact Ob.mk (by rw [eb]; simp)
        · refine ⟨((i + 1, te), [(na, nb == 1, nc, nd, ne)], true), [0, 1, 2, 5], ⟨rfl, rfl, ?_, ?_⟩, ⟨Int.ofNat_lt.1 (by assumption), by simp only [] at hll ⊢; simp; simp at hll; omega, fun h => (by cases h), qe.2.2.2⟩, by simp only []; omega⟩
          · (repeat' (first | exact rfl | exact trivial | refine And.intro ?_ ?_ | ((conv => whnf); first | exact rfl | exact trivial | refine And.intro ?_ ?_))); all_goals (conv => whnf); all_goals (try simp only [])
          · (repeat' (first | exact rfl | exact trivial | refine And.intro ?_ ?_ | ((conv => whnf); first | exact rfl | exact trivial | refine And.intro ?_ ?_))); all_goals (conv => whnf); all_goals (try simp only [])
            exact wr2 i (n := m) (by omega) (by omega)
      all_goals
        (refine CallN.intro (rnM s t 1 (by omega) hs) [1] rfl rfl ?_ ?_ ?_; ((repeat' (first | exact rfl | exact trivial | refine And.intro ?_ ?_ | ((conv => whnf); first | exact rfl | exact trivial | refine And.intro ?_ ?_)))); ((repeat' (first | exact rfl | exact trivial | refine And.intro ?_ ?_ | ((conv => whnf); first | exact rfl | exact trivial | refine And.intro ?_ ?_)))); (intro y hy; clear y hy; (repeat' ((conv => whnf); first | refine And.intro ?_ ?_ | exact Cl.mk (by kernel_rfl) | exact Ck.mk (by kernel_rfl) | refine DrawN.mk ?_ | refine CodeN.step hm rfl ?_ | exact trivial | exact rfl | (intro hh; try simp only [decide_eq_true_eq, decide_eq_false_iff_not, beq_iff_eq, beq_eq_false_iff_ne, bne_iff_ne, bne_eq_false_iff_eq, Bool.not_eq_true', Bool.not_eq_false', Bool.not_true, Bool.not_false] at hh; try exact absurd hh (by decide)))); all_goals (conv => whnf); (all_goals first | (exact Ob.mk (by decide)) | skip)))
        have qA := rnv_range s t 1 (by omega)
        generalize rnv s t 1 = vA at qA ⊢
        obtain ⟨nA, tA⟩ := vA
        simp only [] at qA ⊢
        obtain ⟨k, rfl⟩ : ∃ m : Nat, nA = m := ⟨nA.toNat, by omega⟩
        refine LoopN.intro hm (X := (Nat × Int) × List Name × Bool) (fun x => x.1.1 ≤ k ∧ x.2.1.length = x.1.1 ∧ (x.2.2 = false → x.2.1 = []) ∧ x.1.2 ≤ s.length ∧ (∀ n ∈ x.2.1, n.2.length ≤ 300)) (fun x => k - x.1.1)
          (fun x => [(9, .int .i64 fun _ => (x.1.1 : Int)), (6, .int .i64 fun _ => (k : Int)), (5, .ptr 2 0), (4, .ptr 1 0), (3, .int .i64 fun _ => 0), (2, .ptr 0 0), (0, .str fun _ => s)])
          (fun x => [ans0C, rrC s x.1.2, .cells 28 [.int .i64 fun _ => n0, .int .i64 fun _ => n1, .lst ToldT fun _ => ([] : List Told), .int .i64 fun _ => n2, .int .i64 fun _ => n3, .int .i64 fun _ => n4, .int .i64 fun _ => n5, .int .i64 fun _ => n6, .int .i64 fun _ => n7, .int .i64 fun _ => n8, (match x.2.2 with | true => .vec 3 2 (fun _ => 0) (fun _ => x.2.1.length) | false => .snil)]] ++ (match x.2.2 with | true => [.vect 39 NameT fun _ => x.2.1] | false => []))
          ((0, tA), [], false) [0, 1, 2] ⟨rfl, rfl, ?_, ?_⟩ ⟨Nat.zero_le _, rfl, fun _ => rfl, qA.2.2.2, fun n hn => by cases hn⟩ (fun x hx => ?_)
        · (repeat' (first | exact rfl | exact trivial | refine And.intro ?_ ?_ | ((conv => whnf); first | exact rfl | exact trivial | refine And.intro ?_ ?_))); all_goals (conv => whnf); all_goals (try simp only [])
          all_goals first | (rw [List.drop_zero, List.take_length]; done) | skip
        · (repeat' (first | exact rfl | exact trivial | refine And.intro ?_ ?_ | ((conv => whnf); first | exact rfl | exact trivial | refine And.intro ?_ ?_))); all_goals (conv => whnf); all_goals (try simp only [])
          all_goals first | (rw [List.drop_zero, List.take_length]; done) | skip
        · obtain ⟨⟨j, u⟩, nl, c⟩ := x
          obtain ⟨hj, hnll, hcl2, hu, hkey⟩ := hx
          simp only [] at hj hnll hcl2 hu hkey
          cases c
          · have hnl0 := hcl2 rfl
            subst hnl0
            (repeat' ((conv => whnf); first | refine And.intro ?_ ?_ | exact Cl.mk (by kernel_rfl) | exact Ck.mk (by kernel_rfl) | refine DrawN.mk ?_ | refine CodeN.step hm rfl ?_ | exact trivial | exact rfl | (intro hh; try simp only [decide_eq_true_eq, decide_eq_false_iff_not, beq_iff_eq, beq_eq_false_iff_ne, bne_iff_ne, bne_eq_false_iff_eq, Bool.not_eq_true', Bool.not_eq_false', Bool.not_true, Bool.not_false] at hh))); all_goals (conv => whnf)
            · skip
              (refine CallN.intro (rnM s u 1 (by omega) hs) [1] rfl rfl ?_ ?_ ?_; ((repeat' (first | exact rfl | exact trivial | refine And.intro ?_ ?_ | ((conv => whnf); first | exact rfl | exact trivial | refine And.intro ?_ ?_)))); ((repeat' (first | exact rfl | exact trivial | refine And.intro ?_ ?_ | ((conv => whnf); first | exact rfl | exact trivial | refine And.intro ?_ ?_)))); (intro y hy; clear y hy; (repeat' ((conv => whnf); first | refine And.intro ?_ ?_ | exact Cl.mk (by kernel_rfl) | exact Ck.mk (by kernel_rfl) | refine DrawN.mk ?_ | refine CodeN.step hm rfl ?_ | exact trivial | exact rfl | (intro hh; try simp only [decide_eq_true_eq, decide_eq_false_iff_not, beq_iff_eq, beq_eq_false_iff_ne, bne_iff_ne, bne_eq_false_iff_eq, Bool.not_eq_true', Bool.not_eq_false', Bool.not_true, Bool.not_false] at hh; try exact absurd hh (by decide)))); all_goals (conv => whnf); (all_goals first | (exact Ob.mk (by decide)) | skip)))
              have qB := rnv_range s u 1 (by omega)
              generalize rnv s u 1 = vB at qB ⊢
              obtain ⟨nB, tB⟩ := vB
              simp only [] at qB ⊢
              have tq := text_range s tB
              (refine CallN.intro (rtextM s tB hs) [] rfl rfl ?_ ?_ ?_; ((repeat' (first | exact rfl | exact trivial | refine And.intro ?_ ?_ | ((conv => whnf); first | exact rfl | exact trivial | refine And.intro ?_ ?_)))); ((repeat' (first | exact rfl | exact trivial | refine And.intro ?_ ?_ | ((conv => whnf); first | exact rfl | exact trivial | refine And.intro ?_ ?_)))); (intro y hy; clear y hy; (repeat' ((conv => whnf); first | refine And.intro ?_ ?_ | exact Cl.mk (by kernel_rfl) | exact Ck.mk (by kernel_rfl) | refine DrawN.mk ?_ | refine CodeN.step hm rfl ?_ | exact trivial | exact rfl | (intro hh; try simp only [decide_eq_true_eq, decide_eq_false_iff_not, beq_iff_eq, beq_eq_false_iff_ne, bne_iff_ne, bne_eq_false_iff_eq, Bool.not_eq_true', Bool.not_eq_false', Bool.not_true, Bool.not_false] at hh; try exact absurd hh (by decide)))); all_goals (conv => whnf); (all_goals first | (exact Ob.mk (by decide)) | skip)))
              rotate_left
              · exact Ob.mk (by rw [en]; simp)
              · have tq := tq hh
                refine ⟨((j + 1, (text s tB).2.1), [(nB, (text s tB).1)], true), [0, 1, 2, 5], ⟨rfl, rfl, ?_, ?_⟩, ⟨Int.ofNat_lt.1 (by assumption), by simp only [] at hnll ⊢; simp at *; omega, fun h => (by cases h), tq.2, fun n hn => by simp at hn; subst hn; simp only []; omega⟩, by simp only []; omega⟩
                · (repeat' (first | exact rfl | exact trivial | refine And.intro ?_ ?_ | ((conv => whnf); first | exact rfl | exact trivial | refine And.intro ?_ ?_))); all_goals (conv => whnf); all_goals (try simp only [])
                  all_goals first | (rw [List.take_length]; rfl) | (simp; done) | skip
                · (repeat' (first | exact rfl | exact trivial | refine And.intro ?_ ?_ | ((conv => whnf); first | exact rfl | exact trivial | refine And.intro ?_ ?_))); all_goals (conv => whnf); all_goals (try simp only [])
                  exact wr2 j (n := k) (by omega) (by omega)
              all_goals
                have hsh : Sh (n0, n1, ([] : List Told), n2, (n3, n4, n5, n6), n7, n8, []) := ⟨by simp only [List.length_append, List.length_cons, List.length_nil] at *; omega, by simp only [List.length_append, List.length_cons, List.length_nil] at *; omega, hkey⟩
                have M9 := rencodeM (n0, n1, ([] : List Told), n2, (n3, n4, n5, n6), n7, n8, []) hsh
                have hbad : (encR (n0, n1, ([] : List Told), n2, (n3, n4, n5, n6), n7, n8, [])).2 = 0 → (encR (n0, n1, ([] : List Told), n2, (n3, n4, n5, n6), n7, n8, [])).1 = s → False := enc_none hd
                generalize encR (n0, n1, ([] : List Told), n2, (n3, n4, n5, n6), n7, n8, []) = er at M9 hbad
                (refine CallN.intro M9 [] rfl rfl ?_ ?_ ?_; ((repeat' (first | exact rfl | exact trivial | refine And.intro ?_ ?_ | ((conv => whnf); first | exact rfl | exact trivial | refine And.intro ?_ ?_)))); ((repeat' (first | exact rfl | exact trivial | refine And.intro ?_ ?_ | ((conv => whnf); first | exact rfl | exact trivial | refine And.intro ?_ ?_)))); (intro y hy; clear y hy; (repeat' ((conv => whnf); first | refine And.intro ?_ ?_ | exact Cl.mk (by kernel_rfl) | exact Ck.mk (by kernel_rfl) | refine DrawN.mk ?_ | refine CodeN.step hm rfl ?_ | exact trivial | exact rfl | (intro hh; try simp only [decide_eq_true_eq, decide_eq_false_iff_not, beq_iff_eq, beq_eq_false_iff_ne, bne_iff_ne, bne_eq_false_iff_eq, Bool.not_eq_true', Bool.not_eq_false', Bool.not_true, Bool.not_false] at hh; try exact absurd hh (by decide)))); all_goals (conv => whnf); (all_goals first | (exact Ob.mk (by decide)) | skip)))
                all_goals first
                  | (exfalso; exact hbad (by assumption) (by assumption); done)
                  | ((refine RetN.intro () [] rfl rfl ?_ ?_ ?_; ((repeat' (first | exact rfl | exact trivial | refine And.intro ?_ ?_ | ((conv => whnf); first | exact rfl | exact trivial | refine And.intro ?_ ?_)))); ((repeat' (first | exact rfl | exact trivial | refine And.intro ?_ ?_ | ((conv => whnf); first | exact rfl | exact trivial | refine And.intro ?_ ?_))); all_goals (conv => whnf); all_goals (try simp only [])))
                     done)
                  | skip
            all_goals
              have hsh : Sh (n0, n1, ([] : List Told), n2, (n3, n4, n5, n6), n7, n8, []) := ⟨by simp only [List.length_append, List.length_cons, List.length_nil] at *; omega, by simp only [List.length_append, List.length_cons, List.length_nil] at *; omega, hkey⟩
              have M9 := rencodeM (n0, n1, ([] : List Told), n2, (n3, n4, n5, n6), n7, n8, []) hsh
              have hbad : (encR (n0, n1, ([] : List Told), n2, (n3, n4, n5, n6), n7, n8, [])).2 = 0 → (encR (n0, n1, ([] : List Told), n2, (n3, n4, n5, n6), n7, n8, [])).1 = s → False := enc_none hd
              generalize encR (n0, n1, ([] : List Told), n2, (n3, n4, n5, n6), n7, n8, []) = er at M9 hbad
              (refine CallN.intro M9 [] rfl rfl ?_ ?_ ?_; ((repeat' (first | exact rfl | exact trivial | refine And.intro ?_ ?_ | ((conv => whnf); first | exact rfl | exact trivial | refine And.intro ?_ ?_)))); ((repeat' (first | exact rfl | exact trivial | refine And.intro ?_ ?_ | ((conv => whnf); first | exact rfl | exact trivial | refine And.intro ?_ ?_)))); (intro y hy; clear y hy; (repeat' ((conv => whnf); first | refine And.intro ?_ ?_ | exact Cl.mk (by kernel_rfl) | exact Ck.mk (by kernel_rfl) | refine DrawN.mk ?_ | refine CodeN.step hm rfl ?_ | exact trivial | exact rfl | (intro hh; try simp only [decide_eq_true_eq, decide_eq_false_iff_not, beq_iff_eq, beq_eq_false_iff_ne, bne_iff_ne, bne_eq_false_iff_eq, Bool.not_eq_true', Bool.not_eq_false', Bool.not_true, Bool.not_false] at hh; try exact absurd hh (by decide)))); all_goals (conv => whnf); (all_goals first | (exact Ob.mk (by decide)) | skip)))
              all_goals first
                | (exfalso; exact hbad (by assumption) (by assumption); done)
                | ((refine RetN.intro () [] rfl rfl ?_ ?_ ?_; ((repeat' (first | exact rfl | exact trivial | refine And.intro ?_ ?_ | ((conv => whnf); first | exact rfl | exact trivial | refine And.intro ?_ ?_)))); ((repeat' (first | exact rfl | exact trivial | refine And.intro ?_ ?_ | ((conv => whnf); first | exact rfl | exact trivial | refine And.intro ?_ ?_))); all_goals (conv => whnf); all_goals (try simp only [])))
                   done)
                | skip
          · skip
            (repeat' ((conv => whnf); first | refine And.intro ?_ ?_ | exact Cl.mk (by kernel_rfl) | exact Ck.mk (by kernel_rfl) | refine DrawN.mk ?_ | refine CodeN.step hm rfl ?_ | exact trivial | exact rfl | (intro hh; try simp only [decide_eq_true_eq, decide_eq_false_iff_not, beq_iff_eq, beq_eq_false_iff_ne, bne_iff_ne, bne_eq_false_iff_eq, Bool.not_eq_true', Bool.not_eq_false', Bool.not_true, Bool.not_false] at hh))); all_goals (conv => whnf)
            · skip
              (refine CallN.intro (rnM s u 1 (by omega) hs) [1] rfl rfl ?_ ?_ ?_; ((repeat' (first | exact rfl | exact trivial | refine And.intro ?_ ?_ | ((conv => whnf); first | exact rfl | exact trivial | refine And.intro ?_ ?_)))); ((repeat' (first | exact rfl | exact trivial | refine And.intro ?_ ?_ | ((conv => whnf); first | exact rfl | exact trivial | refine And.intro ?_ ?_)))); (intro y hy; clear y hy; (repeat' ((conv => whnf); first | refine And.intro ?_ ?_ | exact Cl.mk (by kernel_rfl) | exact Ck.mk (by kernel_rfl) | refine DrawN.mk ?_ | refine CodeN.step hm rfl ?_ | exact trivial | exact rfl | (intro hh; try simp only [decide_eq_true_eq, decide_eq_false_iff_not, beq_iff_eq, beq_eq_false_iff_ne, bne_iff_ne, bne_eq_false_iff_eq, Bool.not_eq_true', Bool.not_eq_false', Bool.not_true, Bool.not_false] at hh; try exact absurd hh (by decide)))); all_goals (conv => whnf); (all_goals first | (exact Ob.mk (by decide)) | skip)))
              have qB := rnv_range s u 1 (by omega)
              generalize rnv s u 1 = vB at qB ⊢
              obtain ⟨nB, tB⟩ := vB
              simp only [] at qB ⊢
              have tq := text_range s tB
              (refine CallN.intro (rtextM s tB hs) [] rfl rfl ?_ ?_ ?_; ((repeat' (first | exact rfl | exact trivial | refine And.intro ?_ ?_ | ((conv => whnf); first | exact rfl | exact trivial | refine And.intro ?_ ?_)))); ((repeat' (first | exact rfl | exact trivial | refine And.intro ?_ ?_ | ((conv => whnf); first | exact rfl | exact trivial | refine And.intro ?_ ?_)))); (intro y hy; clear y hy; (repeat' ((conv => whnf); first | refine And.intro ?_ ?_ | exact Cl.mk (by kernel_rfl) | exact Ck.mk (by kernel_rfl) | refine DrawN.mk ?_ | refine CodeN.step hm rfl ?_ | exact trivial | exact rfl | (intro hh; try simp only [decide_eq_true_eq, decide_eq_false_iff_not, beq_iff_eq, beq_eq_false_iff_ne, bne_iff_ne, bne_eq_false_iff_eq, Bool.not_eq_true', Bool.not_eq_false', Bool.not_true, Bool.not_false] at hh; try exact absurd hh (by decide)))); all_goals (conv => whnf); (all_goals first | (exact Ob.mk (by decide)) | skip)))
              rotate_left
              · exact Ob.mk (by rw [en]; simp; omega)
              · have tq := tq hh
                refine ⟨((j + 1, (text s tB).2.1), nl ++ [(nB, (text s tB).1)], true), [0, 1, 2, 3], ⟨rfl, rfl, ?_, ?_⟩, ⟨Int.ofNat_lt.1 (by assumption), by simp only [] at hnll ⊢; simp at *; omega, fun h => (by cases h), tq.2, fun n hn => by rcases List.mem_append.1 hn with hn | hn; (exact hkey n hn); (simp at hn; subst hn; simp only []; omega)⟩, by simp only []; omega⟩
                · (repeat' (first | exact rfl | exact trivial | refine And.intro ?_ ?_ | ((conv => whnf); first | exact rfl | exact trivial | refine And.intro ?_ ?_))); all_goals (conv => whnf); all_goals (try simp only [])
                  all_goals first | (rw [List.take_length]; rfl) | (simp; done) | skip
                · (repeat' (first | exact rfl | exact trivial | refine And.intro ?_ ?_ | ((conv => whnf); first | exact rfl | exact trivial | refine And.intro ?_ ?_))); all_goals (conv => whnf); all_goals (try simp only [])
                  exact wr2 j (n := k) (by omega) (by omega)
              all_goals
                have hsh : Sh (n0, n1, ([] : List Told), n2, (n3, n4, n5, n6), n7, n8, nl) := ⟨by simp only [List.length_append, List.length_cons, List.length_nil] at *; omega, by simp only [List.length_append, List.length_cons, List.length_nil] at *; omega, hkey⟩
                have M9 := rencodeM (n0, n1, ([] : List Told), n2, (n3, n4, n5, n6), n7, n8, nl) hsh
                have hbad : (encR (n0, n1, ([] : List Told), n2, (n3, n4, n5, n6), n7, n8, nl)).2 = 0 → (encR (n0, n1, ([] : List Told), n2, (n3, n4, n5, n6), n7, n8, nl)).1 = s → False := enc_none hd
                generalize encR (n0, n1, ([] : List Told), n2, (n3, n4, n5, n6), n7, n8, nl) = er at M9 hbad
                have e5 : List.take nl.length (List.drop 0 nl) = nl := by rw [List.drop_zero, List.take_length]
                refine CallN.frz 3 ?_ M9.callable
                (conv => whnf)
                refine CallN.intro M9 [] rfl rfl ?_ ?_ ?_
                · (repeat' (first | exact rfl | exact trivial | refine And.intro ?_ ?_ | ((conv => whnf); first | exact rfl | exact trivial | refine And.intro ?_ ?_))); all_goals (conv => whnf); all_goals (try simp only [])
                  all_goals exact e5
                · (repeat' (first | exact rfl | exact trivial | refine And.intro ?_ ?_ | ((conv => whnf); first | exact rfl | exact trivial | refine And.intro ?_ ?_)))
                intro y hy
                clear y hy
                (repeat' ((conv => whnf); first | refine And.intro ?_ ?_ | exact Cl.mk (by kernel_rfl) | exact Ck.mk (by kernel_rfl) | refine DrawN.mk ?_ | refine CodeN.step hm rfl ?_ | exact trivial | exact rfl | (intro hh; try simp only [decide_eq_true_eq, decide_eq_false_iff_not, beq_iff_eq, beq_eq_false_iff_ne, bne_iff_ne, bne_eq_false_iff_eq, Bool.not_eq_true', Bool.not_eq_false', Bool.not_true, Bool.not_false] at hh; try exact absurd hh (by decide)))); all_goals (conv => whnf)
                all_goals first
                  | (exfalso; exact hbad (by assumption) (by assumption); done)
                  | ((refine RetN.intro () [] rfl rfl ?_ ?_ ?_; ((repeat' (first | exact rfl | exact trivial | refine And.intro ?_ ?_ | ((conv => whnf); first | exact rfl | exact trivial | refine And.intro ?_ ?_)))); ((repeat' (first | exact rfl | exact trivial | refine And.intro ?_ ?_ | ((conv => whnf); first | exact rfl | exact trivial | refine And.intro ?_ ?_))); all_goals (conv => whnf); all_goals (try simp only [])))
                     done)
                  | skip
            all_goals
              have hsh : Sh (n0, n1, ([] : List Told), n2, (n3, n4, n5, n6), n7, n8, nl) := ⟨by simp only [List.length_append, List.length_cons, List.length_nil] at *; omega, by simp only [List.length_append, List.length_cons, List.length_nil] at *; omega, hkey⟩
              have M9 := rencodeM (n0, n1, ([] : List Told), n2, (n3, n4, n5, n6), n7, n8, nl) hsh
              have hbad : (encR (n0, n1, ([] : List Told), n2, (n3, n4, n5, n6), n7, n8, nl)).2 = 0 → (encR (n0, n1, ([] : List Told), n2, (n3, n4, n5, n6), n7, n8, nl)).1 = s → False := enc_none hd
              generalize encR (n0, n1, ([] : List Told), n2, (n3, n4, n5, n6), n7, n8, nl) = er at M9 hbad
              have e5 : List.take nl.length (List.drop 0 nl) = nl := by rw [List.drop_zero, List.take_length]
              refine CallN.frz 3 ?_ M9.callable
              (conv => whnf)
              refine CallN.intro M9 [] rfl rfl ?_ ?_ ?_
              · (repeat' (first | exact rfl | exact trivial | refine And.intro ?_ ?_ | ((conv => whnf); first | exact rfl | exact trivial | refine And.intro ?_ ?_))); all_goals (conv => whnf); all_goals (try simp only [])
                all_goals exact e5
              · (repeat' (first | exact rfl | exact trivial | refine And.intro ?_ ?_ | ((conv => whnf); first | exact rfl | exact trivial | refine And.intro ?_ ?_)))
              intro y hy
              clear y hy
              (repeat' ((conv => whnf); first | refine And.intro ?_ ?_ | exact Cl.mk (by kernel_rfl) | exact Ck.mk (by kernel_rfl) | refine DrawN.mk ?_ | refine CodeN.step hm rfl ?_ | exact trivial | exact rfl | (intro hh; try simp only [decide_eq_true_eq, decide_eq_false_iff_not, beq_iff_eq, beq_eq_false_iff_ne, bne_iff_ne, bne_eq_false_iff_eq, Bool.not_eq_true', Bool.not_eq_false', Bool.not_true, Bool.not_false] at hh; try exact absurd hh (by decide)))); all_goals (conv => whnf)
              all_goals first
                | (exfalso; exact hbad (by assumption) (by assumption); done)
                | ((refine RetN.intro () [] rfl rfl ?_ ?_ ?_; ((repeat' (first | exact rfl | exact trivial | refine And.intro ?_ ?_ | ((conv => whnf); first | exact rfl | exact trivial | refine And.intro ?_ ?_)))); ((repeat' (first | exact rfl | exact trivial | refine And.intro ?_ ?_ | ((conv => whnf); first | exact rfl | exact trivial | refine And.intro ?_ ?_))); all_goals (conv => whnf); all_goals (try simp only [])))
                   done)
                | skip
    · skip
      (repeat' ((conv => whnf); first | refine And.intro ?_ ?_ | exact Cl.mk (by kernel_rfl) | exact Ck.mk (by kernel_rfl) | refine DrawN.mk ?_ | refine CodeN.step hm rfl ?_ | exact trivial | exact rfl | (intro hh; try simp only [decide_eq_true_eq, decide_eq_false_iff_not, beq_iff_eq, beq_eq_false_iff_ne, bne_iff_ne, bne_eq_false_iff_eq, Bool.not_eq_true', Bool.not_eq_false', Bool.not_true, Bool.not_false] at hh))); all_goals (conv => whnf)
      · skip
        (refine CallN.intro (rnM s t 1 (by omega) hs) [1] rfl rfl ?_ ?_ ?_; ((repeat' (first | exact rfl | exact trivial | refine And.intro ?_ ?_ | ((conv => whnf); first | exact rfl | exact trivial | refine And.intro ?_ ?_)))); ((repeat' (first | exact rfl | exact trivial | refine And.intro ?_ ?_ | ((conv => whnf); first | exact rfl | exact trivial | refine And.intro ?_ ?_)))); (intro y hy; clear y hy; (repeat' ((conv => whnf); first | refine And.intro ?_ ?_ | exact Cl.mk (by kernel_rfl) | exact Ck.mk (by kernel_rfl) | refine DrawN.mk ?_ | refine CodeN.step hm rfl ?_ | exact trivial | exact rfl | (intro hh; try simp only [decide_eq_true_eq, decide_eq_false_iff_not, beq_iff_eq, beq_eq_false_iff_ne, bne_iff_ne, bne_eq_false_iff_eq, Bool.not_eq_true', Bool.not_eq_false', Bool.not_true, Bool.not_false] at hh; try exact absurd hh (by decide)))); all_goals (conv => whnf); (all_goals first | (exact Ob.mk (by decide)) | skip)))
        have qa := rnv_range s t 1 (by omega)
        generalize rnv s t 1 = va at qa ⊢
        obtain ⟨na, ta⟩ := va
        simp only [] at qa ⊢
        (refine CallN.intro (rnM s ta 1 (by omega) hs) [1] rfl rfl ?_ ?_ ?_; ((repeat' (first | exact rfl | exact trivial | refine And.intro ?_ ?_ | ((conv => whnf); first | exact rfl | exact trivial | refine And.intro ?_ ?_)))); ((repeat' (first | exact rfl | exact trivial | refine And.intro ?_ ?_ | ((conv => whnf); first | exact rfl | exact trivial | refine And.intro ?_ ?_)))); (intro y hy; clear y hy; (repeat' ((conv => whnf); first | refine And.intro ?_ ?_ | exact Cl.mk (by kernel_rfl) | exact Ck.mk (by kernel_rfl) | refine DrawN.mk ?_ | refine CodeN.step hm rfl ?_ | exact trivial | exact rfl | (intro hh; try simp only [decide_eq_true_eq, decide_eq_false_iff_not, beq_iff_eq, beq_eq_false_iff_ne, bne_iff_ne, bne_eq_false_iff_eq, Bool.not_eq_true', Bool.not_eq_false', Bool.not_true, Bool.not_false] at hh; try exact absurd hh (by decide)))); all_goals (conv => whnf); (all_goals first | (exact Ob.mk (by decide)) | skip)))
        have qb := rnv_range s ta 1 (by omega)
        generalize rnv s ta 1 = vb at qb ⊢
        obtain ⟨nb, tb⟩ := vb
        simp only [] at qb ⊢
        (refine CallN.intro (rnM s tb 4 (by omega) hs) [1] rfl rfl ?_ ?_ ?_; ((repeat' (first | exact rfl | exact trivial | refine And.intro ?_ ?_ | ((conv => whnf); first | exact rfl | exact trivial | refine And.intro ?_ ?_)))); ((repeat' (first | exact rfl | exact trivial | refine And.intro ?_ ?_ | ((conv => whnf); first | exact rfl | exact trivial | refine And.intro ?_ ?_)))); (intro y hy; clear y hy; (repeat' ((conv => whnf); first | refine And.intro ?_ ?_ | exact Cl.mk (by kernel_rfl) | exact Ck.mk (by kernel_rfl) | refine DrawN.mk ?_ | refine CodeN.step hm rfl ?_ | exact trivial | exact rfl | (intro hh; try simp only [decide_eq_true_eq, decide_eq_false_iff_not, beq_iff_eq, beq_eq_false_iff_ne, bne_iff_ne, bne_eq_false_iff_eq, Bool.not_eq_true', Bool.not_eq_false', Bool.not_true, Bool.not_false] at hh; try exact absurd hh (by decide)))); all_goals (conv => whnf); (all_goals first | (exact Ob.mk (by decide)) | skip)))
        have qc := rnv_range s tb 4 (by omega)
        generalize rnv s tb 4 = vc at qc ⊢
        obtain ⟨nc, tc⟩ := vc
        simp only [] at qc ⊢
        (refine CallN.intro (rnM s tc 6 (by omega) hs) [1] rfl rfl ?_ ?_ ?_; ((repeat' (first | exact rfl | exact trivial | refine And.intro ?_ ?_ | ((conv => whnf); first | exact rfl | exact trivial | refine And.intro ?_ ?_)))); ((repeat' (first | exact rfl | exact trivial | refine And.intro ?_ ?_ | ((conv => whnf); first | exact rfl | exact trivial | refine And.intro ?_ ?_)))); (intro y hy; clear y hy; (repeat' ((conv => whnf); first | refine And.intro ?_ ?_ | exact Cl.mk (by kernel_rfl) | exact Ck.mk (by kernel_rfl) | refine DrawN.mk ?_ | refine CodeN.step hm rfl ?_ | exact trivial | exact rfl | (intro hh; try simp only [decide_eq_true_eq, decide_eq_false_iff_not, beq_iff_eq, beq_eq_false_iff_ne, bne_iff_ne, bne_eq_false_iff_eq, Bool.not_eq_true', Bool.not_eq_false', Bool.not_true, Bool.not_false] at hh; try exact absurd hh (by decide)))); all_goals (conv => whnf); (all_goals first | (exact Ob.mk (by decide)) | skip)))
        have qd := rnv_range s tc 6 (by omega)
        generalize rnv s tc 6 = vd at qd ⊢
        obtain ⟨nd, td⟩ := vd
        simp only [] at qd ⊢
        (refine CallN.intro (rnM s td 6 (by omega) hs) [1] rfl rfl ?_ ?_ ?_; ((repeat' (first | exact rfl | exact trivial | refine And.intro ?_ ?_ | ((conv => whnf); first | exact rfl | exact trivial | refine And.intro ?_ ?_)))); ((repeat' (first | exact rfl | exact trivial | refine And.intro ?_ ?_ | ((conv => whnf); first | exact rfl | exact trivial | refine And.intro ?_ ?_)))); (intro y hy; clear y hy; (repeat' ((conv => whnf); first | refine And.intro ?_ ?_ | exact Cl.mk (by kernel_rfl) | exact Ck.mk (by kernel_rfl) | refine DrawN.mk ?_ | refine CodeN.step hm rfl ?_ | exact trivial | exact rfl | (intro hh; try simp only [decide_eq_true_eq, decide_eq_false_iff_not, beq_iff_eq, beq_eq_false_iff_ne, bne_iff_ne, bne_eq_false_iff_eq, Bool.not_eq_true', Bool.not_eq_false', Bool.not_true, Bool.not_false] at hh; try exact absurd hh (by decide)))); all_goals (conv => whnf); (all_goals first | (exact Ob.mk (by decide)) | skip)))
        all_goals
          have qe := rnv_range s td 6 (by omega)
          generalize rnv s td 6 = ve at qe ⊢
          obtain ⟨ne, te⟩ := ve
          simp only [] at qe ⊢
        · exact Ob.mk (by rw [eb]; simp; omega)
        · refine ⟨((i + 1, te), l ++ [(na, nb == 1, nc, nd, ne)], true), [0, 1, 2, 3], ⟨rfl, rfl, ?_, ?_⟩, ⟨Int.ofNat_lt.1 (by assumption), by simp; omega, fun h => (by cases h), qe.2.2.2⟩, by simp only []; omega⟩
          · (repeat' (first | exact rfl | exact trivial | refine And.intro ?_ ?_ | ((conv => whnf); first | exact rfl | exact trivial | refine And.intro ?_ ?_))); all_goals (conv => whnf); all_goals (try simp only [])
            all_goals first | (rw [List.take_length]; rfl) | (simp; done) | skip
          · (repeat' (first | exact rfl | exact trivial | refine And.intro ?_ ?_ | ((conv => whnf); first | exact rfl | exact trivial | refine And.intro ?_ ?_))); all_goals (conv => whnf); all_goals (try simp only [])
            exact wr2 i (n := m) (by omega) (by omega)
      all_goals
        refine CallN.frz 3 ?_ (rnM s t 1 (by omega) hs).callable
        (conv => whnf)
        (refine CallN.intro (rnM s t 1 (by omega) hs) [1] rfl rfl ?_ ?_ ?_; ((repeat' (first | exact rfl | exact trivial | refine And.intro ?_ ?_ | ((conv => whnf); first | exact rfl | exact trivial | refine And.intro ?_ ?_)))); ((repeat' (first | exact rfl | exact trivial | refine And.intro ?_ ?_ | ((conv => whnf); first | exact rfl | exact trivial | refine And.intro ?_ ?_)))); (intro y hy; clear y hy; (repeat' ((conv => whnf); first | refine And.intro ?_ ?_ | exact Cl.mk (by kernel_rfl) | exact Ck.mk (by kernel_rfl) | refine DrawN.mk ?_ | refine CodeN.step hm rfl ?_ | exact trivial | exact rfl | (intro hh; try simp only [decide_eq_true_eq, decide_eq_false_iff_not, beq_iff_eq, beq_eq_false_iff_ne, bne_iff_ne, bne_eq_false_iff_eq, Bool.not_eq_true', Bool.not_eq_false', Bool.not_true, Bool.not_false] at hh; try exact absurd hh (by decide)))); all_goals (conv => whnf); (all_goals first | (exact Ob.mk (by decide)) | skip)))
        have qA := rnv_range s t 1 (by omega)
        generalize rnv s t 1 = vA at qA ⊢
        obtain ⟨nA, tA⟩ := vA
        simp only [] at qA ⊢
        obtain ⟨k, rfl⟩ : ∃ m : Nat, nA = m := ⟨nA.toNat, by omega⟩
        refine LoopN.intro hm (X := (Nat × Int) × List Name × Bool) (fun x => x.1.1 ≤ k ∧ x.2.1.length = x.1.1 ∧ (x.2.2 = false → x.2.1 = []) ∧ x.1.2 ≤ s.length ∧ (∀ n ∈ x.2.1, n.2.length ≤ 300)) (fun x => k - x.1.1)
          (fun x => [(9, .int .i64 fun _ => (x.1.1 : Int)), (6, .int .i64 fun _ => (k : Int)), (5, .ptr 2 0), (4, .ptr 1 0), (3, .int .i64 fun _ => 0), (2, .ptr 0 0), (0, .str fun _ => s)])
          (fun x => [ans0C, rrC s x.1.2, .cells 28 [.int .i64 fun _ => n0, .int .i64 fun _ => n1, .lst ToldT fun _ => l, .int .i64 fun _ => n2, .int .i64 fun _ => n3, .int .i64 fun _ => n4, .int .i64 fun _ => n5, .int .i64 fun _ => n6, .int .i64 fun _ => n7, .int .i64 fun _ => n8, (match x.2.2 with | true => .vec 3 2 (fun _ => 0) (fun _ => x.2.1.length) | false => .snil)]] ++ (match x.2.2 with | true => [.vect 39 NameT fun _ => x.2.1] | false => []))
          ((0, tA), [], false) [0, 1, 2] ⟨rfl, rfl, ?_, ?_⟩ ⟨Nat.zero_le _, rfl, fun _ => rfl, qA.2.2.2, fun n hn => by cases hn⟩ (fun x hx => ?_)
        · (repeat' (first | exact rfl | exact trivial | refine And.intro ?_ ?_ | ((conv => whnf); first | exact rfl | exact trivial | refine And.intro ?_ ?_))); all_goals (conv => whnf); all_goals (try simp only [])
          all_goals first | (rw [List.drop_zero, List.take_length]; done) | skip
        · (repeat' (first | exact rfl | exact trivial | refine And.intro ?_ ?_ | ((conv => whnf); first | exact rfl | exact trivial | refine And.intro ?_ ?_))); all_goals (conv => whnf); all_goals (try simp only [])
          all_goals first | (rw [List.drop_zero, List.take_length]; done) | skip
        · obtain ⟨⟨j, u⟩, nl, c⟩ := x
          obtain ⟨hj, hnll, hcl2, hu, hkey⟩ := hx
          simp only [] at hj hnll hcl2 hu hkey
          cases c
          · have hnl0 := hcl2 rfl
            subst hnl0
            (repeat' ((conv => whnf); first | refine And.intro ?_ ?_ | exact Cl.mk (by kernel_rfl) | exact Ck.mk (by kernel_rfl) | refine DrawN.mk ?_ | refine CodeN.step hm rfl ?_ | exact trivial | exact rfl | (intro hh; try simp only [decide_eq_true_eq, decide_eq_false_iff_not, beq_iff_eq, beq_eq_false_iff_ne, bne_iff_ne, bne_eq_false_iff_eq, Bool.not_eq_true', Bool.not_eq_false', Bool.not_true, Bool.not_false] at hh))); all_goals (conv => whnf)
            · skip
              (refine CallN.intro (rnM s u 1 (by omega) hs) [1] rfl rfl ?_ ?_ ?_; ((repeat' (first | exact rfl | exact trivial | refine And.intro ?_ ?_ | ((conv => whnf); first | exact rfl | exact trivial | refine And.intro ?_ ?_)))); ((repeat' (first | exact rfl | exact trivial | refine And.intro ?_ ?_ | ((conv => whnf); first | exact rfl | exact trivial | refine And.intro ?_ ?_)))); (intro y hy; clear y hy; (repeat' ((conv => whnf); first | refine And.intro ?_ ?_ | exact Cl.mk (by kernel_rfl) | exact Ck.mk (by kernel_rfl) | refine DrawN.mk ?_ | refine CodeN.step hm rfl ?_ | exact trivial | exact rfl | (intro hh; try simp only [decide_eq_true_eq, decide_eq_false_iff_not, beq_iff_eq, beq_eq_false_iff_ne, bne_iff_ne, bne_eq_false_iff_eq, Bool.not_eq_true', Bool.not_eq_false', Bool.not_true, Bool.not_false] at hh; try exact absurd hh (by decide)))); all_goals (conv => whnf); (all_goals first | (exact Ob.mk (by decide)) | skip)))
              have qB := rnv_range s u 1 (by omega)
              generalize rnv s u 1 = vB at qB ⊢
              obtain ⟨nB, tB⟩ := vB
              simp only [] at qB ⊢
              have tq := text_range s tB
              (refine CallN.intro (rtextM s tB hs) [] rfl rfl ?_ ?_ ?_; ((repeat' (first | exact rfl | exact trivial | refine And.intro ?_ ?_ | ((conv => whnf); first | exact rfl | exact trivial | refine And.intro ?_ ?_)))); ((repeat' (first | exact rfl | exact trivial | refine And.intro ?_ ?_ | ((conv => whnf); first | exact rfl | exact trivial | refine And.intro ?_ ?_)))); (intro y hy; clear y hy; (repeat' ((conv => whnf); first | refine And.intro ?_ ?_ | exact Cl.mk (by kernel_rfl) | exact Ck.mk (by kernel_rfl) | refine DrawN.mk ?_ | refine CodeN.step hm rfl ?_ | exact trivial | exact rfl | (intro hh; try simp only [decide_eq_true_eq, decide_eq_false_iff_not, beq_iff_eq, beq_eq_false_iff_ne, bne_iff_ne, bne_eq_false_iff_eq, Bool.not_eq_true', Bool.not_eq_false', Bool.not_true, Bool.not_false] at hh; try exact absurd hh (by decide)))); all_goals (conv => whnf); (all_goals first | (exact Ob.mk (by decide)) | skip)))
              rotate_left
              · exact Ob.mk (by rw [en]; simp)
              · have tq := tq hh
                refine ⟨((j + 1, (text s tB).2.1), [(nB, (text s tB).1)], true), [0, 1, 2, 5], ⟨rfl, rfl, ?_, ?_⟩, ⟨Int.ofNat_lt.1 (by assumption), by simp only [] at hnll ⊢; simp at *; omega, fun h => (by cases h), tq.2, fun n hn => by simp at hn; subst hn; simp only []; omega⟩, by simp only []; omega⟩
                · (repeat' (first | exact rfl | exact trivial | refine And.intro ?_ ?_ | ((conv => whnf); first | exact rfl | exact trivial | refine And.intro ?_ ?_))); all_goals (conv => whnf); all_goals (try simp only [])
                  all_goals first | (rw [List.take_length]; rfl) | (simp; done) | skip
                · (repeat' (first | exact rfl | exact trivial | refine And.intro ?_ ?_ | ((conv => whnf); first | exact rfl | exact trivial | refine And.intro ?_ ?_))); all_goals (conv => whnf); all_goals (try simp only [])
                  exact wr2 j (n := k) (by omega) (by omega)
              all_goals
                have hsh : Sh (n0, n1, l, n2, (n3, n4, n5, n6), n7, n8, []) := ⟨by simp only [List.length_append, List.length_cons, List.length_nil] at *; omega, by simp only [List.length_append, List.length_cons, List.length_nil] at *; omega, hkey⟩
                have M9 := rencodeM (n0, n1, l, n2, (n3, n4, n5, n6), n7, n8, []) hsh
                have hbad : (encR (n0, n1, l, n2, (n3, n4, n5, n6), n7, n8, [])).2 = 0 → (encR (n0, n1, l, n2, (n3, n4, n5, n6), n7, n8, [])).1 = s → False := enc_none hd
                generalize encR (n0, n1, l, n2, (n3, n4, n5, n6), n7, n8, []) = er at M9 hbad
                (refine CallN.intro M9 [] rfl rfl ?_ ?_ ?_; ((repeat' (first | exact rfl | exact trivial | refine And.intro ?_ ?_ | ((conv => whnf); first | exact rfl | exact trivial | refine And.intro ?_ ?_)))); ((repeat' (first | exact rfl | exact trivial | refine And.intro ?_ ?_ | ((conv => whnf); first | exact rfl | exact trivial | refine And.intro ?_ ?_)))); (intro y hy; clear y hy; (repeat' ((conv => whnf); first | refine And.intro ?_ ?_ | exact Cl.mk (by kernel_rfl) | exact Ck.mk (by kernel_rfl) | refine DrawN.mk ?_ | refine CodeN.step hm rfl ?_ | exact trivial | exact rfl | (intro hh; try simp only [decide_eq_true_eq, decide_eq_false_iff_not, beq_iff_eq, beq_eq_false_iff_ne, bne_iff_ne, bne_eq_false_iff_eq, Bool.not_eq_true', Bool.not_eq_false', Bool.not_true, Bool.not_false] at hh; try exact absurd hh (by decide)))); all_goals (conv => whnf); (all_goals first | (exact Ob.mk (by decide)) | skip)))
                all_goals first
                  | (exfalso; exact hbad (by assumption) (by assumption); done)
                  | ((refine RetN.intro () [] rfl rfl ?_ ?_ ?_; ((repeat' (first | exact rfl | exact trivial | refine And.intro ?_ ?_ | ((conv => whnf); first | exact rfl | exact trivial | refine And.intro ?_ ?_)))); ((repeat' (first | exact rfl | exact trivial | refine And.intro ?_ ?_ | ((conv => whnf); first | exact rfl | exact trivial | refine And.intro ?_ ?_))); all_goals (conv => whnf); all_goals (try simp only [])))
                     done)
                  | skip
            all_goals
              have hsh : Sh (n0, n1, l, n2, (n3, n4, n5, n6), n7, n8, []) := ⟨by simp only [List.length_append, List.length_cons, List.length_nil] at *; omega, by simp only [List.length_append, List.length_cons, List.length_nil] at *; omega, hkey⟩
              have M9 := rencodeM (n0, n1, l, n2, (n3, n4, n5, n6), n7, n8, []) hsh
              have hbad : (encR (n0, n1, l, n2, (n3, n4, n5, n6), n7, n8, [])).2 = 0 → (encR (n0, n1, l, n2, (n3, n4, n5, n6), n7, n8, [])).1 = s → False := enc_none hd
              generalize encR (n0, n1, l, n2, (n3, n4, n5, n6), n7, n8, []) = er at M9 hbad
              (refine CallN.intro M9 [] rfl rfl ?_ ?_ ?_; ((repeat' (first | exact rfl | exact trivial | refine And.intro ?_ ?_ | ((conv => whnf); first | exact rfl | exact trivial | refine And.intro ?_ ?_)))); ((repeat' (first | exact rfl | exact trivial | refine And.intro ?_ ?_ | ((conv => whnf); first | exact rfl | exact trivial | refine And.intro ?_ ?_)))); (intro y hy; clear y hy; (repeat' ((conv => whnf); first | refine And.intro ?_ ?_ | exact Cl.mk (by kernel_rfl) | exact Ck.mk (by kernel_rfl) | refine DrawN.mk ?_ | refine CodeN.step hm rfl ?_ | exact trivial | exact rfl | (intro hh; try simp only [decide_eq_true_eq, decide_eq_false_iff_not, beq_iff_eq, beq_eq_false_iff_ne, bne_iff_ne, bne_eq_false_iff_eq, Bool.not_eq_true', Bool.not_eq_false', Bool.not_true, Bool.not_false] at hh; try exact absurd hh (by decide)))); all_goals (conv => whnf); (all_goals first | (exact Ob.mk (by decide)) | skip)))
              all_goals first
                | (exfalso; exact hbad (by assumption) (by assumption); done)
                | ((refine RetN.intro () [] rfl rfl ?_ ?_ ?_; ((repeat' (first | exact rfl | exact trivial | refine And.intro ?_ ?_ | ((conv => whnf); first | exact rfl | exact trivial | refine And.intro ?_ ?_)))); ((repeat' (first | exact rfl | exact trivial | refine And.intro ?_ ?_ | ((conv => whnf); first | exact rfl | exact trivial | refine And.intro ?_ ?_))); all_goals (conv => whnf); all_goals (try simp only [])))
                   done)
                | skip
          · skip
            (repeat' ((conv => whnf); first | refine And.intro ?_ ?_ | exact Cl.mk (by kernel_rfl) | exact Ck.mk (by kernel_rfl) | refine DrawN.mk ?_ | refine CodeN.step hm rfl ?_ | exact trivial | exact rfl | (intro hh; try simp only [decide_eq_true_eq, decide_eq_false_iff_not, beq_iff_eq, beq_eq_false_iff_ne, bne_iff_ne, bne_eq_false_iff_eq, Bool.not_eq_true', Bool.not_eq_false', Bool.not_true, Bool.not_false] at hh))); all_goals (conv => whnf)
            · skip
              (refine CallN.intro (rnM s u 1 (by omega) hs) [1] rfl rfl ?_ ?_ ?_; ((repeat' (first | exact rfl | exact trivial | refine And.intro ?_ ?_ | ((conv => whnf); first | exact rfl | exact trivial | refine And.intro ?_ ?_)))); ((repeat' (first | exact rfl | exact trivial | refine And.intro ?_ ?_ | ((conv => whnf); first | exact rfl | exact trivial | refine And.intro ?_ ?_)))); (intro y hy; clear y hy; (repeat' ((conv => whnf); first | refine And.intro ?_ ?_ | exact Cl.mk (by kernel_rfl) | exact Ck.mk (by kernel_rfl) | refine DrawN.mk ?_ | refine CodeN.step hm rfl ?_ | exact trivial | exact rfl | (intro hh; try simp only [decide_eq_true_eq, decide_eq_false_iff_not, beq_iff_eq, beq_eq_false_iff_ne, bne_iff_ne, bne_eq_false_iff_eq, Bool.not_eq_true', Bool.not_eq_false', Bool.not_true, Bool.not_false] at hh; try exact absurd hh (by decide)))); all_goals (conv => whnf); (all_goals first | (exact Ob.mk (by decide)) | skip)))
              have qB := rnv_range s u 1 (by omega)
              generalize rnv s u 1 = vB at qB ⊢
              obtain ⟨nB, tB⟩ := vB
              simp only [] at qB ⊢
              have tq := text_range s tB
              (refine CallN.intro (rtextM s tB hs) [] rfl rfl ?_ ?_ ?_; ((repeat' (first | exact rfl | exact trivial | refine And.intro ?_ ?_ | ((conv => whnf); first | exact rfl | exact trivial | refine And.intro ?_ ?_)))); ((repeat' (first | exact rfl | exact trivial | refine And.intro ?_ ?_ | ((conv => whnf); first | exact rfl | exact trivial | refine And.intro ?_ ?_)))); (intro y hy; clear y hy; (repeat' ((conv => whnf); first | refine And.intro ?_ ?_ | exact Cl.mk (by kernel_rfl) | exact Ck.mk (by kernel_rfl) | refine DrawN.mk ?_ | refine CodeN.step hm rfl ?_ | exact trivial | exact rfl | (intro hh; try simp only [decide_eq_true_eq, decide_eq_false_iff_not, beq_iff_eq, beq_eq_false_iff_ne, bne_iff_ne, bne_eq_false_iff_eq, Bool.not_eq_true', Bool.not_eq_false', Bool.not_true, Bool.not_false] at hh; try exact absurd hh (by decide)))); all_goals (conv => whnf); (all_goals first | (exact Ob.mk (by decide)) | skip)))
              rotate_left
              · exact Ob.mk (by rw [en]; simp; omega)
              · have tq := tq hh
                refine ⟨((j + 1, (text s tB).2.1), nl ++ [(nB, (text s tB).1)], true), [0, 1, 2, 3], ⟨rfl, rfl, ?_, ?_⟩, ⟨Int.ofNat_lt.1 (by assumption), by simp only [] at hnll ⊢; simp at *; omega, fun h => (by cases h), tq.2, fun n hn => by rcases List.mem_append.1 hn with hn | hn; (exact hkey n hn); (simp at hn; subst hn; simp only []; omega)⟩, by simp only []; omega⟩
                · (repeat' (first | exact rfl | exact trivial | refine And.intro ?_ ?_ | ((conv => whnf); first | exact rfl | exact trivial | refine And.intro ?_ ?_))); all_goals (conv => whnf); all_goals (try simp only [])
                  all_goals first | (rw [List.take_length]; rfl) | (simp; done) | skip
                · (repeat' (first | exact rfl | exact trivial | refine And.intro ?_ ?_ | ((conv => whnf); first | exact rfl | exact trivial | refine And.intro ?_ ?_))); all_goals (conv => whnf); all_goals (try simp only [])
                  exact wr2 j (n := k) (by omega) (by omega)
              all_goals
                have hsh : Sh (n0, n1, l, n2, (n3, n4, n5, n6), n7, n8, nl) := ⟨by simp only [List.length_append, List.length_cons, List.length_nil] at *; omega, by simp only [List.length_append, List.length_cons, List.length_nil] at *; omega, hkey⟩
                have M9 := rencodeM (n0, n1, l, n2, (n3, n4, n5, n6), n7, n8, nl) hsh
                have hbad : (encR (n0, n1, l, n2, (n3, n4, n5, n6), n7, n8, nl)).2 = 0 → (encR (n0, n1, l, n2, (n3, n4, n5, n6), n7, n8, nl)).1 = s → False := enc_none hd
                generalize encR (n0, n1, l, n2, (n3, n4, n5, n6), n7, n8, nl) = er at M9 hbad
                have e5 : List.take nl.length (List.drop 0 nl) = nl := by rw [List.drop_zero, List.take_length]
                refine CallN.frz 3 ?_ M9.callable
                (conv => whnf)
                refine CallN.intro M9 [] rfl rfl ?_ ?_ ?_
                · (repeat' (first | exact rfl | exact trivial | refine And.intro ?_ ?_ | ((conv => whnf); first | exact rfl | exact trivial | refine And.intro ?_ ?_))); all_goals (conv => whnf); all_goals (try simp only [])
                  all_goals exact e5
                · (repeat' (first | exact rfl | exact trivial | refine And.intro ?_ ?_ | ((conv => whnf); first | exact rfl | exact trivial | refine And.intro ?_ ?_)))
                intro y hy
                clear y hy
                (repeat' ((conv => whnf); first | refine And.intro ?_ ?_ | exact Cl.mk (by kernel_rfl) | exact Ck.mk (by kernel_rfl) | refine DrawN.mk ?_ | refine CodeN.step hm rfl ?_ | exact trivial | exact rfl | (intro hh; try simp only [decide_eq_true_eq, decide_eq_false_iff_not, beq_iff_eq, beq_eq_false_iff_ne, bne_iff_ne, bne_eq_false_iff_eq, Bool.not_eq_true', Bool.not_eq_false', Bool.not_true, Bool.not_false] at hh; try exact absurd hh (by decide)))); all_goals (conv => whnf)
                all_goals first
                  | (exfalso; exact hbad (by assumption) (by assumption); done)
                  | ((refine RetN.intro () [] rfl rfl ?_ ?_ ?_; ((repeat' (first | exact rfl | exact trivial | refine And.intro ?_ ?_ | ((conv => whnf); first | exact rfl | exact trivial | refine And.intro ?_ ?_)))); ((repeat' (first | exact rfl | exact trivial | refine And.intro ?_ ?_ | ((conv => whnf); first | exact rfl | exact trivial | refine And.intro ?_ ?_))); all_goals (conv => whnf); all_goals (try simp only [])))
                     done)
                  | skip
            all_goals
              have hsh : Sh (n0, n1, l, n2, (n3, n4, n5, n6), n7, n8, nl) := ⟨by simp only [List.length_append, List.length_cons, List.length_nil] at *; omega, by simp only [List.length_append, List.length_cons, List.length_nil] at *; omega, hkey⟩
              have M9 := rencodeM (n0, n1, l, n2, (n3, n4, n5, n6), n7, n8, nl) hsh
              have hbad : (encR (n0, n1, l, n2, (n3, n4, n5, n6), n7, n8, nl)).2 = 0 → (encR (n0, n1, l, n2, (n3, n4, n5, n6), n7, n8, nl)).1 = s → False := enc_none hd
              generalize encR (n0, n1, l, n2, (n3, n4, n5, n6), n7, n8, nl) = er at M9 hbad
              have e5 : List.take nl.length (List.drop 0 nl) = nl := by rw [List.drop_zero, List.take_length]
              refine CallN.frz 3 ?_ M9.callable
              (conv => whnf)
              refine CallN.intro M9 [] rfl rfl ?_ ?_ ?_
              · (repeat' (first | exact rfl | exact trivial | refine And.intro ?_ ?_ | ((conv => whnf); first | exact rfl | exact trivial | refine And.intro ?_ ?_))); all_goals (conv => whnf); all_goals (try simp only [])
                all_goals exact e5
              · (repeat' (first | exact rfl | exact trivial | refine And.intro ?_ ?_ | ((conv => whnf); first | exact rfl | exact trivial | refine And.intro ?_ ?_)))
              intro y hy
              clear y hy
              (repeat' ((conv => whnf); first | refine And.intro ?_ ?_ | exact Cl.mk (by kernel_rfl) | exact Ck.mk (by kernel_rfl) | refine DrawN.mk ?_ | refine CodeN.step hm rfl ?_ | exact trivial | exact rfl | (intro hh; try simp only [decide_eq_true_eq, decide_eq_false_iff_not, beq_iff_eq, beq_eq_false_iff_ne, bne_iff_ne, bne_eq_false_iff_eq, Bool.not_eq_true', Bool.not_eq_false', Bool.not_true, Bool.not_false] at hh; try exact absurd hh (by decide)))); all_goals (conv => whnf)
              all_goals first
                | (exfalso; exact hbad (by assumption) (by assumption); done)
                | ((refine RetN.intro () [] rfl rfl ?_ ?_ ?_; ((repeat' (first | exact rfl | exact trivial | refine And.intro ?_ ?_ | ((conv => whnf); first | exact rfl | exact trivial | refine And.intro ?_ ?_)))); ((repeat' (first | exact rfl | exact trivial | refine And.intro ?_ ?_ | ((conv => whnf); first | exact rfl | exact trivial | refine And.intro ?_ ?_))); all_goals (conv => whnf); all_goals (try simp only [])))
                   done)
                | skip
end Go.Proofs.Ytoipgandilhdeaa.An
set_option linter.unusedVariables false
set_option linter.unusedSimpArgs false
namespace Go.Proofs.Ytoipgandilhdeaa.An
open Go Go.RowKit Fw Nu
theorem rnv_at {s rest : Bytes} {t n : Int} {w : Nat} (hw : w ≤ 8) (h0 : 0 ≤ t ∧ t ≤ s.length) (hf : fitsB n w = true) (h : from_ s t = wide (IntKind.u64.wrap n) w ++ rest) :
    ∃ t', rnv s t w = (n, t') ∧ from_ s t' = rest ∧ 0 ≤ t' ∧ t' ≤ s.length := by
  obtain ⟨h1, h2, h3⟩ := rnv_put hw h0 hf h
  exact ⟨_, h1, h2, by omega, h3⟩
theorem text_at {s rest k : Bytes} {t : Int} (h0 : 0 ≤ t ∧ t ≤ s.length) (hk : (put k).2 = true) (h : from_ s t = (put k).1 ++ rest) :
    ∃ t', text s t = (k, t', 0) ∧ from_ s t' = rest ∧ 0 ≤ t' ∧ t' ≤ s.length := by
  obtain ⟨h1, h2, h3⟩ := text_put h0 hk h
  exact ⟨_, h1, h2, by omega, h3⟩
theorem told_drop {l : List Told} {i : Nat} (h : i < l.length) : ∃ x, l[i]? = some x ∧ x ∈ l ∧ l.take (i + 1) = l.take i ++ [x] ∧ toldsB (l.drop i) = wide (IntKind.u64.wrap x.1) 1 ++ (wide (IntKind.u64.wrap (if x.2.1 then 1 else 0)) 1 ++ (wide (IntKind.u64.wrap x.2.2.1) 4 ++ (wide (IntKind.u64.wrap x.2.2.2.1) 6 ++ (wide (IntKind.u64.wrap x.2.2.2.2) 6 ++ toldsB (l.drop (i + 1)))))) := by
  refine ⟨l[i], List.getElem?_eq_getElem h, List.getElem_mem h, ?_, ?_⟩
  · rw [List.take_add_one, List.getElem?_eq_getElem h]; rfl
  · rw [List.drop_eq_getElem_cons h]
    generalize l[i] = x
    generalize l.drop (i + 1) = r
    simp [toldsB, toldNums, wides]
theorem name_drop {l : List Name} {i : Nat} (h : i < l.length) : ∃ x, l[i]? = some x ∧ x ∈ l ∧ l.take (i + 1) = l.take i ++ [x] ∧ namesB (l.drop i) = wide (IntKind.u64.wrap x.1) 1 ++ ((put x.2).1 ++ namesB (l.drop (i + 1))) := by
  refine ⟨l[i], List.getElem?_eq_getElem h, List.getElem_mem h, ?_, ?_⟩
  · rw [List.take_add_one, List.getElem?_eq_getElem h]; rfl
  · rw [List.drop_eq_getElem_cons h]
    generalize l[i] = x
    generalize l.drop (i + 1) = r
    simp [namesB, wides]
theorem told_same (x : Told) : (x.1, (if x.2.1 then (1 : Int) else 0) == 1, x.2.2.1, x.2.2.2.1, x.2.2.2.2) = x := by
  obtain ⟨a, b, c, d, e⟩ := x
  cases b <;> rfl
theorem told_fits {x : Told} (h : bads (toldNums x) = false) : fitsB x.1 1 = true ∧ fitsB (if x.2.1 then 1 else 0) 1 = true ∧ fitsB x.2.2.1 4 = true ∧ fitsB x.2.2.2.1 6 = true ∧ fitsB x.2.2.2.2 6 = true := by
  simp only [toldNums, bads_cons, bads_nil, Bool.or_eq_false_iff, Bool.not_eq_false'] at h
  exact ⟨h.1, h.2.1, h.2.2.1, h.2.2.2.1, h.2.2.2.2.1⟩
set_option maxRecDepth 4000 in
set_option maxHeartbeats 1000000 in
theorem rdecS (s : Bytes) (hs : s.length ≤ 1000000) (a : Ans) (ha : wrongA a = false) (he : encA a = s) (h5 : s.length ≤ 512) : Meets Try.prog 20 [.str fun _ => s] [] (Y := Unit) (fun _ => True) (fun _ => .tup [ansAV a, .int .i64 fun _ => 0]) (fun _ => []) := by
  obtain ⟨k, c, told, v, ⟨p1, p2, p3, p4⟩, nw, cn, names⟩ := a
  have hsh : Sh (k, c, told, v, (p1, p2, p3, p4), nw, cn, names) := by
    rcases dec_cases s with h | ⟨o, h, _, _, _, h2⟩
    · exfalso
      unfold decR at h
      rw [← he, dec_put ha (by rw [he]; exact h5)] at h
      cases h
    · unfold decR at h
      rw [← he, dec_put ha (by rw [he]; exact h5)] at h
      cases h
      exact h2
  have M9 := rencodeM (k, c, told, v, (p1, p2, p3, p4), nw, cn, names) hsh
  have hen : encR (k, c, told, v, (p1, p2, p3, p4), nw, cn, names) = (s, 0) := by
    unfold encR; rw [ha, he, if_neg (by simp), if_neg (by omega)]
  rw [hen] at M9
  obtain ⟨w1, w2, w4, w5, w7⟩ := wrong_no ha
  simp only [ansNums, bads_cons, Bool.or_eq_false_iff, Bool.not_eq_false', bads_nil] at w1 w2 w4 w5 w7
  obtain ⟨g0, g1, g2, g3, g4, g5, g6, g7, g8, _⟩ := w1
  have w4 : ∀ x ∈ told, bads (toldNums x) = false := fun x hx => by simpa using List.any_eq_false.1 w4 x hx
  have w7 : ∀ x ∈ names, fitsB x.1 1 = true ∧ (put x.2).2 = true := fun x hx => by
    have := List.any_eq_false.1 w7 x hx
    simp only [Bool.or_eq_true, not_or, Bool.not_eq_true, bads_book, Bool.not_eq_false'] at this
    exact this
  have fm := fits_one (n := (told.length : Int)) (by omega)
  have fn := fits_one (n := (names.length : Int)) (by omega)
  have f : from_ s 0 = wide (IntKind.u64.wrap k) 1 ++ (wide (IntKind.u64.wrap c) 1 ++ (wide (IntKind.u64.wrap v) 4 ++ (wide (IntKind.u64.wrap p1) 1 ++ (wide (IntKind.u64.wrap p2) 4 ++ (wide (IntKind.u64.wrap p3) 4 ++ (wide (IntKind.u64.wrap p4) 1 ++ (wide (IntKind.u64.wrap nw) 6 ++ (wide (IntKind.u64.wrap cn) 2 ++ (wide (IntKind.u64.wrap (told.length : Int)) 1 ++ (toldsB (told.drop 0) ++ (wide (IntKind.u64.wrap (names.length : Int)) 1 ++ namesB (names.drop 0)))))))))))) := by
    show s = _
    rw [← he]; simp [encA, ansNums, wides]
  clear ha he hen
  refine Meets.intro hm (fn := Try.f20) Try.func20 rfl (by decide) (Nat.le_of_ble_eq_true rfl) (fun _ => rfl) ?_; intro S hok; (conv => whnf)
  (repeat' ((conv => whnf); first | refine And.intro ?_ ?_ | exact Cl.mk (by kernel_rfl) | exact Ck.mk (by kernel_rfl) | refine DrawN.mk ?_ | refine CodeN.step hm rfl ?_ | exact trivial | exact rfl | (intro hh; try simp only [decide_eq_true_eq, decide_eq_false_iff_not, beq_iff_eq, beq_eq_false_iff_ne, bne_iff_ne, bne_eq_false_iff_eq, Bool.not_eq_true', Bool.not_eq_false', Bool.not_true, Bool.not_false] at hh))); all_goals (conv => whnf)
  obtain ⟨t0, e, f, l0⟩ := rnv_at (n := k) (w := 1) (by omega) (by omega) (g0) f
  (refine CallN.intro (rnM s 0 1 (by omega) hs) [1] rfl rfl ?_ ?_ ?_; ((repeat' (first | exact rfl | exact trivial | refine And.intro ?_ ?_ | ((conv => whnf); first | exact rfl | exact trivial | refine And.intro ?_ ?_)))); ((repeat' (first | exact rfl | exact trivial | refine And.intro ?_ ?_ | ((conv => whnf); first | exact rfl | exact trivial | refine And.intro ?_ ?_)))); (intro y hy; clear y hy; (repeat' ((conv => whnf); first | refine And.intro ?_ ?_ | exact Cl.mk (by kernel_rfl) | exact Ck.mk (by kernel_rfl) | refine DrawN.mk ?_ | refine CodeN.step hm rfl ?_ | exact trivial | exact rfl | (intro hh; try simp only [decide_eq_true_eq, decide_eq_false_iff_not, beq_iff_eq, beq_eq_false_iff_ne, bne_iff_ne, bne_eq_false_iff_eq, Bool.not_eq_true', Bool.not_eq_false', Bool.not_true, Bool.not_false] at hh; try exact absurd hh (by decide)))); all_goals (conv => whnf); (all_goals first | (exact Ob.mk (by decide)) | skip)))
  simp only [e]
  clear e
  obtain ⟨t1, e, f, l1⟩ := rnv_at (n := c) (w := 1) (by omega) (by omega) (g1) f
  (refine CallN.intro (rnM s t0 1 (by omega) hs) [1] rfl rfl ?_ ?_ ?_; ((repeat' (first | exact rfl | exact trivial | refine And.intro ?_ ?_ | ((conv => whnf); first | exact rfl | exact trivial | refine And.intro ?_ ?_)))); ((repeat' (first | exact rfl | exact trivial | refine And.intro ?_ ?_ | ((conv => whnf); first | exact rfl | exact trivial | refine And.intro ?_ ?_)))); (intro y hy; clear y hy; (repeat' ((conv => whnf); first | refine And.intro ?_ ?_ | exact Cl.mk (by kernel_rfl) | exact Ck.mk (by kernel_rfl) | refine DrawN.mk ?_ | refine CodeN.step hm rfl ?_ | exact trivial | exact rfl | (intro hh; try simp only [decide_eq_true_eq, decide_eq_false_iff_not, beq_iff_eq, beq_eq_false_iff_ne, bne_iff_ne, bne_eq_false_iff_eq, Bool.not_eq_true', Bool.not_eq_false', Bool.not_true, Bool.not_false] at hh; try exact absurd hh (by decide)))); all_goals (conv => whnf); (all_goals first | (exact Ob.mk (by decide)) | skip)))
  simp only [e]
  clear e
  obtain ⟨t2, e, f, l2⟩ := rnv_at (n := v) (w := 4) (by omega) (by omega) (g2) f
  (refine CallN.intro (rnM s t1 4 (by omega) hs) [1] rfl rfl ?_ ?_ ?_; ((repeat' (first | exact rfl | exact trivial | refine And.intro ?_ ?_ | ((conv => whnf); first | exact rfl | exact trivial | refine And.intro ?_ ?_)))); ((repeat' (first | exact rfl | exact trivial | refine And.intro ?_ ?_ | ((conv => whnf); first | exact rfl | exact trivial | refine And.intro ?_ ?_)))); (intro y hy; clear y hy; (repeat' ((conv => whnf); first | refine And.intro ?_ ?_ | exact Cl.mk (by kernel_rfl) | exact Ck.mk (by kernel_rfl) | refine DrawN.mk ?_ | refine CodeN.step hm rfl ?_ | exact trivial | exact rfl | (intro hh; try simp only [decide_eq_true_eq, decide_eq_false_iff_not, beq_iff_eq, beq_eq_false_iff_ne, bne_iff_ne, bne_eq_false_iff_eq, Bool.not_eq_true', Bool.not_eq_false', Bool.not_true, Bool.not_false] at hh; try exact absurd hh (by decide)))); all_goals (conv => whnf); (all_goals first | (exact Ob.mk (by decide)) | skip)))
  simp only [e]
  clear e
  obtain ⟨t3, e, f, l3⟩ := rnv_at (n := p1) (w := 1) (by omega) (by omega) (g3) f
  (refine CallN.intro (rnM s t2 1 (by omega) hs) [1] rfl rfl ?_ ?_ ?_; ((repeat' (first | exact rfl | exact trivial | refine And.intro ?_ ?_ | ((conv => whnf); first | exact rfl | exact trivial | refine And.intro ?_ ?_)))); ((repeat' (first | exact rfl | exact trivial | refine And.intro ?_ ?_ | ((conv => whnf); first | exact rfl | exact trivial | refine And.intro ?_ ?_)))); (intro y hy; clear y hy; (repeat' ((conv => whnf); first | refine And.intro ?_ ?_ | exact Cl.mk (by kernel_rfl) | exact Ck.mk (by kernel_rfl) | refine DrawN.mk ?_ | refine CodeN.step hm rfl ?_ | exact trivial | exact rfl | (intro hh; try simp only [decide_eq_true_eq, decide_eq_false_iff_not, beq_iff_eq, beq_eq_false_iff_ne, bne_iff_ne, bne_eq_false_iff_eq, Bool.not_eq_true', Bool.not_eq_false', Bool.not_true, Bool.not_false] at hh; try exact absurd hh (by decide)))); all_goals (conv => whnf); (all_goals first | (exact Ob.mk (by decide)) | skip)))
  simp only [e]
  clear e
  obtain ⟨t4, e, f, l4⟩ := rnv_at (n := p2) (w := 4) (by omega) (by omega) (g4) f
  (refine CallN.intro (rnM s t3 4 (by omega) hs) [1] rfl rfl ?_ ?_ ?_; ((repeat' (first | exact rfl | exact trivial | refine And.intro ?_ ?_ | ((conv => whnf); first | exact rfl | exact trivial | refine And.intro ?_ ?_)))); ((repeat' (first | exact rfl | exact trivial | refine And.intro ?_ ?_ | ((conv => whnf); first | exact rfl | exact trivial | refine And.intro ?_ ?_)))); (intro y hy; clear y hy; (repeat' ((conv => whnf); first | refine And.intro ?_ ?_ | exact Cl.mk (by kernel_rfl) | exact Ck.mk (by kernel_rfl) | refine DrawN.mk ?_ | refine CodeN.step hm rfl ?_ | exact trivial | exact rfl | (intro hh; try simp only [decide_eq_true_eq, decide_eq_false_iff_not, beq_iff_eq, beq_eq_false_iff_ne, bne_iff_ne, bne_eq_false_iff_eq, Bool.not_eq_true', Bool.not_eq_false', Bool.not_true, Bool.not_false] at hh; try exact absurd hh (by decide)))); all_goals (conv => whnf); (all_goals first | (exact Ob.mk (by decide)) | skip)))
  simp only [e]
  clear e
  obtain ⟨t5, e, f, l5⟩ := rnv_at (n := p3) (w := 4) (by omega) (by omega) (g5) f
  (refine CallN.intro (rnM s t4 4 (by omega) hs) [1] rfl rfl ?_ ?_ ?_; ((repeat' (first | exact rfl | exact trivial | refine And.intro ?_ ?_ | ((conv => whnf); first | exact rfl | exact trivial | refine And.intro ?_ ?_)))); ((repeat' (first | exact rfl | exact trivial | refine And.intro ?_ ?_ | ((conv => whnf); first | exact rfl | exact trivial | refine And.intro ?_ ?_)))); (intro y hy; clear y hy; (repeat' ((conv => whnf); first | refine And.intro ?_ ?_ | exact Cl.mk (by kernel_rfl) | exact Ck.mk (by kernel_rfl) | refine DrawN.mk ?_ | refine CodeN.step hm rfl ?_ | exact trivial | exact rfl | (intro hh; try simp only [decide_eq_true_eq, decide_eq_false_iff_not, beq_iff_eq, beq_eq_false_iff_ne, bne_iff_ne, bne_eq_false_iff_eq, Bool.not_eq_true', Bool.not_eq_false', Bool.not_true, Bool.not_false] at hh; try exact absurd hh (by decide)))); all_goals (conv => whnf); (all_goals first | (exact Ob.mk (by decide)) | skip)))
  simp only [e]
  clear e
  obtain ⟨t6, e, f, l6⟩ := rnv_at (n := p4) (w := 1) (by omega) (by omega) (g6) f
  (refine CallN.intro (rnM s t5 1 (by omega) hs) [1] rfl rfl ?_ ?_ ?_; ((repeat' (first | exact rfl | exact trivial | refine And.intro ?_ ?_ | ((conv => whnf); first | exact rfl | exact trivial | refine And.intro ?_ ?_)))); ((repeat' (first | exact rfl | exact trivial | refine And.intro ?_ ?_ | ((conv => whnf); first | exact rfl | exact trivial | refine And.intro ?_ ?_)))); (intro y hy; clear y hy; (repeat' ((conv => whnf); first | refine And.intro ?_ ?_ | exact Cl.mk (by kernel_rfl) | exact Ck.mk (by kernel_rfl) | refine DrawN.mk ?_ | refine CodeN.step hm rfl ?_ | exact trivial | exact rfl | (intro hh; try simp only [decide_eq_true_eq, decide_eq_false_iff_not, beq_iff_eq, beq_eq_false_iff_ne, bne_iff_ne, bne_eq_false_iff_eq, Bool.not_eq_true', Bool.not_eq_false', Bool.not_true, Bool.not_false] at hh; try exact absurd hh (by decide)))); all_goals (conv => whnf); (all_goals first | (exact Ob.mk (by decide)) | skip)))
  simp only [e]
  clear e
  obtain ⟨t7, e, f, l7⟩ := rnv_at (n := nw) (w := 6) (by omega) (by omega) (g7) f
  (refine CallN.intro (rnM s t6 6 (by omega) hs) [1] rfl rfl ?_ ?_ ?_; ((repeat' (first | exact rfl | exact trivial | refine And.intro ?_ ?_ | ((conv => whnf); first | exact rfl | exact trivial | refine And.intro ?_ ?_)))); ((repeat' (first | exact rfl | exact trivial | refine And.intro ?_ ?_ | ((conv => whnf); first | exact rfl | exact trivial | refine And.intro ?_ ?_)))); (intro y hy; clear y hy; (repeat' ((conv => whnf); first | refine And.intro ?_ ?_ | exact Cl.mk (by kernel_rfl) | exact Ck.mk (by kernel_rfl) | refine DrawN.mk ?_ | refine CodeN.step hm rfl ?_ | exact trivial | exact rfl | (intro hh; try simp only [decide_eq_true_eq, decide_eq_false_iff_not, beq_iff_eq, beq_eq_false_iff_ne, bne_iff_ne, bne_eq_false_iff_eq, Bool.not_eq_true', Bool.not_eq_false', Bool.not_true, Bool.not_false] at hh; try exact absurd hh (by decide)))); all_goals (conv => whnf); (all_goals first | (exact Ob.mk (by decide)) | skip)))
  simp only [e]
  clear e
  obtain ⟨t8, e, f, l8⟩ := rnv_at (n := cn) (w := 2) (by omega) (by omega) (g8) f
  (refine CallN.intro (rnM s t7 2 (by omega) hs) [1] rfl rfl ?_ ?_ ?_; ((repeat' (first | exact rfl | exact trivial | refine And.intro ?_ ?_ | ((conv => whnf); first | exact rfl | exact trivial | refine And.intro ?_ ?_)))); ((repeat' (first | exact rfl | exact trivial | refine And.intro ?_ ?_ | ((conv => whnf); first | exact rfl | exact trivial | refine And.intro ?_ ?_)))); (intro y hy; clear y hy; (repeat' ((conv => whnf); first | refine And.intro ?_ ?_ | exact Cl.mk (by kernel_rfl) | exact Ck.mk (by kernel_rfl) | refine DrawN.mk ?_ | refine CodeN.step hm rfl ?_ | exact trivial | exact rfl | (intro hh; try simp only [decide_eq_true_eq, decide_eq_false_iff_not, beq_iff_eq, beq_eq_false_iff_ne, bne_iff_ne, bne_eq_false_iff_eq, Bool.not_eq_true', Bool.not_eq_false', Bool.not_true, Bool.not_false] at hh; try exact absurd hh (by decide)))); all_goals (conv => whnf); (all_goals first | (exact Ob.mk (by decide)) | skip)))
  simp only [e]
  clear e
  obtain ⟨t9, e, f, l9⟩ := rnv_at (n := (told.length : Int)) (w := 1) (by omega) (by omega) (fm) f
  (refine CallN.intro (rnM s t8 1 (by omega) hs) [1] rfl rfl ?_ ?_ ?_; ((repeat' (first | exact rfl | exact trivial | refine And.intro ?_ ?_ | ((conv => whnf); first | exact rfl | exact trivial | refine And.intro ?_ ?_)))); ((repeat' (first | exact rfl | exact trivial | refine And.intro ?_ ?_ | ((conv => whnf); first | exact rfl | exact trivial | refine And.intro ?_ ?_)))); (intro y hy; clear y hy; (repeat' ((conv => whnf); first | refine And.intro ?_ ?_ | exact Cl.mk (by kernel_rfl) | exact Ck.mk (by kernel_rfl) | refine DrawN.mk ?_ | refine CodeN.step hm rfl ?_ | exact trivial | exact rfl | (intro hh; try simp only [decide_eq_true_eq, decide_eq_false_iff_not, beq_iff_eq, beq_eq_false_iff_ne, bne_iff_ne, bne_eq_false_iff_eq, Bool.not_eq_true', Bool.not_eq_false', Bool.not_true, Bool.not_false] at hh; try exact absurd hh (by decide)))); all_goals (conv => whnf); (all_goals first | (exact Ob.mk (by decide)) | skip)))
  simp only [e]
  clear e
  have eb : (Try.t53.bytes : Nat) = 40 := rfl
  have en : (Try.t39.bytes : Nat) = 24 := rfl
  refine LoopN.intro hm (X := (Nat × Int) × List Told × Bool) (fun x => x.1.1 ≤ told.length ∧ x.2.1 = told.take x.1.1 ∧ (x.2.2 = false → x.1.1 = 0) ∧ 0 ≤ x.1.2 ∧ x.1.2 ≤ s.length ∧ from_ s x.1.2 = toldsB (told.drop x.1.1) ++ (wide (IntKind.u64.wrap (names.length : Int)) 1 ++ namesB (names.drop 0))) (fun x => told.length - x.1.1)
    (fun x => [(7, .int .i64 fun _ => (x.1.1 : Int)), (6, .int .i64 fun _ => (told.length : Int)), (5, .ptr 2 0), (4, .ptr 1 0), (3, .int .i64 fun _ => 0), (2, .ptr 0 0), (0, .str fun _ => s)])
    (fun x => [ans0C, rrC s x.1.2, .cells 28 [.int .i64 fun _ => k, .int .i64 fun _ => c, (match x.2.2 with | true => .vec 3 5 (fun _ => 0) (fun _ => x.2.1.length) | false => .snil), .int .i64 fun _ => v, .int .i64 fun _ => p1, .int .i64 fun _ => p2, .int .i64 fun _ => p3, .int .i64 fun _ => p4, .int .i64 fun _ => nw, .int .i64 fun _ => cn, .snil]] ++ (match x.2.2 with | true => [.vect 53 ToldT fun _ => x.2.1] | false => []))
    ((0, t9), [], false) [0, 1, 2] ⟨rfl, rfl, ?_, ?_⟩ ⟨Nat.zero_le _, rfl, fun _ => rfl, l9.1, l9.2, f⟩ (fun x hx => ?_)
  · (repeat' (first | exact rfl | exact trivial | refine And.intro ?_ ?_ | ((conv => whnf); first | exact rfl | exact trivial | refine And.intro ?_ ?_)))
  · (repeat' (first | exact rfl | exact trivial | refine And.intro ?_ ?_ | ((conv => whnf); first | exact rfl | exact trivial | refine And.intro ?_ ?_)))
  clear f
  obtain ⟨⟨i, t⟩, l, b⟩ := x
  obtain ⟨hi, hll, hcl, ht0, ht1, f⟩ := hx
  simp only [] at hi hll hcl ht0 ht1 f
  have hlen : l.length = i := by rw [hll, List.length_take]; omega
  cases b
  · skip
    have hi0 := hcl rfl
    subst hi0
    have hl0 : l = [] := List.length_eq_zero_iff.1 hlen
    subst hl0
    (repeat' ((conv => whnf); first | refine And.intro ?_ ?_ | exact Cl.mk (by kernel_rfl) | exact Ck.mk (by kernel_rfl) | refine DrawN.mk ?_ | refine CodeN.step hm rfl ?_ | exact trivial | exact rfl | (intro hh; try simp only [decide_eq_true_eq, decide_eq_false_iff_not, beq_iff_eq, beq_eq_false_iff_ne, bne_iff_ne, bne_eq_false_iff_eq, Bool.not_eq_true', Bool.not_eq_false', Bool.not_true, Bool.not_false] at hh))); all_goals (conv => whnf)
    · skip
      obtain ⟨x, x1, x2, x3, x4⟩ := told_drop (l := told) (i := 0) (Int.ofNat_lt.1 (by assumption))
      rw [x4] at f
      simp only [List.append_assoc] at f
      obtain ⟨z1, z2, z3, z4, z5⟩ := told_fits (w4 x x2)
      obtain ⟨ta, e, f, la⟩ := rnv_at (n := x.1) (w := 1) (by omega) (by omega) (z1) f
      (refine CallN.intro (rnM s t 1 (by omega) hs) [1] rfl rfl ?_ ?_ ?_; ((repeat' (first | exact rfl | exact trivial | refine And.intro ?_ ?_ | ((conv => whnf); first | exact rfl | exact trivial | refine And.intro ?_ ?_)))); ((repeat' (first | exact rfl | exact trivial | refine And.intro ?_ ?_ | ((conv => whnf); first | exact rfl | exact trivial | refine And.intro ?_ ?_)))); (intro y hy; clear y hy; (repeat' ((conv => whnf); first | refine And.intro ?_ ?_ | exact Cl.mk (by kernel_rfl) | exact Ck.mk (by kernel_rfl) | refine DrawN.mk ?_ | refine CodeN.step hm rfl ?_ | exact trivial | exact rfl | (intro hh; try simp only [decide_eq_true_eq, decide_eq_false_iff_not, beq_iff_eq, beq_eq_false_iff_ne, bne_iff_ne, bne_eq_false_iff_eq, Bool.not_eq_true', Bool.not_eq_false', Bool.not_true, Bool.not_false] at hh; try exact absurd hh (by decide)))); all_goals (conv => whnf); (all_goals first | (exact Ob.mk (by decide)) | skip)))
      simp only [e]
      clear e
      obtain ⟨tb, e, f, lb⟩ := rnv_at (n := (if x.2.1 then 1 else 0)) (w := 1) (by omega) (by omega) (z2) f
      (refine CallN.intro (rnM s ta 1 (by omega) hs) [1] rfl rfl ?_ ?_ ?_; ((repeat' (first | exact rfl | exact trivial | refine And.intro ?_ ?_ | ((conv => whnf); first | exact rfl | exact trivial | refine And.intro ?_ ?_)))); ((repeat' (first | exact rfl | exact trivial | refine And.intro ?_ ?_ | ((conv => whnf); first | exact rfl | exact trivial | refine And.intro ?_ ?_)))); (intro y hy; clear y hy; (repeat' ((conv => whnf); first | refine And.intro ?_ ?_ | exact Cl.mk (by kernel_rfl) | exact Ck.mk (by kernel_rfl) | refine DrawN.mk ?_ | refine CodeN.step hm rfl ?_ | exact trivial | exact rfl | (intro hh; try simp only [decide_eq_true_eq, decide_eq_false_iff_not, beq_iff_eq, beq_eq_false_iff_ne, bne_iff_ne, bne_eq_false_iff_eq, Bool.not_eq_true', Bool.not_eq_false', Bool.not_true, Bool.not_false] at hh; try exact absurd hh (by decide)))); all_goals (conv => whnf); (all_goals first | (exact Ob.mk (by decide)) | skip)))
      simp only [e]
      clear e
      obtain ⟨tc, e, f, lc⟩ := rnv_at (n := x.2.2.1) (w := 4) (by omega) (by omega) (z3) f
      (refine CallN.intro (rnM s tb 4 (by omega) hs) [1] rfl rfl ?_ ?_ ?_; ((repeat' (first | exact rfl | exact trivial | refine And.intro ?_ ?_ | ((conv => whnf); first | exact rfl | exact trivial | refine And.intro ?_ ?_)))); ((repeat' (first | exact rfl | exact trivial | refine And.intro ?_ ?_ | ((conv => whnf); first | exact rfl | exact trivial | refine And.intro ?_ ?_)))); (intro y hy; clear y hy; (repeat' ((conv => whnf); first | refine And.intro ?_ ?_ | exact Cl.mk (by kernel_rfl) | exact Ck.mk (by kernel_rfl) | refine DrawN.mk ?_ | refine CodeN.step hm rfl ?_ | exact trivial | exact rfl | (intro hh; try simp only [decide_eq_true_eq, decide_eq_false_iff_not, beq_iff_eq, beq_eq_false_iff_ne, bne_iff_ne, bne_eq_false_iff_eq, Bool.not_eq_true', Bool.not_eq_false', Bool.not_true, Bool.not_false] at hh; try exact absurd hh (by decide)))); all_goals (conv => whnf); (all_goals first | (exact Ob.mk (by decide)) | skip)))
      simp only [e]
      clear e
      obtain ⟨td, e, f, ld⟩ := rnv_at (n := x.2.2.2.1) (w := 6) (by omega) (by omega) (z4) f
      (refine CallN.intro (rnM s tc 6 (by omega) hs) [1] rfl rfl ?_ ?_ ?_; ((repeat' (first | exact rfl | exact trivial | refine And.intro ?_ ?_ | ((conv => whnf); first | exact rfl | exact trivial | refine And.intro ?_ ?_)))); ((repeat' (first | exact rfl | exact trivial | refine And.intro ?_ ?_ | ((conv => whnf); first | exact rfl | exact trivial | refine And.intro ?_ ?_)))); (intro y hy; clear y hy; (repeat' ((conv => whnf); first | refine And.intro ?_ ?_ | exact Cl.mk (by kernel_rfl) | exact Ck.mk (by kernel_rfl) | refine DrawN.mk ?_ | refine CodeN.step hm rfl ?_ | exact trivial | exact rfl | (intro hh; try simp only [decide_eq_true_eq, decide_eq_false_iff_not, beq_iff_eq, beq_eq_false_iff_ne, bne_iff_ne, bne_eq_false_iff_eq, Bool.not_eq_true', Bool.not_eq_false', Bool.not_true, Bool.not_false] at hh; try exact absurd hh (by decide)))); all_goals (conv => whnf); (all_goals first | (exact Ob.mk (by decide)) | skip)))
      simp only [e]
      clear e
      obtain ⟨te, e, f, le⟩ := rnv_at (n := x.2.2.2.2) (w := 6) (by omega) (by omega) (z5) f
      (refine CallN.intro (rnM s td 6 (by omega) hs) [1] rfl rfl ?_ ?_ ?_; ((repeat' (first | exact rfl | exact trivial | refine And.intro ?_ ?_ | ((conv => whnf); first | exact rfl | exact trivial | refine And.intro ?_ ?_)))); ((repeat' (first | exact rfl | exact trivial | refine And.intro ?_ ?_ | ((conv => whnf); first | exact rfl | exact trivial | refine And.intro ?_ ?_)))); (intro y hy; clear y hy; (repeat' ((conv => whnf); first | refine And.intro ?_ ?_ | exact Cl.mk (by kernel_rfl) | exact Ck.mk (by kernel_rfl) | refine DrawN.mk ?_ | refine CodeN.step hm rfl ?_ | exact trivial | exact rfl | (intro hh; try simp only [decide_eq_true_eq, decide_eq_false_iff_not, beq_iff_eq, beq_eq_false_iff_ne, bne_iff_ne, bne_eq_false_iff_eq, Bool.not_eq_true', Bool.not_eq_false', Bool.not_true, Bool.not_false] at hh; try exact absurd hh (by decide)))); all_goals (conv => whnf); (all_goals first | (exact Ob.mk (by decide)) | skip)))
      all_goals simp only [e]
      clear e
      · exact Ob.mk (by rw [eb]; simp)
      · have ex := told_same x
        refine ⟨((0 + 1, te), [x], true), [0, 1, 2, 5], ⟨rfl, rfl, ?_, ?_⟩, ⟨Int.ofNat_lt.1 (by assumption), x3.symm, fun h => (by cases h), le.1, le.2, f⟩, by have := Int.ofNat_lt.1 (show ((0 : Nat) : Int) < told.length by assumption); simp only []; omega⟩
        · (repeat' (first | exact rfl | exact trivial | refine And.intro ?_ ?_ | ((conv => whnf); first | exact rfl | exact trivial | refine And.intro ?_ ?_))); all_goals (conv => whnf); all_goals (try simp only [])
          all_goals (try rw [ex])
          all_goals first | (rw [List.take_length]; rfl) | (simp; done) | skip
        · (repeat' (first | exact rfl | exact trivial | refine And.intro ?_ ?_ | ((conv => whnf); first | exact rfl | exact trivial | refine And.intro ?_ ?_))); all_goals (conv => whnf); all_goals (try simp only [])
          all_goals (try rw [ex])
          all_goals first | (exact wr2 0 (n := told.length) (Int.ofNat_lt.1 (by assumption)) (by omega)) | (rw [List.take_length]; rfl) | (simp; done) | skip
    all_goals first | (exfalso; omega) | skip
    have him : 0 = told.length := by omega
    have htt : told = [] := List.length_eq_zero_iff.1 him.symm
    subst htt
    rw [show (0 : Nat) = ([] : List Told).length from rfl, List.drop_length] at f
    have f : from_ s t = wide (IntKind.u64.wrap (names.length : Int)) 1 ++ namesB (names.drop 0) := f
    obtain ⟨tA, e, f, lA⟩ := rnv_at (n := (names.length : Int)) (w := 1) (by omega) (by omega) (fn) f
    (refine CallN.intro (rnM s t 1 (by omega) hs) [1] rfl rfl ?_ ?_ ?_; ((repeat' (first | exact rfl | exact trivial | refine And.intro ?_ ?_ | ((conv => whnf); first | exact rfl | exact trivial | refine And.intro ?_ ?_)))); ((repeat' (first | exact rfl | exact trivial | refine And.intro ?_ ?_ | ((conv => whnf); first | exact rfl | exact trivial | refine And.intro ?_ ?_)))); (intro y hy; clear y hy; (repeat' ((conv => whnf); first | refine And.intro ?_ ?_ | exact Cl.mk (by kernel_rfl) | exact Ck.mk (by kernel_rfl) | refine DrawN.mk ?_ | refine CodeN.step hm rfl ?_ | exact trivial | exact rfl | (intro hh; try simp only [decide_eq_true_eq, decide_eq_false_iff_not, beq_iff_eq, beq_eq_false_iff_ne, bne_iff_ne, bne_eq_false_iff_eq, Bool.not_eq_true', Bool.not_eq_false', Bool.not_true, Bool.not_false] at hh; try exact absurd hh (by decide)))); all_goals (conv => whnf); (all_goals first | (exact Ob.mk (by decide)) | skip)))
    simp only [e]
    clear e
    refine LoopN.intro hm (X := (Nat × Int) × List Name × Bool) (fun x => x.1.1 ≤ names.length ∧ x.2.1 = names.take x.1.1 ∧ (x.2.2 = false → x.1.1 = 0) ∧ 0 ≤ x.1.2 ∧ x.1.2 ≤ s.length ∧ from_ s x.1.2 = namesB (names.drop x.1.1)) (fun x => names.length - x.1.1)
      (fun x => [(9, .int .i64 fun _ => (x.1.1 : Int)), (6, .int .i64 fun _ => (names.length : Int)), (5, .ptr 2 0), (4, .ptr 1 0), (3, .int .i64 fun _ => 0), (2, .ptr 0 0), (0, .str fun _ => s)])
      (fun x => [ans0C, rrC s x.1.2, .cells 28 [.int .i64 fun _ => k, .int .i64 fun _ => c, .lst ToldT fun _ => ([] : List Told), .int .i64 fun _ => v, .int .i64 fun _ => p1, .int .i64 fun _ => p2, .int .i64 fun _ => p3, .int .i64 fun _ => p4, .int .i64 fun _ => nw, .int .i64 fun _ => cn, (match x.2.2 with | true => .vec 3 2 (fun _ => 0) (fun _ => x.2.1.length) | false => .snil)]] ++ (match x.2.2 with | true => [.vect 39 NameT fun _ => x.2.1] | false => []))
      ((0, tA), [], false) [0, 1, 2] ⟨rfl, rfl, ?_, ?_⟩ ⟨Nat.zero_le _, rfl, fun _ => rfl, lA.1, lA.2, f⟩ (fun x hx => ?_)
    · (repeat' (first | exact rfl | exact trivial | refine And.intro ?_ ?_ | ((conv => whnf); first | exact rfl | exact trivial | refine And.intro ?_ ?_))); all_goals (conv => whnf); all_goals (try simp only [])
      all_goals first | (rw [List.drop_zero, List.take_length]; done) | skip
    · (repeat' (first | exact rfl | exact trivial | refine And.intro ?_ ?_ | ((conv => whnf); first | exact rfl | exact trivial | refine And.intro ?_ ?_))); all_goals (conv => whnf); all_goals (try simp only [])
      all_goals first | (rw [List.drop_zero, List.take_length]; done) | skip
    clear f
    obtain ⟨⟨j, u⟩, nl, b⟩ := x
    obtain ⟨hj, hnll, hcl2, hu0, hu1, f⟩ := hx
    simp only [] at hj hnll hcl2 hu0 hu1 f
    have hnlen : nl.length = j := by rw [hnll, List.length_take]; omega
    cases b
    · skip
      have hj0 := hcl2 rfl
      subst hj0
      have hnl0 : nl = [] := List.length_eq_zero_iff.1 hnlen
      subst hnl0
      (repeat' ((conv => whnf); first | refine And.intro ?_ ?_ | exact Cl.mk (by kernel_rfl) | exact Ck.mk (by kernel_rfl) | refine DrawN.mk ?_ | refine CodeN.step hm rfl ?_ | exact trivial | exact rfl | (intro hh; try simp only [decide_eq_true_eq, decide_eq_false_iff_not, beq_iff_eq, beq_eq_false_iff_ne, bne_iff_ne, bne_eq_false_iff_eq, Bool.not_eq_true', Bool.not_eq_false', Bool.not_true, Bool.not_false] at hh))); all_goals (conv => whnf)
      · skip
        obtain ⟨x, x1, x2, x3, x4⟩ := name_drop (l := names) (i := 0) (Int.ofNat_lt.1 (by assumption))
        rw [x4] at f
        obtain ⟨tB, e, f, lB⟩ := rnv_at (n := x.1) (w := 1) (by omega) (by omega) ((w7 x x2).1) f
        (refine CallN.intro (rnM s u 1 (by omega) hs) [1] rfl rfl ?_ ?_ ?_; ((repeat' (first | exact rfl | exact trivial | refine And.intro ?_ ?_ | ((conv => whnf); first | exact rfl | exact trivial | refine And.intro ?_ ?_)))); ((repeat' (first | exact rfl | exact trivial | refine And.intro ?_ ?_ | ((conv => whnf); first | exact rfl | exact trivial | refine And.intro ?_ ?_)))); (intro y hy; clear y hy; (repeat' ((conv => whnf); first | refine And.intro ?_ ?_ | exact Cl.mk (by kernel_rfl) | exact Ck.mk (by kernel_rfl) | refine DrawN.mk ?_ | refine CodeN.step hm rfl ?_ | exact trivial | exact rfl | (intro hh; try simp only [decide_eq_true_eq, decide_eq_false_iff_not, beq_iff_eq, beq_eq_false_iff_ne, bne_iff_ne, bne_eq_false_iff_eq, Bool.not_eq_true', Bool.not_eq_false', Bool.not_true, Bool.not_false] at hh; try exact absurd hh (by decide)))); all_goals (conv => whnf); (all_goals first | (exact Ob.mk (by decide)) | skip)))
        simp only [e]
        clear e
        obtain ⟨tC, e, f, lC⟩ := text_at (by omega) (w7 x x2).2 f
        (refine CallN.intro (rtextM s tB hs) [] rfl rfl ?_ ?_ ?_; ((repeat' (first | exact rfl | exact trivial | refine And.intro ?_ ?_ | ((conv => whnf); first | exact rfl | exact trivial | refine And.intro ?_ ?_)))); ((repeat' (first | exact rfl | exact trivial | refine And.intro ?_ ?_ | ((conv => whnf); first | exact rfl | exact trivial | refine And.intro ?_ ?_)))); (intro y hy; clear y hy; (repeat' ((conv => whnf); first | refine And.intro ?_ ?_ | exact Cl.mk (by kernel_rfl) | exact Ck.mk (by kernel_rfl) | refine DrawN.mk ?_ | refine CodeN.step hm rfl ?_ | exact trivial | exact rfl | (intro hh; try simp only [decide_eq_true_eq, decide_eq_false_iff_not, beq_iff_eq, beq_eq_false_iff_ne, bne_iff_ne, bne_eq_false_iff_eq, Bool.not_eq_true', Bool.not_eq_false', Bool.not_true, Bool.not_false] at hh; try exact absurd hh (by decide)))); all_goals (conv => whnf); (all_goals first | (exact Ob.mk (by decide)) | skip)))
        all_goals (try simp only [e] at hh ⊢)
        all_goals first | (exfalso; omega) | (exfalso; exact absurd rfl hh) | skip
        · exact Ob.mk (by rw [en]; simp)
        · refine ⟨((0 + 1, tC), [x], true), [0, 1, 2, 5], ⟨rfl, rfl, ?_, ?_⟩, ⟨Int.ofNat_lt.1 (by assumption), x3.symm, fun h => (by cases h), lC.1, lC.2, f⟩, by have := Int.ofNat_lt.1 (show ((0 : Nat) : Int) < names.length by assumption); simp only []; omega⟩
          · (repeat' (first | exact rfl | exact trivial | refine And.intro ?_ ?_ | ((conv => whnf); first | exact rfl | exact trivial | refine And.intro ?_ ?_))); all_goals (conv => whnf); all_goals (try simp only [])
            all_goals first | (rw [List.take_length]; rfl) | (simp; done) | skip
          · (repeat' (first | exact rfl | exact trivial | refine And.intro ?_ ?_ | ((conv => whnf); first | exact rfl | exact trivial | refine And.intro ?_ ?_))); all_goals (conv => whnf); all_goals (try simp only [])
            all_goals exact wr2 0 (n := names.length) (Int.ofNat_lt.1 (by assumption)) (by omega)
      all_goals first | (exfalso; omega) | skip
      have hjm : 0 = names.length := by omega
      have hnn : names = [] := List.length_eq_zero_iff.1 hjm.symm
      subst hnn
      (refine CallN.intro M9 [] rfl rfl ?_ ?_ ?_; ((repeat' (first | exact rfl | exact trivial | refine And.intro ?_ ?_ | ((conv => whnf); first | exact rfl | exact trivial | refine And.intro ?_ ?_)))); ((repeat' (first | exact rfl | exact trivial | refine And.intro ?_ ?_ | ((conv => whnf); first | exact rfl | exact trivial | refine And.intro ?_ ?_)))); (intro y hy; clear y hy; (repeat' ((conv => whnf); first | refine And.intro ?_ ?_ | exact Cl.mk (by kernel_rfl) | exact Ck.mk (by kernel_rfl) | refine DrawN.mk ?_ | refine CodeN.step hm rfl ?_ | exact trivial | exact rfl | (intro hh; try simp only [decide_eq_true_eq, decide_eq_false_iff_not, beq_iff_eq, beq_eq_false_iff_ne, bne_iff_ne, bne_eq_false_iff_eq, Bool.not_eq_true', Bool.not_eq_false', Bool.not_true, Bool.not_false] at hh; try exact absurd hh (by decide)))); all_goals (conv => whnf); (all_goals first | (exact Ob.mk (by decide)) | skip)))
      all_goals first | (exfalso; omega) | (exfalso; exact absurd rfl hh) | skip
      (refine RetN.intro () [] rfl rfl ?_ ?_ ?_; ((repeat' (first | exact rfl | exact trivial | refine And.intro ?_ ?_ | ((conv => whnf); first | exact rfl | exact trivial | refine And.intro ?_ ?_)))); ((repeat' (first | exact rfl | exact trivial | refine And.intro ?_ ?_ | ((conv => whnf); first | exact rfl | exact trivial | refine And.intro ?_ ?_))); all_goals (conv => whnf); all_goals (try simp only [])))
    · skip
      (repeat' ((conv => whnf); first | refine And.intro ?_ ?_ | exact Cl.mk (by kernel_rfl) | exact Ck.mk (by kernel_rfl) | refine DrawN.mk ?_ | refine CodeN.step hm rfl ?_ | exact trivial | exact rfl | (intro hh; try simp only [decide_eq_true_eq, decide_eq_false_iff_not, beq_iff_eq, beq_eq_false_iff_ne, bne_iff_ne, bne_eq_false_iff_eq, Bool.not_eq_true', Bool.not_eq_false', Bool.not_true, Bool.not_false] at hh))); all_goals (conv => whnf)
      · skip
        obtain ⟨x, x1, x2, x3, x4⟩ := name_drop (l := names) (i := j) (Int.ofNat_lt.1 (by assumption))
        rw [x4] at f
        obtain ⟨tB, e, f, lB⟩ := rnv_at (n := x.1) (w := 1) (by omega) (by omega) ((w7 x x2).1) f
        (refine CallN.intro (rnM s u 1 (by omega) hs) [1] rfl rfl ?_ ?_ ?_; ((repeat' (first | exact rfl | exact trivial | refine And.intro ?_ ?_ | ((conv => whnf); first | exact rfl | exact trivial | refine And.intro ?_ ?_)))); ((repeat' (first | exact rfl | exact trivial | refine And.intro ?_ ?_ | ((conv => whnf); first | exact rfl | exact trivial | refine And.intro ?_ ?_)))); (intro y hy; clear y hy; (repeat' ((conv => whnf); first | refine And.intro ?_ ?_ | exact Cl.mk (by kernel_rfl) | exact Ck.mk (by kernel_rfl) | refine DrawN.mk ?_ | refine CodeN.step hm rfl ?_ | exact trivial | exact rfl | (intro hh; try simp only [decide_eq_true_eq, decide_eq_false_iff_not, beq_iff_eq, beq_eq_false_iff_ne, bne_iff_ne, bne_eq_false_iff_eq, Bool.not_eq_true', Bool.not_eq_false', Bool.not_true, Bool.not_false] at hh; try exact absurd hh (by decide)))); all_goals (conv => whnf); (all_goals first | (exact Ob.mk (by decide)) | skip)))
        simp only [e]
        clear e
        obtain ⟨tC, e, f, lC⟩ := text_at (by omega) (w7 x x2).2 f
        (refine CallN.intro (rtextM s tB hs) [] rfl rfl ?_ ?_ ?_; ((repeat' (first | exact rfl | exact trivial | refine And.intro ?_ ?_ | ((conv => whnf); first | exact rfl | exact trivial | refine And.intro ?_ ?_)))); ((repeat' (first | exact rfl | exact trivial | refine And.intro ?_ ?_ | ((conv => whnf); first | exact rfl | exact trivial | refine And.intro ?_ ?_)))); (intro y hy; clear y hy; (repeat' ((conv => whnf); first | refine And.intro ?_ ?_ | exact Cl.mk (by kernel_rfl) | exact Ck.mk (by kernel_rfl) | refine DrawN.mk ?_ | refine CodeN.step hm rfl ?_ | exact trivial | exact rfl | (intro hh; try simp only [decide_eq_true_eq, decide_eq_false_iff_not, beq_iff_eq, beq_eq_false_iff_ne, bne_iff_ne, bne_eq_false_iff_eq, Bool.not_eq_true', Bool.not_eq_false', Bool.not_true, Bool.not_false] at hh; try exact absurd hh (by decide)))); all_goals (conv => whnf); (all_goals first | (exact Ob.mk (by decide)) | skip)))
        all_goals (try simp only [e] at hh ⊢)
        all_goals first | (exfalso; omega) | (exfalso; exact absurd rfl hh) | skip
        · exact Ob.mk (by rw [en]; simp; omega)
        · refine ⟨((j + 1, tC), nl ++ [x], true), [0, 1, 2, 3], ⟨rfl, rfl, ?_, ?_⟩, ⟨Int.ofNat_lt.1 (by assumption), by simp only []; rw [x3, hnll], fun h => (by cases h), lC.1, lC.2, f⟩, by have := Int.ofNat_lt.1 (show ((j : Nat) : Int) < names.length by assumption); simp only []; omega⟩
          · (repeat' (first | exact rfl | exact trivial | refine And.intro ?_ ?_ | ((conv => whnf); first | exact rfl | exact trivial | refine And.intro ?_ ?_))); all_goals (conv => whnf); all_goals (try simp only [])
            all_goals first | (rw [List.take_length]; rfl) | (simp; done) | skip
          · (repeat' (first | exact rfl | exact trivial | refine And.intro ?_ ?_ | ((conv => whnf); first | exact rfl | exact trivial | refine And.intro ?_ ?_))); all_goals (conv => whnf); all_goals (try simp only [])
            all_goals exact wr2 j (n := names.length) (Int.ofNat_lt.1 (by assumption)) (by omega)
      all_goals first | (exfalso; omega) | skip
      have hjm : j = names.length := by omega
      have hnn : names = nl := by rw [hnll, hjm, List.take_length]
      subst hnn
      have e5 : List.take names.length (List.drop 0 names) = names := by rw [List.drop_zero, List.take_length]
      refine CallN.frz 3 ?_ M9.callable
      (conv => whnf)
      refine CallN.intro M9 [] rfl rfl ?_ ?_ ?_
      · (repeat' (first | exact rfl | exact trivial | refine And.intro ?_ ?_ | ((conv => whnf); first | exact rfl | exact trivial | refine And.intro ?_ ?_))); all_goals (conv => whnf); all_goals (try simp only [])
        all_goals exact e5
      · (repeat' (first | exact rfl | exact trivial | refine And.intro ?_ ?_ | ((conv => whnf); first | exact rfl | exact trivial | refine And.intro ?_ ?_)))
      intro y hy
      clear y hy
      (repeat' ((conv => whnf); first | refine And.intro ?_ ?_ | exact Cl.mk (by kernel_rfl) | exact Ck.mk (by kernel_rfl) | refine DrawN.mk ?_ | refine CodeN.step hm rfl ?_ | exact trivial | exact rfl | (intro hh; try simp only [decide_eq_true_eq, decide_eq_false_iff_not, beq_iff_eq, beq_eq_false_iff_ne, bne_iff_ne, bne_eq_false_iff_eq, Bool.not_eq_true', Bool.not_eq_false', Bool.not_true, Bool.not_false] at hh; try exact absurd hh (by decide)))); all_goals (conv => whnf)
      all_goals first | (exfalso; omega) | (exfalso; exact absurd rfl hh) | skip
      (refine RetN.intro () [] rfl rfl ?_ ?_ ?_; ((repeat' (first | exact rfl | exact trivial | refine And.intro ?_ ?_ | ((conv => whnf); first | exact rfl | exact trivial | refine And.intro ?_ ?_)))); ((repeat' (first | exact rfl | exact trivial | refine And.intro ?_ ?_ | ((conv => whnf); first | exact rfl | exact trivial | refine And.intro ?_ ?_))); all_goals (conv => whnf); all_goals (try simp only [])))
      all_goals first | exact e5 | skip
  · skip
    (repeat' ((conv => whnf); first | refine And.intro ?_ ?_ | exact Cl.mk (by kernel_rfl) | exact Ck.mk (by kernel_rfl) | refine DrawN.mk ?_ | refine CodeN.step hm rfl ?_ | exact trivial | exact rfl | (intro hh; try simp only [decide_eq_true_eq, decide_eq_false_iff_not, beq_iff_eq, beq_eq_false_iff_ne, bne_iff_ne, bne_eq_false_iff_eq, Bool.not_eq_true', Bool.not_eq_false', Bool.not_true, Bool.not_false] at hh))); all_goals (conv => whnf)
    · skip
      obtain ⟨x, x1, x2, x3, x4⟩ := told_drop (l := told) (i := i) (Int.ofNat_lt.1 (by assumption))
      rw [x4] at f
      simp only [List.append_assoc] at f
      obtain ⟨z1, z2, z3, z4, z5⟩ := told_fits (w4 x x2)
      obtain ⟨ta, e, f, la⟩ := rnv_at (n := x.1) (w := 1) (by omega) (by omega) (z1) f
      (refine CallN.intro (rnM s t 1 (by omega) hs) [1] rfl rfl ?_ ?_ ?_; ((repeat' (first | exact rfl | exact trivial | refine And.intro ?_ ?_ | ((conv => whnf); first | exact rfl | exact trivial | refine And.intro ?_ ?_)))); ((repeat' (first | exact rfl | exact trivial | refine And.intro ?_ ?_ | ((conv => whnf); first | exact rfl | exact trivial | refine And.intro ?_ ?_)))); (intro y hy; clear y hy; (repeat' ((conv => whnf); first | refine And.intro ?_ ?_ | exact Cl.mk (by kernel_rfl) | exact Ck.mk (by kernel_rfl) | refine DrawN.mk ?_ | refine CodeN.step hm rfl ?_ | exact trivial | exact rfl | (intro hh; try simp only [decide_eq_true_eq, decide_eq_false_iff_not, beq_iff_eq, beq_eq_false_iff_ne, bne_iff_ne, bne_eq_false_iff_eq, Bool.not_eq_true', Bool.not_eq_false', Bool.not_true, Bool.not_false] at hh; try exact absurd hh (by decide)))); all_goals (conv => whnf); (all_goals first | (exact Ob.mk (by decide)) | skip)))
      simp only [e]
      clear e
      obtain ⟨tb, e, f, lb⟩ := rnv_at (n := (if x.2.1 then 1 else 0)) (w := 1) (by omega) (by omega) (z2) f
      (refine CallN.intro (rnM s ta 1 (by omega) hs) [1] rfl rfl ?_ ?_ ?_; ((repeat' (first | exact rfl | exact trivial | refine And.intro ?_ ?_ | ((conv => whnf); first | exact rfl | exact trivial | refine And.intro ?_ ?_)))); ((repeat' (first | exact rfl | exact trivial | refine And.intro ?_ ?_ | ((conv => whnf); first | exact rfl | exact trivial | refine And.intro ?_ ?_)))); (intro y hy; clear y hy; (repeat' ((conv => whnf); first | refine And.intro ?_ ?_ | exact Cl.mk (by kernel_rfl) | exact Ck.mk (by kernel_rfl) | refine DrawN.mk ?_ | refine CodeN.step hm rfl ?_ | exact trivial | exact rfl | (intro hh; try simp only [decide_eq_true_eq, decide_eq_false_iff_not, beq_iff_eq, beq_eq_false_iff_ne, bne_iff_ne, bne_eq_false_iff_eq, Bool.not_eq_true', Bool.not_eq_false', Bool.not_true, Bool.not_false] at hh; try exact absurd hh (by decide)))); all_goals (conv => whnf); (all_goals first | (exact Ob.mk (by decide)) | skip)))
      simp only [e]
      clear e
      obtain ⟨tc, e, f, lc⟩ := rnv_at (n := x.2.2.1) (w := 4) (by omega) (by omega) (z3) f
      (refine CallN.intro (rnM s tb 4 (by omega) hs) [1] rfl rfl ?_ ?_ ?_; ((repeat' (first | exact rfl | exact trivial | refine And.intro ?_ ?_ | ((conv => whnf); first | exact rfl | exact trivial | refine And.intro ?_ ?_)))); ((repeat' (first | exact rfl | exact trivial | refine And.intro ?_ ?_ | ((conv => whnf); first | exact rfl | exact trivial | refine And.intro ?_ ?_)))); (intro y hy; clear y hy; (repeat' ((conv => whnf); first | refine And.intro ?_ ?_ | exact Cl.mk (by kernel_rfl) | exact Ck.mk (by kernel_rfl) | refine DrawN.mk ?_ | refine CodeN.step hm rfl ?_ | exact trivial | exact rfl | (intro hh; try simp only [decide_eq_true_eq, decide_eq_false_iff_not, beq_iff_eq, beq_eq_false_iff_ne, bne_iff_ne, bne_eq_false_iff_eq, Bool.not_eq_true', Bool.not_eq_false', Bool.not_true, Bool.not_false] at hh; try exact absurd hh (by decide)))); all_goals (conv => whnf); (all_goals first | (exact Ob.mk (by decide)) | skip)))
      simp only [e]
      clear e
      obtain ⟨td, e, f, ld⟩ := rnv_at (n := x.2.2.2.1) (w := 6) (by omega) (by omega) (z4) f
      (refine CallN.intro (rnM s tc 6 (by omega) hs) [1] rfl rfl ?_ ?_ ?_; ((repeat' (first | exact rfl | exact trivial | refine And.intro ?_ ?_ | ((conv => whnf); first | exact rfl | exact trivial | refine And.intro ?_ ?_)))); ((repeat' (first | exact rfl | exact trivial | refine And.intro ?_ ?_ | ((conv => whnf); first | exact rfl | exact trivial | refine And.intro ?_ ?_)))); (intro y hy; clear y hy; (repeat' ((conv => whnf); first | refine And.intro ?_ ?_ | exact Cl.mk (by kernel_rfl) | exact Ck.mk (by kernel_rfl) | refine DrawN.mk ?_ | refine CodeN.step hm rfl ?_ | exact trivial | exact rfl | (intro hh; try simp only [decide_eq_true_eq, decide_eq_false_iff_not, beq_iff_eq, beq_eq_false_iff_ne, bne_iff_ne, bne_eq_false_iff_eq, Bool.not_eq_true', Bool.not_eq_false', Bool.not_true, Bool.not_false] at hh; try exact absurd hh (by decide)))); all_goals (conv => whnf); (all_goals first | (exact Ob.mk (by decide)) | skip)))
      simp only [e]
      clear e
      obtain ⟨te, e, f, le⟩ := rnv_at (n := x.2.2.2.2) (w := 6) (by omega) (by omega) (z5) f
      (refine CallN.intro (rnM s td 6 (by omega) hs) [1] rfl rfl ?_ ?_ ?_; ((repeat' (first | exact rfl | exact trivial | refine And.intro ?_ ?_ | ((conv => whnf); first | exact rfl | exact trivial | refine And.intro ?_ ?_)))); ((repeat' (first | exact rfl | exact trivial | refine And.intro ?_ ?_ | ((conv => whnf); first | exact rfl | exact trivial | refine And.intro ?_ ?_)))); (intro y hy; clear y hy; (repeat' ((conv => whnf); first | refine And.intro ?_ ?_ | exact Cl.mk (by kernel_rfl) | exact Ck.mk (by kernel_rfl) | refine DrawN.mk ?_ | refine CodeN.step hm rfl ?_ | exact trivial | exact rfl | (intro hh; try simp only [decide_eq_true_eq, decide_eq_false_iff_not, beq_iff_eq, beq_eq_false_iff_ne, bne_iff_ne, bne_eq_false_iff_eq, Bool.not_eq_true', Bool.not_eq_false', Bool.not_true, Bool.not_false] at hh; try exact absurd hh (by decide)))); all_goals (conv => whnf); (all_goals first | (exact Ob.mk (by decide)) | skip)))
      all_goals simp only [e]
      clear e
      · exact Ob.mk (by rw [eb]; simp; omega)
      · have ex := told_same x
        refine ⟨((i + 1, te), l ++ [x], true), [0, 1, 2, 3], ⟨rfl, rfl, ?_, ?_⟩, ⟨Int.ofNat_lt.1 (by assumption), by simp only []; rw [x3, hll], fun h => (by cases h), le.1, le.2, f⟩, by have := Int.ofNat_lt.1 (show ((i : Nat) : Int) < told.length by assumption); simp only []; omega⟩
        · (repeat' (first | exact rfl | exact trivial | refine And.intro ?_ ?_ | ((conv => whnf); first | exact rfl | exact trivial | refine And.intro ?_ ?_))); all_goals (conv => whnf); all_goals (try simp only [])
          all_goals (try rw [ex])
          all_goals first | (rw [List.take_length]; rfl) | (simp; done) | skip
        · (repeat' (first | exact rfl | exact trivial | refine And.intro ?_ ?_ | ((conv => whnf); first | exact rfl | exact trivial | refine And.intro ?_ ?_))); all_goals (conv => whnf); all_goals (try simp only [])
          all_goals (try rw [ex])
          all_goals first | (exact wr2 i (n := told.length) (Int.ofNat_lt.1 (by assumption)) (by omega)) | (rw [List.take_length]; rfl) | (simp; done) | skip
    all_goals first | (exfalso; omega) | skip
    have him : i = told.length := by omega
    have htt : told = l := by rw [hll, him, List.take_length]
    subst htt
    rw [him, List.drop_length] at f
    have f : from_ s t = wide (IntKind.u64.wrap (names.length : Int)) 1 ++ namesB (names.drop 0) := f
    refine CallN.frz 3 ?_ (rnM s t 1 (by omega) hs).callable
    (conv => whnf)
    have e4 : List.take told.length (List.drop 0 told) = told := by rw [List.drop_zero, List.take_length]
    obtain ⟨tA, e, f, lA⟩ := rnv_at (n := (names.length : Int)) (w := 1) (by omega) (by omega) (fn) f
    (refine CallN.intro (rnM s t 1 (by omega) hs) [1] rfl rfl ?_ ?_ ?_; ((repeat' (first | exact rfl | exact trivial | refine And.intro ?_ ?_ | ((conv => whnf); first | exact rfl | exact trivial | refine And.intro ?_ ?_)))); ((repeat' (first | exact rfl | exact trivial | refine And.intro ?_ ?_ | ((conv => whnf); first | exact rfl | exact trivial | refine And.intro ?_ ?_)))); (intro y hy; clear y hy; (repeat' ((conv => whnf); first | refine And.intro ?_ ?_ | exact Cl.mk (by kernel_rfl) | exact Ck.mk (by kernel_rfl) | refine DrawN.mk ?_ | refine CodeN.step hm rfl ?_ | exact trivial | exact rfl | (intro hh; try simp only [decide_eq_true_eq, decide_eq_false_iff_not, beq_iff_eq, beq_eq_false_iff_ne, bne_iff_ne, bne_eq_false_iff_eq, Bool.not_eq_true', Bool.not_eq_false', Bool.not_true, Bool.not_false] at hh; try exact absurd hh (by decide)))); all_goals (conv => whnf); (all_goals first | (exact Ob.mk (by decide)) | skip)))
    simp only [e]
    clear e
    refine LoopN.intro hm (X := (Nat × Int) × List Name × Bool) (fun x => x.1.1 ≤ names.length ∧ x.2.1 = names.take x.1.1 ∧ (x.2.2 = false → x.1.1 = 0) ∧ 0 ≤ x.1.2 ∧ x.1.2 ≤ s.length ∧ from_ s x.1.2 = namesB (names.drop x.1.1)) (fun x => names.length - x.1.1)
      (fun x => [(9, .int .i64 fun _ => (x.1.1 : Int)), (6, .int .i64 fun _ => (names.length : Int)), (5, .ptr 2 0), (4, .ptr 1 0), (3, .int .i64 fun _ => 0), (2, .ptr 0 0), (0, .str fun _ => s)])
      (fun x => [ans0C, rrC s x.1.2, .cells 28 [.int .i64 fun _ => k, .int .i64 fun _ => c, .lst ToldT fun _ => told, .int .i64 fun _ => v, .int .i64 fun _ => p1, .int .i64 fun _ => p2, .int .i64 fun _ => p3, .int .i64 fun _ => p4, .int .i64 fun _ => nw, .int .i64 fun _ => cn, (match x.2.2 with | true => .vec 3 2 (fun _ => 0) (fun _ => x.2.1.length) | false => .snil)]] ++ (match x.2.2 with | true => [.vect 39 NameT fun _ => x.2.1] | false => []))
      ((0, tA), [], false) [0, 1, 2] ⟨rfl, rfl, ?_, ?_⟩ ⟨Nat.zero_le _, rfl, fun _ => rfl, lA.1, lA.2, f⟩ (fun x hx => ?_)
    · (repeat' (first | exact rfl | exact trivial | refine And.intro ?_ ?_ | ((conv => whnf); first | exact rfl | exact trivial | refine And.intro ?_ ?_))); all_goals (conv => whnf); all_goals (try simp only [])
      all_goals first | (rw [List.drop_zero, List.take_length]; done) | skip
    · (repeat' (first | exact rfl | exact trivial | refine And.intro ?_ ?_ | ((conv => whnf); first | exact rfl | exact trivial | refine And.intro ?_ ?_))); all_goals (conv => whnf); all_goals (try simp only [])
      all_goals first | (rw [List.drop_zero, List.take_length]; done) | skip
    clear f
    obtain ⟨⟨j, u⟩, nl, b⟩ := x
    obtain ⟨hj, hnll, hcl2, hu0, hu1, f⟩ := hx
    simp only [] at hj hnll hcl2 hu0 hu1 f
    have hnlen : nl.length = j := by rw [hnll, List.length_take]; omega
    cases b
    · skip
      have hj0 := hcl2 rfl
      subst hj0
      have hnl0 : nl = [] := List.length_eq_zero_iff.1 hnlen
      subst hnl0
      (repeat' ((conv => whnf); first | refine And.intro ?_ ?_ | exact Cl.mk (by kernel_rfl) | exact Ck.mk (by kernel_rfl) | refine DrawN.mk ?_ | refine CodeN.step hm rfl ?_ | exact trivial | exact rfl | (intro hh; try simp only [decide_eq_true_eq, decide_eq_false_iff_not, beq_iff_eq, beq_eq_false_iff_ne, bne_iff_ne, bne_eq_false_iff_eq, Bool.not_eq_true', Bool.not_eq_false', Bool.not_true, Bool.not_false] at hh))); all_goals (conv => whnf)
      · skip
        obtain ⟨x, x1, x2, x3, x4⟩ := name_drop (l := names) (i := 0) (Int.ofNat_lt.1 (by assumption))
        rw [x4] at f
        obtain ⟨tB, e, f, lB⟩ := rnv_at (n := x.1) (w := 1) (by omega) (by omega) ((w7 x x2).1) f
        (refine CallN.intro (rnM s u 1 (by omega) hs) [1] rfl rfl ?_ ?_ ?_; ((repeat' (first | exact rfl | exact trivial | refine And.intro ?_ ?_ | ((conv => whnf); first | exact rfl | exact trivial | refine And.intro ?_ ?_)))); ((repeat' (first | exact rfl | exact trivial | refine And.intro ?_ ?_ | ((conv => whnf); first | exact rfl | exact trivial | refine And.intro ?_ ?_)))); (intro y hy; clear y hy; (repeat' ((conv => whnf); first | refine And.intro ?_ ?_ | exact Cl.mk (by kernel_rfl) | exact Ck.mk (by kernel_rfl) | refine DrawN.mk ?_ | refine CodeN.step hm rfl ?_ | exact trivial | exact rfl | (intro hh; try simp only [decide_eq_true_eq, decide_eq_false_iff_not, beq_iff_eq, beq_eq_false_iff_ne, bne_iff_ne, bne_eq_false_iff_eq, Bool.not_eq_true', Bool.not_eq_false', Bool.not_true, Bool.not_false] at hh; try exact absurd hh (by decide)))); all_goals (conv => whnf); (all_goals first | (exact Ob.mk (by decide)) | skip)))
        simp only [e]
        clear e
        obtain ⟨tC, e, f, lC⟩ := text_at (by omega) (w7 x x2).2 f
        (refine CallN.intro (rtextM s tB hs) [] rfl rfl ?_ ?_ ?_; ((repeat' (first | exact rfl | exact trivial | refine And.intro ?_ ?_ | ((conv => whnf); first | exact rfl | exact trivial | refine And.intro ?_ ?_)))); ((repeat' (first | exact rfl | exact trivial | refine And.intro ?_ ?_ | ((conv => whnf); first | exact rfl | exact trivial | refine And.intro ?_ ?_)))); (intro y hy; clear y hy; (repeat' ((conv => whnf); first | refine And.intro ?_ ?_ | exact Cl.mk (by kernel_rfl) | exact Ck.mk (by kernel_rfl) | refine DrawN.mk ?_ | refine CodeN.step hm rfl ?_ | exact trivial | exact rfl | (intro hh; try simp only [decide_eq_true_eq, decide_eq_false_iff_not, beq_iff_eq, beq_eq_false_iff_ne, bne_iff_ne, bne_eq_false_iff_eq, Bool.not_eq_true', Bool.not_eq_false', Bool.not_true, Bool.not_false] at hh; try exact absurd hh (by decide)))); all_goals (conv => whnf); (all_goals first | (exact Ob.mk (by decide)) | skip)))
        all_goals (try simp only [e] at hh ⊢)
        all_goals first | (exfalso; omega) | (exfalso; exact absurd rfl hh) | skip
        · exact Ob.mk (by rw [en]; simp)
        · refine ⟨((0 + 1, tC), [x], true), [0, 1, 2, 5], ⟨rfl, rfl, ?_, ?_⟩, ⟨Int.ofNat_lt.1 (by assumption), x3.symm, fun h => (by cases h), lC.1, lC.2, f⟩, by have := Int.ofNat_lt.1 (show ((0 : Nat) : Int) < names.length by assumption); simp only []; omega⟩
          · (repeat' (first | exact rfl | exact trivial | refine And.intro ?_ ?_ | ((conv => whnf); first | exact rfl | exact trivial | refine And.intro ?_ ?_))); all_goals (conv => whnf); all_goals (try simp only [])
            all_goals first | (rw [List.take_length]; rfl) | (simp; done) | skip
          · (repeat' (first | exact rfl | exact trivial | refine And.intro ?_ ?_ | ((conv => whnf); first | exact rfl | exact trivial | refine And.intro ?_ ?_))); all_goals (conv => whnf); all_goals (try simp only [])
            all_goals exact wr2 0 (n := names.length) (Int.ofNat_lt.1 (by assumption)) (by omega)
      all_goals first | (exfalso; omega) | skip
      have hjm : 0 = names.length := by omega
      have hnn : names = [] := List.length_eq_zero_iff.1 hjm.symm
      subst hnn
      (refine CallN.intro M9 [] rfl rfl ?_ ?_ ?_; ((repeat' (first | exact rfl | exact trivial | refine And.intro ?_ ?_ | ((conv => whnf); first | exact rfl | exact trivial | refine And.intro ?_ ?_)))); ((repeat' (first | exact rfl | exact trivial | refine And.intro ?_ ?_ | ((conv => whnf); first | exact rfl | exact trivial | refine And.intro ?_ ?_)))); (intro y hy; clear y hy; (repeat' ((conv => whnf); first | refine And.intro ?_ ?_ | exact Cl.mk (by kernel_rfl) | exact Ck.mk (by kernel_rfl) | refine DrawN.mk ?_ | refine CodeN.step hm rfl ?_ | exact trivial | exact rfl | (intro hh; try simp only [decide_eq_true_eq, decide_eq_false_iff_not, beq_iff_eq, beq_eq_false_iff_ne, bne_iff_ne, bne_eq_false_iff_eq, Bool.not_eq_true', Bool.not_eq_false', Bool.not_true, Bool.not_false] at hh; try exact absurd hh (by decide)))); all_goals (conv => whnf); (all_goals first | (exact Ob.mk (by decide)) | skip)))
      all_goals first | (exfalso; omega) | (exfalso; exact absurd rfl hh) | skip
      (refine RetN.intro () [] rfl rfl ?_ ?_ ?_; ((repeat' (first | exact rfl | exact trivial | refine And.intro ?_ ?_ | ((conv => whnf); first | exact rfl | exact trivial | refine And.intro ?_ ?_)))); ((repeat' (first | exact rfl | exact trivial | refine And.intro ?_ ?_ | ((conv => whnf); first | exact rfl | exact trivial | refine And.intro ?_ ?_))); all_goals (conv => whnf); all_goals (try simp only [])))
    · skip
      (repeat' ((conv => whnf); first | refine And.intro ?_ ?_ | exact Cl.mk (by kernel_rfl) | exact Ck.mk (by kernel_rfl) | refine DrawN.mk ?_ | refine CodeN.step hm rfl ?_ | exact trivial | exact rfl | (intro hh; try simp only [decide_eq_true_eq, decide_eq_false_iff_not, beq_iff_eq, beq_eq_false_iff_ne, bne_iff_ne, bne_eq_false_iff_eq, Bool.not_eq_true', Bool.not_eq_false', Bool.not_true, Bool.not_false] at hh))); all_goals (conv => whnf)
      · skip
        obtain ⟨x, x1, x2, x3, x4⟩ := name_drop (l := names) (i := j) (Int.ofNat_lt.1 (by assumption))
        rw [x4] at f
        obtain ⟨tB, e, f, lB⟩ := rnv_at (n := x.1) (w := 1) (by omega) (by omega) ((w7 x x2).1) f
        (refine CallN.intro (rnM s u 1 (by omega) hs) [1] rfl rfl ?_ ?_ ?_; ((repeat' (first | exact rfl | exact trivial | refine And.intro ?_ ?_ | ((conv => whnf); first | exact rfl | exact trivial | refine And.intro ?_ ?_)))); ((repeat' (first | exact rfl | exact trivial | refine And.intro ?_ ?_ | ((conv => whnf); first | exact rfl | exact trivial | refine And.intro ?_ ?_)))); (intro y hy; clear y hy; (repeat' ((conv => whnf); first | refine And.intro ?_ ?_ | exact Cl.mk (by kernel_rfl) | exact Ck.mk (by kernel_rfl) | refine DrawN.mk ?_ | refine CodeN.step hm rfl ?_ | exact trivial | exact rfl | (intro hh; try simp only [decide_eq_true_eq, decide_eq_false_iff_not, beq_iff_eq, beq_eq_false_iff_ne, bne_iff_ne, bne_eq_false_iff_eq, Bool.not_eq_true', Bool.not_eq_false', Bool.not_true, Bool.not_false] at hh; try exact absurd hh (by decide)))); all_goals (conv => whnf); (all_goals first | (exact Ob.mk (by decide)) | skip)))
        simp only [e]
        clear e
        obtain ⟨tC, e, f, lC⟩ := text_at (by omega) (w7 x x2).2 f
        (refine CallN.intro (rtextM s tB hs) [] rfl rfl ?_ ?_ ?_; ((repeat' (first | exact rfl | exact trivial | refine And.intro ?_ ?_ | ((conv => whnf); first | exact rfl | exact trivial | refine And.intro ?_ ?_)))); ((repeat' (first | exact rfl | exact trivial | refine And.intro ?_ ?_ | ((conv => whnf); first | exact rfl | exact trivial | refine And.intro ?_ ?_)))); (intro y hy; clear y hy; (repeat' ((conv => whnf); first | refine And.intro ?_ ?_ | exact Cl.mk (by kernel_rfl) | exact Ck.mk (by kernel_rfl) | refine DrawN.mk ?_ | refine CodeN.step hm rfl ?_ | exact trivial | exact rfl | (intro hh; try simp only [decide_eq_true_eq, decide_eq_false_iff_not, beq_iff_eq, beq_eq_false_iff_ne, bne_iff_ne, bne_eq_false_iff_eq, Bool.not_eq_true', Bool.not_eq_false', Bool.not_true, Bool.not_false] at hh; try exact absurd hh (by decide)))); all_goals (conv => whnf); (all_goals first | (exact Ob.mk (by decide)) | skip)))
        all_goals (try simp only [e] at hh ⊢)
        all_goals first | (exfalso; omega) | (exfalso; exact absurd rfl hh) | skip
        · exact Ob.mk (by rw [en]; simp; omega)
        · refine ⟨((j + 1, tC), nl ++ [x], true), [0, 1, 2, 3], ⟨rfl, rfl, ?_, ?_⟩, ⟨Int.ofNat_lt.1 (by assumption), by simp only []; rw [x3, hnll], fun h => (by cases h), lC.1, lC.2, f⟩, by have := Int.ofNat_lt.1 (show ((j : Nat) : Int) < names.length by assumption); simp only []; omega⟩
          · (repeat' (first | exact rfl | exact trivial | refine And.intro ?_ ?_ | ((conv => whnf); first | exact rfl | exact trivial | refine And.intro ?_ ?_))); all_goals (conv => whnf); all_goals (try simp only [])
            all_goals first | (rw [List.take_length]; rfl) | (simp; done) | skip
          · (repeat' (first | exact rfl | exact trivial | refine And.intro ?_ ?_ | ((conv => whnf); first | exact rfl | exact trivial | refine And.intro ?_ ?_))); all_goals (conv => whnf); all_goals (try simp only [])
            all_goals exact wr2 j (n := names.length) (Int.ofNat_lt.1 (by assumption)) (by omega)
      all_goals first | (exfalso; omega) | skip
      have hjm : j = names.length := by omega
      have hnn : names = nl := by rw [hnll, hjm, List.take_length]
      subst hnn
      have e5 : List.take names.length (List.drop 0 names) = names := by rw [List.drop_zero, List.take_length]
      refine CallN.frz 3 ?_ M9.callable
      (conv => whnf)
      refine CallN.intro M9 [] rfl rfl ?_ ?_ ?_
      · (repeat' (first | exact rfl | exact trivial | refine And.intro ?_ ?_ | ((conv => whnf); first | exact rfl | exact trivial | refine And.intro ?_ ?_))); all_goals (conv => whnf); all_goals (try simp only [])
        all_goals exact e5
      · (repeat' (first | exact rfl | exact trivial | refine And.intro ?_ ?_ | ((conv => whnf); first | exact rfl | exact trivial | refine And.intro ?_ ?_)))
      intro y hy
      clear y hy
      (repeat' ((conv => whnf); first | refine And.intro ?_ ?_ | exact Cl.mk (by kernel_rfl) | exact Ck.mk (by kernel_rfl) | refine DrawN.mk ?_ | refine CodeN.step hm rfl ?_ | exact trivial | exact rfl | (intro hh; try simp only [decide_eq_true_eq, decide_eq_false_iff_not, beq_iff_eq, beq_eq_false_iff_ne, bne_iff_ne, bne_eq_false_iff_eq, Bool.not_eq_true', Bool.not_eq_false', Bool.not_true, Bool.not_false] at hh; try exact absurd hh (by decide)))); all_goals (conv => whnf)
      all_goals first | (exfalso; omega) | (exfalso; exact absurd rfl hh) | skip
      (refine RetN.intro () [] rfl rfl ?_ ?_ ?_; ((repeat' (first | exact rfl | exact trivial | refine And.intro ?_ ?_ | ((conv => whnf); first | exact rfl | exact trivial | refine And.intro ?_ ?_)))); ((repeat' (first | exact rfl | exact trivial | refine And.intro ?_ ?_ | ((conv => whnf); first | exact rfl | exact trivial | refine And.intro ?_ ?_))); all_goals (conv => whnf); all_goals (try simp only [])))
      all_goals first | exact e5 | skip
theorem rdecodeM (s : Bytes) (hs : s.length ≤ 1000000) : Meets Try.prog 20 [.str fun _ => s] [] (Y := Unit) (fun _ => True) (fun _ => .tup [ansAV (decR s).1, .int .i64 fun _ => (decR s).2]) (fun _ => []) := by
  cases hd : decP s with
  | none =>
    have hr : decR s = (zeroA, 3) := by unfold decR; rw [hd]
    rw [hr]
    exact rdecN s hs hd
  | some a =>
    have hr : decR s = (a, 0) := by unfold decR; rw [hd]
    rw [hr]
    obtain ⟨h1, h2, h3⟩ := dec_get hd
    exact rdecS s hs a h1 h2 h3
set_option maxRecDepth 4000 in
theorem readsLawM (s : Bytes) : Meets Try.prog 4 [.str fun _ => s] [] (Y := Unit) (fun _ => True) (fun _ => .tt) (fun _ => []) := by
  refine Meets.intro hm (fn := Try.f4) Try.func4 rfl (by decide) (Nat.le_of_ble_eq_true rfl) (fun _ => rfl) ?_; intro S hok; (conv => whnf)
  (repeat' ((conv => whnf); first | refine And.intro ?_ ?_ | exact Cl.mk (by kernel_rfl) | exact Ck.mk (by kernel_rfl) | refine DrawN.mk ?_ | refine CodeN.step hm rfl ?_ | exact trivial | exact rfl | (intro hh; try simp only [decide_eq_true_eq, decide_eq_false_iff_not, beq_iff_eq, beq_eq_false_iff_ne, bne_iff_ne, bne_eq_false_iff_eq, Bool.not_eq_true', Bool.not_eq_false', Bool.not_true, Bool.not_false] at hh))); all_goals (conv => whnf)
  · (refine CallN.intro liveM [] rfl rfl ?_ ?_ ?_; ((repeat' (first | exact rfl | exact trivial | refine And.intro ?_ ?_ | ((conv => whnf); first | exact rfl | exact trivial | refine And.intro ?_ ?_)))); ((repeat' (first | exact rfl | exact trivial | refine And.intro ?_ ?_ | ((conv => whnf); first | exact rfl | exact trivial | refine And.intro ?_ ?_)))); (intro y hy; clear y hy; (repeat' ((conv => whnf); first | refine And.intro ?_ ?_ | exact Cl.mk (by kernel_rfl) | exact Ck.mk (by kernel_rfl) | refine DrawN.mk ?_ | refine CodeN.step hm rfl ?_ | exact trivial | exact rfl | (intro hh; try simp only [decide_eq_true_eq, decide_eq_false_iff_not, beq_iff_eq, beq_eq_false_iff_ne, bne_iff_ne, bne_eq_false_iff_eq, Bool.not_eq_true', Bool.not_eq_false', Bool.not_true, Bool.not_false] at hh; try exact absurd hh (by decide)))); all_goals (conv => whnf); (all_goals first | (exact Ob.mk (by decide)) | skip)))
    (refine RetN.intro () [] rfl rfl ?_ ?_ ?_; ((repeat' (first | exact rfl | exact trivial | refine And.intro ?_ ?_ | ((conv => whnf); first | exact rfl | exact trivial | refine And.intro ?_ ?_)))); ((repeat' (first | exact rfl | exact trivial | refine And.intro ?_ ?_ | ((conv => whnf); first | exact rfl | exact trivial | refine And.intro ?_ ?_))); all_goals (conv => whnf); all_goals (try simp only [])))
  · have hsh : Sh (decR s).1 := by
      rcases dec_cases s with h | ⟨o, h, _, _, _, h2⟩
      · rw [h]; exact sh0
      · rw [h]; exact h2
    have h1 := hsh.told
    have h2 := hsh.names
    have M1 := decodeM s (by omega)
    have M2 := rdecodeM s (by omega)
    generalize decR s = o at M1 M2 h1 h2
    (refine CallN.intro M1 [] rfl rfl ?_ ?_ ?_; ((repeat' (first | exact rfl | exact trivial | refine And.intro ?_ ?_ | ((conv => whnf); first | exact rfl | exact trivial | refine And.intro ?_ ?_)))); ((repeat' (first | exact rfl | exact trivial | refine And.intro ?_ ?_ | ((conv => whnf); first | exact rfl | exact trivial | refine And.intro ?_ ?_)))); (intro y hy; clear y hy; (repeat' ((conv => whnf); first | refine And.intro ?_ ?_ | exact Cl.mk (by kernel_rfl) | exact Ck.mk (by kernel_rfl) | refine DrawN.mk ?_ | refine CodeN.step hm rfl ?_ | exact trivial | exact rfl | (intro hh; try simp only [decide_eq_true_eq, decide_eq_false_iff_not, beq_iff_eq, beq_eq_false_iff_ne, bne_iff_ne, bne_eq_false_iff_eq, Bool.not_eq_true', Bool.not_eq_false', Bool.not_true, Bool.not_false] at hh; try exact absurd hh (by decide)))); all_goals (conv => whnf); (all_goals first | (exact Ob.mk (by decide)) | skip)))
    (refine CallN.intro M2 [] rfl rfl ?_ ?_ ?_; ((repeat' (first | exact rfl | exact trivial | refine And.intro ?_ ?_ | ((conv => whnf); first | exact rfl | exact trivial | refine And.intro ?_ ?_)))); ((repeat' (first | exact rfl | exact trivial | refine And.intro ?_ ?_ | ((conv => whnf); first | exact rfl | exact trivial | refine And.intro ?_ ?_)))); (intro y hy; clear y hy; (repeat' ((conv => whnf); first | refine And.intro ?_ ?_ | exact Cl.mk (by kernel_rfl) | exact Ck.mk (by kernel_rfl) | refine DrawN.mk ?_ | refine CodeN.step hm rfl ?_ | exact trivial | exact rfl | (intro hh; try simp only [decide_eq_true_eq, decide_eq_false_iff_not, beq_iff_eq, beq_eq_false_iff_ne, bne_iff_ne, bne_eq_false_iff_eq, Bool.not_eq_true', Bool.not_eq_false', Bool.not_true, Bool.not_false] at hh; try exact absurd hh (by decide)))); all_goals (conv => whnf); (all_goals first | (exact Ob.mk (by decide)) | skip)))
    refine CallN.intro (sameM o.1 o.1 ⟨by omega, by omega⟩) [] rfl rfl ?_ ?_ ?_
    · (repeat' (first | exact rfl | exact trivial | refine And.intro ?_ ?_ | ((conv => whnf); first | exact rfl | exact trivial | refine And.intro ?_ ?_)))
    · (repeat' (first | exact rfl | exact trivial | refine And.intro ?_ ?_ | ((conv => whnf); first | exact rfl | exact trivial | refine And.intro ?_ ?_)))
    intro z hz
    have hz : z = true := hz.2 rfl
    subst hz
    (repeat' ((conv => whnf); first | refine And.intro ?_ ?_ | exact Cl.mk (by kernel_rfl) | exact Ck.mk (by kernel_rfl) | refine DrawN.mk ?_ | refine CodeN.step hm rfl ?_ | exact trivial | exact rfl | (intro hh; try simp only [decide_eq_true_eq, decide_eq_false_iff_not, beq_iff_eq, beq_eq_false_iff_ne, bne_iff_ne, bne_eq_false_iff_eq, Bool.not_eq_true', Bool.not_eq_false', Bool.not_true, Bool.not_false] at hh))); all_goals (conv => whnf)
    all_goals first | (cases hh; done) | exact absurd rfl hh | skip
    (refine CallN.intro liveM [] rfl rfl ?_ ?_ ?_; ((repeat' (first | exact rfl | exact trivial | refine And.intro ?_ ?_ | ((conv => whnf); first | exact rfl | exact trivial | refine And.intro ?_ ?_)))); ((repeat' (first | exact rfl | exact trivial | refine And.intro ?_ ?_ | ((conv => whnf); first | exact rfl | exact trivial | refine And.intro ?_ ?_)))); (intro y hy; clear y hy; (repeat' ((conv => whnf); first | refine And.intro ?_ ?_ | exact Cl.mk (by kernel_rfl) | exact Ck.mk (by kernel_rfl) | refine DrawN.mk ?_ | refine CodeN.step hm rfl ?_ | exact trivial | exact rfl | (intro hh; try simp only [decide_eq_true_eq, decide_eq_false_iff_not, beq_iff_eq, beq_eq_false_iff_ne, bne_iff_ne, bne_eq_false_iff_eq, Bool.not_eq_true', Bool.not_eq_false', Bool.not_true, Bool.not_false] at hh; try exact absurd hh (by decide)))); all_goals (conv => whnf); (all_goals first | (exact Ob.mk (by decide)) | skip)))
    (refine RetN.intro () [] rfl rfl ?_ ?_ ?_; ((repeat' (first | exact rfl | exact trivial | refine And.intro ?_ ?_ | ((conv => whnf); first | exact rfl | exact trivial | refine And.intro ?_ ?_)))); ((repeat' (first | exact rfl | exact trivial | refine And.intro ?_ ?_ | ((conv => whnf); first | exact rfl | exact trivial | refine And.intro ?_ ?_))); all_goals (conv => whnf); all_goals (try simp only [])))
end Go.Proofs.Ytoipgandilhdeaa.An
set_option linter.unusedVariables false
set_option linter.unusedSimpArgs false
namespace Go.Proofs.Ytoipgandilhdeaa.Fw
open Go Go.RowKit Go.ChangeShapes

/-- All that is there rests. -/
def gW (W : World) : Gh := { n := 0, Φ := fun b => W.heap[b]?, B := fun _ => 0, V := fun _ => none, L := fun _ => 0, k := 0 }
theorem sim_gW (W : World) : Sim (gW W) [] W := by
  refine ⟨rfl, fun b o h => h, fun i => trivial, fun i j b hi => ?_, fun i b hi => ?_⟩
  · simp [getE, Chunk.blk] at hi
  · simp [getE, Chunk.blk] at hi

/-- Numbers of their kinds, lengths that a machine bears. -/
def wfD : (t : Ty) → t.den → Prop
  | .int k, n => k.min ≤ n ∧ n ≤ k.max
  | .bool, _ => True
  | .str, s => List.length s ≤ maxLen
  | .list e, xs => List.length xs ≤ maxLen ∧ ∀ x, x ∈ (xs : List e.den) → wfD e x
  | .pair a b, x => wfD a x.1 ∧ wfD b x.2

theorem cells_at {w : World} {base : Nat} {a : Addr} {n : Nat} {cs : List Value} (h : w.cells? base a n = some cs) : cs.length = n ∧ ∀ (j : Nat) (u : Value), cs[j]? = some u → w.cell? (a.add j) = some u := by
  unfold World.cells? at h
  split at h
  · rename_i hb
    have key : ∀ (l : List Nat) (cs : List Value), l.mapM (fun i => w.cell? (a.add i)) = some cs → cs.length = l.length ∧ ∀ (j : Nat) (u : Value) (i : Nat), cs[j]? = some u → l[j]? = some i → w.cell? (a.add i) = some u := by
      intro l
      induction l with
      | nil => intro cs h; simp at h; subst h; simp
      | cons i l ih =>
        intro cs h
        simp only [List.mapM_cons, Option.bind_eq_bind, Option.bind_eq_some_iff, Option.pure_def, Option.some.injEq] at h
        obtain ⟨u, h1, r, h2, rfl⟩ := h
        obtain ⟨h3, h4⟩ := ih r h2
        refine ⟨by simp [h3], fun j v i' hj hi => ?_⟩
        cases j with
        | zero => simp at hj hi; subst hj hi; exact h1
        | succ j => exact h4 j v i' (by simpa using hj) (by simpa using hi)
    obtain ⟨h1, h2⟩ := key _ _ h
    refine ⟨by simpa using h1, fun j u hj => h2 j u j hj ?_⟩
    have := (List.getElem?_eq_some_iff.1 hj).1
    rw [List.getElem?_range (by rw [h1] at this; simpa using this)]
  · cases h
theorem cell_at_gW {W : World} {a : Addr} {u : Value} (h : W.cell? a = some u) : ∃ cells T fr, a.spot = none ∧ (gW W).Φ a.block = some (.cells cells T fr) ∧ cells[a.off]? = some u := by
  unfold World.cell? at h
  split at h
  · rename_i c T fr hc
    split at h
    · cases h
    · rename_i hs
      exact ⟨c, T, fr, by simpa using hs, hc, h⟩
  · cases h
theorem list_of {α : Type} {p : Nat → α → Prop} : ∀ n : Nat, (∀ i, i < n → ∃ x, p i x) → ∃ xs : List α, xs.length = n ∧ ∀ (i : Nat) (x : α), xs[i]? = some x → p i x
  | 0, _ => ⟨[], rfl, by simp⟩
  | n + 1, h => by
    obtain ⟨xs, h1, h2⟩ := list_of n (fun i hi => h i (by omega))
    obtain ⟨x, hx⟩ := h n (by omega)
    refine ⟨xs ++ [x], by simp [h1], fun i y hy => ?_⟩
    rw [List.getElem?_append] at hy
    split at hy
    · exact h2 i y hy
    · rename_i hi
      have : i - xs.length = 0 := by
        have := (List.getElem?_eq_some_iff.1 hy).1
        simp at this; omega
      rw [this] at hy
      simp at hy
      subst hy
      have : i = n := by omega
      subst this; exact hx

section
variable {H : Type} {enc' : TypeId × Value → H} {P : Program} {W : World} {base : Nat} {sp : Nat → Bool} {held : Bool}

/-- What reads, reads as data. -/
theorem trod_data (K : Kids P (· < P.types.size)) : ∀ (d : Nat) (t : Nat) (ty : Ty), t < P.types.size → tyOf P d t = some ty → ∀ (fuel : Nat) (cs : List Value) (x : DataW H × List MemPlace), DataW.trod enc' P W base sp held fuel t cs = some x →
    ∃ a : ty.den, RL (gW W) (enc ty (fun _ => a) []) cs ∧ wfD ty a
  | 0, _, _, _, h => by simp [tyOf] at h
  | d + 1, t, ty, hlt, h => by
    intro fuel cs x hx
    simp only [tyOf] at h
    split at h
    · rename_i k ht
      cases h
      obtain ⟨n, rfl, _, hw⟩ := DataW.trod_int (tund_und ht) hx
      simp only [Lit.wf, Bool.and_eq_true, decide_eq_true_eq] at hw
      exact ⟨n, ⟨.int k (fun _ => n), trivial⟩, hw⟩
    · rename_i ht
      cases h
      obtain ⟨b, rfl, _⟩ := DataW.trod_bool (tund_und ht) hx
      exact ⟨b, ⟨.bool (fun _ => b), trivial⟩, trivial⟩
    · rename_i ht
      cases h
      obtain ⟨s, rfl, _, hs⟩ := DataW.trod_string (tund_und ht) hx
      refine ⟨s.data.toList, ⟨?_, trivial⟩, ?_⟩
      · have := R.str (g := gW W) (fun _ => s.data.toList)
        simpa using this
      · show s.data.toList.length ≤ maxLen
        rw [Array.length_toList]; exact hs
    · rename_i e ht
      split at h <;> try cases h
      rename_i y hy
      have hye : y = y := rfl
      have hte := K.slice hlt (tund_und ht)
      rcases DataW.trod_slice (tund_und ht) hx with ⟨rfl, _⟩ | ⟨a, len, cap, elems, rest, n, _, rfl, _, _, hlc, hcm, hlen, hel, _⟩
      · refine ⟨([] : List y.den), ⟨?_, trivial⟩, ?_⟩
        · exact R.lst y (fun _ => []) none 0 (fun _ _ => .nilIface) (Nat.le_refl _) (by simp) (fun i x j z hx => by simp at hx) (fun i x j z hx => by simp at hx)
        · refine ⟨?_, fun x hx => ?_⟩
          · show ([] : List y.den).length ≤ maxLen
            simp
          · cases hx
      · have hl63 : maxLen = 9223372036854775807 := by decide
        have each : ∀ i, i < len → ∃ p : y.den × List Value, W.cells? base (a.add (i * P.cellsOf e)) (P.cellsOf e) = some p.2 ∧ RL (gW W) (enc y (fun _ => p.1) []) p.2 ∧ wfD y p.1 := by
          intro i hi
          have h1 := hel i hi
          rw [List.getElem?_eq_getElem (by omega)] at h1
          obtain ⟨cs', h2, h3⟩ := Option.bind_eq_some_iff.1 h1
          obtain ⟨b, h4, h5⟩ := trod_data K d e y hte hy n cs' _ h3
          exact ⟨(b, cs'), h2, h4, h5⟩
        obtain ⟨ps, hps, hp⟩ := list_of len each
        have hsz : ∀ (i : Nat) (p : y.den × List Value), ps[i]? = some p → P.cellsOf e = y.size := by
          intro i p hi
          obtain ⟨h1, h2, _⟩ := hp i p hi
          have := h2.length
          rw [enc_length, (cells_at h1).1] at this
          exact this.symm
        refine ⟨ps.map (·.1), ⟨?_, trivial⟩, ?_, ?_⟩
        · have hlm : (ps.map (·.1)).length = len := by simp [hps]
          have := R.lst (g := gW W) y (fun _ => ps.map (·.1)) (some a) cap (fun i j => ((ps[i]?.map (·.2)).getD [])[j]?.getD .nilIface) (by simp only [hlm]; exact hlc) (by simp only [hlm]; omega) ?_ ?_
          · simp only [hlm] at this; exact this
          · intro i x j z hx hz
            simp only [List.getElem?_map] at hx
            cases hq : ps[i]? with
            | none => rw [hq] at hx; cases hx
            | some p =>
              rw [hq] at hx
              simp only [Option.map_some, Option.some.injEq] at hx
              subst hx
              obtain ⟨h1, h2, _⟩ := hp i p hq
              obtain ⟨u, hu, _⟩ := h2.get hz
              have hc := (cells_at h1).2 j u hu
              obtain ⟨cells, T, fr, hs, hΦ, hcell⟩ := cell_at_gW hc
              have hsp : a.spot = none ∨ (i * P.cellsOf e = 0 ∧ j = 0) := by
                by_cases h0 : i * P.cellsOf e = 0 ∧ j = 0
                · exact .inr h0
                · left
                  by_cases h00 : i * P.cellsOf e + j = 0
                  · exact (h0 ⟨by omega, by omega⟩).elim
                  · -- the cells of the first one have the same spot
                    have h0i : 0 < len := by have := (List.getElem?_eq_some_iff.1 hq).1; omega
                    obtain ⟨p0, hp0⟩ : ∃ p0, ps[0]? = some p0 := ⟨ps[0]'(by omega), List.getElem?_eq_getElem (by omega)⟩
                    obtain ⟨g1, g2, _⟩ := hp 0 p0 hp0
                    have hy0 : (enc y (fun _ => p0.1) [])[0]? ≠ none := by
                      have := enc_length y (fun _ => p0.1)
                      have h0 := Ty.size_pos y
                      intro hn
                      rw [List.getElem?_eq_none_iff] at hn
                      omega
                    cases hz0 : (enc y (fun _ => p0.1) [])[0]? with
                    | none => exact (hy0 hz0).elim
                    | some z0 =>
                      obtain ⟨u0, hu0, _⟩ := g2.get hz0
                      have hc0 := (cells_at g1).2 0 u0 hu0
                      obtain ⟨_, _, _, hs0, _⟩ := cell_at_gW hc0
                      simpa [Addr.add] using hs0
              have hsp' : a.spot = none := by
                rcases hsp with h | ⟨h0, hj0⟩
                · exact h
                · subst hj0
                  rw [h0] at hs
                  simpa [Addr.add] using hs
              have e1 : (a.add (i * P.cellsOf e)).add j = ⟨a.block, a.off + (i * P.cellsOf e + j), none⟩ := by
                rw [add_none hsp', add_none rfl]; simp [Nat.add_assoc]
              rw [e1] at hΦ hcell
              refine ⟨a.block, a.off, cells, T, fr, by cases a; simp at hsp' ⊢; exact hsp', hΦ, ?_⟩
              rw [hsz i p hq] at hcell
              simp only [Option.map_some, Option.getD_some, hu]
              exact hcell
          · intro i x j z hx hz
            simp only [List.getElem?_map] at hx
            cases hq : ps[i]? with
            | none => rw [hq] at hx; cases hx
            | some p =>
              rw [hq] at hx
              simp only [Option.map_some, Option.some.injEq] at hx
              subst hx
              obtain ⟨h1, h2, _⟩ := hp i p hq
              obtain ⟨u, hu, hr⟩ := h2.get hz
              simp only [hq, Option.map_some, Option.getD_some, hu]
              exact hr
        · show (ps.map (·.1)).length ≤ maxLen
          rw [List.length_map]; omega
        · intro x hx
          obtain ⟨p, hp1, rfl⟩ := List.mem_map.1 hx
          obtain ⟨i, hi⟩ := List.mem_iff_getElem?.1 hp1
          exact (hp i p hi).2.2
    · rename_i fs ht
      obtain ⟨xs, n, _, _, hcl, hxl, hf⟩ := DataW.trod_struct (tund_und ht) hx
      obtain ⟨hft, hsum, hoff⟩ := K.struct hlt (tund_und ht)
      have go : ∀ (l : List Field) (k : Nat) (ty : Ty), tyFs (tyOf P d) l = some ty → (∀ f ∈ l, f.type < P.types.size) → (∀ (j : Nat) f, l[j]? = some f → f.offset = k + ((l.take j).map fun f => P.cellsOf f.type).sum) →
          (∀ f ∈ l, ∃ z, DataW.trod enc' P W base sp held n f.type ((cs.drop f.offset).take (P.cellsOf f.type)) = some z) → (cs.drop k).length = (l.map fun f => P.cellsOf f.type).sum →
          ∃ a : ty.den, RL (gW W) (enc ty (fun _ => a) []) (cs.drop k) ∧ wfD ty a := by
        intro l
        induction l with
        | nil => intro k ty h; simp [tyFs] at h
        | cons f r ih =>
          intro k ty h ht ho hz hl
          obtain ⟨z, hz0⟩ := hz f (List.mem_cons_self ..)
          have ho0 : f.offset = k := by simpa using ho 0 f rfl
          rw [ho0] at hz0
          have htf := ht f (List.mem_cons_self ..)
          cases r with
          | nil =>
            simp only [tyFs] at h
            obtain ⟨a, h1, h2⟩ := trod_data K d f.type ty htf h n _ _ hz0
            refine ⟨a, ?_, h2⟩
            simp only [List.map_cons, List.map_nil, List.sum_cons, List.sum_nil, Nat.add_zero] at hl
            rwa [List.take_of_length_le (by omega)] at h1
          | cons f2 r2 =>
            simp only [tyFs] at h
            split at h <;> try cases h
            rename_i ta tb hta htb
            obtain ⟨a, h1, h2⟩ := trod_data K d f.type ta htf hta n _ _ hz0
            obtain ⟨b, h3, h4⟩ := ih (k + P.cellsOf f.type) tb htb (fun q hq => ht q (List.mem_cons_of_mem _ hq)) (fun j q hq => by
              have := ho (j + 1) q (by simpa using hq)
              simp only [List.take_succ_cons, List.map_cons, List.sum_cons] at this
              omega) (fun q hq => hz q (List.mem_cons_of_mem _ hq)) (by
              simp only [List.map_cons, List.sum_cons, List.length_drop] at hl ⊢
              omega)
            refine ⟨(a, b), ?_, h2, h4⟩
            simp only [enc]
            rw [enc_append ta]
            have := h1.append h3
            rw [← List.drop_drop] at this
            rwa [List.take_append_drop] at this
      have := go fs.toList 0 ty h hft (fun j f hj => by simpa using hoff j f hj) (fun f hfm => by
        obtain ⟨i, hi⟩ := List.mem_iff_getElem?.1 hfm
        have hi' : fs[i]? = some f := by simpa using hi
        have h1 := hf i f hi'
        have hil := (List.getElem?_eq_some_iff.1 hi).1
        rw [List.getElem?_eq_getElem (by simp at hil; omega)] at h1
        exact ⟨_, h1⟩) (by simpa [hcl] using hsum)
      simpa using this
    · rename_i n e ht
      split at h <;> try cases h
      rename_i y hy
      obtain ⟨xs, m, _, _, hcl, hxl, hf⟩ := DataW.trod_array (tund_und ht) hx
      obtain ⟨hte, hsz⟩ := K.array hlt (tund_und ht)
      rw [hsz] at hcl
      have go : ∀ (n k : Nat) (ty : Ty), tyRep n y = some ty → (∀ i, i < n → ∃ z, DataW.trod enc' P W base sp held m e ((cs.drop ((k + i) * P.cellsOf e)).take (P.cellsOf e)) = some z) → (cs.drop (k * P.cellsOf e)).length = n * P.cellsOf e →
          ∃ a : ty.den, RL (gW W) (enc ty (fun _ => a) []) (cs.drop (k * P.cellsOf e)) ∧ wfD ty a := by
        intro n
        induction n with
        | zero => intro k ty h; simp [tyRep] at h
        | succ n ih =>
          intro k ty h hz hl
          obtain ⟨z, hz0⟩ := hz 0 (by omega)
          rw [Nat.add_zero] at hz0
          obtain ⟨a, h1, h2⟩ := trod_data K d e y hte hy m _ _ hz0
          cases n with
          | zero =>
            simp only [tyRep, Option.some.injEq] at h
            subst h
            rw [List.take_of_length_le (by omega)] at h1
            exact ⟨a, h1, h2⟩
          | succ n =>
            simp only [tyRep] at h
            split at h <;> try cases h
            rename_i tz htz
            obtain ⟨b, h3, h4⟩ := ih (k + 1) tz htz (fun i hi => by have := hz (i + 1) (by omega); rwa [show k + 1 + i = k + (i + 1) by omega]) (by
              rw [List.length_drop] at hl ⊢
              rw [Nat.add_mul, Nat.one_mul] at hl ⊢
              omega)
            refine ⟨(a, b), ?_, h2, h4⟩
            simp only [enc]
            rw [enc_append y]
            have := h1.append h3
            rw [Nat.add_mul, Nat.one_mul, ← List.drop_drop] at this
            rwa [List.take_append_drop] at this
      have := go n 0 ty h (fun i hi => by
        have h1 := hf i hi
        rw [List.getElem?_eq_getElem (by omega)] at h1
        exact ⟨_, by rw [Nat.zero_add]; exact h1⟩) (by simpa using hcl)
      simpa using this
    · cases h
end
end Go.Proofs.Ytoipgandilhdeaa.Fw
set_option linter.unusedVariables false
set_option linter.unusedSimpArgs false
namespace Go.Proofs.Ytoipgandilhdeaa.Fw
open Go Go.RowKit Go.ChangeShapes Go.WideShapes

theorem wf_i64 {n : Int} (h : wfD (.int .i64) n) : -9223372036854775808 ≤ n ∧ n ≤ 9223372036854775807 := h
theorem wf_u64 {n : Int} (h : wfD (.int .u64) n) : 0 ≤ n ∧ n ≤ 18446744073709551615 := h
def leafB : TypeDesc → Bool
  | .int _ => true | .bool => true | .string => true | .slice _ => true | _ => false
section
variable {H : Type} {enc' : TypeId × Value → H} {P : Program} {W : World} {base : Nat} {sp : Nat → Bool} {held : Bool}

theorem arg_leaf (K : Kids P (· < P.types.size)) {b0 : Nat} {t : Nat} {ty : Ty} {d : TypeDesc} (hd : tund P t = some d) (hb : leafB d = true) (hlt : t < P.types.size) (hty : tyOf P 6 t = some ty) {v : Value} {x : DataW H} {ps : List MemPlace}
    (hval : Value.okWide P W .any b0 t v) (h : DataW.Trod enc' P W base sp held t v x ps) : ∃ a : ty.den, RL (gW W) (enc ty (fun _ => a) []) [v] ∧ wfD ty a := by
  obtain ⟨fuel, hf⟩ := h
  obtain ⟨a, h1, h2⟩ := trod_data K 6 t ty hlt hty fuel _ _ hf
  refine ⟨a, ?_, h2⟩
  have hc : v.cells.toList = [v] := by
    have hu := tund_und hd
    cases v <;> first | rfl | skip
    cases d <;> first | (cases hb; done) | (simp [Value.okWide, hu, Cell.okWide, Cell.ok] at hval)
  rwa [hc] at h1
def aggB : TypeDesc → Bool
  | .struct _ => true | .array _ _ => true | _ => false
theorem arg_struct (K : Kids P (· < P.types.size)) {b0 : Nat} {t : Nat} {ty : Ty} {d : TypeDesc} (hd : tund P t = some d) (hb : aggB d = true) (hlt : t < P.types.size) (hty : tyOf P 6 t = some ty) {v : Value} {x : DataW H} {ps : List MemPlace}
    (hval : Value.okWide P W .any b0 t v) (h : DataW.Trod enc' P W base sp held t v x ps) : ∃ a : ty.den, R (gW W) (.agg (enc ty (fun _ => a) [])) v ∧ wfD ty a := by
  obtain ⟨fuel, hf⟩ := h
  obtain ⟨a, h1, h2⟩ := trod_data K 6 t ty hlt hty fuel _ _ hf
  have hu := tund_und hd
  have hv : ∃ cs, v = .agg cs := by
    cases d <;> first | (cases hb; done) | skip
    all_goals
      simp only [Value.okWide, hu] at hval
      obtain ⟨cs, rfl, _⟩ := hval
      exact ⟨cs, rfl⟩
  obtain ⟨cs, rfl⟩ := hv
  refine ⟨a, ?_, h2⟩
  have := R.mkAgg h1
  simpa [Value.cells] using this

theorem law_run {f : FuncId} {args : List AV} {vals : List Value} {Y : Type} {Q : Y → Prop} {res : Y → AV} {out : Y → List Chunk} (hm : Meets P f args [] Q res out) (hres : ∀ y, Q y → res y = .tt) (hr : RL (gW W) args vals) :
    Calls P f vals.toArray W fun e W' => e = .returned (.bool true) ∧ Below W.heap.size W W' := by
  refine (hm.h (gW W) W vals (sim_gW W) hr).mono ?_
  rintro e W' ⟨y, c, g', hq, rfl, h1, h2, h3⟩
  rw [hres y hq] at h1
  rw [h1.tt_iff]
  refine ⟨rfl, h3.os, h3.tape, h3.output, h3.size, fun b hb => h3.keep b hb ?_⟩
  rintro ⟨i, hi⟩
  simp [getE, Chunk.blk] at hi

theorem trodAll_stays (hl : laidOutB P = true) {W' : World} (hb : Below W.heap.size W W') : ∀ {ts : List TypeId} {vs : List Value} {ds : List (DataW H)} {ps : List MemPlace} (sp' : Nat → Bool), (∀ t ∈ ts, P.readableRec t = true ∧ t < P.types.size) →
    DataW.TrodAll enc' P W 0 (fun _ => true) true ts vs ds ps → (∀ p ∈ ps, p.block < W.heap.size) → (∀ p ∈ ps, sp' p.block = true) → DataW.TrodAll enc' P W' 0 sp' true ts vs ds ps
  | [], [], [], ps, sp', _, h, _, _ => h
  | t :: ts, v :: vs, d :: ds, ps, sp', ht, h, hlt, hsp => by
    obtain ⟨p, q, h1, h2, rfl⟩ := h
    obtain ⟨hr, hrow⟩ := ht t (List.mem_cons_self ..)
    refine ⟨p, q, WideElems.Trod_stays hl hr hrow h1 (fun x hx => hb.same (hlt x (List.mem_append_left _ hx))) (fun x hx => hsp x (List.mem_append_left _ hx)), ?_, rfl⟩
    exact trodAll_stays hl hb sp' (fun t ht' => ht t (List.mem_cons_of_mem _ ht')) h2 (fun x hx => hlt x (List.mem_append_right _ hx)) (fun x hx => hsp x (List.mem_append_right _ hx))
  | [], _ :: _, _, _, _, _, h, _, _ => h.elim
  | [], [], _ :: _, _, _, _, h, _, _ => h.elim
  | _ :: _, [], _, _, _, _, h, _, _ => h.elim
  | _ :: _, _ :: _, [], _, _, _, h, _, _ => h.elim

theorem law_post {f : Func} {s : ChangeSpec} {W' : World} {args : Array Value} {ds gs : List (DataW H)} {before : List MemPlace} (hl : laidOutB P = true) {tb : TypeId}
    (hW : DataW.Whole enc' P f.params.toList s.vars false W args.toList ds gs before) (hv : s.vars = []) (hfn : s.fn H (ds ++ gs) = { results := [.lit (.bool true)], args := ds })
    (hres : f.resultTypes = #[tb]) (htb : P.underlying tb = some .bool) (ht : ∀ t ∈ f.params.toList, P.readableRec t = true ∧ t < P.types.size) (hb : Below W.heap.size W W') :
    s.post enc' P f false true false false W args (.bool true) W' := by
  have hlt := hW.lt
  have hW' := hW
  obtain ⟨p, q, hA, hV, hpq, hfz, hnd⟩ := hW'
  rw [hv] at hV
  have hgq : gs = [] ∧ q = [] := by
    cases gs with
    | nil => exact ⟨rfl, hV⟩
    | cons g r => exact hV.elim
  obtain ⟨rfl, rfl⟩ := hgq
  rw [List.append_nil] at hpq
  subst hpq
  have hold : ∀ p ∈ before, (fun b => decide (b < W.heap.size)) p.block = true := fun p hp => by simpa using hlt p hp
  have hargs : ∀ sp : Nat → Bool, (∀ p ∈ before, sp p.block = true) → DataW.TrodAll enc' P W' 0 sp true f.params.toList args.toList ds before := fun sp hsp => trodAll_stays hl hb sp ht hA hlt hsp
  have hresT : ∀ (b : Nat) (sp : Nat → Bool) (hd : Bool), DataW.TrodAll enc' P W' b sp hd f.resultTypes.toList ((Value.bool true).resultList f.resultTypes.size) [.lit (.bool true)] [] := by
    intro b sp hd
    rw [hres]
    exact trodAll_mk1 (shut_bool htb true)
  refine ⟨ds, [], before, [], before, [], hW, ?_, ?_, ?_, World.keptBut_mono (fun p hp => ⟨hp, ?_⟩) (hb.frame (· ∈ before)), fun h => by cases h⟩
  · rw [hfn]; exact hresT _ _ _
  · rw [hfn]; exact hargs _ hold
  · rw [hfn, hv]; rfl
  · exact .inr (by simpa using hp)
end
end Go.Proofs.Ytoipgandilhdeaa.Fw
set_option linter.unusedVariables false
set_option linter.unusedSimpArgs false
namespace Go.Proofs.Ytoipgandilhdeaa.RAnswerReads
open Go Go.ChangeShapes Go.WideShapes Go.ChangeAt Go.RowKit Fw
theorem own : ownKnob Try.prog.godebug = none := by kernel_rfl
theorem laidOut : laidOutB Try.prog = true := by kernel_rfl
theorem mapsOk : mapsRowed Try.prog = true := by kernel_rfl
theorem kids : Kids Try.prog (· < Try.prog.types.size) := kids_rows laidOut mapsOk
theorem readable : ∀ t ∈ Try.f4.params.toList, Try.prog.readableRec t = true ∧ t < Try.prog.types.size := by
  have h : (Try.f4.params.toList.all fun t => Try.prog.readableRec t && decide (t < Try.prog.types.size)) = true := by kernel_rfl
  intro t ht
  have := List.all_eq_true.1 h t ht
  rw [Bool.and_eq_true, decide_eq_true_eq] at this
  exact this
set_option maxRecDepth 100000 in
theorem lifted (os : Os) (started : os.Started) (H : Type) (enc : TypeId × Value → H) :
    ReturnsInHanded {} Try.checked os 4 .any (Rows.answerReadsSpec.pre6 enc Try.prog Try.f4 Rows.answerReadsRow.domain false) (Rows.answerReadsSpec.post enc Try.prog Try.f4 false true false false) := by
  refine returnsInHanded_of_change (C := Try.checked) own started (by kernel_rfl) Try.func4
    (ChangeSpec.witness6 (enc := enc) (C := Try.checked) false ⟨#[], #[.string .empty], []⟩ 8 (by kernel_rfl) (by kernel_rfl) (by kernel_rfl) (by kernel_rfl)) ?_
  intro W base args ds gs before hval0 hW hcnd _
  have hval : ∀ (j : Nat) t v, Try.f4.params[j]? = some t → args[j]? = some v → Value.okWide Try.prog W .any base t v := hval0
  have hW' : DataW.Whole enc Try.prog Try.f4.params.toList Rows.answerReadsSpec.vars false W args.toList ds gs before := hW
  obtain ⟨p, q, hA0, hV, _, _, _⟩ := hW'
  have hA : DataW.TrodAll enc Try.prog W 0 (fun _ => true) true Try.f4.params.toList args.toList ds p := hA0
  rw [Try.params4] at hA hval
  obtain ⟨v0, d0, rfl, rfl, h0⟩ := trodAll_one hA
  obtain ⟨rfl, rfl⟩ := trodVars_none hV
  obtain ⟨a0, r0, w0⟩ := arg_leaf (ty := .str) kids rfl rfl (of_decide_eq_true (by kernel_rfl)) (by kernel_rfl) (hval 0 _ v0 rfl rfl) h0
  refine (law_run (vals := [v0]) (An.readsLawM a0) (fun _ _ => rfl) ⟨r0.1, trivial⟩).mono ?_
  rintro e W' ⟨rfl, hb⟩
  exact ⟨_, rfl, law_post laidOut hW rfl rfl (by rfl) Try.underlying4 readable hb⟩

theorem holds : Rows.AnswerReadsSaid :=
  OpenClaim.holds_of_wide 4 Try.f4 rfl rfl rfl rfl rfl rfl rfl ⟨rfl, rfl, rfl, rfl, rfl⟩ rfl rfl rfl rfl rfl (by kernel_rfl) Try.func4 (by kernel_rfl)
    (of_decide_eq_true (by kernel_rfl)) (by unfold Func.isWrapper; first | (rw [if_pos (by decide +kernel)]; kernel_rfl) | (rw [if_neg (by decide +kernel)]; exact ⟨rfl, rfl⟩))
    (fun os started H enc _ => lifted os started H enc)
end Go.Proofs.Ytoipgandilhdeaa.RAnswerReads
#print axioms Go.Proofs.Ytoipgandilhdeaa.RAnswerReads.holds
