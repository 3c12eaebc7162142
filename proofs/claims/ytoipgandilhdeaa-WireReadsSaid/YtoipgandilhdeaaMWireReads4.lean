/- The law WireReads holds at every input that its statement lets in; part 5 of its proof. -/
import Derived.Test.YtoipgandilhdeaaMWireReads3
import Derived.ProofKit
import Derived.OpenShut
import Derived.JoinedCond
import Derived.Test.YtoipgandilhdeaaRows
set_option linter.unusedVariables false
set_option linter.unusedSimpArgs false
namespace Go.Proofs.Ytoipgandilhdeaa.Wi
open Go Go.RowKit Fw Nu
open An (byv byv_len byv_app byv_back byv_range fitsB fits_iff wides bads wides_len fits_neg shr_ne from_ readL readL_get readL_put readName nameB nameW name_get name_put readN readN_get readN_put bads_cons bads_nil bads_book fits_one rFitsM byteM fourM policyM)
def Agr {α : Type} (r : Option (α × Int)) (y : α × Int) : Prop := ∀ z, r = some z → z = y
def rdC (s : Bytes) (t : Int) : Chunk := .cells 95 [.str fun _ => s, .int .i64 fun _ => t]
structure NumA (s : Bytes) (t : Int) (w : Nat) (y : Int × Int) : Prop where
  agr : Agr (readL s t [w]) ([y.1], y.2)
  val : 0 ≤ y.1 ∧ y.1 < (256 : Int) ^ w
  at_ : -1 ≤ y.2 ∧ y.2 ≤ s.length
theorem num_neg {s : Bytes} {t : Int} {w : Nat} (h : t < 0) : (number s t w).2.2 ≠ 0 := by rw [n_arg (.inl h)]; decide
theorem numA_bad {s : Bytes} {t : Int} {w : Nat} (h : (number s t w).2.2 ≠ 0) : NumA s t w (0, -1) := by
  refine ⟨fun z hz => ?_, ⟨Int.le_refl _, Int.pow_pos (by decide)⟩, by simp, by simp only []; omega⟩
  rw [readL1, if_neg h] at hz; cases hz
theorem numA_ok {s : Bytes} {t : Int} {w : Nat} (hw : w ≤ 8) (h : (number s t w).2.2 = 0) : NumA s t w ((number s t w).1, (number s t w).2.1) := by
  obtain ⟨g1, g2, g3, g4, g5⟩ := An.number_get hw h
  refine ⟨fun z hz => ?_, fits_iff.1 g4, by simp only []; omega, by simp only []; omega⟩
  rw [readL1, if_pos h] at hz
  exact (Option.some.inj hz).symm
theorem rn21 (s : Bytes) (t : Int) (w : Nat) (hw : w ≤ 7) (hs : s.length ≤ 1000000) : Meets Try.prog 55 [.ptr 0 0, .int .i64 fun _ => (w : Int)] [rdC s t] (Y := Int × Int) (NumA s t w) (fun y => .int .i64 fun _ => y.1) (fun y => [rdC s y.2]) := by
  refine Meets.intro hm (fn := Try.f55) Try.func55 rfl (by decide) (Nat.le_of_ble_eq_true rfl) (fun _ => rfl) ?_; intro S hok; (conv => whnf)
  (repeat' ((conv => whnf); first | apply And.intro | exact ⟨by kernel_rfl⟩ | apply DrawN.mk | apply CodeN.step hm rfl | exact trivial | exact rfl | (intro hh; try simp only [bs] at hh))); all_goals (conv => whnf)
  (refine CallN.q (rnumberM s t w (by omega) hs) [] (fun _ _ => ?_); (repeat' ((conv => whnf); first | apply And.intro | exact ⟨by kernel_rfl⟩ | apply DrawN.mk | apply CodeN.step hm rfl | exact trivial | exact rfl | (intro hh; try simp only [bs] at hh; try exact absurd hh (by decide)))); all_goals (conv => whnf); all_goals try exact ⟨by decide⟩)
  · (refine RetN.q (0, -1) [0] ?_ ?_ ?_ <;> (repeat' ((conv => whnf) <;> first | exact rfl | exact trivial | apply And.intro | exact Nat.zero_add _)); all_goals ((conv => whnf); try simp only []))
    exact numA_bad hh
  · (refine RetN.q ((number s t w).1, (number s t w).2.1) [0] ?_ ?_ ?_ <;> (repeat' ((conv => whnf) <;> first | exact rfl | exact trivial | apply And.intro | exact Nat.zero_add _)); all_goals ((conv => whnf); try simp only []))
    · exact num_wrap hw hh
    · exact numA_ok (by omega) hh
  · (refine RetN.q (0, -1) [0] ?_ ?_ ?_ <;> (repeat' ((conv => whnf) <;> first | exact rfl | exact trivial | apply And.intro | exact Nat.zero_add _)); all_goals ((conv => whnf); try simp only []))
    exact numA_bad (num_neg hh)
def readT (s : Bytes) (t : Int) : Option (Bytes × Int) := if (text s t).2.2 = 0 then some ((text s t).1, (text s t).2.1) else none
structure TxtA (s : Bytes) (t : Int) (y : Bytes × Int) : Prop where
  agr : Agr (readT s t) y
  val : y.1.length ≤ 255
  at_ : -1 ≤ y.2 ∧ y.2 ≤ s.length
theorem txt_neg {s : Bytes} {t : Int} (h : t < 0) : (text s t).2.2 ≠ 0 := fun e => by
  have := (An.text_get e).1; omega
theorem txtA_bad {s : Bytes} {t : Int} (h : (text s t).2.2 ≠ 0) : TxtA s t ([], -1) := by
  refine ⟨fun z hz => ?_, by simp, by simp, by simp only []; omega⟩
  rw [readT, if_neg h] at hz; cases hz
theorem txtA_ok {s : Bytes} {t : Int} (h : (text s t).2.2 = 0) : TxtA s t ((text s t).1, (text s t).2.1) := by
  obtain ⟨g1, g2, g3, g4, g5⟩ := An.text_get h
  refine ⟨fun z hz => ?_, ?_, by simp only []; omega, g3⟩
  · rw [readT, if_pos h] at hz
    exact (Option.some.inj hz).symm
  · rw [An.put_ok, decide_eq_true_eq] at g4; exact g4
theorem rt21 (s : Bytes) (t : Int) (hs : s.length ≤ 1000000) : Meets Try.prog 56 [.ptr 0 0] [rdC s t] (Y := Bytes × Int) (TxtA s t) (fun y => .str fun _ => y.1) (fun y => [rdC s y.2]) := by
  refine Meets.intro hm (fn := Try.f56) Try.func56 rfl (by decide) (Nat.le_of_ble_eq_true rfl) (fun _ => rfl) ?_; intro S hok; (conv => whnf)
  (repeat' ((conv => whnf); first | apply And.intro | exact ⟨by kernel_rfl⟩ | apply DrawN.mk | apply CodeN.step hm rfl | exact trivial | exact rfl | (intro hh; try simp only [bs] at hh))); all_goals (conv => whnf)
  (refine CallN.q (Nu.rtextM s t hs) [] (fun _ _ => ?_); (repeat' ((conv => whnf); first | apply And.intro | exact ⟨by kernel_rfl⟩ | apply DrawN.mk | apply CodeN.step hm rfl | exact trivial | exact rfl | (intro hh; try simp only [bs] at hh; try exact absurd hh (by decide)))); all_goals (conv => whnf); all_goals try exact ⟨by decide⟩)
  · (refine RetN.q ([], -1) [0] ?_ ?_ ?_ <;> (repeat' ((conv => whnf) <;> first | exact rfl | exact trivial | apply And.intro | exact Nat.zero_add _)); all_goals ((conv => whnf); try simp only []))
    exact txtA_bad hh
  · (refine RetN.q ((text s t).1, (text s t).2.1) [0] ?_ ?_ ?_ <;> (repeat' ((conv => whnf) <;> first | exact rfl | exact trivial | apply And.intro | exact Nat.zero_add _)); all_goals ((conv => whnf); try simp only []))
    exact txtA_ok hh
  · (refine RetN.q ([], -1) [0] ?_ ?_ ?_ <;> (repeat' ((conv => whnf) <;> first | exact rfl | exact trivial | apply And.intro | exact Nat.zero_add _)); all_goals ((conv => whnf); try simp only []))
    exact txtA_bad (txt_neg hh)
theorem name_agr {s : Bytes} {t t1 t2 : Int} {b : Int} {k : Bytes} (h1 : NumA s t 1 (b, t1)) (h2 : TxtA s t1 (k, t2)) : Agr (readName s t) ((b, k), t2) := by
  intro z hz
  unfold readName at hz
  split at hz
  · rename_i b' t' hr
    have e := h1.agr _ hr
    simp only [Prod.mk.injEq, List.cons.injEq, and_true] at e
    obtain ⟨rfl, rfl⟩ := e
    split at hz
    · rename_i ht
      have e := h2.agr _ (by rw [readT, if_pos ht])
      simp only [Prod.mk.injEq] at e
      rw [← Option.some.inj hz, e.1, e.2]
    · cases hz
  · cases hz
structure AskA (s : Bytes) (t : Int) (y : Ask × Int) : Prop where
  agr : Agr (readAsk s t) y
  val : y.1.2.1.length ≤ 255
  at_ : -1 ≤ y.2 ∧ y.2 ≤ s.length
theorem ask21 (s : Bytes) (t : Int) (hs : s.length ≤ 1000000) : Meets Try.prog 54 [.ptr 0 0] [rdC s t] (Y := Ask × Int) (AskA s t) (fun y => .agg [.int .i64 fun _ => y.1.1, .str fun _ => y.1.2.1, .int .i64 fun _ => y.1.2.2]) (fun y => [rdC s y.2]) := by
  refine Meets.intro hm (fn := Try.f54) Try.func54 rfl (by decide) (Nat.le_of_ble_eq_true rfl) (fun _ => rfl) ?_; intro S hok; (conv => whnf)
  (repeat' ((conv => whnf); first | apply And.intro | exact ⟨by kernel_rfl⟩ | apply DrawN.mk | apply CodeN.step hm rfl | exact trivial | exact rfl | (intro hh; try simp only [bs] at hh))); all_goals (conv => whnf)
  (refine CallN.q (rn21 s t 1 (by omega) hs) [0] ?_; rintro ⟨b, t1⟩ h1; (repeat' ((conv => whnf); first | apply And.intro | exact ⟨by kernel_rfl⟩ | apply DrawN.mk | apply CodeN.step hm rfl | exact trivial | exact rfl | (intro hh; try simp only [bs] at hh; try exact absurd hh (by decide)))); all_goals (conv => whnf); all_goals try exact ⟨by decide⟩)
  (refine CallN.q (rt21 s t1 hs) [0] ?_; rintro ⟨k, t2⟩ h2; (repeat' ((conv => whnf); first | apply And.intro | exact ⟨by kernel_rfl⟩ | apply DrawN.mk | apply CodeN.step hm rfl | exact trivial | exact rfl | (intro hh; try simp only [bs] at hh; try exact absurd hh (by decide)))); all_goals (conv => whnf); all_goals try exact ⟨by decide⟩)
  (refine CallN.q (rn21 s t2 4 (by omega) hs) [0] ?_; rintro ⟨n, t3⟩ h3; (repeat' ((conv => whnf); first | apply And.intro | exact ⟨by kernel_rfl⟩ | apply DrawN.mk | apply CodeN.step hm rfl | exact trivial | exact rfl | (intro hh; try simp only [bs] at hh; try exact absurd hh (by decide)))); all_goals (conv => whnf); all_goals try exact ⟨by decide⟩)
  (refine RetN.q ((b, k, n), t3) [0] ?_ ?_ ?_ <;> (repeat' ((conv => whnf) <;> first | exact rfl | exact trivial | apply And.intro | exact Nat.zero_add _)); all_goals ((conv => whnf); try simp only []))
  refine ⟨fun z hz => ?_, h2.val, h3.at_⟩
  unfold readAsk at hz
  split at hz
  · rename_i x' t' hr
    have e := name_agr h1 h2 _ hr
    simp only [Prod.mk.injEq] at e
    obtain ⟨rfl, rfl⟩ := e
    split at hz
    · rename_i w t'' hl
      have e := h3.agr _ hl
      simp only [Prod.mk.injEq, List.cons.injEq, and_true] at e
      rw [← Option.some.inj hz, e.1, e.2]
    · cases hz
  · cases hz
theorem rdec_end {s : Bytes} {c : Cmd} {t : Int} (h1 : s ≠ []) (h2 : 1 ≤ hd s ∧ hd s ≤ 9) (hc : Agr (readB s (hd s) 1) (c, t)) :
    (0 ≤ t → (encR c).2 = 0 → (encR c).1 = s → decR s = (c, 0)) ∧ (t < 0 ∨ (encR c).2 ≠ 0 ∨ (encR c).1 ≠ s → decR s = (zeroC, 3)) := by
  refine ⟨fun h3 h4 h5 => ?_, fun h => ?_⟩
  · rcases enc_cases c with ⟨_, e⟩ | ⟨_, _, e⟩ | ⟨g, l, e⟩
    · rw [e] at h4; cases h4
    · rw [e] at h4; cases h4
    · rw [e] at h5
      have h5 : encC c = s := h5
      have := (dec_put g l).2
      rw [h5] at this; exact this
  · rcases dec_cases s with ⟨e, _⟩ | ⟨_, e, _⟩ | ⟨_, _, _, e⟩ | ⟨_, c0, e1, e2, e3, e4, e5⟩
    · exact absurd e h1
    · exact absurd h2 e
    · exact e
    · exfalso
      unfold decP at e1
      split at e1
      · rename_i c' t' hr
        split at e1
        · rename_i hl
          cases e1
          have e := hc _ hr
          simp only [Prod.mk.injEq] at e
          obtain ⟨rfl, rfl⟩ := e
          have he : encR c0 = (s, 0) := by unfold encR; rw [if_pos e3, e4, if_neg (by omega)]
          rw [he] at h
          simp only [ne_eq, not_true, or_false] at h
          omega
        · cases e1
      · cases e1
theorem sh0 {k b p1 p2 p3 p4 ab m : Int} {al : Bool} {ak : Bytes} (h : ak.length ≤ 255) : ShC (k, al, [], b, (p1, p2, p3, p4), (ab, ak), m) := ⟨by simp, by simp, by simp only []; omega⟩
theorem numsA {s : Bytes} {t t1 t2 : Int} {w : Nat} {ws : List Nat} {b : Int} {bs : List Int} (h1 : NumA s t w (b, t1)) (h2 : Agr (readL s t1 ws) (bs, t2)) : Agr (readL s t (w :: ws)) (b :: bs, t2) := by
  intro z hz
  unfold readL at hz
  split at hz
  · rename_i hn
    have e := h1.agr _ (by rw [readL1, if_pos hn])
    simp only [Prod.mk.injEq, List.cons.injEq, and_true] at e
    obtain ⟨e1, e2⟩ := e
    rw [e1, e2] at hz
    split at hz
    · rename_i x hx
      have e := h2 _ hx
      rw [← Option.some.inj hz, e]
    · cases hz
  · cases hz
theorem agr_one {s : Bytes} {k t : Int} {x : Ask} (hk : k = 1 ∨ k = 3) (h : Agr (readAsk s 1) (x, t)) : Agr (readB s k 1) ((k, false, [x], 0, (0, 0, 0, 0), (0, []), 0), t) := by
  intro z hz
  rcases hk with rfl | rfl
  all_goals
    simp only [readB] at hz
    split at hz
    · rename_i a t1 hr
      have e := h _ hr
      simp only [Prod.mk.injEq] at e
      rw [← Option.some.inj hz, e.1, e.2]
    · cases hz
theorem agr_four {s : Bytes} {k t : Int} {x : Int × Bytes} (hk : k = 4) (h : Agr (readName s 1) (x, t)) : Agr (readB s k 1) ((k, false, [], 0, (0, 0, 0, 0), x, 0), t) := by
  intro z hz
  subst hk
  simp only [readB] at hz
  split at hz
  · rename_i a t1 hr
    have e := h _ hr
    simp only [Prod.mk.injEq] at e
    rw [← Option.some.inj hz, e.1, e.2]
  · cases hz
theorem agr_five {s : Bytes} {k t b p1 p2 p3 p4 : Int} (hk : k = 5) (h : Agr (readL s 1 [1, 1, 4, 4, 1]) ([b, p1, p2, p3, p4], t)) : Agr (readB s k 1) ((k, false, [], b, (p1, p2, p3, p4), (0, []), 0), t) := by
  intro z hz
  subst hk
  simp only [readB] at hz
  split at hz
  · rename_i hr
    have e := h _ hr
    simp only [Prod.mk.injEq, List.cons.injEq, and_true] at e
    obtain ⟨⟨rfl, rfl, rfl, rfl, rfl⟩, rfl⟩ := e
    exact (Option.some.inj hz).symm
  · cases hz
theorem agr_six {s : Bytes} {k t b : Int} (hk : k = 6 ∨ k = 7) (h : Agr (readL s 1 [1]) ([b], t)) : Agr (readB s k 1) ((k, false, [], b, (0, 0, 0, 0), (0, []), 0), t) := by
  intro z hz
  rcases hk with rfl | rfl
  all_goals
    simp only [readB] at hz
    split at hz
    · rename_i hr
      have e := h _ hr
      simp only [Prod.mk.injEq, List.cons.injEq, and_true] at e
      obtain ⟨rfl, rfl⟩ := e
      exact (Option.some.inj hz).symm
    · cases hz
theorem agr_eight {s : Bytes} {k : Int} (hk : k = 8) : Agr (readB s k 1) ((k, false, [], 0, (0, 0, 0, 0), (0, []), 0), 1) := by
  intro z hz
  subst hk
  simp only [readB] at hz
  exact (Option.some.inj hz).symm
theorem agr_nine {s : Bytes} {k t1 t m : Int} {x : Int × Bytes} (hk : k = 9) (h : Agr (readName s 1) (x, t1)) (h2 : Agr (readL s t1 [1]) ([m], t)) : Agr (readB s k 1) ((k, false, [], 0, (0, 0, 0, 0), x, m), t) := by
  intro z hz
  subst hk
  simp only [readB] at hz
  split at hz
  · rename_i a t' hr
    have e := h _ hr
    simp only [Prod.mk.injEq] at e
    obtain ⟨rfl, rfl⟩ := e
    split at hz
    · rename_i hl
      have e := h2 _ hl
      simp only [Prod.mk.injEq, List.cons.injEq, and_true] at e
      obtain ⟨rfl, rfl⟩ := e
      exact (Option.some.inj hz).symm
    · cases hz
  · cases hz
theorem ask_neg {s : Bytes} {t : Int} (h : t < 0) : readAsk s t = none := by
  unfold readAsk readName readL
  rw [if_neg (num_neg h)]
theorem agr_two {s : Bytes} {k t t2 al : Int} {m : Nat} {l : List Ask} (hk : k = 2) (h : Agr (readL s 1 [1, 1]) ([al, (m : Int)], t2)) (h2 : Agr (readN (readAsk s) m t2) (l, t)) : Agr (readB s k 1) ((k, al == 1, l, 0, (0, 0, 0, 0), (0, []), 0), t) := by
  intro z hz
  subst hk
  simp only [readB] at hz
  split at hz
  · rename_i hr
    have e := h _ hr
    simp only [Prod.mk.injEq, List.cons.injEq, and_true] at e
    obtain ⟨⟨rfl, rfl⟩, rfl⟩ := e
    split at hz
    · cases hz
    · split at hz
      · rename_i hl
        have e := h2 _ hl
        simp only [Prod.mk.injEq] at e
        rw [← Option.some.inj hz, e.1, e.2]; rfl
      · cases hz
  · cases hz
theorem sh1 {k b p1 p2 p3 p4 ab m : Int} {al : Bool} {x : Ask} (h : x.2.1.length ≤ 255) : ShC (k, al, [x], b, (p1, p2, p3, p4), (ab, []), m) := ⟨by simp, by simp; omega, by simp⟩
set_option maxHeartbeats 2000000 in
theorem rdecM (s : Bytes) (hs : s.length ≤ 1000) : Meets Try.prog 29 [.str fun _ => s] [] (Y := Unit) (fun _ => True) (fun _ => .tup [cmdAV (decR s).1, .int .i64 fun _ => (decR s).2]) (fun _ => []) := by
  have ek : IntKind.i64.wrap (((s.getD (Int.toNat 0) 0).toNat : Nat) : Int) = hd s := hd_wrap
  have ek2 : (((s.getD (Int.toNat 0) 0).toNat : Nat) : Int) = hd s := rfl
  have hs2 : s.length ≤ 1000000 := by omega
  refine Meets.intro hm (fn := Try.f29) Try.func29 rfl (by decide) (Nat.le_of_ble_eq_true rfl) (fun _ => rfl) ?_; intro S hok; (conv => whnf)
  (repeat' ((conv => whnf); first | apply And.intro | exact ⟨by kernel_rfl⟩ | apply DrawN.mk | apply CodeN.step hm rfl | exact trivial | exact rfl | (intro hh; try simp only [bs] at hh))); all_goals (conv => whnf)
  all_goals try (exfalso; omega)
  · have e : decR s = (zeroC, 3) := by unfold decR; rw [if_pos (by assumption)]
    (refine RetN.q () [] ?_ ?_ ?_ <;> (repeat' ((conv => whnf) <;> first | exact rfl | exact trivial | apply And.intro | exact Nat.zero_add _)); all_goals ((conv => whnf); try simp only []))
    all_goals first | (rw [e]; done) | (rw [e]; rfl)
  all_goals have h1 : s ≠ [] := by assumption
  all_goals have hpos := List.length_pos_iff.2 h1
  all_goals try exact Ob.mk (by simp only []; omega)
  all_goals try
    have e : decR s = (zeroC, 9) := by unfold decR; rw [if_neg h1, if_neg (by omega)]
    (refine RetN.q () [] ?_ ?_ ?_ <;> (repeat' ((conv => whnf) <;> first | exact rfl | exact trivial | apply And.intro | exact Nat.zero_add _)); all_goals ((conv => whnf); try simp only []))
    all_goals first | (rw [e]; done) | (rw [e]; rfl)
  all_goals have hk : 1 ≤ hd s ∧ hd s ≤ 9 := by omega
  · (refine CallN.q (ask21 s 1 hs2) [1] ?_; rintro ⟨x, t⟩ hx; (repeat' ((conv => whnf); first | apply And.intro | exact ⟨by kernel_rfl⟩ | apply DrawN.mk | apply CodeN.step hm rfl | exact trivial | exact rfl | (intro hh; try simp only [bs] at hh; try exact absurd hh (by decide)))); all_goals (conv => whnf); all_goals try exact ⟨by decide⟩)
    · exact Ob.mk (by show ((1 : Nat) : Nat) * 32 ≤ _; omega)
    have hb2 := hx.at_
    refine CallN.frz 4 ?_ (rencodeM (hd s, false, [x], 0, (0, 0, 0, 0), (0, []), 0) (sh1 hx.val)).callable
    (conv => whnf)
    have hA : Agr (readB s (hd s) 1) ((hd s, false, [x], 0, (0, 0, 0, 0), (0, []), 0), t) := agr_one (.inl (by omega)) hx.agr
    obtain ⟨hY, hN⟩ := rdec_end h1 hk hA
    have hsh : ShC (hd s, false, [x], 0, (0, 0, 0, 0), (0, []), 0) := sh1 hx.val
    refine CallN.intro (rencodeM (hd s, false, [x], 0, (0, 0, 0, 0), (0, []), 0) hsh) [] rfl rfl ?_ ?_ ?_
    · (repeat' ((conv => whnf) <;> first | exact rfl | exact trivial | apply And.intro | exact Nat.zero_add _))
      all_goals first | exact ek | ((conv => whnf); simp; done) | (simp; done)
    · (repeat' ((conv => whnf) <;> first | exact rfl | exact trivial | apply And.intro | exact Nat.zero_add _))
    intro y hy; clear y hy
    (repeat' ((conv => whnf); first | apply And.intro | exact ⟨by kernel_rfl⟩ | apply DrawN.mk | apply CodeN.step hm rfl | exact trivial | exact rfl | (intro hh; try simp only [bs] at hh; try exact absurd hh (by decide)))); all_goals (conv => whnf)
    all_goals first
      | (have e := hY (by omega) (by assumption) (by assumption)
         (refine RetN.q () [] ?_ ?_ ?_ <;> (repeat' ((conv => whnf) <;> first | exact rfl | exact trivial | apply And.intro | exact Nat.zero_add _)); all_goals ((conv => whnf); try simp only []))
         all_goals first | (rw [e]; done) | (rw [e]; exact ek) | (rw [e]; rfl) | (rw [e]; simp; done))
      | (have e := hN (by first | exact .inl (by omega) | exact .inr (.inl (by assumption)) | exact .inr (.inr (by assumption)))
         (refine RetN.q () [] ?_ ?_ ?_ <;> (repeat' ((conv => whnf) <;> first | exact rfl | exact trivial | apply And.intro | exact Nat.zero_add _)); all_goals ((conv => whnf); try simp only []))
         all_goals first | (rw [e]; done) | (rw [e]; rfl))
  · (refine CallN.q (ask21 s 1 hs2) [1] ?_; rintro ⟨x, t⟩ hx; (repeat' ((conv => whnf); first | apply And.intro | exact ⟨by kernel_rfl⟩ | apply DrawN.mk | apply CodeN.step hm rfl | exact trivial | exact rfl | (intro hh; try simp only [bs] at hh; try exact absurd hh (by decide)))); all_goals (conv => whnf); all_goals try exact ⟨by decide⟩)
    · exact Ob.mk (by show ((1 : Nat) : Nat) * 32 ≤ _; omega)
    have hb2 := hx.at_
    refine CallN.frz 4 ?_ (rencodeM (hd s, false, [x], 0, (0, 0, 0, 0), (0, []), 0) (sh1 hx.val)).callable
    (conv => whnf)
    have hA : Agr (readB s (hd s) 1) ((hd s, false, [x], 0, (0, 0, 0, 0), (0, []), 0), t) := agr_one (.inr (by omega)) hx.agr
    obtain ⟨hY, hN⟩ := rdec_end h1 hk hA
    have hsh : ShC (hd s, false, [x], 0, (0, 0, 0, 0), (0, []), 0) := sh1 hx.val
    refine CallN.intro (rencodeM (hd s, false, [x], 0, (0, 0, 0, 0), (0, []), 0) hsh) [] rfl rfl ?_ ?_ ?_
    · (repeat' ((conv => whnf) <;> first | exact rfl | exact trivial | apply And.intro | exact Nat.zero_add _))
      all_goals first | exact ek | ((conv => whnf); simp; done) | (simp; done)
    · (repeat' ((conv => whnf) <;> first | exact rfl | exact trivial | apply And.intro | exact Nat.zero_add _))
    intro y hy; clear y hy
    (repeat' ((conv => whnf); first | apply And.intro | exact ⟨by kernel_rfl⟩ | apply DrawN.mk | apply CodeN.step hm rfl | exact trivial | exact rfl | (intro hh; try simp only [bs] at hh; try exact absurd hh (by decide)))); all_goals (conv => whnf)
    all_goals first
      | (have e := hY (by omega) (by assumption) (by assumption)
         (refine RetN.q () [] ?_ ?_ ?_ <;> (repeat' ((conv => whnf) <;> first | exact rfl | exact trivial | apply And.intro | exact Nat.zero_add _)); all_goals ((conv => whnf); try simp only []))
         all_goals first | (rw [e]; done) | (rw [e]; exact ek) | (rw [e]; rfl) | (rw [e]; simp; done))
      | (have e := hN (by first | exact .inl (by omega) | exact .inr (.inl (by assumption)) | exact .inr (.inr (by assumption)))
         (refine RetN.q () [] ?_ ?_ ?_ <;> (repeat' ((conv => whnf) <;> first | exact rfl | exact trivial | apply And.intro | exact Nat.zero_add _)); all_goals ((conv => whnf); try simp only []))
         all_goals first | (rw [e]; done) | (rw [e]; rfl))
  · (refine CallN.q (rn21 s 1 1 (by omega) hs2) [1] ?_; rintro ⟨al, t1⟩ q1; (repeat' ((conv => whnf); first | apply And.intro | exact ⟨by kernel_rfl⟩ | apply DrawN.mk | apply CodeN.step hm rfl | exact trivial | exact rfl | (intro hh; try simp only [bs] at hh; try exact absurd hh (by decide)))); all_goals (conv => whnf); all_goals try exact ⟨by decide⟩)
    (refine CallN.q (rn21 s t1 1 (by omega) hs2) [1] ?_; rintro ⟨n, t2⟩ q2; (repeat' ((conv => whnf); first | apply And.intro | exact ⟨by kernel_rfl⟩ | apply DrawN.mk | apply CodeN.step hm rfl | exact trivial | exact rfl | (intro hh; try simp only [bs] at hh; try exact absurd hh (by decide)))); all_goals (conv => whnf); all_goals try exact ⟨by decide⟩)
    have hv2 := q2.val
    have ha2 := q2.at_
    simp only [] at hv2 ha2
    obtain ⟨m, rfl⟩ := Int.eq_ofNat_of_zero_le hv2.1
    refine LoopN.intro hm (X := (Nat × Int) × List Ask × Bool) (fun x => x.1.1 ≤ m ∧ x.2.1.length = x.1.1 ∧ (x.2.2 = false → x.2.1 = []) ∧ (-1 ≤ x.1.2 ∧ x.1.2 ≤ s.length) ∧ (∀ a ∈ x.2.1, a.2.1.length ≤ 255) ∧ Agr (readN (readAsk s) x.1.1 t2) (x.2.1, x.1.2)) (fun x => m - x.1.1)
      (fun x => [(7, .int .i64 fun _ => (x.1.1 : Int)), (6, .int .i64 fun _ => (m : Int)), (5, .ptr 2 0), (4, .ptr 1 0), (3, .int .i64 fun _ => 0), (2, .ptr 0 0), (0, .str fun _ => s)])
      (fun x => [cmdA .snil zeroC, rdC s x.1.2, cmdA (match x.2.2 with | true => .vec 3 3 (fun _ => 0) (fun _ => x.2.1.length) | false => .snil) (hd s, al == 1, [], 0, (0, 0, 0, 0), (0, []), 0)] ++ (match x.2.2 with | true => [.vect 80 AskT fun _ => x.2.1] | false => []))
      ((0, t2), [], false) [0, 1, 2] ⟨rfl, rfl, ?_, ?_⟩ ⟨Nat.zero_le _, rfl, fun _ => rfl, ha2, by simp, fun z hz => (Option.some.inj hz).symm⟩ (fun x hx => ?_)
    · (repeat' ((conv => whnf) <;> first | exact rfl | exact trivial | apply And.intro | exact Nat.zero_add _))
      all_goals exact ek
    · (repeat' ((conv => whnf) <;> first | exact rfl | exact trivial | apply And.intro | exact Nat.zero_add _))
    obtain ⟨⟨i, t⟩, l, c⟩ := x
    obtain ⟨hi, hll, hcl, ht, hkey, hagr⟩ := hx
    simp only [] at hi hll hcl ht hkey hagr
    have eb : (Try.t80.bytes : Nat) = 32 := rfl
    have hstep : ∀ {x : Ask} {t' : Int}, AskA s t (x, t') → Agr (readN (readAsk s) (i + 1) t2) (l ++ [x], t') := fun hx z hz => by
      simp only [readN] at hz
      split at hz
      · rename_i l' t' hr
        have e := hagr _ hr
        simp only [Prod.mk.injEq] at e
        obtain ⟨rfl, rfl⟩ := e
        split at hz
        · rename_i a t'' ha
          have e := hx.agr _ ha
          simp only [Prod.mk.injEq] at e
          rw [← Option.some.inj hz, e.1, e.2]
        · cases hz
      · cases hz
    have hfin : ¬ i < m ∨ t < 0 → Agr (readN (readAsk s) m t2) (l, t) := fun h z hz => by
      by_cases e : i = m
      · rw [e] at hagr; exact hagr z hz
      · have hn : readN (readAsk s) (i + 1) t2 = none := by
          simp only [readN]
          split
          · rename_i l' t' hr
            have e := hagr _ hr
            simp only [Prod.mk.injEq] at e
            obtain ⟨rfl, rfl⟩ := e
            rw [ask_neg (h.resolve_left (by omega))]
          · rfl
        rw [An.readN_none (n := i + 1) (by omega) hn] at hz; cases hz
    have hh2 : hd s = 2 := by omega
    have hshl : ShC (hd s, al == 1, l, 0, (0, 0, 0, 0), (0, []), 0) := ⟨by simp only []; omega, fun x hx => by have := hkey x hx; omega, by simp⟩
    cases c
    · obtain rfl := hcl rfl
      (repeat' ((conv => whnf); first | apply And.intro | exact ⟨by kernel_rfl⟩ | apply DrawN.mk | apply CodeN.step hm rfl | exact trivial | exact rfl | (intro hh; try simp only [bs] at hh))); all_goals (conv => whnf)
      · have hi2 : i < m := Int.ofNat_lt.1 (by assumption)
        (refine CallN.q (ask21 s t hs2) [1] ?_; rintro ⟨x, t'⟩ hx; (repeat' ((conv => whnf); first | apply And.intro | exact ⟨by kernel_rfl⟩ | apply DrawN.mk | apply CodeN.step hm rfl | exact trivial | exact rfl | (intro hh; try simp only [bs] at hh; try exact absurd hh (by decide)))); all_goals (conv => whnf); all_goals try exact ⟨by decide⟩)
        · exact Ob.mk (by rw [eb]; simp)
        · refine ⟨((i + 1, t'), [x], true), [0, 1, 2, 4], ⟨rfl, rfl, ?_, ?_⟩, ⟨hi2, by simp at hll ⊢; omega, fun h => (by cases h), hx.at_, by simpa using hx.val, hstep hx⟩, by simp only []; omega⟩
          · (repeat' ((conv => whnf) <;> first | exact rfl | exact trivial | apply And.intro | exact Nat.zero_add _))
          · (repeat' ((conv => whnf) <;> first | exact rfl | exact trivial | apply And.intro | exact Nat.zero_add _)); all_goals ((conv => whnf); try simp only [])
            exact wr2 i (n := m) (by omega) (by omega)
      all_goals
        have hA : Agr (readB s (hd s) 1) ((hd s, al == 1, [], 0, (0, 0, 0, 0), (0, []), 0), t) := agr_two hh2 (numsA q1 q2.agr) (hfin (by omega))
        obtain ⟨hY, hN⟩ := rdec_end h1 hk hA
        have hsh : ShC (hd s, al == 1, [], 0, (0, 0, 0, 0), (0, []), 0) := hshl
        refine CallN.intro (rencodeM (hd s, al == 1, [], 0, (0, 0, 0, 0), (0, []), 0) hsh) [] rfl rfl ?_ ?_ ?_
        · (repeat' ((conv => whnf) <;> first | exact rfl | exact trivial | apply And.intro | exact Nat.zero_add _))
          all_goals first | exact ek | ((conv => whnf); simp; done) | (simp; done)
        · (repeat' ((conv => whnf) <;> first | exact rfl | exact trivial | apply And.intro | exact Nat.zero_add _))
        intro y hy; clear y hy
        (repeat' ((conv => whnf); first | apply And.intro | exact ⟨by kernel_rfl⟩ | apply DrawN.mk | apply CodeN.step hm rfl | exact trivial | exact rfl | (intro hh; try simp only [bs] at hh; try exact absurd hh (by decide)))); all_goals (conv => whnf)
        all_goals first
          | (have e := hY (by omega) (by assumption) (by assumption)
             (refine RetN.q () [] ?_ ?_ ?_ <;> (repeat' ((conv => whnf) <;> first | exact rfl | exact trivial | apply And.intro | exact Nat.zero_add _)); all_goals ((conv => whnf); try simp only []))
             all_goals first | (rw [e]; done) | (rw [e]; exact ek) | (rw [e]; rfl) | (rw [e]; simp; done))
          | (have e := hN (by first | exact .inl (by omega) | exact .inr (.inl (by assumption)) | exact .inr (.inr (by assumption)))
             (refine RetN.q () [] ?_ ?_ ?_ <;> (repeat' ((conv => whnf) <;> first | exact rfl | exact trivial | apply And.intro | exact Nat.zero_add _)); all_goals ((conv => whnf); try simp only []))
             all_goals first | (rw [e]; done) | (rw [e]; rfl))
    · (repeat' ((conv => whnf); first | apply And.intro | exact ⟨by kernel_rfl⟩ | apply DrawN.mk | apply CodeN.step hm rfl | exact trivial | exact rfl | (intro hh; try simp only [bs] at hh))); all_goals (conv => whnf)
      · have hi2 : i < m := Int.ofNat_lt.1 (by assumption)
        (refine CallN.q (ask21 s t hs2) [1] ?_; rintro ⟨x, t'⟩ hx; (repeat' ((conv => whnf); first | apply And.intro | exact ⟨by kernel_rfl⟩ | apply DrawN.mk | apply CodeN.step hm rfl | exact trivial | exact rfl | (intro hh; try simp only [bs] at hh; try exact absurd hh (by decide)))); all_goals (conv => whnf); all_goals try exact ⟨by decide⟩)
        · exact Ob.mk (by rw [eb]; simp; omega)
        · refine ⟨((i + 1, t'), l ++ [x], true), [0, 1, 2, 3], ⟨rfl, rfl, ?_, ?_⟩, ⟨hi2, by simp [hll], fun h => (by cases h), hx.at_, ?_, hstep hx⟩, by simp only []; omega⟩
          · (repeat' ((conv => whnf) <;> first | exact rfl | exact trivial | apply And.intro | exact Nat.zero_add _)); all_goals ((conv => whnf); try simp only [])
            all_goals first | (simp; done) | skip
          · (repeat' ((conv => whnf) <;> first | exact rfl | exact trivial | apply And.intro | exact Nat.zero_add _)); all_goals ((conv => whnf); try simp only [])
            all_goals first | (simp; done) | exact wr2 i (n := m) (by omega) (by omega) | skip
          · intro a ha
            rcases List.mem_append.1 ha with h | h
            · exact hkey a h
            · rw [List.mem_singleton.1 h]; exact hx.val
      all_goals
        refine CallN.frz 3 ?_ (rencodeM (hd s, al == 1, l, 0, (0, 0, 0, 0), (0, []), 0) hshl).callable
        (conv => whnf)
        have hA : Agr (readB s (hd s) 1) ((hd s, al == 1, l, 0, (0, 0, 0, 0), (0, []), 0), t) := agr_two hh2 (numsA q1 q2.agr) (hfin (by omega))
        obtain ⟨hY, hN⟩ := rdec_end h1 hk hA
        have hsh : ShC (hd s, al == 1, l, 0, (0, 0, 0, 0), (0, []), 0) := hshl
        refine CallN.intro (rencodeM (hd s, al == 1, l, 0, (0, 0, 0, 0), (0, []), 0) hsh) [] rfl rfl ?_ ?_ ?_
        · (repeat' ((conv => whnf) <;> first | exact rfl | exact trivial | apply And.intro | exact Nat.zero_add _))
          all_goals first | exact ek | ((conv => whnf); simp; done) | (simp; done)
        · (repeat' ((conv => whnf) <;> first | exact rfl | exact trivial | apply And.intro | exact Nat.zero_add _))
        intro y hy; clear y hy
        (repeat' ((conv => whnf); first | apply And.intro | exact ⟨by kernel_rfl⟩ | apply DrawN.mk | apply CodeN.step hm rfl | exact trivial | exact rfl | (intro hh; try simp only [bs] at hh; try exact absurd hh (by decide)))); all_goals (conv => whnf)
        all_goals first
          | (have e := hY (by omega) (by assumption) (by assumption)
             (refine RetN.q () [] ?_ ?_ ?_ <;> (repeat' ((conv => whnf) <;> first | exact rfl | exact trivial | apply And.intro | exact Nat.zero_add _)); all_goals ((conv => whnf); try simp only []))
             all_goals first | (rw [e]; done) | (rw [e]; exact ek) | (rw [e]; rfl) | (rw [e]; simp; done))
          | (have e := hN (by first | exact .inl (by omega) | exact .inr (.inl (by assumption)) | exact .inr (.inr (by assumption)))
             (refine RetN.q () [] ?_ ?_ ?_ <;> (repeat' ((conv => whnf) <;> first | exact rfl | exact trivial | apply And.intro | exact Nat.zero_add _)); all_goals ((conv => whnf); try simp only []))
             all_goals first | (rw [e]; done) | (rw [e]; rfl))
  · (refine CallN.q (rn21 s 1 1 (by omega) hs2) [1] ?_; rintro ⟨b, t1⟩ q1; (repeat' ((conv => whnf); first | apply And.intro | exact ⟨by kernel_rfl⟩ | apply DrawN.mk | apply CodeN.step hm rfl | exact trivial | exact rfl | (intro hh; try simp only [bs] at hh; try exact absurd hh (by decide)))); all_goals (conv => whnf); all_goals try exact ⟨by decide⟩)
    (refine CallN.q (rt21 s t1 hs2) [1] ?_; rintro ⟨n, t2⟩ q2; (repeat' ((conv => whnf); first | apply And.intro | exact ⟨by kernel_rfl⟩ | apply DrawN.mk | apply CodeN.step hm rfl | exact trivial | exact rfl | (intro hh; try simp only [bs] at hh; try exact absurd hh (by decide)))); all_goals (conv => whnf); all_goals try exact ⟨by decide⟩)
    have hb2 := q2.at_
    have hA : Agr (readB s (hd s) 1) ((hd s, false, [], 0, (0, 0, 0, 0), (b, n), 0), t2) := agr_four (by omega) (name_agr q1 q2)
    obtain ⟨hY, hN⟩ := rdec_end h1 hk hA
    have hsh : ShC (hd s, false, [], 0, (0, 0, 0, 0), (b, n), 0) := sh0 q2.val
    refine CallN.intro (rencodeM (hd s, false, [], 0, (0, 0, 0, 0), (b, n), 0) hsh) [] rfl rfl ?_ ?_ ?_
    · (repeat' ((conv => whnf) <;> first | exact rfl | exact trivial | apply And.intro | exact Nat.zero_add _))
      all_goals first | exact ek | ((conv => whnf); simp; done) | (simp; done)
    · (repeat' ((conv => whnf) <;> first | exact rfl | exact trivial | apply And.intro | exact Nat.zero_add _))
    intro y hy; clear y hy
    (repeat' ((conv => whnf); first | apply And.intro | exact ⟨by kernel_rfl⟩ | apply DrawN.mk | apply CodeN.step hm rfl | exact trivial | exact rfl | (intro hh; try simp only [bs] at hh; try exact absurd hh (by decide)))); all_goals (conv => whnf)
    all_goals first
      | (have e := hY (by omega) (by assumption) (by assumption)
         (refine RetN.q () [] ?_ ?_ ?_ <;> (repeat' ((conv => whnf) <;> first | exact rfl | exact trivial | apply And.intro | exact Nat.zero_add _)); all_goals ((conv => whnf); try simp only []))
         all_goals first | (rw [e]; done) | (rw [e]; exact ek) | (rw [e]; rfl) | (rw [e]; simp; done))
      | (have e := hN (by first | exact .inl (by omega) | exact .inr (.inl (by assumption)) | exact .inr (.inr (by assumption)))
         (refine RetN.q () [] ?_ ?_ ?_ <;> (repeat' ((conv => whnf) <;> first | exact rfl | exact trivial | apply And.intro | exact Nat.zero_add _)); all_goals ((conv => whnf); try simp only []))
         all_goals first | (rw [e]; done) | (rw [e]; rfl))
  · (refine CallN.q (rn21 s 1 1 (by omega) hs2) [1] ?_; rintro ⟨b, t1⟩ q1; (repeat' ((conv => whnf); first | apply And.intro | exact ⟨by kernel_rfl⟩ | apply DrawN.mk | apply CodeN.step hm rfl | exact trivial | exact rfl | (intro hh; try simp only [bs] at hh; try exact absurd hh (by decide)))); all_goals (conv => whnf); all_goals try exact ⟨by decide⟩)
    (refine CallN.q (rn21 s t1 1 (by omega) hs2) [1] ?_; rintro ⟨p1, t2⟩ q2; (repeat' ((conv => whnf); first | apply And.intro | exact ⟨by kernel_rfl⟩ | apply DrawN.mk | apply CodeN.step hm rfl | exact trivial | exact rfl | (intro hh; try simp only [bs] at hh; try exact absurd hh (by decide)))); all_goals (conv => whnf); all_goals try exact ⟨by decide⟩)
    (refine CallN.q (rn21 s t2 4 (by omega) hs2) [1] ?_; rintro ⟨p2, t3⟩ q3; (repeat' ((conv => whnf); first | apply And.intro | exact ⟨by kernel_rfl⟩ | apply DrawN.mk | apply CodeN.step hm rfl | exact trivial | exact rfl | (intro hh; try simp only [bs] at hh; try exact absurd hh (by decide)))); all_goals (conv => whnf); all_goals try exact ⟨by decide⟩)
    (refine CallN.q (rn21 s t3 4 (by omega) hs2) [1] ?_; rintro ⟨p3, t4⟩ q4; (repeat' ((conv => whnf); first | apply And.intro | exact ⟨by kernel_rfl⟩ | apply DrawN.mk | apply CodeN.step hm rfl | exact trivial | exact rfl | (intro hh; try simp only [bs] at hh; try exact absurd hh (by decide)))); all_goals (conv => whnf); all_goals try exact ⟨by decide⟩)
    (refine CallN.q (rn21 s t4 1 (by omega) hs2) [1] ?_; rintro ⟨p4, t5⟩ q5; (repeat' ((conv => whnf); first | apply And.intro | exact ⟨by kernel_rfl⟩ | apply DrawN.mk | apply CodeN.step hm rfl | exact trivial | exact rfl | (intro hh; try simp only [bs] at hh; try exact absurd hh (by decide)))); all_goals (conv => whnf); all_goals try exact ⟨by decide⟩)
    have hb2 := q5.at_
    have hA : Agr (readB s (hd s) 1) ((hd s, false, [], b, (p1, p2, p3, p4), (0, []), 0), t5) := agr_five (by omega) (numsA q1 (numsA q2 (numsA q3 (numsA q4 q5.agr))))
    obtain ⟨hY, hN⟩ := rdec_end h1 hk hA
    have hsh : ShC (hd s, false, [], b, (p1, p2, p3, p4), (0, []), 0) := sh0 (by simp)
    refine CallN.intro (rencodeM (hd s, false, [], b, (p1, p2, p3, p4), (0, []), 0) hsh) [] rfl rfl ?_ ?_ ?_
    · (repeat' ((conv => whnf) <;> first | exact rfl | exact trivial | apply And.intro | exact Nat.zero_add _))
      all_goals first | exact ek | ((conv => whnf); simp; done) | (simp; done)
    · (repeat' ((conv => whnf) <;> first | exact rfl | exact trivial | apply And.intro | exact Nat.zero_add _))
    intro y hy; clear y hy
    (repeat' ((conv => whnf); first | apply And.intro | exact ⟨by kernel_rfl⟩ | apply DrawN.mk | apply CodeN.step hm rfl | exact trivial | exact rfl | (intro hh; try simp only [bs] at hh; try exact absurd hh (by decide)))); all_goals (conv => whnf)
    all_goals first
      | (have e := hY (by omega) (by assumption) (by assumption)
         (refine RetN.q () [] ?_ ?_ ?_ <;> (repeat' ((conv => whnf) <;> first | exact rfl | exact trivial | apply And.intro | exact Nat.zero_add _)); all_goals ((conv => whnf); try simp only []))
         all_goals first | (rw [e]; done) | (rw [e]; exact ek) | (rw [e]; rfl) | (rw [e]; simp; done))
      | (have e := hN (by first | exact .inl (by omega) | exact .inr (.inl (by assumption)) | exact .inr (.inr (by assumption)))
         (refine RetN.q () [] ?_ ?_ ?_ <;> (repeat' ((conv => whnf) <;> first | exact rfl | exact trivial | apply And.intro | exact Nat.zero_add _)); all_goals ((conv => whnf); try simp only []))
         all_goals first | (rw [e]; done) | (rw [e]; rfl))
  · (refine CallN.q (rn21 s 1 1 (by omega) hs2) [1] ?_; rintro ⟨b, t1⟩ q1; (repeat' ((conv => whnf); first | apply And.intro | exact ⟨by kernel_rfl⟩ | apply DrawN.mk | apply CodeN.step hm rfl | exact trivial | exact rfl | (intro hh; try simp only [bs] at hh; try exact absurd hh (by decide)))); all_goals (conv => whnf); all_goals try exact ⟨by decide⟩)
    have hb2 := q1.at_
    have hA : Agr (readB s (hd s) 1) ((hd s, false, [], b, (0, 0, 0, 0), (0, []), 0), t1) := agr_six (.inl (by omega)) q1.agr
    obtain ⟨hY, hN⟩ := rdec_end h1 hk hA
    have hsh : ShC (hd s, false, [], b, (0, 0, 0, 0), (0, []), 0) := sh0 (by simp)
    refine CallN.intro (rencodeM (hd s, false, [], b, (0, 0, 0, 0), (0, []), 0) hsh) [] rfl rfl ?_ ?_ ?_
    · (repeat' ((conv => whnf) <;> first | exact rfl | exact trivial | apply And.intro | exact Nat.zero_add _))
      all_goals first | exact ek | ((conv => whnf); simp; done) | (simp; done)
    · (repeat' ((conv => whnf) <;> first | exact rfl | exact trivial | apply And.intro | exact Nat.zero_add _))
    intro y hy; clear y hy
    (repeat' ((conv => whnf); first | apply And.intro | exact ⟨by kernel_rfl⟩ | apply DrawN.mk | apply CodeN.step hm rfl | exact trivial | exact rfl | (intro hh; try simp only [bs] at hh; try exact absurd hh (by decide)))); all_goals (conv => whnf)
    all_goals first
      | (have e := hY (by omega) (by assumption) (by assumption)
         (refine RetN.q () [] ?_ ?_ ?_ <;> (repeat' ((conv => whnf) <;> first | exact rfl | exact trivial | apply And.intro | exact Nat.zero_add _)); all_goals ((conv => whnf); try simp only []))
         all_goals first | (rw [e]; done) | (rw [e]; exact ek) | (rw [e]; rfl) | (rw [e]; simp; done))
      | (have e := hN (by first | exact .inl (by omega) | exact .inr (.inl (by assumption)) | exact .inr (.inr (by assumption)))
         (refine RetN.q () [] ?_ ?_ ?_ <;> (repeat' ((conv => whnf) <;> first | exact rfl | exact trivial | apply And.intro | exact Nat.zero_add _)); all_goals ((conv => whnf); try simp only []))
         all_goals first | (rw [e]; done) | (rw [e]; rfl))
  · (refine CallN.q (rn21 s 1 1 (by omega) hs2) [1] ?_; rintro ⟨b, t1⟩ q1; (repeat' ((conv => whnf); first | apply And.intro | exact ⟨by kernel_rfl⟩ | apply DrawN.mk | apply CodeN.step hm rfl | exact trivial | exact rfl | (intro hh; try simp only [bs] at hh; try exact absurd hh (by decide)))); all_goals (conv => whnf); all_goals try exact ⟨by decide⟩)
    have hb2 := q1.at_
    have hA : Agr (readB s (hd s) 1) ((hd s, false, [], b, (0, 0, 0, 0), (0, []), 0), t1) := agr_six (.inr (by omega)) q1.agr
    obtain ⟨hY, hN⟩ := rdec_end h1 hk hA
    have hsh : ShC (hd s, false, [], b, (0, 0, 0, 0), (0, []), 0) := sh0 (by simp)
    refine CallN.intro (rencodeM (hd s, false, [], b, (0, 0, 0, 0), (0, []), 0) hsh) [] rfl rfl ?_ ?_ ?_
    · (repeat' ((conv => whnf) <;> first | exact rfl | exact trivial | apply And.intro | exact Nat.zero_add _))
      all_goals first | exact ek | ((conv => whnf); simp; done) | (simp; done)
    · (repeat' ((conv => whnf) <;> first | exact rfl | exact trivial | apply And.intro | exact Nat.zero_add _))
    intro y hy; clear y hy
    (repeat' ((conv => whnf); first | apply And.intro | exact ⟨by kernel_rfl⟩ | apply DrawN.mk | apply CodeN.step hm rfl | exact trivial | exact rfl | (intro hh; try simp only [bs] at hh; try exact absurd hh (by decide)))); all_goals (conv => whnf)
    all_goals first
      | (have e := hY (by omega) (by assumption) (by assumption)
         (refine RetN.q () [] ?_ ?_ ?_ <;> (repeat' ((conv => whnf) <;> first | exact rfl | exact trivial | apply And.intro | exact Nat.zero_add _)); all_goals ((conv => whnf); try simp only []))
         all_goals first | (rw [e]; done) | (rw [e]; exact ek) | (rw [e]; rfl) | (rw [e]; simp; done))
      | (have e := hN (by first | exact .inl (by omega) | exact .inr (.inl (by assumption)) | exact .inr (.inr (by assumption)))
         (refine RetN.q () [] ?_ ?_ ?_ <;> (repeat' ((conv => whnf) <;> first | exact rfl | exact trivial | apply And.intro | exact Nat.zero_add _)); all_goals ((conv => whnf); try simp only []))
         all_goals first | (rw [e]; done) | (rw [e]; rfl))
  · (refine CallN.q (rn21 s 1 1 (by omega) hs2) [1] ?_; rintro ⟨b, t1⟩ q1; (repeat' ((conv => whnf); first | apply And.intro | exact ⟨by kernel_rfl⟩ | apply DrawN.mk | apply CodeN.step hm rfl | exact trivial | exact rfl | (intro hh; try simp only [bs] at hh; try exact absurd hh (by decide)))); all_goals (conv => whnf); all_goals try exact ⟨by decide⟩)
    (refine CallN.q (rt21 s t1 hs2) [1] ?_; rintro ⟨n, t2⟩ q2; (repeat' ((conv => whnf); first | apply And.intro | exact ⟨by kernel_rfl⟩ | apply DrawN.mk | apply CodeN.step hm rfl | exact trivial | exact rfl | (intro hh; try simp only [bs] at hh; try exact absurd hh (by decide)))); all_goals (conv => whnf); all_goals try exact ⟨by decide⟩)
    (refine CallN.q (rn21 s t2 1 (by omega) hs2) [1] ?_; rintro ⟨m, t3⟩ q3; (repeat' ((conv => whnf); first | apply And.intro | exact ⟨by kernel_rfl⟩ | apply DrawN.mk | apply CodeN.step hm rfl | exact trivial | exact rfl | (intro hh; try simp only [bs] at hh; try exact absurd hh (by decide)))); all_goals (conv => whnf); all_goals try exact ⟨by decide⟩)
    have hb2 := q3.at_
    have hA : Agr (readB s (hd s) 1) ((hd s, false, [], 0, (0, 0, 0, 0), (b, n), m), t3) := agr_nine (by omega) (name_agr q1 q2) q3.agr
    obtain ⟨hY, hN⟩ := rdec_end h1 hk hA
    have hsh : ShC (hd s, false, [], 0, (0, 0, 0, 0), (b, n), m) := sh0 q2.val
    refine CallN.intro (rencodeM (hd s, false, [], 0, (0, 0, 0, 0), (b, n), m) hsh) [] rfl rfl ?_ ?_ ?_
    · (repeat' ((conv => whnf) <;> first | exact rfl | exact trivial | apply And.intro | exact Nat.zero_add _))
      all_goals first | exact ek | ((conv => whnf); simp; done) | (simp; done)
    · (repeat' ((conv => whnf) <;> first | exact rfl | exact trivial | apply And.intro | exact Nat.zero_add _))
    intro y hy; clear y hy
    (repeat' ((conv => whnf); first | apply And.intro | exact ⟨by kernel_rfl⟩ | apply DrawN.mk | apply CodeN.step hm rfl | exact trivial | exact rfl | (intro hh; try simp only [bs] at hh; try exact absurd hh (by decide)))); all_goals (conv => whnf)
    all_goals first
      | (have e := hY (by omega) (by assumption) (by assumption)
         (refine RetN.q () [] ?_ ?_ ?_ <;> (repeat' ((conv => whnf) <;> first | exact rfl | exact trivial | apply And.intro | exact Nat.zero_add _)); all_goals ((conv => whnf); try simp only []))
         all_goals first | (rw [e]; done) | (rw [e]; exact ek) | (rw [e]; rfl) | (rw [e]; simp; done))
      | (have e := hN (by first | exact .inl (by omega) | exact .inr (.inl (by assumption)) | exact .inr (.inr (by assumption)))
         (refine RetN.q () [] ?_ ?_ ?_ <;> (repeat' ((conv => whnf) <;> first | exact rfl | exact trivial | apply And.intro | exact Nat.zero_add _)); all_goals ((conv => whnf); try simp only []))
         all_goals first | (rw [e]; done) | (rw [e]; rfl))
  · have hA : Agr (readB s (hd s) 1) ((hd s, false, [], 0, (0, 0, 0, 0), (0, []), 0), (1 : Int)) := agr_eight (by omega)
    obtain ⟨hY, hN⟩ := rdec_end h1 hk hA
    have hsh : ShC (hd s, false, [], 0, (0, 0, 0, 0), (0, []), 0) := sh0 (by simp)
    refine CallN.intro (rencodeM (hd s, false, [], 0, (0, 0, 0, 0), (0, []), 0) hsh) [] rfl rfl ?_ ?_ ?_
    · (repeat' ((conv => whnf) <;> first | exact rfl | exact trivial | apply And.intro | exact Nat.zero_add _))
      all_goals first | exact ek | ((conv => whnf); simp; done) | (simp; done)
    · (repeat' ((conv => whnf) <;> first | exact rfl | exact trivial | apply And.intro | exact Nat.zero_add _))
    intro y hy; clear y hy
    (repeat' ((conv => whnf); first | apply And.intro | exact ⟨by kernel_rfl⟩ | apply DrawN.mk | apply CodeN.step hm rfl | exact trivial | exact rfl | (intro hh; try simp only [bs] at hh; try exact absurd hh (by decide)))); all_goals (conv => whnf)
    all_goals first
      | (have e := hY (by omega) (by assumption) (by assumption)
         (refine RetN.q () [] ?_ ?_ ?_ <;> (repeat' ((conv => whnf) <;> first | exact rfl | exact trivial | apply And.intro | exact Nat.zero_add _)); all_goals ((conv => whnf); try simp only []))
         all_goals first | (rw [e]; done) | (rw [e]; exact ek) | (rw [e]; rfl) | (rw [e]; simp; done))
      | (have e := hN (by first | exact .inl (by omega) | exact .inr (.inl (by assumption)) | exact .inr (.inr (by assumption)))
         (refine RetN.q () [] ?_ ?_ ?_ <;> (repeat' ((conv => whnf) <;> first | exact rfl | exact trivial | apply And.intro | exact Nat.zero_add _)); all_goals ((conv => whnf); try simp only []))
         all_goals first | (rw [e]; done) | (rw [e]; rfl))
end Go.Proofs.Ytoipgandilhdeaa.Wi
set_option linter.unusedVariables false
set_option linter.unusedSimpArgs false
namespace Go.Proofs.Ytoipgandilhdeaa.Wi
open Go Go.RowKit Fw Nu
open An (byv byv_len byv_app byv_back byv_range fitsB fits_iff wides bads wides_len fits_neg shr_ne from_ readL readL_get readL_put readName nameB nameW name_get name_put readN readN_get readN_put bads_cons bads_nil bads_book fits_one rFitsM byteM fourM policyM)
theorem shortM (c : Cmd) : Meets Try.prog 22 [cmdAV c] [] (Y := Bool) (fun y => y = true → ShC c) (fun y => .bool fun _ => y) (fun _ => []) := by
  refine Meets.intro hm (fn := Try.f22) Try.func22 rfl (by decide) (Nat.le_of_ble_eq_true rfl) (fun _ => rfl) ?_; intro S hok; (conv => whnf)
  (repeat' ((conv => whnf); first | apply And.intro | exact ⟨by kernel_rfl⟩ | apply DrawN.mk | apply CodeN.step hm rfl | exact trivial | exact rfl | (intro hh; try simp only [bs] at hh))); all_goals (conv => whnf)
  all_goals first
    | ((refine RetN.q false [] ?_ ?_ ?_ <;> (repeat' ((conv => whnf) <;> first | exact rfl | exact trivial | apply And.intro | exact Nat.zero_add _)); all_goals ((conv => whnf); try simp only []))
       exact fun h => (by cases h))
    | skip
  have hl : c.2.2.1.length ≤ 40 ∧ c.2.2.2.2.2.1.2.length ≤ 300 := by omega
  refine LoopN.intro hm (X := Nat) (fun i => i ≤ c.2.2.1.length ∧ ∀ x ∈ c.2.2.1.take i, x.2.1.length ≤ 300) (fun i => c.2.2.1.length - i)
    (fun i => [(3, .int .i64 fun _ => (i : Int)), (2, .ff), (1, .ptr 0 0)]) (fun _ => [cmdW c]) 0 [0] ⟨rfl, rfl, ?_, ?_⟩ ⟨Nat.zero_le _, by simp⟩ (fun i hi => ?_)
  · (repeat' ((conv => whnf) <;> first | exact rfl | exact trivial | apply And.intro | exact Nat.zero_add _))
  · (repeat' ((conv => whnf) <;> first | exact rfl | exact trivial | apply And.intro | exact Nat.zero_add _))
  obtain ⟨hi, ha⟩ := hi
  (repeat' ((conv => whnf); first | apply And.intro | exact ⟨by kernel_rfl⟩ | apply DrawN.mk | apply CodeN.step hm rfl | exact trivial | exact rfl | (intro hh; try simp only [bs] at hh))); all_goals (conv => whnf)
  · exact Ob.mk (by simp only []; omega)
  all_goals have hx' : c.2.2.1.getD (i : Int).toNat AskT.dflt = c.2.2.1.getD i (0, [], 0) := rfl
  · (refine RetN.q false [] ?_ ?_ ?_ <;> (repeat' ((conv => whnf) <;> first | exact rfl | exact trivial | apply And.intro | exact Nat.zero_add _)); all_goals ((conv => whnf); try simp only []))
    exact fun h => (by cases h)
  · have hi2 : i < c.2.2.1.length := by omega
    refine ⟨i + 1, [0], ⟨rfl, rfl, ?_, ?_⟩, ⟨by omega, ?_⟩, by omega⟩
    · (repeat' ((conv => whnf) <;> first | exact rfl | exact trivial | apply And.intro | exact Nat.zero_add _))
    · (repeat' ((conv => whnf) <;> first | exact rfl | exact trivial | apply And.intro | exact Nat.zero_add _)); all_goals ((conv => whnf); try simp only [])
      exact wr2 i hi2 (by have := hl.1; omega)
    · intro x hx
      rw [List.take_add_one, List.getElem?_eq_getElem hi2] at hx
      rcases List.mem_append.1 hx with h | h
      · exact ha x h
      · simp only [Option.toList, List.mem_singleton] at h
        have hh : ¬ (300 : Int) < (c.2.2.1.getD (i : Int).toNat AskT.dflt).2.1.length := hh
        have e : c.2.2.1.getD (i : Int).toNat AskT.dflt = c.2.2.1[i]'hi2 := by
          show c.2.2.1.getD i _ = _
          rw [List.getD_eq_getElem?_getD, List.getElem?_eq_getElem hi2]; rfl
        rw [e] at hh
        rw [h]; omega
  · (refine RetN.q true [] ?_ ?_ ?_ <;> (repeat' ((conv => whnf) <;> first | exact rfl | exact trivial | apply And.intro | exact Nat.zero_add _)); all_goals ((conv => whnf); try simp only []))
    rw [List.take_of_length_le (by omega)] at ha
    exact fun _ => ⟨by omega, ha, by omega⟩
theorem rsameM (a b : Cmd) (ha : a.2.2.1.length ≤ 100000) (hb : b.2.2.1.length ≤ 100000) : Meets Try.prog 30 [cmdAV a, cmdAV b] [] (Y := Unit) (fun _ => True) (fun _ => .bool fun _ => decide (a = b)) (fun _ => []) := by
  obtain ⟨ak, al, aa, ab, ap, an, am⟩ := a
  obtain ⟨bk, bl, ba, bb, bp, bn, bm⟩ := b
  refine Meets.intro hm (fn := Try.f30) Try.func30 rfl (by decide) (Nat.le_of_ble_eq_true rfl) (fun _ => rfl) ?_; intro S hok; (conv => whnf)
  (repeat' ((conv => whnf); first | apply And.intro | exact ⟨by kernel_rfl⟩ | apply DrawN.mk | apply CodeN.step hm rfl | exact trivial | exact rfl | (intro hh; try simp only [bs] at hh))); all_goals (conv => whnf)
  all_goals try
    (refine RetN.q () [] ?_ ?_ ?_ <;> (repeat' ((conv => whnf) <;> first | exact rfl | exact trivial | apply And.intro | exact Nat.zero_add _)); all_goals ((conv => whnf); try simp only []))
    refine decide_eq_false ?_; intro e
    simp only [Prod.mk.injEq] at e
    obtain ⟨e1, e2, e3, e4, e5, e6, e7⟩ := e
    subst e1 e2 e3 e4 e5 e6 e7
    first
      | exact hh rfl
      | exact absurd rfl ((eqD_no PolT rfl _ _).1 hh)
      | exact absurd rfl ((eqD_no NameT rfl _ _).1 hh)
  · (refine RetN.q () [] ?_ ?_ ?_ <;> (repeat' ((conv => whnf) <;> first | exact rfl | exact trivial | apply And.intro | exact Nat.zero_add _)); all_goals ((conv => whnf); try simp only []))
    refine decide_eq_false ?_; intro e
    simp only [Prod.mk.injEq] at e
    exact hh (by rw [e.2.2.1])
  have hp : ap = bp := (eqD_iff PolT rfl _ _).1 (by assumption)
  have hn : an = bn := (eqD_iff NameT rfl _ _).1 (by assumption)
  have e1 : ak = bk := by assumption
  have e2 : al = bl := by assumption
  have e3 : ab = bb := by assumption
  have e4 : am = bm := by assumption
  have hl : aa.length = ba.length := by omega
  have hla : aa.length ≤ 100000 := ha
  subst hp hn e1 e2 e3 e4
  refine LoopN.intro hm (X := Nat) (fun i => i ≤ aa.length ∧ aa.take i = ba.take i) (fun i => aa.length - i)
    (fun i => [(5, .int .i64 fun _ => (i : Int)), (3, .ptr 1 0), (2, .ptr 0 0)]) (fun _ => [cmdW (ak, al, aa, ab, ap, an, am), cmdW (ak, al, ba, ab, ap, an, am)]) 0 [0, 1] ⟨rfl, rfl, ?_, ?_⟩ ⟨Nat.zero_le _, rfl⟩ (fun i hi => ?_)
  · (repeat' ((conv => whnf) <;> first | exact rfl | exact trivial | apply And.intro | exact Nat.zero_add _))
  · (repeat' ((conv => whnf) <;> first | exact rfl | exact trivial | apply And.intro | exact Nat.zero_add _))
  obtain ⟨hi1, hi2⟩ := hi
  (repeat' ((conv => whnf); first | apply And.intro | exact ⟨by kernel_rfl⟩ | apply DrawN.mk | apply CodeN.step hm rfl | exact trivial | exact rfl | (intro hh; try simp only [bs] at hh))); all_goals (conv => whnf)
  · exact Ob.mk (by simp only []; omega)
  · exact Ob.mk (by simp only []; omega)
  · have hx : aa.getD i AskT.dflt ≠ ba.getD i AskT.dflt := (eqD_no AskT rfl _ _).1 hh
    (refine RetN.q () [] ?_ ?_ ?_ <;> (repeat' ((conv => whnf) <;> first | exact rfl | exact trivial | apply And.intro | exact Nat.zero_add _)); all_goals ((conv => whnf); try simp only []))
    refine decide_eq_false ?_; intro e
    simp only [Prod.mk.injEq] at e
    exact hx (by rw [e.2.2.1])
  · have hx : aa.getD i AskT.dflt = ba.getD i AskT.dflt := (eqD_iff AskT rfl _ _).1 hh
    refine ⟨i + 1, [0, 1], ⟨rfl, rfl, ?_, ?_⟩, ⟨by omega, take_eq_step (by omega) (by omega) hi2 hx⟩, by omega⟩
    · (repeat' ((conv => whnf) <;> first | exact rfl | exact trivial | apply And.intro | exact Nat.zero_add _))
    · (repeat' ((conv => whnf) <;> first | exact rfl | exact trivial | apply And.intro | exact Nat.zero_add _)); all_goals ((conv => whnf); try simp only [])
      exact wr2 i (n := aa.length) (by omega) (by omega)
  · have e : i = aa.length := by omega
    (refine RetN.q () [] ?_ ?_ ?_ <;> (repeat' ((conv => whnf) <;> first | exact rfl | exact trivial | apply And.intro | exact Nat.zero_add _)); all_goals ((conv => whnf); try simp only []))
    rw [e, List.take_length, hl, List.take_length] at hi2
    subst hi2
    exact decide_eq_true rfl
def exA : Cmd := (6, false, [], 3, (0, 0, 0, 0), (0, []), 0)
def exB : Cmd := (2, true, [(1, [107], 258)], 0, (0, 0, 0, 0), (0, []), 0)
def exC : Cmd := (6, false, [], 0, (0, 0, 0, 0), (0, []), 1)
theorem ex1 : encR exA = ([6, 3], 0) := by kernel_rfl
theorem ex2 : encR exB = ([2, 1, 1, 1, 1, 107, 0, 0, 1, 2], 0) := by kernel_rfl
theorem ex3 : decR [2, 1, 1, 1, 1, 107, 0, 0, 1, 2] = (exB, 0) := by kernel_rfl
theorem ex4 : decR [] = (zeroC, 3) := by kernel_rfl
theorem ex5 : decR [10] = (zeroC, 9) := by kernel_rfl
theorem ex6 : decR [6, 3, 120] = (zeroC, 3) := by kernel_rfl
theorem ex7 : encR exC = ([], 1) := by kernel_rfl
theorem ex8 : good exB = true := by kernel_rfl
theorem ex9 : good zeroC = false := by kernel_rfl
set_option maxRecDepth 4000 in
theorem liveM : Meets Try.prog 23 [] [] (Y := Unit) (fun _ => True) (fun _ => .tt) (fun _ => []) := by
  have M1 := encodeM exA ⟨by decide, by decide, by decide⟩
  have M2 := encodeM exB ⟨by decide, by decide, by decide⟩
  have M3 := decodeM [2, 1, 1, 1, 1, 107, 0, 0, 1, 2] (by decide)
  have M4 := decodeM [] (by decide)
  have M5 := decodeM [10] (by decide)
  have M6 := decodeM [6, 3, 120] (by decide)
  have M7 := encodeM exC ⟨by decide, by decide, by decide⟩
  have M8 := mayM exB ⟨by decide, by decide, by decide⟩
  have M9 := mayM zeroC ⟨by decide, by decide, by decide⟩
  rw [ex1] at M1
  rw [ex2] at M2
  rw [ex3] at M3
  rw [ex4] at M4
  rw [ex5] at M5
  rw [ex6] at M6
  rw [ex7] at M7
  rw [ex8] at M8
  rw [ex9] at M9
  refine Meets.intro hm (fn := Try.f23) Try.func23 rfl (by decide) (Nat.le_of_ble_eq_true rfl) (fun _ => rfl) ?_; intro S hok; (conv => whnf)
  (repeat' ((conv => whnf); first | apply And.intro | exact ⟨by kernel_rfl⟩ | apply DrawN.mk | apply CodeN.step hm rfl | exact trivial | exact rfl | (intro hh; try simp only [bs] at hh))); all_goals (conv => whnf)
  (refine CallN.q M1 [] (fun _ _ => ?_); (repeat' ((conv => whnf); first | apply And.intro | exact ⟨by kernel_rfl⟩ | apply DrawN.mk | apply CodeN.step hm rfl | exact trivial | exact rfl | (intro hh; try simp only [bs] at hh; try exact absurd hh (by decide)))); all_goals (conv => whnf); all_goals try exact ⟨by decide⟩)
  refine CallN.frz 0 ?_ M1.callable
  (conv => whnf)
  (refine CallN.q M2 [] (fun _ _ => ?_); (repeat' ((conv => whnf); first | apply And.intro | exact ⟨by kernel_rfl⟩ | apply DrawN.mk | apply CodeN.step hm rfl | exact trivial | exact rfl | (intro hh; try simp only [bs] at hh; try exact absurd hh (by decide)))); all_goals (conv => whnf); all_goals try exact ⟨by decide⟩)
  (refine CallN.q M3 [] (fun _ _ => ?_); (repeat' ((conv => whnf); first | apply And.intro | exact ⟨by kernel_rfl⟩ | apply DrawN.mk | apply CodeN.step hm rfl | exact trivial | exact rfl | (intro hh; try simp only [bs] at hh; try exact absurd hh (by decide)))); all_goals (conv => whnf); all_goals try exact ⟨by decide⟩)
  (refine CallN.q M4 [] (fun _ _ => ?_); (repeat' ((conv => whnf); first | apply And.intro | exact ⟨by kernel_rfl⟩ | apply DrawN.mk | apply CodeN.step hm rfl | exact trivial | exact rfl | (intro hh; try simp only [bs] at hh; try exact absurd hh (by decide)))); all_goals (conv => whnf); all_goals try exact ⟨by decide⟩)
  (refine CallN.q M5 [] (fun _ _ => ?_); (repeat' ((conv => whnf); first | apply And.intro | exact ⟨by kernel_rfl⟩ | apply DrawN.mk | apply CodeN.step hm rfl | exact trivial | exact rfl | (intro hh; try simp only [bs] at hh; try exact absurd hh (by decide)))); all_goals (conv => whnf); all_goals try exact ⟨by decide⟩)
  (refine CallN.q M6 [] (fun _ _ => ?_); (repeat' ((conv => whnf); first | apply And.intro | exact ⟨by kernel_rfl⟩ | apply DrawN.mk | apply CodeN.step hm rfl | exact trivial | exact rfl | (intro hh; try simp only [bs] at hh; try exact absurd hh (by decide)))); all_goals (conv => whnf); all_goals try exact ⟨by decide⟩)
  (refine CallN.q M7 [] (fun _ _ => ?_); (repeat' ((conv => whnf); first | apply And.intro | exact ⟨by kernel_rfl⟩ | apply DrawN.mk | apply CodeN.step hm rfl | exact trivial | exact rfl | (intro hh; try simp only [bs] at hh; try exact absurd hh (by decide)))); all_goals (conv => whnf); all_goals try exact ⟨by decide⟩)
  all_goals try (exfalso; first | exact absurd hh (by decide) | exact hh rfl | exact absurd rfl hh)
  (refine CallN.q M8 [] (fun _ _ => ?_); (repeat' ((conv => whnf); first | apply And.intro | exact ⟨by kernel_rfl⟩ | apply DrawN.mk | apply CodeN.step hm rfl | exact trivial | exact rfl | (intro hh; try simp only [bs] at hh; try exact absurd hh (by decide)))); all_goals (conv => whnf); all_goals try exact ⟨by decide⟩)
  (refine CallN.q M9 [] (fun _ _ => ?_); (repeat' ((conv => whnf); first | apply And.intro | exact ⟨by kernel_rfl⟩ | apply DrawN.mk | apply CodeN.step hm rfl | exact trivial | exact rfl | (intro hh; try simp only [bs] at hh; try exact absurd hh (by decide)))); all_goals (conv => whnf); all_goals try exact ⟨by decide⟩)
  (refine RetN.q () [] ?_ ?_ ?_ <;> (repeat' ((conv => whnf) <;> first | exact rfl | exact trivial | apply And.intro | exact Nat.zero_add _)); all_goals ((conv => whnf); try simp only []))
end Go.Proofs.Ytoipgandilhdeaa.Wi
set_option linter.unusedVariables false
set_option linter.unusedSimpArgs false
namespace Go.Proofs.Ytoipgandilhdeaa.Wi
open Go Go.RowKit Fw Nu
open An (bads_book bads nameW)
theorem writesLawM (c : Cmd) : Meets Try.prog 8 [cmdAV c] [] (Y := Unit) (fun _ => True) (fun _ => .tt) (fun _ => []) := by
  refine Meets.intro hm (fn := Try.f8) Try.func8 rfl (by decide) (Nat.le_of_ble_eq_true rfl) (fun _ => rfl) ?_; intro S hok; (conv => whnf)
  (repeat' ((conv => whnf); first | apply And.intro | exact ⟨by kernel_rfl⟩ | apply DrawN.mk | apply CodeN.step hm rfl | exact trivial | exact rfl | (intro hh; try simp only [bs] at hh))); all_goals (conv => whnf)
  refine CallN.intro (shortM c) [] rfl rfl ?_ ?_ ?_
  · (repeat' ((conv => whnf) <;> first | exact rfl | exact trivial | apply And.intro | exact Nat.zero_add _))
  · (repeat' ((conv => whnf) <;> first | exact rfl | exact trivial | apply And.intro | exact Nat.zero_add _))
  intro q hq
  (repeat' ((conv => whnf); first | apply And.intro | exact ⟨by kernel_rfl⟩ | apply DrawN.mk | apply CodeN.step hm rfl | exact trivial | exact rfl | (intro hh; try simp only [bs] at hh))); all_goals (conv => whnf)
  · (refine CallN.q liveM [] (fun _ _ => ?_); (repeat' ((conv => whnf); first | apply And.intro | exact ⟨by kernel_rfl⟩ | apply DrawN.mk | apply CodeN.step hm rfl | exact trivial | exact rfl | (intro hh; try simp only [bs] at hh; try exact absurd hh (by decide)))); all_goals (conv => whnf); all_goals try exact ⟨by decide⟩)
    (refine RetN.q () [] ?_ ?_ ?_ <;> (repeat' ((conv => whnf) <;> first | exact rfl | exact trivial | apply And.intro | exact Nat.zero_add _)); all_goals ((conv => whnf); try simp only []))
  · have sh := hq (by first | assumption | rfl)
    (refine CallN.q (encodeM c sh) [] (fun _ _ => ?_); (repeat' ((conv => whnf); first | apply And.intro | exact ⟨by kernel_rfl⟩ | apply DrawN.mk | apply CodeN.step hm rfl | exact trivial | exact rfl | (intro hh; try simp only [bs] at hh; try exact absurd hh (by decide)))); all_goals (conv => whnf); all_goals try exact ⟨by decide⟩)
    (refine CallN.q (rencodeM c sh) [] (fun _ _ => ?_); (repeat' ((conv => whnf); first | apply And.intro | exact ⟨by kernel_rfl⟩ | apply DrawN.mk | apply CodeN.step hm rfl | exact trivial | exact rfl | (intro hh; try simp only [bs] at hh; try exact absurd hh (by decide)))); all_goals (conv => whnf); all_goals try exact ⟨by decide⟩)
    (refine CallN.q (mayM c sh) [] (fun _ _ => ?_); (repeat' ((conv => whnf); first | apply And.intro | exact ⟨by kernel_rfl⟩ | apply DrawN.mk | apply CodeN.step hm rfl | exact trivial | exact rfl | (intro hh; try simp only [bs] at hh; try exact absurd hh (by decide)))); all_goals (conv => whnf); all_goals try exact ⟨by decide⟩)
    (refine CallN.q (rmayM c sh) [] (fun _ _ => ?_); (repeat' ((conv => whnf); first | apply And.intro | exact ⟨by kernel_rfl⟩ | apply DrawN.mk | apply CodeN.step hm rfl | exact trivial | exact rfl | (intro hh; try simp only [bs] at hh; try exact absurd hh (by decide)))); all_goals (conv => whnf); all_goals try exact ⟨by decide⟩)
    all_goals first | exact absurd rfl hh | skip
    (refine CallN.q liveM [] (fun _ _ => ?_); (repeat' ((conv => whnf); first | apply And.intro | exact ⟨by kernel_rfl⟩ | apply DrawN.mk | apply CodeN.step hm rfl | exact trivial | exact rfl | (intro hh; try simp only [bs] at hh; try exact absurd hh (by decide)))); all_goals (conv => whnf); all_goals try exact ⟨by decide⟩)
    (refine RetN.q () [] ?_ ?_ ?_ <;> (repeat' ((conv => whnf) <;> first | exact rfl | exact trivial | apply And.intro | exact Nat.zero_add _)); all_goals ((conv => whnf); try simp only []))
theorem good_sh {c : Cmd} (g : good c = true) : ShC c := by
  rw [goodB_eq] at g
  simp only [goodB, Bool.and_eq_true, Bool.not_eq_true'] at g
  obtain ⟨⟨⟨⟨⟨⟨⟨g1, g2⟩, g3⟩, g4⟩, g5⟩, g6⟩, g7⟩, g8⟩ := g
  refine ⟨?_, fun x hx => ?_, ?_⟩
  · split at g3
    · have := of_decide_eq_true g3; omega
    · split at g3
      · have := of_decide_eq_true g3; omega
      · have := of_decide_eq_true g3; omega
  · have h := List.any_eq_false.1 g1 x hx
    simp only [askW, nameW, bads_book, An.put_ok, Bool.or_eq_true, not_or, Bool.not_eq_true, Bool.not_eq_false', decide_eq_true_eq] at h
    omega
  · split at g7
    · simp only [nameW, An.put_ok, Bool.or_eq_false_iff, Bool.not_eq_true', Bool.not_eq_false', decide_eq_true_eq] at g7
      omega
    · have := (eqD_iff NameT rfl _ _).1 g7
      rw [this]; simp
theorem decR_sh (s : Bytes) (h : s.length ≤ 1000) : ShC (decR s).1 := by
  rcases dec_cases s with ⟨_, e⟩ | ⟨_, _, e⟩ | ⟨_, _, _, e⟩ | ⟨_, c, _, e, g, _, _⟩
  · rw [e]; exact ⟨by decide, by decide, by decide⟩
  · rw [e]; exact ⟨by decide, by decide, by decide⟩
  · rw [e]; exact ⟨by decide, by decide, by decide⟩
  · rw [e]; exact good_sh g
theorem readsLawM (s : Bytes) : Meets Try.prog 9 [.str fun _ => s] [] (Y := Unit) (fun _ => True) (fun _ => .tt) (fun _ => []) := by
  refine Meets.intro hm (fn := Try.f9) Try.func9 rfl (by decide) (Nat.le_of_ble_eq_true rfl) (fun _ => rfl) ?_; intro S hok; (conv => whnf)
  (repeat' ((conv => whnf); first | apply And.intro | exact ⟨by kernel_rfl⟩ | apply DrawN.mk | apply CodeN.step hm rfl | exact trivial | exact rfl | (intro hh; try simp only [bs] at hh))); all_goals (conv => whnf)
  · (refine CallN.q liveM [] (fun _ _ => ?_); (repeat' ((conv => whnf); first | apply And.intro | exact ⟨by kernel_rfl⟩ | apply DrawN.mk | apply CodeN.step hm rfl | exact trivial | exact rfl | (intro hh; try simp only [bs] at hh; try exact absurd hh (by decide)))); all_goals (conv => whnf); all_goals try exact ⟨by decide⟩)
    (refine RetN.q () [] ?_ ?_ ?_ <;> (repeat' ((conv => whnf) <;> first | exact rfl | exact trivial | apply And.intro | exact Nat.zero_add _)); all_goals ((conv => whnf); try simp only []))
  · have hs : s.length ≤ 1000 := by omega
    have hsh := (decR_sh s hs).asks
    (refine CallN.q (decodeM s (by omega)) [] (fun _ _ => ?_); (repeat' ((conv => whnf); first | apply And.intro | exact ⟨by kernel_rfl⟩ | apply DrawN.mk | apply CodeN.step hm rfl | exact trivial | exact rfl | (intro hh; try simp only [bs] at hh; try exact absurd hh (by decide)))); all_goals (conv => whnf); all_goals try exact ⟨by decide⟩)
    (refine CallN.q (rdecM s hs) [] (fun _ _ => ?_); (repeat' ((conv => whnf); first | apply And.intro | exact ⟨by kernel_rfl⟩ | apply DrawN.mk | apply CodeN.step hm rfl | exact trivial | exact rfl | (intro hh; try simp only [bs] at hh; try exact absurd hh (by decide)))); all_goals (conv => whnf); all_goals try exact ⟨by decide⟩)
    (refine CallN.q (rsameM (decR s).1 (decR s).1 (by omega) (by omega)) [] (fun _ _ => ?_); (repeat' ((conv => whnf); first | apply And.intro | exact ⟨by kernel_rfl⟩ | apply DrawN.mk | apply CodeN.step hm rfl | exact trivial | exact rfl | (intro hh; try simp only [bs] at hh; try exact absurd hh (by decide)))); all_goals (conv => whnf); all_goals try exact ⟨by decide⟩)
    all_goals first | exact absurd rfl hh | skip
    (refine CallN.q liveM [] (fun _ _ => ?_); (repeat' ((conv => whnf); first | apply And.intro | exact ⟨by kernel_rfl⟩ | apply DrawN.mk | apply CodeN.step hm rfl | exact trivial | exact rfl | (intro hh; try simp only [bs] at hh; try exact absurd hh (by decide)))); all_goals (conv => whnf); all_goals try exact ⟨by decide⟩)
    (refine RetN.q () [] ?_ ?_ ?_ <;> (repeat' ((conv => whnf) <;> first | exact rfl | exact trivial | apply And.intro | exact Nat.zero_add _)); all_goals ((conv => whnf); try simp only []))
theorem zero_sh : ShC zeroC := ⟨by decide, by decide, by decide⟩
theorem encZ : encR zeroC = ([], 1) := by kernel_rfl
theorem decE : decR [] = (zeroC, 3) := by kernel_rfl
theorem backLawM (c : Cmd) (s : Bytes) : Meets Try.prog 10 [cmdAV c, .str fun _ => s] [] (Y := Unit) (fun _ => True) (fun _ => .tt) (fun _ => []) := by
  refine Meets.intro hm (fn := Try.f10) Try.func10 rfl (by decide) (Nat.le_of_ble_eq_true rfl) (fun _ => rfl) ?_; intro S hok; (conv => whnf)
  (repeat' ((conv => whnf); first | apply And.intro | exact ⟨by kernel_rfl⟩ | apply DrawN.mk | apply CodeN.step hm rfl | exact trivial | exact rfl | (intro hh; try simp only [bs] at hh))); all_goals (conv => whnf)
  refine CallN.intro (shortM c) [] rfl rfl ?_ ?_ ?_
  · (repeat' ((conv => whnf) <;> first | exact rfl | exact trivial | apply And.intro | exact Nat.zero_add _))
  · (repeat' ((conv => whnf) <;> first | exact rfl | exact trivial | apply And.intro | exact Nat.zero_add _))
  intro q hq
  (repeat' ((conv => whnf); first | apply And.intro | exact ⟨by kernel_rfl⟩ | apply DrawN.mk | apply CodeN.step hm rfl | exact trivial | exact rfl | (intro hh; try simp only [bs] at hh))); all_goals (conv => whnf)
  · (refine CallN.q liveM [] (fun _ _ => ?_); (repeat' ((conv => whnf); first | apply And.intro | exact ⟨by kernel_rfl⟩ | apply DrawN.mk | apply CodeN.step hm rfl | exact trivial | exact rfl | (intro hh; try simp only [bs] at hh; try exact absurd hh (by decide)))); all_goals (conv => whnf); all_goals try exact ⟨by decide⟩)
    (refine RetN.q () [] ?_ ?_ ?_ <;> (repeat' ((conv => whnf) <;> first | exact rfl | exact trivial | apply And.intro | exact Nat.zero_add _)); all_goals ((conv => whnf); try simp only []))
  · have sh := hq (by first | assumption | rfl)
    have hs : s.length ≤ 1000 := by omega
    have M3 := mayM c sh
    have M9 := rsameM c c (by have := sh.asks; omega) (by have := sh.asks; omega)
    rw [decide_eq_true rfl] at M9
    rcases enc_cases c with ⟨g, e⟩ | ⟨g, l, e⟩ | ⟨g, l, e⟩
    all_goals rw [g] at M3
    · have M1 := encodeM c sh
      rw [e] at M1
      (refine CallN.q M1 [] (fun _ _ => ?_); (repeat' ((conv => whnf); first | apply And.intro | exact ⟨by kernel_rfl⟩ | apply DrawN.mk | apply CodeN.step hm rfl | exact trivial | exact rfl | (intro hh; try simp only [bs] at hh; try exact absurd hh (by decide)))); all_goals (conv => whnf); all_goals try exact ⟨by decide⟩)
      have M2 := decodeM [] (by first | (simp; done) | omega)
      rw [decE] at M2
      (refine CallN.q M2 [] (fun _ _ => ?_); (repeat' ((conv => whnf); first | apply And.intro | exact ⟨by kernel_rfl⟩ | apply DrawN.mk | apply CodeN.step hm rfl | exact trivial | exact rfl | (intro hh; try simp only [bs] at hh; try exact absurd hh (by decide)))); all_goals (conv => whnf); all_goals try exact ⟨by decide⟩)
      (refine CallN.q M3 [] (fun _ _ => ?_); (repeat' ((conv => whnf); first | apply And.intro | exact ⟨by kernel_rfl⟩ | apply DrawN.mk | apply CodeN.step hm rfl | exact trivial | exact rfl | (intro hh; try simp only [bs] at hh; try exact absurd hh (by decide)))); all_goals (conv => whnf); all_goals try exact ⟨by decide⟩)
      have M4 := decodeM s (by omega)
      rcases dec_cases s with ⟨_, d⟩ | ⟨_, _, d⟩ | ⟨_, _, _, d⟩ | ⟨_, c0, _, d, g0, d2, d3⟩
      · rw [d] at M4
        (refine CallN.q M4 [] (fun _ _ => ?_); (repeat' ((conv => whnf); first | apply And.intro | exact ⟨by kernel_rfl⟩ | apply DrawN.mk | apply CodeN.step hm rfl | exact trivial | exact rfl | (intro hh; try simp only [bs] at hh; try exact absurd hh (by decide)))); all_goals (conv => whnf); all_goals try exact ⟨by decide⟩)
        have M5 := encodeM zeroC zero_sh
        rw [encZ] at M5
        (refine CallN.q M5 [] (fun _ _ => ?_); (repeat' ((conv => whnf); first | apply And.intro | exact ⟨by kernel_rfl⟩ | apply DrawN.mk | apply CodeN.step hm rfl | exact trivial | exact rfl | (intro hh; try simp only [bs] at hh; try exact absurd hh (by decide)))); all_goals (conv => whnf); all_goals try exact ⟨by decide⟩)
        (refine CallN.q liveM [] (fun _ _ => ?_); (repeat' ((conv => whnf); first | apply And.intro | exact ⟨by kernel_rfl⟩ | apply DrawN.mk | apply CodeN.step hm rfl | exact trivial | exact rfl | (intro hh; try simp only [bs] at hh; try exact absurd hh (by decide)))); all_goals (conv => whnf); all_goals try exact ⟨by decide⟩)
        (refine RetN.q () [] ?_ ?_ ?_ <;> (repeat' ((conv => whnf) <;> first | exact rfl | exact trivial | apply And.intro | exact Nat.zero_add _)); all_goals ((conv => whnf); try simp only []))
      · rw [d] at M4
        (refine CallN.q M4 [] (fun _ _ => ?_); (repeat' ((conv => whnf); first | apply And.intro | exact ⟨by kernel_rfl⟩ | apply DrawN.mk | apply CodeN.step hm rfl | exact trivial | exact rfl | (intro hh; try simp only [bs] at hh; try exact absurd hh (by decide)))); all_goals (conv => whnf); all_goals try exact ⟨by decide⟩)
        have M5 := encodeM zeroC zero_sh
        rw [encZ] at M5
        (refine CallN.q M5 [] (fun _ _ => ?_); (repeat' ((conv => whnf); first | apply And.intro | exact ⟨by kernel_rfl⟩ | apply DrawN.mk | apply CodeN.step hm rfl | exact trivial | exact rfl | (intro hh; try simp only [bs] at hh; try exact absurd hh (by decide)))); all_goals (conv => whnf); all_goals try exact ⟨by decide⟩)
        (refine CallN.q liveM [] (fun _ _ => ?_); (repeat' ((conv => whnf); first | apply And.intro | exact ⟨by kernel_rfl⟩ | apply DrawN.mk | apply CodeN.step hm rfl | exact trivial | exact rfl | (intro hh; try simp only [bs] at hh; try exact absurd hh (by decide)))); all_goals (conv => whnf); all_goals try exact ⟨by decide⟩)
        (refine RetN.q () [] ?_ ?_ ?_ <;> (repeat' ((conv => whnf) <;> first | exact rfl | exact trivial | apply And.intro | exact Nat.zero_add _)); all_goals ((conv => whnf); try simp only []))
      · rw [d] at M4
        (refine CallN.q M4 [] (fun _ _ => ?_); (repeat' ((conv => whnf); first | apply And.intro | exact ⟨by kernel_rfl⟩ | apply DrawN.mk | apply CodeN.step hm rfl | exact trivial | exact rfl | (intro hh; try simp only [bs] at hh; try exact absurd hh (by decide)))); all_goals (conv => whnf); all_goals try exact ⟨by decide⟩)
        have M5 := encodeM zeroC zero_sh
        rw [encZ] at M5
        (refine CallN.q M5 [] (fun _ _ => ?_); (repeat' ((conv => whnf); first | apply And.intro | exact ⟨by kernel_rfl⟩ | apply DrawN.mk | apply CodeN.step hm rfl | exact trivial | exact rfl | (intro hh; try simp only [bs] at hh; try exact absurd hh (by decide)))); all_goals (conv => whnf); all_goals try exact ⟨by decide⟩)
        (refine CallN.q liveM [] (fun _ _ => ?_); (repeat' ((conv => whnf); first | apply And.intro | exact ⟨by kernel_rfl⟩ | apply DrawN.mk | apply CodeN.step hm rfl | exact trivial | exact rfl | (intro hh; try simp only [bs] at hh; try exact absurd hh (by decide)))); all_goals (conv => whnf); all_goals try exact ⟨by decide⟩)
        (refine RetN.q () [] ?_ ?_ ?_ <;> (repeat' ((conv => whnf) <;> first | exact rfl | exact trivial | apply And.intro | exact Nat.zero_add _)); all_goals ((conv => whnf); try simp only []))
      · rw [d] at M4
        (refine CallN.q M4 [] (fun _ _ => ?_); (repeat' ((conv => whnf); first | apply And.intro | exact ⟨by kernel_rfl⟩ | apply DrawN.mk | apply CodeN.step hm rfl | exact trivial | exact rfl | (intro hh; try simp only [bs] at hh; try exact absurd hh (by decide)))); all_goals (conv => whnf); all_goals try exact ⟨by decide⟩)
        have M5 := encodeM c0 (good_sh g0)
        have he : encR c0 = (s, 0) := by unfold encR; rw [if_pos g0, d2, if_neg (by omega)]
        rw [he] at M5
        (refine CallN.q M5 [] (fun _ _ => ?_); (repeat' ((conv => whnf); first | apply And.intro | exact ⟨by kernel_rfl⟩ | apply DrawN.mk | apply CodeN.step hm rfl | exact trivial | exact rfl | (intro hh; try simp only [bs] at hh; try exact absurd hh (by decide)))); all_goals (conv => whnf); all_goals try exact ⟨by decide⟩)
        all_goals try (exfalso; first | exact absurd hh (by decide) | exact hh rfl | exact absurd rfl hh | omega)
        (refine CallN.q liveM [] (fun _ _ => ?_); (repeat' ((conv => whnf); first | apply And.intro | exact ⟨by kernel_rfl⟩ | apply DrawN.mk | apply CodeN.step hm rfl | exact trivial | exact rfl | (intro hh; try simp only [bs] at hh; try exact absurd hh (by decide)))); all_goals (conv => whnf); all_goals try exact ⟨by decide⟩)
        (refine RetN.q () [] ?_ ?_ ?_ <;> (repeat' ((conv => whnf) <;> first | exact rfl | exact trivial | apply And.intro | exact Nat.zero_add _)); all_goals ((conv => whnf); try simp only []))
    · have M1 := encodeM c sh
      rw [e] at M1
      (refine CallN.q M1 [] (fun _ _ => ?_); (repeat' ((conv => whnf); first | apply And.intro | exact ⟨by kernel_rfl⟩ | apply DrawN.mk | apply CodeN.step hm rfl | exact trivial | exact rfl | (intro hh; try simp only [bs] at hh; try exact absurd hh (by decide)))); all_goals (conv => whnf); all_goals try exact ⟨by decide⟩)
      have M2 := decodeM [] (by first | (simp; done) | omega)
      rw [decE] at M2
      (refine CallN.q M2 [] (fun _ _ => ?_); (repeat' ((conv => whnf); first | apply And.intro | exact ⟨by kernel_rfl⟩ | apply DrawN.mk | apply CodeN.step hm rfl | exact trivial | exact rfl | (intro hh; try simp only [bs] at hh; try exact absurd hh (by decide)))); all_goals (conv => whnf); all_goals try exact ⟨by decide⟩)
      have M4 := decodeM s (by omega)
      rcases dec_cases s with ⟨_, d⟩ | ⟨_, _, d⟩ | ⟨_, _, _, d⟩ | ⟨_, c0, _, d, g0, d2, d3⟩
      · rw [d] at M4
        (refine CallN.q M4 [] (fun _ _ => ?_); (repeat' ((conv => whnf); first | apply And.intro | exact ⟨by kernel_rfl⟩ | apply DrawN.mk | apply CodeN.step hm rfl | exact trivial | exact rfl | (intro hh; try simp only [bs] at hh; try exact absurd hh (by decide)))); all_goals (conv => whnf); all_goals try exact ⟨by decide⟩)
        have M5 := encodeM zeroC zero_sh
        rw [encZ] at M5
        (refine CallN.q M5 [] (fun _ _ => ?_); (repeat' ((conv => whnf); first | apply And.intro | exact ⟨by kernel_rfl⟩ | apply DrawN.mk | apply CodeN.step hm rfl | exact trivial | exact rfl | (intro hh; try simp only [bs] at hh; try exact absurd hh (by decide)))); all_goals (conv => whnf); all_goals try exact ⟨by decide⟩)
        (refine CallN.q liveM [] (fun _ _ => ?_); (repeat' ((conv => whnf); first | apply And.intro | exact ⟨by kernel_rfl⟩ | apply DrawN.mk | apply CodeN.step hm rfl | exact trivial | exact rfl | (intro hh; try simp only [bs] at hh; try exact absurd hh (by decide)))); all_goals (conv => whnf); all_goals try exact ⟨by decide⟩)
        (refine RetN.q () [] ?_ ?_ ?_ <;> (repeat' ((conv => whnf) <;> first | exact rfl | exact trivial | apply And.intro | exact Nat.zero_add _)); all_goals ((conv => whnf); try simp only []))
      · rw [d] at M4
        (refine CallN.q M4 [] (fun _ _ => ?_); (repeat' ((conv => whnf); first | apply And.intro | exact ⟨by kernel_rfl⟩ | apply DrawN.mk | apply CodeN.step hm rfl | exact trivial | exact rfl | (intro hh; try simp only [bs] at hh; try exact absurd hh (by decide)))); all_goals (conv => whnf); all_goals try exact ⟨by decide⟩)
        have M5 := encodeM zeroC zero_sh
        rw [encZ] at M5
        (refine CallN.q M5 [] (fun _ _ => ?_); (repeat' ((conv => whnf); first | apply And.intro | exact ⟨by kernel_rfl⟩ | apply DrawN.mk | apply CodeN.step hm rfl | exact trivial | exact rfl | (intro hh; try simp only [bs] at hh; try exact absurd hh (by decide)))); all_goals (conv => whnf); all_goals try exact ⟨by decide⟩)
        (refine CallN.q liveM [] (fun _ _ => ?_); (repeat' ((conv => whnf); first | apply And.intro | exact ⟨by kernel_rfl⟩ | apply DrawN.mk | apply CodeN.step hm rfl | exact trivial | exact rfl | (intro hh; try simp only [bs] at hh; try exact absurd hh (by decide)))); all_goals (conv => whnf); all_goals try exact ⟨by decide⟩)
        (refine RetN.q () [] ?_ ?_ ?_ <;> (repeat' ((conv => whnf) <;> first | exact rfl | exact trivial | apply And.intro | exact Nat.zero_add _)); all_goals ((conv => whnf); try simp only []))
      · rw [d] at M4
        (refine CallN.q M4 [] (fun _ _ => ?_); (repeat' ((conv => whnf); first | apply And.intro | exact ⟨by kernel_rfl⟩ | apply DrawN.mk | apply CodeN.step hm rfl | exact trivial | exact rfl | (intro hh; try simp only [bs] at hh; try exact absurd hh (by decide)))); all_goals (conv => whnf); all_goals try exact ⟨by decide⟩)
        have M5 := encodeM zeroC zero_sh
        rw [encZ] at M5
        (refine CallN.q M5 [] (fun _ _ => ?_); (repeat' ((conv => whnf); first | apply And.intro | exact ⟨by kernel_rfl⟩ | apply DrawN.mk | apply CodeN.step hm rfl | exact trivial | exact rfl | (intro hh; try simp only [bs] at hh; try exact absurd hh (by decide)))); all_goals (conv => whnf); all_goals try exact ⟨by decide⟩)
        (refine CallN.q liveM [] (fun _ _ => ?_); (repeat' ((conv => whnf); first | apply And.intro | exact ⟨by kernel_rfl⟩ | apply DrawN.mk | apply CodeN.step hm rfl | exact trivial | exact rfl | (intro hh; try simp only [bs] at hh; try exact absurd hh (by decide)))); all_goals (conv => whnf); all_goals try exact ⟨by decide⟩)
        (refine RetN.q () [] ?_ ?_ ?_ <;> (repeat' ((conv => whnf) <;> first | exact rfl | exact trivial | apply And.intro | exact Nat.zero_add _)); all_goals ((conv => whnf); try simp only []))
      · rw [d] at M4
        (refine CallN.q M4 [] (fun _ _ => ?_); (repeat' ((conv => whnf); first | apply And.intro | exact ⟨by kernel_rfl⟩ | apply DrawN.mk | apply CodeN.step hm rfl | exact trivial | exact rfl | (intro hh; try simp only [bs] at hh; try exact absurd hh (by decide)))); all_goals (conv => whnf); all_goals try exact ⟨by decide⟩)
        have M5 := encodeM c0 (good_sh g0)
        have he : encR c0 = (s, 0) := by unfold encR; rw [if_pos g0, d2, if_neg (by omega)]
        rw [he] at M5
        (refine CallN.q M5 [] (fun _ _ => ?_); (repeat' ((conv => whnf); first | apply And.intro | exact ⟨by kernel_rfl⟩ | apply DrawN.mk | apply CodeN.step hm rfl | exact trivial | exact rfl | (intro hh; try simp only [bs] at hh; try exact absurd hh (by decide)))); all_goals (conv => whnf); all_goals try exact ⟨by decide⟩)
        all_goals try (exfalso; first | exact absurd hh (by decide) | exact hh rfl | exact absurd rfl hh | omega)
        (refine CallN.q liveM [] (fun _ _ => ?_); (repeat' ((conv => whnf); first | apply And.intro | exact ⟨by kernel_rfl⟩ | apply DrawN.mk | apply CodeN.step hm rfl | exact trivial | exact rfl | (intro hh; try simp only [bs] at hh; try exact absurd hh (by decide)))); all_goals (conv => whnf); all_goals try exact ⟨by decide⟩)
        (refine RetN.q () [] ?_ ?_ ?_ <;> (repeat' ((conv => whnf) <;> first | exact rfl | exact trivial | apply And.intro | exact Nat.zero_add _)); all_goals ((conv => whnf); try simp only []))
    · have hd := (dec_put g l).2
      have M1 := encodeM c sh
      rw [e] at M1
      (refine CallN.q M1 [] (fun _ _ => ?_); (repeat' ((conv => whnf); first | apply And.intro | exact ⟨by kernel_rfl⟩ | apply DrawN.mk | apply CodeN.step hm rfl | exact trivial | exact rfl | (intro hh; try simp only [bs] at hh; try exact absurd hh (by decide)))); all_goals (conv => whnf); all_goals try exact ⟨by decide⟩)
      have M2 := decodeM (encC c) (by first | (simp; done) | omega)
      rw [hd] at M2
      (refine CallN.q M2 [] (fun _ _ => ?_); (repeat' ((conv => whnf); first | apply And.intro | exact ⟨by kernel_rfl⟩ | apply DrawN.mk | apply CodeN.step hm rfl | exact trivial | exact rfl | (intro hh; try simp only [bs] at hh; try exact absurd hh (by decide)))); all_goals (conv => whnf); all_goals try exact ⟨by decide⟩)
      (refine CallN.q M9 [] (fun _ _ => ?_); (repeat' ((conv => whnf); first | apply And.intro | exact ⟨by kernel_rfl⟩ | apply DrawN.mk | apply CodeN.step hm rfl | exact trivial | exact rfl | (intro hh; try simp only [bs] at hh; try exact absurd hh (by decide)))); all_goals (conv => whnf); all_goals try exact ⟨by decide⟩)
      (refine CallN.q M3 [] (fun _ _ => ?_); (repeat' ((conv => whnf); first | apply And.intro | exact ⟨by kernel_rfl⟩ | apply DrawN.mk | apply CodeN.step hm rfl | exact trivial | exact rfl | (intro hh; try simp only [bs] at hh; try exact absurd hh (by decide)))); all_goals (conv => whnf); all_goals try exact ⟨by decide⟩)
      have M4 := decodeM s (by omega)
      rcases dec_cases s with ⟨_, d⟩ | ⟨_, _, d⟩ | ⟨_, _, _, d⟩ | ⟨_, c0, _, d, g0, d2, d3⟩
      · rw [d] at M4
        (refine CallN.q M4 [] (fun _ _ => ?_); (repeat' ((conv => whnf); first | apply And.intro | exact ⟨by kernel_rfl⟩ | apply DrawN.mk | apply CodeN.step hm rfl | exact trivial | exact rfl | (intro hh; try simp only [bs] at hh; try exact absurd hh (by decide)))); all_goals (conv => whnf); all_goals try exact ⟨by decide⟩)
        have M5 := encodeM zeroC zero_sh
        rw [encZ] at M5
        (refine CallN.q M5 [] (fun _ _ => ?_); (repeat' ((conv => whnf); first | apply And.intro | exact ⟨by kernel_rfl⟩ | apply DrawN.mk | apply CodeN.step hm rfl | exact trivial | exact rfl | (intro hh; try simp only [bs] at hh; try exact absurd hh (by decide)))); all_goals (conv => whnf); all_goals try exact ⟨by decide⟩)
        (refine CallN.q liveM [] (fun _ _ => ?_); (repeat' ((conv => whnf); first | apply And.intro | exact ⟨by kernel_rfl⟩ | apply DrawN.mk | apply CodeN.step hm rfl | exact trivial | exact rfl | (intro hh; try simp only [bs] at hh; try exact absurd hh (by decide)))); all_goals (conv => whnf); all_goals try exact ⟨by decide⟩)
        (refine RetN.q () [] ?_ ?_ ?_ <;> (repeat' ((conv => whnf) <;> first | exact rfl | exact trivial | apply And.intro | exact Nat.zero_add _)); all_goals ((conv => whnf); try simp only []))
      · rw [d] at M4
        (refine CallN.q M4 [] (fun _ _ => ?_); (repeat' ((conv => whnf); first | apply And.intro | exact ⟨by kernel_rfl⟩ | apply DrawN.mk | apply CodeN.step hm rfl | exact trivial | exact rfl | (intro hh; try simp only [bs] at hh; try exact absurd hh (by decide)))); all_goals (conv => whnf); all_goals try exact ⟨by decide⟩)
        have M5 := encodeM zeroC zero_sh
        rw [encZ] at M5
        (refine CallN.q M5 [] (fun _ _ => ?_); (repeat' ((conv => whnf); first | apply And.intro | exact ⟨by kernel_rfl⟩ | apply DrawN.mk | apply CodeN.step hm rfl | exact trivial | exact rfl | (intro hh; try simp only [bs] at hh; try exact absurd hh (by decide)))); all_goals (conv => whnf); all_goals try exact ⟨by decide⟩)
        (refine CallN.q liveM [] (fun _ _ => ?_); (repeat' ((conv => whnf); first | apply And.intro | exact ⟨by kernel_rfl⟩ | apply DrawN.mk | apply CodeN.step hm rfl | exact trivial | exact rfl | (intro hh; try simp only [bs] at hh; try exact absurd hh (by decide)))); all_goals (conv => whnf); all_goals try exact ⟨by decide⟩)
        (refine RetN.q () [] ?_ ?_ ?_ <;> (repeat' ((conv => whnf) <;> first | exact rfl | exact trivial | apply And.intro | exact Nat.zero_add _)); all_goals ((conv => whnf); try simp only []))
      · rw [d] at M4
        (refine CallN.q M4 [] (fun _ _ => ?_); (repeat' ((conv => whnf); first | apply And.intro | exact ⟨by kernel_rfl⟩ | apply DrawN.mk | apply CodeN.step hm rfl | exact trivial | exact rfl | (intro hh; try simp only [bs] at hh; try exact absurd hh (by decide)))); all_goals (conv => whnf); all_goals try exact ⟨by decide⟩)
        have M5 := encodeM zeroC zero_sh
        rw [encZ] at M5
        (refine CallN.q M5 [] (fun _ _ => ?_); (repeat' ((conv => whnf); first | apply And.intro | exact ⟨by kernel_rfl⟩ | apply DrawN.mk | apply CodeN.step hm rfl | exact trivial | exact rfl | (intro hh; try simp only [bs] at hh; try exact absurd hh (by decide)))); all_goals (conv => whnf); all_goals try exact ⟨by decide⟩)
        (refine CallN.q liveM [] (fun _ _ => ?_); (repeat' ((conv => whnf); first | apply And.intro | exact ⟨by kernel_rfl⟩ | apply DrawN.mk | apply CodeN.step hm rfl | exact trivial | exact rfl | (intro hh; try simp only [bs] at hh; try exact absurd hh (by decide)))); all_goals (conv => whnf); all_goals try exact ⟨by decide⟩)
        (refine RetN.q () [] ?_ ?_ ?_ <;> (repeat' ((conv => whnf) <;> first | exact rfl | exact trivial | apply And.intro | exact Nat.zero_add _)); all_goals ((conv => whnf); try simp only []))
      · rw [d] at M4
        (refine CallN.q M4 [] (fun _ _ => ?_); (repeat' ((conv => whnf); first | apply And.intro | exact ⟨by kernel_rfl⟩ | apply DrawN.mk | apply CodeN.step hm rfl | exact trivial | exact rfl | (intro hh; try simp only [bs] at hh; try exact absurd hh (by decide)))); all_goals (conv => whnf); all_goals try exact ⟨by decide⟩)
        have M5 := encodeM c0 (good_sh g0)
        have he : encR c0 = (s, 0) := by unfold encR; rw [if_pos g0, d2, if_neg (by omega)]
        rw [he] at M5
        (refine CallN.q M5 [] (fun _ _ => ?_); (repeat' ((conv => whnf); first | apply And.intro | exact ⟨by kernel_rfl⟩ | apply DrawN.mk | apply CodeN.step hm rfl | exact trivial | exact rfl | (intro hh; try simp only [bs] at hh; try exact absurd hh (by decide)))); all_goals (conv => whnf); all_goals try exact ⟨by decide⟩)
        all_goals try (exfalso; first | exact absurd hh (by decide) | exact hh rfl | exact absurd rfl hh | omega)
        (refine CallN.q liveM [] (fun _ _ => ?_); (repeat' ((conv => whnf); first | apply And.intro | exact ⟨by kernel_rfl⟩ | apply DrawN.mk | apply CodeN.step hm rfl | exact trivial | exact rfl | (intro hh; try simp only [bs] at hh; try exact absurd hh (by decide)))); all_goals (conv => whnf); all_goals try exact ⟨by decide⟩)
        (refine RetN.q () [] ?_ ?_ ?_ <;> (repeat' ((conv => whnf) <;> first | exact rfl | exact trivial | apply And.intro | exact Nat.zero_add _)); all_goals ((conv => whnf); try simp only []))
  · (refine CallN.q liveM [] (fun _ _ => ?_); (repeat' ((conv => whnf); first | apply And.intro | exact ⟨by kernel_rfl⟩ | apply DrawN.mk | apply CodeN.step hm rfl | exact trivial | exact rfl | (intro hh; try simp only [bs] at hh; try exact absurd hh (by decide)))); all_goals (conv => whnf); all_goals try exact ⟨by decide⟩)
    (refine RetN.q () [] ?_ ?_ ?_ <;> (repeat' ((conv => whnf) <;> first | exact rfl | exact trivial | apply And.intro | exact Nat.zero_add _)); all_goals ((conv => whnf); try simp only []))
theorem cutsLawM (c : Cmd) (n : Int) (m : Bytes) : Meets Try.prog 11 [cmdAV c, .int .i64 fun _ => n, .str fun _ => m] [] (Y := Unit) (fun _ => True) (fun _ => .tt) (fun _ => []) := by
  refine Meets.intro hm (fn := Try.f11) Try.func11 rfl (by decide) (Nat.le_of_ble_eq_true rfl) (fun _ => rfl) ?_; intro S hok; (conv => whnf)
  (repeat' ((conv => whnf); first | apply And.intro | exact ⟨by kernel_rfl⟩ | apply DrawN.mk | apply CodeN.step hm rfl | exact trivial | exact rfl | (intro hh; try simp only [bs] at hh))); all_goals (conv => whnf)
  refine CallN.intro (shortM c) [] rfl rfl ?_ ?_ ?_
  · (repeat' ((conv => whnf) <;> first | exact rfl | exact trivial | apply And.intro | exact Nat.zero_add _))
  · (repeat' ((conv => whnf) <;> first | exact rfl | exact trivial | apply And.intro | exact Nat.zero_add _))
  intro q hq
  (repeat' ((conv => whnf); first | apply And.intro | exact ⟨by kernel_rfl⟩ | apply DrawN.mk | apply CodeN.step hm rfl | exact trivial | exact rfl | (intro hh; try simp only [bs] at hh))); all_goals (conv => whnf)
  · (refine CallN.q liveM [] (fun _ _ => ?_); (repeat' ((conv => whnf); first | apply And.intro | exact ⟨by kernel_rfl⟩ | apply DrawN.mk | apply CodeN.step hm rfl | exact trivial | exact rfl | (intro hh; try simp only [bs] at hh; try exact absurd hh (by decide)))); all_goals (conv => whnf); all_goals try exact ⟨by decide⟩)
    (refine RetN.q () [] ?_ ?_ ?_ <;> (repeat' ((conv => whnf) <;> first | exact rfl | exact trivial | apply And.intro | exact Nat.zero_add _)); all_goals ((conv => whnf); try simp only []))
  · have sh := hq (by first | assumption | rfl)
    have M1 := encodeM c sh
    rcases enc_cases c with ⟨g, e⟩ | ⟨g, l, e⟩ | ⟨g, l, e⟩
    · rw [e] at M1
      (refine CallN.q M1 [] (fun _ _ => ?_); (repeat' ((conv => whnf); first | apply And.intro | exact ⟨by kernel_rfl⟩ | apply DrawN.mk | apply CodeN.step hm rfl | exact trivial | exact rfl | (intro hh; try simp only [bs] at hh; try exact absurd hh (by decide)))); all_goals (conv => whnf); all_goals try exact ⟨by decide⟩)
      (refine CallN.q liveM [] (fun _ _ => ?_); (repeat' ((conv => whnf); first | apply And.intro | exact ⟨by kernel_rfl⟩ | apply DrawN.mk | apply CodeN.step hm rfl | exact trivial | exact rfl | (intro hh; try simp only [bs] at hh; try exact absurd hh (by decide)))); all_goals (conv => whnf); all_goals try exact ⟨by decide⟩)
      (refine RetN.q () [] ?_ ?_ ?_ <;> (repeat' ((conv => whnf) <;> first | exact rfl | exact trivial | apply And.intro | exact Nat.zero_add _)); all_goals ((conv => whnf); try simp only []))
    · rw [e] at M1
      (refine CallN.q M1 [] (fun _ _ => ?_); (repeat' ((conv => whnf); first | apply And.intro | exact ⟨by kernel_rfl⟩ | apply DrawN.mk | apply CodeN.step hm rfl | exact trivial | exact rfl | (intro hh; try simp only [bs] at hh; try exact absurd hh (by decide)))); all_goals (conv => whnf); all_goals try exact ⟨by decide⟩)
      (refine CallN.q liveM [] (fun _ _ => ?_); (repeat' ((conv => whnf); first | apply And.intro | exact ⟨by kernel_rfl⟩ | apply DrawN.mk | apply CodeN.step hm rfl | exact trivial | exact rfl | (intro hh; try simp only [bs] at hh; try exact absurd hh (by decide)))); all_goals (conv => whnf); all_goals try exact ⟨by decide⟩)
      (refine RetN.q () [] ?_ ?_ ?_ <;> (repeat' ((conv => whnf) <;> first | exact rfl | exact trivial | apply And.intro | exact Nat.zero_add _)); all_goals ((conv => whnf); try simp only []))
    · rw [e] at M1
      (refine CallN.q M1 [] (fun _ _ => ?_); (repeat' ((conv => whnf); first | apply And.intro | exact ⟨by kernel_rfl⟩ | apply DrawN.mk | apply CodeN.step hm rfl | exact trivial | exact rfl | (intro hh; try simp only [bs] at hh; try exact absurd hh (by decide)))); all_goals (conv => whnf); all_goals try exact ⟨by decide⟩)
      · exact Ob.mk (by simp only []; omega)
      · have hml : (encC c ++ m).length ≤ 1000000 := by rw [List.length_append]; omega
        have M2 := decodeM (encC c ++ m) hml
        by_cases hm2 : m = []
        · subst hm2
          rw [List.append_nil] at M2
          rw [(dec_put g l).2] at M2
          refine CallN.intro M2 [] rfl rfl ?_ ?_ ?_
          · (repeat' ((conv => whnf) <;> first | exact rfl | exact trivial | apply And.intro | exact Nat.zero_add _))
            all_goals first | ((conv => whnf); simp; done) | skip
          · (repeat' ((conv => whnf) <;> first | exact rfl | exact trivial | apply And.intro | exact Nat.zero_add _))
          intro y hy; clear y hy
          (repeat' ((conv => whnf); first | apply And.intro | exact ⟨by kernel_rfl⟩ | apply DrawN.mk | apply CodeN.step hm rfl | exact trivial | exact rfl | (intro hh; try simp only [bs] at hh; try exact absurd hh (by decide)))); all_goals (conv => whnf)
          all_goals first | (exact Ob.mk (by decide)) | skip
          all_goals try (exfalso; first | exact absurd hh (by decide) | exact hh rfl | exact absurd rfl hh | exact hh (by rw [hmb]; rfl))
          all_goals try exact Ob.mk (by simp only [] at *; omega)
          all_goals first
            | ((refine CallN.q liveM [] (fun _ _ => ?_); (repeat' ((conv => whnf); first | apply And.intro | exact ⟨by kernel_rfl⟩ | apply DrawN.mk | apply CodeN.step hm rfl | exact trivial | exact rfl | (intro hh; try simp only [bs] at hh; try exact absurd hh (by decide)))); all_goals (conv => whnf); all_goals try exact ⟨by decide⟩)
               (refine RetN.q () [] ?_ ?_ ?_ <;> (repeat' ((conv => whnf) <;> first | exact rfl | exact trivial | apply And.intro | exact Nat.zero_add _)); all_goals ((conv => whnf); try simp only [])))
            | (have M3 := decodeM ((encC c).take n.toNat) (by rw [List.length_take]; omega)
               rw [dec_cut g (by simp only [] at *; omega)] at M3
               (refine CallN.q M3 [] (fun _ _ => ?_); (repeat' ((conv => whnf); first | apply And.intro | exact ⟨by kernel_rfl⟩ | apply DrawN.mk | apply CodeN.step hm rfl | exact trivial | exact rfl | (intro hh; try simp only [bs] at hh; try exact absurd hh (by decide)))); all_goals (conv => whnf); all_goals try exact ⟨by decide⟩)
               (refine CallN.q liveM [] (fun _ _ => ?_); (repeat' ((conv => whnf); first | apply And.intro | exact ⟨by kernel_rfl⟩ | apply DrawN.mk | apply CodeN.step hm rfl | exact trivial | exact rfl | (intro hh; try simp only [bs] at hh; try exact absurd hh (by decide)))); all_goals (conv => whnf); all_goals try exact ⟨by decide⟩)
               (refine RetN.q () [] ?_ ?_ ?_ <;> (repeat' ((conv => whnf) <;> first | exact rfl | exact trivial | apply And.intro | exact Nat.zero_add _)); all_goals ((conv => whnf); try simp only [])))
            | skip
        · have hmb : (m == []) = false := by simp [hm2]
          rw [dec_more g hm2] at M2
          refine CallN.intro M2 [] rfl rfl ?_ ?_ ?_
          · (repeat' ((conv => whnf) <;> first | exact rfl | exact trivial | apply And.intro | exact Nat.zero_add _))
            all_goals first | ((conv => whnf); simp; done) | skip
          · (repeat' ((conv => whnf) <;> first | exact rfl | exact trivial | apply And.intro | exact Nat.zero_add _))
          intro y hy; clear y hy
          (repeat' ((conv => whnf); first | apply And.intro | exact ⟨by kernel_rfl⟩ | apply DrawN.mk | apply CodeN.step hm rfl | exact trivial | exact rfl | (intro hh; try simp only [bs] at hh; try exact absurd hh (by decide)))); all_goals (conv => whnf)
          all_goals first | (exact Ob.mk (by decide)) | skip
          all_goals try (exfalso; first | exact absurd hh (by decide) | exact hh rfl | exact absurd rfl hh | exact hh (by rw [hmb]; rfl))
          all_goals try exact Ob.mk (by simp only [] at *; omega)
          all_goals first
            | ((refine CallN.q liveM [] (fun _ _ => ?_); (repeat' ((conv => whnf); first | apply And.intro | exact ⟨by kernel_rfl⟩ | apply DrawN.mk | apply CodeN.step hm rfl | exact trivial | exact rfl | (intro hh; try simp only [bs] at hh; try exact absurd hh (by decide)))); all_goals (conv => whnf); all_goals try exact ⟨by decide⟩)
               (refine RetN.q () [] ?_ ?_ ?_ <;> (repeat' ((conv => whnf) <;> first | exact rfl | exact trivial | apply And.intro | exact Nat.zero_add _)); all_goals ((conv => whnf); try simp only [])))
            | (have M3 := decodeM ((encC c).take n.toNat) (by rw [List.length_take]; omega)
               rw [dec_cut g (by simp only [] at *; omega)] at M3
               (refine CallN.q M3 [] (fun _ _ => ?_); (repeat' ((conv => whnf); first | apply And.intro | exact ⟨by kernel_rfl⟩ | apply DrawN.mk | apply CodeN.step hm rfl | exact trivial | exact rfl | (intro hh; try simp only [bs] at hh; try exact absurd hh (by decide)))); all_goals (conv => whnf); all_goals try exact ⟨by decide⟩)
               (refine CallN.q liveM [] (fun _ _ => ?_); (repeat' ((conv => whnf); first | apply And.intro | exact ⟨by kernel_rfl⟩ | apply DrawN.mk | apply CodeN.step hm rfl | exact trivial | exact rfl | (intro hh; try simp only [bs] at hh; try exact absurd hh (by decide)))); all_goals (conv => whnf); all_goals try exact ⟨by decide⟩)
               (refine RetN.q () [] ?_ ?_ ?_ <;> (repeat' ((conv => whnf) <;> first | exact rfl | exact trivial | apply And.intro | exact Nat.zero_add _)); all_goals ((conv => whnf); try simp only [])))
            | skip
  · (refine CallN.q liveM [] (fun _ _ => ?_); (repeat' ((conv => whnf); first | apply And.intro | exact ⟨by kernel_rfl⟩ | apply DrawN.mk | apply CodeN.step hm rfl | exact trivial | exact rfl | (intro hh; try simp only [bs] at hh; try exact absurd hh (by decide)))); all_goals (conv => whnf); all_goals try exact ⟨by decide⟩)
    (refine RetN.q () [] ?_ ?_ ?_ <;> (repeat' ((conv => whnf) <;> first | exact rfl | exact trivial | apply And.intro | exact Nat.zero_add _)); all_goals ((conv => whnf); try simp only []))
theorem apartLawM (a b : Cmd) : Meets Try.prog 12 [cmdAV a, cmdAV b] [] (Y := Unit) (fun _ => True) (fun _ => .tt) (fun _ => []) := by
  refine Meets.intro hm (fn := Try.f12) Try.func12 rfl (by decide) (Nat.le_of_ble_eq_true rfl) (fun _ => rfl) ?_; intro S hok; (conv => whnf)
  (repeat' ((conv => whnf); first | apply And.intro | exact ⟨by kernel_rfl⟩ | apply DrawN.mk | apply CodeN.step hm rfl | exact trivial | exact rfl | (intro hh; try simp only [bs] at hh))); all_goals (conv => whnf)
  refine CallN.intro (shortM a) [] rfl rfl ?_ ?_ ?_
  · (repeat' ((conv => whnf) <;> first | exact rfl | exact trivial | apply And.intro | exact Nat.zero_add _))
  · (repeat' ((conv => whnf) <;> first | exact rfl | exact trivial | apply And.intro | exact Nat.zero_add _))
  intro q hq
  (repeat' ((conv => whnf); first | apply And.intro | exact ⟨by kernel_rfl⟩ | apply DrawN.mk | apply CodeN.step hm rfl | exact trivial | exact rfl | (intro hh; try simp only [bs] at hh))); all_goals (conv => whnf)
  · refine CallN.intro (shortM b) [] rfl rfl ?_ ?_ ?_
    · (repeat' ((conv => whnf) <;> first | exact rfl | exact trivial | apply And.intro | exact Nat.zero_add _))
    · (repeat' ((conv => whnf) <;> first | exact rfl | exact trivial | apply And.intro | exact Nat.zero_add _))
    intro r hr
    (repeat' ((conv => whnf); first | apply And.intro | exact ⟨by kernel_rfl⟩ | apply DrawN.mk | apply CodeN.step hm rfl | exact trivial | exact rfl | (intro hh; try simp only [bs] at hh))); all_goals (conv => whnf)
    · (refine CallN.q liveM [] (fun _ _ => ?_); (repeat' ((conv => whnf); first | apply And.intro | exact ⟨by kernel_rfl⟩ | apply DrawN.mk | apply CodeN.step hm rfl | exact trivial | exact rfl | (intro hh; try simp only [bs] at hh; try exact absurd hh (by decide)))); all_goals (conv => whnf); all_goals try exact ⟨by decide⟩)
      (refine RetN.q () [] ?_ ?_ ?_ <;> (repeat' ((conv => whnf) <;> first | exact rfl | exact trivial | apply And.intro | exact Nat.zero_add _)); all_goals ((conv => whnf); try simp only []))
    · have sh := hq (by first | assumption | rfl)
      have sh2 := hr (by first | assumption | rfl)
      have M1 := encodeM a sh
      have M2 := encodeM b sh2
      rcases enc_cases a with ⟨g, e⟩ | ⟨g, l, e⟩ | ⟨g, l, e⟩
      · rw [e] at M1
        (refine CallN.q M1 [] (fun _ _ => ?_); (repeat' ((conv => whnf); first | apply And.intro | exact ⟨by kernel_rfl⟩ | apply DrawN.mk | apply CodeN.step hm rfl | exact trivial | exact rfl | (intro hh; try simp only [bs] at hh; try exact absurd hh (by decide)))); all_goals (conv => whnf); all_goals try exact ⟨by decide⟩)
        (refine CallN.q M2 [] (fun _ _ => ?_); (repeat' ((conv => whnf); first | apply And.intro | exact ⟨by kernel_rfl⟩ | apply DrawN.mk | apply CodeN.step hm rfl | exact trivial | exact rfl | (intro hh; try simp only [bs] at hh; try exact absurd hh (by decide)))); all_goals (conv => whnf); all_goals try exact ⟨by decide⟩)
        (refine CallN.q liveM [] (fun _ _ => ?_); (repeat' ((conv => whnf); first | apply And.intro | exact ⟨by kernel_rfl⟩ | apply DrawN.mk | apply CodeN.step hm rfl | exact trivial | exact rfl | (intro hh; try simp only [bs] at hh; try exact absurd hh (by decide)))); all_goals (conv => whnf); all_goals try exact ⟨by decide⟩)
        (refine RetN.q () [] ?_ ?_ ?_ <;> (repeat' ((conv => whnf) <;> first | exact rfl | exact trivial | apply And.intro | exact Nat.zero_add _)); all_goals ((conv => whnf); try simp only []))
      · rw [e] at M1
        (refine CallN.q M1 [] (fun _ _ => ?_); (repeat' ((conv => whnf); first | apply And.intro | exact ⟨by kernel_rfl⟩ | apply DrawN.mk | apply CodeN.step hm rfl | exact trivial | exact rfl | (intro hh; try simp only [bs] at hh; try exact absurd hh (by decide)))); all_goals (conv => whnf); all_goals try exact ⟨by decide⟩)
        (refine CallN.q M2 [] (fun _ _ => ?_); (repeat' ((conv => whnf); first | apply And.intro | exact ⟨by kernel_rfl⟩ | apply DrawN.mk | apply CodeN.step hm rfl | exact trivial | exact rfl | (intro hh; try simp only [bs] at hh; try exact absurd hh (by decide)))); all_goals (conv => whnf); all_goals try exact ⟨by decide⟩)
        (refine CallN.q liveM [] (fun _ _ => ?_); (repeat' ((conv => whnf); first | apply And.intro | exact ⟨by kernel_rfl⟩ | apply DrawN.mk | apply CodeN.step hm rfl | exact trivial | exact rfl | (intro hh; try simp only [bs] at hh; try exact absurd hh (by decide)))); all_goals (conv => whnf); all_goals try exact ⟨by decide⟩)
        (refine RetN.q () [] ?_ ?_ ?_ <;> (repeat' ((conv => whnf) <;> first | exact rfl | exact trivial | apply And.intro | exact Nat.zero_add _)); all_goals ((conv => whnf); try simp only []))
      · rw [e] at M1
        (refine CallN.q M1 [] (fun _ _ => ?_); (repeat' ((conv => whnf); first | apply And.intro | exact ⟨by kernel_rfl⟩ | apply DrawN.mk | apply CodeN.step hm rfl | exact trivial | exact rfl | (intro hh; try simp only [bs] at hh; try exact absurd hh (by decide)))); all_goals (conv => whnf); all_goals try exact ⟨by decide⟩)
        rcases enc_cases b with ⟨g2, e2⟩ | ⟨g2, l2, e2⟩ | ⟨g2, l2, e2⟩
        · rw [e2] at M2
          (refine CallN.q M2 [] (fun _ _ => ?_); (repeat' ((conv => whnf); first | apply And.intro | exact ⟨by kernel_rfl⟩ | apply DrawN.mk | apply CodeN.step hm rfl | exact trivial | exact rfl | (intro hh; try simp only [bs] at hh; try exact absurd hh (by decide)))); all_goals (conv => whnf); all_goals try exact ⟨by decide⟩)
          (refine CallN.q liveM [] (fun _ _ => ?_); (repeat' ((conv => whnf); first | apply And.intro | exact ⟨by kernel_rfl⟩ | apply DrawN.mk | apply CodeN.step hm rfl | exact trivial | exact rfl | (intro hh; try simp only [bs] at hh; try exact absurd hh (by decide)))); all_goals (conv => whnf); all_goals try exact ⟨by decide⟩)
          (refine RetN.q () [] ?_ ?_ ?_ <;> (repeat' ((conv => whnf) <;> first | exact rfl | exact trivial | apply And.intro | exact Nat.zero_add _)); all_goals ((conv => whnf); try simp only []))
        · rw [e2] at M2
          (refine CallN.q M2 [] (fun _ _ => ?_); (repeat' ((conv => whnf); first | apply And.intro | exact ⟨by kernel_rfl⟩ | apply DrawN.mk | apply CodeN.step hm rfl | exact trivial | exact rfl | (intro hh; try simp only [bs] at hh; try exact absurd hh (by decide)))); all_goals (conv => whnf); all_goals try exact ⟨by decide⟩)
          (refine CallN.q liveM [] (fun _ _ => ?_); (repeat' ((conv => whnf); first | apply And.intro | exact ⟨by kernel_rfl⟩ | apply DrawN.mk | apply CodeN.step hm rfl | exact trivial | exact rfl | (intro hh; try simp only [bs] at hh; try exact absurd hh (by decide)))); all_goals (conv => whnf); all_goals try exact ⟨by decide⟩)
          (refine RetN.q () [] ?_ ?_ ?_ <;> (repeat' ((conv => whnf) <;> first | exact rfl | exact trivial | apply And.intro | exact Nat.zero_add _)); all_goals ((conv => whnf); try simp only []))
        · rw [e2] at M2
          (refine CallN.q M2 [] (fun _ _ => ?_); (repeat' ((conv => whnf); first | apply And.intro | exact ⟨by kernel_rfl⟩ | apply DrawN.mk | apply CodeN.step hm rfl | exact trivial | exact rfl | (intro hh; try simp only [bs] at hh; try exact absurd hh (by decide)))); all_goals (conv => whnf); all_goals try exact ⟨by decide⟩)
          have hinj := enc_inj g g2
          have heq : (encC a == encC b) = decide (a = b) := by
            rw [Bool.eq_iff_iff]; simp [hinj]
          (refine CallN.q (rsameM a b (by have := sh.asks; omega) (by have := sh2.asks; omega)) [] (fun _ _ => ?_); (repeat' ((conv => whnf); first | apply And.intro | exact ⟨by kernel_rfl⟩ | apply DrawN.mk | apply CodeN.step hm rfl | exact trivial | exact rfl | (intro hh; try simp only [bs] at hh; try exact absurd hh (by decide)))); all_goals (conv => whnf); all_goals try exact ⟨by decide⟩)
          all_goals try exact Ob.mk (by simp only [] at *; omega)
          all_goals try (exfalso; first | exact absurd hh (by decide) | exact hh rfl | exact absurd rfl hh | exact hh heq)
          · (refine CallN.q liveM [] (fun _ _ => ?_); (repeat' ((conv => whnf); first | apply And.intro | exact ⟨by kernel_rfl⟩ | apply DrawN.mk | apply CodeN.step hm rfl | exact trivial | exact rfl | (intro hh; try simp only [bs] at hh; try exact absurd hh (by decide)))); all_goals (conv => whnf); all_goals try exact ⟨by decide⟩)
            (refine RetN.q () [] ?_ ?_ ?_ <;> (repeat' ((conv => whnf) <;> first | exact rfl | exact trivial | apply And.intro | exact Nat.zero_add _)); all_goals ((conv => whnf); try simp only []))
          · exfalso
            have hb : encC b = encC a ++ (encC b).drop (encC a).length := by
              have h2 : ((encC b).take (encC a).length).drop 0 = encC a := hh
              rw [List.drop_zero] at h2
              conv => lhs; rw [← List.take_append_drop (encC a).length (encC b), h2]
            have := (enc_pre g2 g hb).1
            subst this
            omega
          · (refine CallN.q liveM [] (fun _ _ => ?_); (repeat' ((conv => whnf); first | apply And.intro | exact ⟨by kernel_rfl⟩ | apply DrawN.mk | apply CodeN.step hm rfl | exact trivial | exact rfl | (intro hh; try simp only [bs] at hh; try exact absurd hh (by decide)))); all_goals (conv => whnf); all_goals try exact ⟨by decide⟩)
            (refine RetN.q () [] ?_ ?_ ?_ <;> (repeat' ((conv => whnf) <;> first | exact rfl | exact trivial | apply And.intro | exact Nat.zero_add _)); all_goals ((conv => whnf); try simp only []))
  · (refine CallN.q liveM [] (fun _ _ => ?_); (repeat' ((conv => whnf); first | apply And.intro | exact ⟨by kernel_rfl⟩ | apply DrawN.mk | apply CodeN.step hm rfl | exact trivial | exact rfl | (intro hh; try simp only [bs] at hh; try exact absurd hh (by decide)))); all_goals (conv => whnf); all_goals try exact ⟨by decide⟩)
    (refine RetN.q () [] ?_ ?_ ?_ <;> (repeat' ((conv => whnf) <;> first | exact rfl | exact trivial | apply And.intro | exact Nat.zero_add _)); all_goals ((conv => whnf); try simp only []))
end Go.Proofs.Ytoipgandilhdeaa.Wi
set_option linter.unusedVariables false
set_option linter.unusedSimpArgs false
namespace Go.Proofs.Ytoipgandilhdeaa.Fw
open Go Go.RowKit Go.ChangeShapes

/-- All that is there rests. -/
def gW (W : World) : Gh := { n := 0, Φ := fun b => W.heap[b]?, B := fun _ => 0, V := fun _ => none, L := fun _ => 0, k := 0 }
theorem sim_gW (W : World) : Sim (gW W) [] W := by
  refine ⟨rfl, fun b o h => h, fun i => trivial, fun i j b hi => ?_, fun i b hi => ?_⟩
  · simp [getE, Chunk.blk] at hi
  · simp [getE, Chunk.blk] at hi

/-- Numbers of their kinds, lengths that a machine bears. -/
def wfD : (t : Ty) → t.den → Prop
  | .int k, n => k.min ≤ n ∧ n ≤ k.max
  | .bool, _ => True
  | .str, s => List.length s ≤ maxLen
  | .list e, xs => List.length xs ≤ maxLen ∧ ∀ x, x ∈ (xs : List e.den) → wfD e x
  | .pair a b, x => wfD a x.1 ∧ wfD b x.2

theorem cells_at {w : World} {base : Nat} {a : Addr} {n : Nat} {cs : List Value} (h : w.cells? base a n = some cs) : cs.length = n ∧ ∀ (j : Nat) (u : Value), cs[j]? = some u → w.cell? (a.add j) = some u := by
  unfold World.cells? at h
  split at h
  · rename_i hb
    have key : ∀ (l : List Nat) (cs : List Value), l.mapM (fun i => w.cell? (a.add i)) = some cs → cs.length = l.length ∧ ∀ (j : Nat) (u : Value) (i : Nat), cs[j]? = some u → l[j]? = some i → w.cell? (a.add i) = some u := by
      intro l
      induction l with
      | nil => intro cs h; simp at h; subst h; simp
      | cons i l ih =>
        intro cs h
        simp only [List.mapM_cons, Option.bind_eq_bind, Option.bind_eq_some_iff, Option.pure_def, Option.some.injEq] at h
        obtain ⟨u, h1, r, h2, rfl⟩ := h
        obtain ⟨h3, h4⟩ := ih r h2
        refine ⟨by simp [h3], fun j v i' hj hi => ?_⟩
        cases j with
        | zero => simp at hj hi; subst hj hi; exact h1
        | succ j => exact h4 j v i' (by simpa using hj) (by simpa using hi)
    obtain ⟨h1, h2⟩ := key _ _ h
    refine ⟨by simpa using h1, fun j u hj => h2 j u j hj ?_⟩
    have := (List.getElem?_eq_some_iff.1 hj).1
    rw [List.getElem?_range (by rw [h1] at this; simpa using this)]
  · cases h
theorem cell_at_gW {W : World} {a : Addr} {u : Value} (h : W.cell? a = some u) : ∃ cells T fr, a.spot = none ∧ (gW W).Φ a.block = some (.cells cells T fr) ∧ cells[a.off]? = some u := by
  unfold World.cell? at h
  split at h
  · rename_i c T fr hc
    split at h
    · cases h
    · rename_i hs
      exact ⟨c, T, fr, by simpa using hs, hc, h⟩
  · cases h
theorem list_of {α : Type} {p : Nat → α → Prop} : ∀ n : Nat, (∀ i, i < n → ∃ x, p i x) → ∃ xs : List α, xs.length = n ∧ ∀ (i : Nat) (x : α), xs[i]? = some x → p i x
  | 0, _ => ⟨[], rfl, by simp⟩
  | n + 1, h => by
    obtain ⟨xs, h1, h2⟩ := list_of n (fun i hi => h i (by omega))
    obtain ⟨x, hx⟩ := h n (by omega)
    refine ⟨xs ++ [x], by simp [h1], fun i y hy => ?_⟩
    rw [List.getElem?_append] at hy
    split at hy
    · exact h2 i y hy
    · rename_i hi
      have : i - xs.length = 0 := by
        have := (List.getElem?_eq_some_iff.1 hy).1
        simp at this; omega
      rw [this] at hy
      simp at hy
      subst hy
      have : i = n := by omega
      subst this; exact hx

section
variable {H : Type} {enc' : TypeId × Value → H} {P : Program} {W : World} {base : Nat} {sp : Nat → Bool} {held : Bool}

/-- What reads, reads as data. -/
theorem trod_data (K : Kids P (· < P.types.size)) : ∀ (d : Nat) (t : Nat) (ty : Ty), t < P.types.size → tyOf P d t = some ty → ∀ (fuel : Nat) (cs : List Value) (x : DataW H × List MemPlace), DataW.trod enc' P W base sp held fuel t cs = some x →
    ∃ a : ty.den, RL (gW W) (enc ty (fun _ => a) []) cs ∧ wfD ty a
  | 0, _, _, _, h => by simp [tyOf] at h
  | d + 1, t, ty, hlt, h => by
    intro fuel cs x hx
    simp only [tyOf] at h
    split at h
    · rename_i k ht
      cases h
      obtain ⟨n, rfl, _, hw⟩ := DataW.trod_int (tund_und ht) hx
      simp only [Lit.wf, Bool.and_eq_true, decide_eq_true_eq] at hw
      exact ⟨n, ⟨.int k (fun _ => n), trivial⟩, hw⟩
    · rename_i ht
      cases h
      obtain ⟨b, rfl, _⟩ := DataW.trod_bool (tund_und ht) hx
      exact ⟨b, ⟨.bool (fun _ => b), trivial⟩, trivial⟩
    · rename_i ht
      cases h
      obtain ⟨s, rfl, _, hs⟩ := DataW.trod_string (tund_und ht) hx
      refine ⟨s.data.toList, ⟨?_, trivial⟩, ?_⟩
      · have := R.str (g := gW W) (fun _ => s.data.toList)
        simpa using this
      · show s.data.toList.length ≤ maxLen
        rw [Array.length_toList]; exact hs
    · rename_i e ht
      split at h <;> try cases h
      rename_i y hy
      have hye : y = y := rfl
      have hte := K.slice hlt (tund_und ht)
      rcases DataW.trod_slice (tund_und ht) hx with ⟨rfl, _⟩ | ⟨a, len, cap, elems, rest, n, _, rfl, _, _, hlc, hcm, hlen, hel, _⟩
      · refine ⟨([] : List y.den), ⟨?_, trivial⟩, ?_⟩
        · exact R.lst y (fun _ => []) none 0 (fun _ _ => .nilIface) (Nat.le_refl _) (by simp) (fun i x j z hx => by simp at hx) (fun i x j z hx => by simp at hx)
        · refine ⟨?_, fun x hx => ?_⟩
          · show ([] : List y.den).length ≤ maxLen
            simp
          · cases hx
      · have hl63 : maxLen = 9223372036854775807 := by decide
        have each : ∀ i, i < len → ∃ p : y.den × List Value, W.cells? base (a.add (i * P.cellsOf e)) (P.cellsOf e) = some p.2 ∧ RL (gW W) (enc y (fun _ => p.1) []) p.2 ∧ wfD y p.1 := by
          intro i hi
          have h1 := hel i hi
          rw [List.getElem?_eq_getElem (by omega)] at h1
          obtain ⟨cs', h2, h3⟩ := Option.bind_eq_some_iff.1 h1
          obtain ⟨b, h4, h5⟩ := trod_data K d e y hte hy n cs' _ h3
          exact ⟨(b, cs'), h2, h4, h5⟩
        obtain ⟨ps, hps, hp⟩ := list_of len each
        have hsz : ∀ (i : Nat) (p : y.den × List Value), ps[i]? = some p → P.cellsOf e = y.size := by
          intro i p hi
          obtain ⟨h1, h2, _⟩ := hp i p hi
          have := h2.length
          rw [enc_length, (cells_at h1).1] at this
          exact this.symm
        refine ⟨ps.map (·.1), ⟨?_, trivial⟩, ?_, ?_⟩
        · have hlm : (ps.map (·.1)).length = len := by simp [hps]
          have := R.lst (g := gW W) y (fun _ => ps.map (·.1)) (some a) cap (fun i j => ((ps[i]?.map (·.2)).getD [])[j]?.getD .nilIface) (by simp only [hlm]; exact hlc) (by simp only [hlm]; omega) ?_ ?_
          · simp only [hlm] at this; exact this
          · intro i x j z hx hz
            simp only [List.getElem?_map] at hx
            cases hq : ps[i]? with
            | none => rw [hq] at hx; cases hx
            | some p =>
              rw [hq] at hx
              simp only [Option.map_some, Option.some.injEq] at hx
              subst hx
              obtain ⟨h1, h2, _⟩ := hp i p hq
              obtain ⟨u, hu, _⟩ := h2.get hz
              have hc := (cells_at h1).2 j u hu
              obtain ⟨cells, T, fr, hs, hΦ, hcell⟩ := cell_at_gW hc
              have hsp : a.spot = none ∨ (i * P.cellsOf e = 0 ∧ j = 0) := by
                by_cases h0 : i * P.cellsOf e = 0 ∧ j = 0
                · exact .inr h0
                · left
                  by_cases h00 : i * P.cellsOf e + j = 0
                  · exact (h0 ⟨by omega, by omega⟩).elim
                  · -- the cells of the first one have the same spot
                    have h0i : 0 < len := by have := (List.getElem?_eq_some_iff.1 hq).1; omega
                    obtain ⟨p0, hp0⟩ : ∃ p0, ps[0]? = some p0 := ⟨ps[0]'(by omega), List.getElem?_eq_getElem (by omega)⟩
                    obtain ⟨g1, g2, _⟩ := hp 0 p0 hp0
                    have hy0 : (enc y (fun _ => p0.1) [])[0]? ≠ none := by
                      have := enc_length y (fun _ => p0.1)
                      have h0 := Ty.size_pos y
                      intro hn
                      rw [List.getElem?_eq_none_iff] at hn
                      omega
                    cases hz0 : (enc y (fun _ => p0.1) [])[0]? with
                    | none => exact (hy0 hz0).elim
                    | some z0 =>
                      obtain ⟨u0, hu0, _⟩ := g2.get hz0
                      have hc0 := (cells_at g1).2 0 u0 hu0
                      obtain ⟨_, _, _, hs0, _⟩ := cell_at_gW hc0
                      simpa [Addr.add] using hs0
              have hsp' : a.spot = none := by
                rcases hsp with h | ⟨h0, hj0⟩
                · exact h
                · subst hj0
                  rw [h0] at hs
                  simpa [Addr.add] using hs
              have e1 : (a.add (i * P.cellsOf e)).add j = ⟨a.block, a.off + (i * P.cellsOf e + j), none⟩ := by
                rw [add_none hsp', add_none rfl]; simp [Nat.add_assoc]
              rw [e1] at hΦ hcell
              refine ⟨a.block, a.off, cells, T, fr, by cases a; simp at hsp' ⊢; exact hsp', hΦ, ?_⟩
              rw [hsz i p hq] at hcell
              simp only [Option.map_some, Option.getD_some, hu]
              exact hcell
          · intro i x j z hx hz
            simp only [List.getElem?_map] at hx
            cases hq : ps[i]? with
            | none => rw [hq] at hx; cases hx
            | some p =>
              rw [hq] at hx
              simp only [Option.map_some, Option.some.injEq] at hx
              subst hx
              obtain ⟨h1, h2, _⟩ := hp i p hq
              obtain ⟨u, hu, hr⟩ := h2.get hz
              simp only [hq, Option.map_some, Option.getD_some, hu]
              exact hr
        · show (ps.map (·.1)).length ≤ maxLen
          rw [List.length_map]; omega
        · intro x hx
          obtain ⟨p, hp1, rfl⟩ := List.mem_map.1 hx
          obtain ⟨i, hi⟩ := List.mem_iff_getElem?.1 hp1
          exact (hp i p hi).2.2
    · rename_i fs ht
      obtain ⟨xs, n, _, _, hcl, hxl, hf⟩ := DataW.trod_struct (tund_und ht) hx
      obtain ⟨hft, hsum, hoff⟩ := K.struct hlt (tund_und ht)
      have go : ∀ (l : List Field) (k : Nat) (ty : Ty), tyFs (tyOf P d) l = some ty → (∀ f ∈ l, f.type < P.types.size) → (∀ (j : Nat) f, l[j]? = some f → f.offset = k + ((l.take j).map fun f => P.cellsOf f.type).sum) →
          (∀ f ∈ l, ∃ z, DataW.trod enc' P W base sp held n f.type ((cs.drop f.offset).take (P.cellsOf f.type)) = some z) → (cs.drop k).length = (l.map fun f => P.cellsOf f.type).sum →
          ∃ a : ty.den, RL (gW W) (enc ty (fun _ => a) []) (cs.drop k) ∧ wfD ty a := by
        intro l
        induction l with
        | nil => intro k ty h; simp [tyFs] at h
        | cons f r ih =>
          intro k ty h ht ho hz hl
          obtain ⟨z, hz0⟩ := hz f (List.mem_cons_self ..)
          have ho0 : f.offset = k := by simpa using ho 0 f rfl
          rw [ho0] at hz0
          have htf := ht f (List.mem_cons_self ..)
          cases r with
          | nil =>
            simp only [tyFs] at h
            obtain ⟨a, h1, h2⟩ := trod_data K d f.type ty htf h n _ _ hz0
            refine ⟨a, ?_, h2⟩
            simp only [List.map_cons, List.map_nil, List.sum_cons, List.sum_nil, Nat.add_zero] at hl
            rwa [List.take_of_length_le (by omega)] at h1
          | cons f2 r2 =>
            simp only [tyFs] at h
            split at h <;> try cases h
            rename_i ta tb hta htb
            obtain ⟨a, h1, h2⟩ := trod_data K d f.type ta htf hta n _ _ hz0
            obtain ⟨b, h3, h4⟩ := ih (k + P.cellsOf f.type) tb htb (fun q hq => ht q (List.mem_cons_of_mem _ hq)) (fun j q hq => by
              have := ho (j + 1) q (by simpa using hq)
              simp only [List.take_succ_cons, List.map_cons, List.sum_cons] at this
              omega) (fun q hq => hz q (List.mem_cons_of_mem _ hq)) (by
              simp only [List.map_cons, List.sum_cons, List.length_drop] at hl ⊢
              omega)
            refine ⟨(a, b), ?_, h2, h4⟩
            simp only [enc]
            rw [enc_append ta]
            have := h1.append h3
            rw [← List.drop_drop] at this
            rwa [List.take_append_drop] at this
      have := go fs.toList 0 ty h hft (fun j f hj => by simpa using hoff j f hj) (fun f hfm => by
        obtain ⟨i, hi⟩ := List.mem_iff_getElem?.1 hfm
        have hi' : fs[i]? = some f := by simpa using hi
        have h1 := hf i f hi'
        have hil := (List.getElem?_eq_some_iff.1 hi).1
        rw [List.getElem?_eq_getElem (by simp at hil; omega)] at h1
        exact ⟨_, h1⟩) (by simpa [hcl] using hsum)
      simpa using this
    · rename_i n e ht
      split at h <;> try cases h
      rename_i y hy
      obtain ⟨xs, m, _, _, hcl, hxl, hf⟩ := DataW.trod_array (tund_und ht) hx
      obtain ⟨hte, hsz⟩ := K.array hlt (tund_und ht)
      rw [hsz] at hcl
      have go : ∀ (n k : Nat) (ty : Ty), tyRep n y = some ty → (∀ i, i < n → ∃ z, DataW.trod enc' P W base sp held m e ((cs.drop ((k + i) * P.cellsOf e)).take (P.cellsOf e)) = some z) → (cs.drop (k * P.cellsOf e)).length = n * P.cellsOf e →
          ∃ a : ty.den, RL (gW W) (enc ty (fun _ => a) []) (cs.drop (k * P.cellsOf e)) ∧ wfD ty a := by
        intro n
        induction n with
        | zero => intro k ty h; simp [tyRep] at h
        | succ n ih =>
          intro k ty h hz hl
          obtain ⟨z, hz0⟩ := hz 0 (by omega)
          rw [Nat.add_zero] at hz0
          obtain ⟨a, h1, h2⟩ := trod_data K d e y hte hy m _ _ hz0
          cases n with
          | zero =>
            simp only [tyRep, Option.some.injEq] at h
            subst h
            rw [List.take_of_length_le (by omega)] at h1
            exact ⟨a, h1, h2⟩
          | succ n =>
            simp only [tyRep] at h
            split at h <;> try cases h
            rename_i tz htz
            obtain ⟨b, h3, h4⟩ := ih (k + 1) tz htz (fun i hi => by have := hz (i + 1) (by omega); rwa [show k + 1 + i = k + (i + 1) by omega]) (by
              rw [List.length_drop] at hl ⊢
              rw [Nat.add_mul, Nat.one_mul] at hl ⊢
              omega)
            refine ⟨(a, b), ?_, h2, h4⟩
            simp only [enc]
            rw [enc_append y]
            have := h1.append h3
            rw [Nat.add_mul, Nat.one_mul, ← List.drop_drop] at this
            rwa [List.take_append_drop] at this
      have := go n 0 ty h (fun i hi => by
        have h1 := hf i hi
        rw [List.getElem?_eq_getElem (by omega)] at h1
        exact ⟨_, by rw [Nat.zero_add]; exact h1⟩) (by simpa using hcl)
      simpa using this
    · cases h
end
end Go.Proofs.Ytoipgandilhdeaa.Fw
set_option linter.unusedVariables false
set_option linter.unusedSimpArgs false
namespace Go.Proofs.Ytoipgandilhdeaa.Fw
open Go Go.RowKit Go.ChangeShapes Go.WideShapes

theorem wf_i64 {n : Int} (h : wfD (.int .i64) n) : -9223372036854775808 ≤ n ∧ n ≤ 9223372036854775807 := h
theorem wf_u64 {n : Int} (h : wfD (.int .u64) n) : 0 ≤ n ∧ n ≤ 18446744073709551615 := h
def leafB : TypeDesc → Bool
  | .int _ => true | .bool => true | .string => true | .slice _ => true | _ => false
section
variable {H : Type} {enc' : TypeId × Value → H} {P : Program} {W : World} {base : Nat} {sp : Nat → Bool} {held : Bool}

theorem arg_leaf (K : Kids P (· < P.types.size)) {b0 : Nat} {t : Nat} {ty : Ty} {d : TypeDesc} (hd : tund P t = some d) (hb : leafB d = true) (hlt : t < P.types.size) (hty : tyOf P 6 t = some ty) {v : Value} {x : DataW H} {ps : List MemPlace}
    (hval : Value.okWide P W .any b0 t v) (h : DataW.Trod enc' P W base sp held t v x ps) : ∃ a : ty.den, RL (gW W) (enc ty (fun _ => a) []) [v] ∧ wfD ty a := by
  obtain ⟨fuel, hf⟩ := h
  obtain ⟨a, h1, h2⟩ := trod_data K 6 t ty hlt hty fuel _ _ hf
  refine ⟨a, ?_, h2⟩
  have hc : v.cells.toList = [v] := by
    have hu := tund_und hd
    cases v <;> first | rfl | skip
    cases d <;> first | (cases hb; done) | (simp [Value.okWide, hu, Cell.okWide, Cell.ok] at hval)
  rwa [hc] at h1
def aggB : TypeDesc → Bool
  | .struct _ => true | .array _ _ => true | _ => false
theorem arg_struct (K : Kids P (· < P.types.size)) {b0 : Nat} {t : Nat} {ty : Ty} {d : TypeDesc} (hd : tund P t = some d) (hb : aggB d = true) (hlt : t < P.types.size) (hty : tyOf P 6 t = some ty) {v : Value} {x : DataW H} {ps : List MemPlace}
    (hval : Value.okWide P W .any b0 t v) (h : DataW.Trod enc' P W base sp held t v x ps) : ∃ a : ty.den, R (gW W) (.agg (enc ty (fun _ => a) [])) v ∧ wfD ty a := by
  obtain ⟨fuel, hf⟩ := h
  obtain ⟨a, h1, h2⟩ := trod_data K 6 t ty hlt hty fuel _ _ hf
  have hu := tund_und hd
  have hv : ∃ cs, v = .agg cs := by
    cases d <;> first | (cases hb; done) | skip
    all_goals
      simp only [Value.okWide, hu] at hval
      obtain ⟨cs, rfl, _⟩ := hval
      exact ⟨cs, rfl⟩
  obtain ⟨cs, rfl⟩ := hv
  refine ⟨a, ?_, h2⟩
  have := R.mkAgg h1
  simpa [Value.cells] using this

theorem law_run {f : FuncId} {args : List AV} {vals : List Value} {Y : Type} {Q : Y → Prop} {res : Y → AV} {out : Y → List Chunk} (hm : Meets P f args [] Q res out) (hres : ∀ y, Q y → res y = .tt) (hr : RL (gW W) args vals) :
    Calls P f vals.toArray W fun e W' => e = .returned (.bool true) ∧ Below W.heap.size W W' := by
  refine (hm.h (gW W) W vals (sim_gW W) hr).mono ?_
  rintro e W' ⟨y, c, g', hq, rfl, h1, h2, h3⟩
  rw [hres y hq] at h1
  rw [h1.tt_iff]
  refine ⟨rfl, h3.os, h3.tape, h3.output, h3.size, fun b hb => h3.keep b hb ?_⟩
  rintro ⟨i, hi⟩
  simp [getE, Chunk.blk] at hi

theorem trodAll_stays (hl : laidOutB P = true) {W' : World} (hb : Below W.heap.size W W') : ∀ {ts : List TypeId} {vs : List Value} {ds : List (DataW H)} {ps : List MemPlace} (sp' : Nat → Bool), (∀ t ∈ ts, P.readableRec t = true ∧ t < P.types.size) →
    DataW.TrodAll enc' P W 0 (fun _ => true) true ts vs ds ps → (∀ p ∈ ps, p.block < W.heap.size) → (∀ p ∈ ps, sp' p.block = true) → DataW.TrodAll enc' P W' 0 sp' true ts vs ds ps
  | [], [], [], ps, sp', _, h, _, _ => h
  | t :: ts, v :: vs, d :: ds, ps, sp', ht, h, hlt, hsp => by
    obtain ⟨p, q, h1, h2, rfl⟩ := h
    obtain ⟨hr, hrow⟩ := ht t (List.mem_cons_self ..)
    refine ⟨p, q, WideElems.Trod_stays hl hr hrow h1 (fun x hx => hb.same (hlt x (List.mem_append_left _ hx))) (fun x hx => hsp x (List.mem_append_left _ hx)), ?_, rfl⟩
    exact trodAll_stays hl hb sp' (fun t ht' => ht t (List.mem_cons_of_mem _ ht')) h2 (fun x hx => hlt x (List.mem_append_right _ hx)) (fun x hx => hsp x (List.mem_append_right _ hx))
  | [], _ :: _, _, _, _, _, h, _, _ => h.elim
  | [], [], _ :: _, _, _, _, h, _, _ => h.elim
  | _ :: _, [], _, _, _, _, h, _, _ => h.elim
  | _ :: _, _ :: _, [], _, _, _, h, _, _ => h.elim

theorem law_post {f : Func} {s : ChangeSpec} {W' : World} {args : Array Value} {ds gs : List (DataW H)} {before : List MemPlace} (hl : laidOutB P = true) {tb : TypeId}
    (hW : DataW.Whole enc' P f.params.toList s.vars false W args.toList ds gs before) (hv : s.vars = []) (hfn : s.fn H (ds ++ gs) = { results := [.lit (.bool true)], args := ds })
    (hres : f.resultTypes = #[tb]) (htb : P.underlying tb = some .bool) (ht : ∀ t ∈ f.params.toList, P.readableRec t = true ∧ t < P.types.size) (hb : Below W.heap.size W W') :
    s.post enc' P f false true false false W args (.bool true) W' := by
  have hlt := hW.lt
  have hW' := hW
  obtain ⟨p, q, hA, hV, hpq, hfz, hnd⟩ := hW'
  rw [hv] at hV
  have hgq : gs = [] ∧ q = [] := by
    cases gs with
    | nil => exact ⟨rfl, hV⟩
    | cons g r => exact hV.elim
  obtain ⟨rfl, rfl⟩ := hgq
  rw [List.append_nil] at hpq
  subst hpq
  have hold : ∀ p ∈ before, (fun b => decide (b < W.heap.size)) p.block = true := fun p hp => by simpa using hlt p hp
  have hargs : ∀ sp : Nat → Bool, (∀ p ∈ before, sp p.block = true) → DataW.TrodAll enc' P W' 0 sp true f.params.toList args.toList ds before := fun sp hsp => trodAll_stays hl hb sp ht hA hlt hsp
  have hresT : ∀ (b : Nat) (sp : Nat → Bool) (hd : Bool), DataW.TrodAll enc' P W' b sp hd f.resultTypes.toList ((Value.bool true).resultList f.resultTypes.size) [.lit (.bool true)] [] := by
    intro b sp hd
    rw [hres]
    exact trodAll_mk1 (shut_bool htb true)
  refine ⟨ds, [], before, [], before, [], hW, ?_, ?_, ?_, World.keptBut_mono (fun p hp => ⟨hp, ?_⟩) (hb.frame (· ∈ before)), fun h => by cases h⟩
  · rw [hfn]; exact hresT _ _ _
  · rw [hfn]; exact hargs _ hold
  · rw [hfn, hv]; rfl
  · exact .inr (by simpa using hp)
end
end Go.Proofs.Ytoipgandilhdeaa.Fw
set_option linter.unusedVariables false
set_option linter.unusedSimpArgs false
namespace Go.Proofs.Ytoipgandilhdeaa.RWireReads
open Go Go.ChangeShapes Go.WideShapes Go.ChangeAt Go.RowKit Fw
theorem own : ownKnob Try.prog.godebug = none := by kernel_rfl
theorem laidOut : laidOutB Try.prog = true := by kernel_rfl
theorem mapsOk : mapsRowed Try.prog = true := by kernel_rfl
theorem kids : Kids Try.prog (· < Try.prog.types.size) := kids_rows laidOut mapsOk
theorem readable : ∀ t ∈ Try.f9.params.toList, Try.prog.readableRec t = true ∧ t < Try.prog.types.size := by
  have h : (Try.f9.params.toList.all fun t => Try.prog.readableRec t && decide (t < Try.prog.types.size)) = true := by kernel_rfl
  intro t ht
  have := List.all_eq_true.1 h t ht
  rw [Bool.and_eq_true, decide_eq_true_eq] at this
  exact this
set_option maxRecDepth 100000 in
theorem lifted (os : Os) (started : os.Started) (H : Type) (enc : TypeId × Value → H) :
    ReturnsInHanded {} Try.checked os 9 .any (Rows.wireReadsSpec.pre6 enc Try.prog Try.f9 Rows.wireReadsRow.domain false) (Rows.wireReadsSpec.post enc Try.prog Try.f9 false true false false) := by
  refine returnsInHanded_of_change (C := Try.checked) own started (by kernel_rfl) Try.func9
    (ChangeSpec.witness6 (enc := enc) (C := Try.checked) false ⟨#[], #[.string .empty], []⟩ 8 (by kernel_rfl) (by kernel_rfl) (by kernel_rfl) (by kernel_rfl)) ?_
  intro W base args ds gs before hval0 hW hcnd _
  have hval : ∀ (j : Nat) t v, Try.f9.params[j]? = some t → args[j]? = some v → Value.okWide Try.prog W .any base t v := hval0
  have hW' : DataW.Whole enc Try.prog Try.f9.params.toList Rows.wireReadsSpec.vars false W args.toList ds gs before := hW
  obtain ⟨p, q, hA0, hV, _, _, _⟩ := hW'
  have hA : DataW.TrodAll enc Try.prog W 0 (fun _ => true) true Try.f9.params.toList args.toList ds p := hA0
  rw [Try.params9] at hA hval
  obtain ⟨v0, d0, rfl, rfl, h0⟩ := trodAll_one hA
  obtain ⟨rfl, rfl⟩ := trodVars_none hV
  obtain ⟨a0, r0, w0⟩ := arg_leaf (ty := .str) kids rfl rfl (of_decide_eq_true (by kernel_rfl)) (by kernel_rfl) (hval 0 _ v0 rfl rfl) h0
  refine (law_run (vals := [v0]) (Wi.readsLawM a0) (fun _ _ => rfl) ⟨r0.1, trivial⟩).mono ?_
  rintro e W' ⟨rfl, hb⟩
  exact ⟨_, rfl, law_post laidOut hW rfl rfl (by rfl) Try.underlying4 readable hb⟩

theorem holds : Rows.WireReadsSaid :=
  OpenClaim.holds_of_wide 9 Try.f9 rfl rfl rfl rfl rfl rfl rfl ⟨rfl, rfl, rfl, rfl, rfl⟩ rfl rfl rfl rfl rfl (by kernel_rfl) Try.func9 (by kernel_rfl)
    (of_decide_eq_true (by kernel_rfl)) (by unfold Func.isWrapper; first | (rw [if_pos (by decide +kernel)]; kernel_rfl) | (rw [if_neg (by decide +kernel)]; exact ⟨rfl, rfl⟩))
    (fun os started H enc _ => lifted os started H enc)
end Go.Proofs.Ytoipgandilhdeaa.RWireReads
#print axioms Go.Proofs.Ytoipgandilhdeaa.RWireReads.holds
