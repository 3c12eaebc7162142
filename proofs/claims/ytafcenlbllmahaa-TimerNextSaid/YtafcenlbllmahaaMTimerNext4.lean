/- The law TimerNext holds at every input that its statement lets in; part 5 of its proof. -/
import Derived.Test.YtafcenlbllmahaaMTimerNext3
import Derived.ProofKit
import Derived.OpenShut
import Derived.JoinedCond
import Derived.Test.YtafcenlbllmahaaRows
set_option linter.unusedVariables false
set_option linter.unusedSimpArgs false
namespace Go.Proofs.Ytafcenlbllmahaa.Ti
open Go Go.RowKit Fw Wh
structure MRel (es : List (Nat × Int × Int)) (L : Ones) : Prop where
  nd : (keysH es).Nodup
  mem : ∀ id d, getH es id = some d ↔ (id, d) ∈ L
theorem mrel0 : MRel [] [] := ⟨List.nodup_nil, fun _ _ => by simp [getH]⟩
theorem MRel.len {es : List (Nat × Int × Int)} {L : Ones} (h : MRel es L) (hn : (L.map (·.1)).Nodup) : es.length = L.length := by
  have hm : ∀ x, x ∈ keysH es ↔ x ∈ L.map (·.1) := fun x => by
    simp only [List.mem_map]
    constructor
    · intro hx
      cases hg : getH es x with
      | none => exact (getH_none.1 hg hx).elim
      | some d => exact ⟨_, (h.mem x d).1 hg, rfl⟩
    · rintro ⟨e, he, rfl⟩
      by_cases hk : e.1 ∈ keysH es
      · exact hk
      · have := getH_none.2 hk
        rw [(h.mem e.1 e.2).2 he] at this; cases this
  have h2 := ((List.perm_ext_iff_of_nodup h.nd hn).2 hm).length_eq
  simpa [keysH] using h2
theorem TL.nd {t : Tm} {now : Int} {L : Ones} (h : TL t now L) : (L.map (·.1)).Nodup := by obtain ⟨D, _, h2⟩ := h.h; exact h2.nd
theorem TL.pos {t : Tm} {now : Int} {L : Ones} (h : TL t now L) : ∀ e ∈ L, 0 ≤ e.2 := by
  obtain ⟨D, _, h2⟩ := h.h
  intro e he
  have := h2.dom e.1 e.2 ((h2.mem e.1 e.2).1 he)
  omega
theorem TL.ord {t : Tm} {now : Int} {L : Ones} (h : TL t now L) : L.Pairwise ltK := by obtain ⟨D, _, h2⟩ := h.h; exact h2.ord
theorem TL.cut {t : Tm} {now : Int} {L : Ones} (h : TL t now L) (to : Int) : ∀ e ∈ L.drop (cutK L to), to < e.2 := by
  obtain ⟨D, _, h2⟩ := h.h
  intro e he
  have := h2.after (cut_at L to) e he
  omega
theorem MRel.set {t : Tm} {now : Int} {es : List (Nat × Int × Int)} {L : Ones} (h : MRel es L) (ht : TL t now L) {id d : Int} (hi : 0 ≤ id ∧ id ≤ 1048575) (hd : 0 ≤ d ∧ d ≤ 1099511627776) (c : Nat) : MRel (putH es c id d) (insK (canK L id) (id, d)) := by
  obtain ⟨D, _, h2⟩ := ht.h
  refine ⟨nodup_put h.nd _ _ _, fun j e => ?_⟩
  rw [getH_put, (h2.set hi hd).mem]
  unfold updP
  split
  · rfl
  · rw [h.mem, h2.mem]
theorem MRel.del {es : List (Nat × Int × Int)} {L : Ones} {k : Nat} {x : Int × Int} (h : MRel es (L.drop k)) (hn : (L.map (·.1)).Nodup) (hk : L[k]? = some x) : MRel (delH es x.1) (L.drop (k + 1)) := by
  have hkl := (List.getElem?_eq_some_iff.1 hk).1
  have hd : L.drop k = x :: L.drop (k + 1) := by
    rw [List.drop_eq_getElem_cons hkl, (List.getElem?_eq_some_iff.1 hk).2]
  have hn2 : ((L.drop k).map (·.1)).Nodup := hn.sublist ((List.drop_sublist _ _).map _)
  rw [hd, List.map_cons, List.nodup_cons] at hn2
  refine ⟨nodup_del h.nd _, fun j e => ?_⟩
  rw [getH_del h.nd]
  split
  · rename_i hj; subst hj
    constructor
    · intro h1; cases h1
    · intro h1; exact (hn2.1 (List.mem_map.2 ⟨_, h1, rfl⟩)).elim
  · rename_i hj
    rw [h.mem, hd, List.mem_cons]
    constructor
    · rintro (h1 | h1)
      · exact (hj (congrArg Prod.fst h1)).elim
      · exact h1
    · exact .inr
def chO (t : Tm) (es : List (Nat × Int × Int)) (c : Nat) : List Chunk := chT t ++ [.heap fun _ => hpD es c]
theorem onceLaw (now : Int) (ids : List (Int × Int × Int)) (steps : List Int) : Meets Try.prog 5 [.int .i64 fun _ => now, .lst OpT fun _ => ids, .lst (.int .i64) fun _ => steps] [] (Y := Unit) (fun _ => True) (fun _ => .tt) (fun _ => []) := by
  by_cases hn : 0 ≤ now ∧ now ≤ 1099511627776
  rotate_left
  · refine Meets.intro hm (fn := Try.f5) Try.func5 rfl (by decide) (Nat.le_of_ble_eq_true rfl) (fun _ => rfl) ?_; intro S hok; (conv => whnf)
    (repeat' ((conv => whnf); first | apply And.intro | exact ⟨by kernel_rfl⟩ | apply DrawN.mk | apply CodeN.step hm rfl | exact trivial | exact rfl | (intro hh; try simp only [bs] at hh; try exact absurd hh (by decide)))); all_goals (conv => whnf)
    (refine CallN.q (newBadM now hn) [] (fun _ _ => ?_); (repeat' ((conv => whnf); first | apply And.intro | exact ⟨by kernel_rfl⟩ | apply DrawN.mk | apply CodeN.step hm rfl | exact trivial | exact rfl | (intro hh; try simp only [bs] at hh; try exact absurd hh (by decide)))); all_goals (conv => whnf); all_goals try exact ⟨by decide⟩)
    all_goals ((refine CallN.q (liveM) [] (fun _ _ => ?_); (repeat' ((conv => whnf); first | apply And.intro | exact ⟨by kernel_rfl⟩ | apply DrawN.mk | apply CodeN.step hm rfl | exact trivial | exact rfl | (intro hh; try simp only [bs] at hh; try exact absurd hh (by decide)))); all_goals (conv => whnf); all_goals try exact ⟨by decide⟩))
    all_goals ((refine RetN.q () [] ?_ ?_ ?_ <;> (repeat' ((conv => whnf) <;> first | exact rfl | exact trivial | exact Fw.Hp.like_refl _ | apply And.intro | exact Nat.zero_add _)); all_goals ((conv => whnf); try simp only [])))
  refine Meets.intro hm (fn := Try.f5) Try.func5 rfl (by decide) (Nat.le_of_ble_eq_true rfl) (fun _ => rfl) ?_; intro S hok; (conv => whnf)
  (repeat' ((conv => whnf); first | apply And.intro | exact ⟨by kernel_rfl⟩ | apply DrawN.mk | apply CodeN.step hm rfl | exact trivial | exact rfl | (intro hh; try simp only [bs] at hh; try exact absurd hh (by decide)))); all_goals (conv => whnf)
  (refine CallN.q (newL now hn) [] (fun _ _ => ?_); (repeat' ((conv => whnf); first | apply And.intro | exact ⟨by kernel_rfl⟩ | apply DrawN.mk | exact trivial | exact rfl | (intro hh; try simp only [bs] at hh))); all_goals (conv => whnf); all_goals try exact ⟨by decide⟩)
  rename_i t ht
  (apply CodeN.step hm rfl; (repeat' ((conv => whnf); first | apply And.intro | exact ⟨by kernel_rfl⟩ | apply DrawN.mk | exact trivial | exact rfl | (intro hh; try simp only [bs] at hh))); all_goals (conv => whnf))
  rotate_left
  · (repeat' ((conv => whnf); first | apply And.intro | exact ⟨by kernel_rfl⟩ | apply DrawN.mk | apply CodeN.step hm rfl | exact trivial | exact rfl | (intro hh; try simp only [bs] at hh; try exact absurd hh (by decide)))); all_goals (conv => whnf)
    (refine CallN.q (liveM) [] (fun _ _ => ?_); (repeat' ((conv => whnf); first | apply And.intro | exact ⟨by kernel_rfl⟩ | apply DrawN.mk | apply CodeN.step hm rfl | exact trivial | exact rfl | (intro hh; try simp only [bs] at hh; try exact absurd hh (by decide)))); all_goals (conv => whnf); all_goals try exact ⟨by decide⟩)
    (refine RetN.q () [] ?_ ?_ ?_ <;> (repeat' ((conv => whnf) <;> first | exact rfl | exact trivial | exact Fw.Hp.like_refl _ | apply And.intro | exact Nat.zero_add _)); all_goals ((conv => whnf); try simp only []))
  · (repeat' ((conv => whnf); first | apply And.intro | exact ⟨by kernel_rfl⟩ | apply DrawN.mk | apply CodeN.step hm rfl | exact trivial | exact rfl | (intro hh; try simp only [bs] at hh; try exact absurd hh (by decide)))); all_goals (conv => whnf)
    (refine CallN.q (liveM) [] (fun _ _ => ?_); (repeat' ((conv => whnf); first | apply And.intro | exact ⟨by kernel_rfl⟩ | apply DrawN.mk | apply CodeN.step hm rfl | exact trivial | exact rfl | (intro hh; try simp only [bs] at hh; try exact absurd hh (by decide)))); all_goals (conv => whnf); all_goals try exact ⟨by decide⟩)
    (refine RetN.q () [] ?_ ?_ ?_ <;> (repeat' ((conv => whnf) <;> first | exact rfl | exact trivial | exact Fw.Hp.like_refl _ | apply And.intro | exact Nat.zero_add _)); all_goals ((conv => whnf); try simp only []))
  (apply CodeN.step hm rfl; (repeat' ((conv => whnf); first | apply And.intro | exact ⟨by kernel_rfl⟩ | apply DrawN.mk | exact trivial | exact rfl | (intro hh; try simp only [bs] at hh))); all_goals (conv => whnf))
  · exact absurd rfl hh
  (apply CodeN.step hm rfl; (repeat' ((conv => whnf); first | apply And.intro | exact ⟨by kernel_rfl⟩ | apply DrawN.mk | exact trivial | exact rfl | (intro hh; try simp only [bs] at hh))); all_goals (conv => whnf))
  (apply CodeN.step hm rfl; (repeat' ((conv => whnf); first | apply And.intro | exact ⟨by kernel_rfl⟩ | apply DrawN.mk | exact trivial | exact rfl | (intro hh; try simp only [bs] at hh))); all_goals (conv => whnf))
  (apply CodeN.step hm rfl; (repeat' ((conv => whnf); first | apply And.intro | exact ⟨by kernel_rfl⟩ | apply DrawN.mk | exact trivial | exact rfl | (intro hh; try simp only [bs] at hh))); all_goals (conv => whnf))
  refine CodeN.heap0 (fun _ => .map [] 0) ?_
  (conv => whnf)
  refine CodeN.absorbM 9 8 rfl (fun c => hpD [] c) rfl rfl (like_new _) (fun c0 => ?_)
  (conv => whnf)
  (repeat' ((conv => whnf); first | apply And.intro | exact ⟨by kernel_rfl⟩ | apply DrawN.mk | apply CodeN.step hm rfl | exact trivial | exact rfl | (intro hh; try simp only [bs] at hh; try exact absurd hh (by decide)))); all_goals (conv => whnf)
  refine LoopN.intro hm (X := Nat × Tm × Ones × Es Int × Nat) (fun x => x.1 ≤ ids.length ∧ TL x.2.1 now x.2.2.1 ∧ MRel x.2.2.2.1 x.2.2.1) (fun x => ids.length - x.1)
    (fun x => [(0, .int .i64 fun _ => now), (1, .lst OpT fun _ => ids), (2, .lst (.int .i64) fun _ => steps), (6, .ff), (7, .ptr 0 0), (9, .hm 8 fun _ => 0), (10, .int .i64 fun _ => (x.1 : Int))])
    (fun x => chO x.2.1 x.2.2.2.1 x.2.2.2.2) (0, t, [], [], c0) [0, 1, 2, 3, 4, 5, 6, 7, 9] ?_ ⟨Nat.zero_le _, ht, mrel0⟩ ?_
  · refine ⟨rfl, rfl, ?_, ?_⟩
    · (repeat' ((conv => whnf) <;> first | exact rfl | exact trivial | exact Fw.Hp.like_refl _ | apply And.intro | exact Nat.zero_add _))
    · (repeat' ((conv => whnf) <;> first | exact rfl | exact trivial | exact Fw.Hp.like_refl _ | apply And.intro | exact Nat.zero_add _))
  rintro ⟨i, t1, L, es, c⟩ ⟨hi, h1, hM⟩
  simp only [] at hi h1 hM
  clear ht t
  (repeat' ((conv => whnf); first | apply And.intro | exact ⟨by kernel_rfl⟩ | apply DrawN.mk | exact trivial | exact rfl | (intro hh; try simp only [bs] at hh))); all_goals (conv => whnf)
  (apply CodeN.step hm rfl; (repeat' ((conv => whnf); first | apply And.intro | exact ⟨by kernel_rfl⟩ | apply DrawN.mk | exact trivial | exact rfl | (intro hh; try simp only [bs] at hh))); all_goals (conv => whnf))
  (apply CodeN.step hm rfl; (repeat' ((conv => whnf); first | apply And.intro | exact ⟨by kernel_rfl⟩ | apply DrawN.mk | exact trivial | exact rfl | (intro hh; try simp only [bs] at hh))); all_goals (conv => whnf))
  · exact ⟨⟨by simp, hh⟩⟩
  · exact ⟨⟨by simp, hh⟩⟩
  · have hh3 : (i : Int) < ids.length := hh
    by_cases hv : (0 ≤ (ids.getD i (0, 0, 0)).2.1 ∧ (ids.getD i (0, 0, 0)).2.1 ≤ 1048575) ∧ (0 ≤ (ids.getD i (0, 0, 0)).2.2 ∧ (ids.getD i (0, 0, 0)).2.2 ≤ 1099511627776)
    · (refine CallN.q (setL t1 now L h1 (ids.getD i (0, 0, 0)).2.1 (ids.getD i (0, 0, 0)).2.2 hv.1 hv.2) [0, 1, 2, 3, 4, 5, 6, 7] ?_; rintro t2 h2; (repeat' ((conv => whnf); first | apply And.intro | exact ⟨by kernel_rfl⟩ | apply DrawN.mk | apply CodeN.step hm rfl | exact trivial | exact rfl | (intro hh; try simp only [bs] at hh; try exact absurd hh (by decide)))); all_goals (conv => whnf); all_goals try exact ⟨by decide⟩)
      · exact ⟨⟨by simp, hh3⟩⟩
      · exact ⟨⟨by simp, hh3⟩⟩
      refine muDue rfl rfl (.eq (.dat (.int .i64) (ids.getD i (0, 0, 0)).2.2)) ?_
      (repeat' ((conv => whnf); first | apply And.intro | exact ⟨by kernel_rfl⟩ | apply DrawN.mk | apply CodeN.step hm rfl | exact trivial | exact rfl | (intro hh; try simp only [bs] at hh; try exact absurd hh (by decide)))); all_goals (conv => whnf)
      refine ⟨(i + 1, t2, insK (canK L (ids.getD i (0, 0, 0)).2.1) ((ids.getD i (0, 0, 0)).2.1, (ids.getD i (0, 0, 0)).2.2), putH es c (ids.getD i (0, 0, 0)).2.1 (ids.getD i (0, 0, 0)).2.2, clkP es c (ids.getD i (0, 0, 0)).2.1), [0, 1, 2, 3, 4, 5, 6, 7, 8], ⟨rfl, rfl, ?_, ?_⟩, ⟨by omega, h2, hM.set h1 hv.1 hv.2 c⟩, by simp only []; omega⟩
      · (repeat' ((conv => whnf) <;> first | exact rfl | exact trivial | exact Fw.Hp.like_refl _ | apply And.intro | exact Nat.zero_add _))
      · (repeat' ((conv => whnf) <;> first | exact rfl | exact trivial | exact Fw.Hp.like_refl _ | apply And.intro | exact Nat.zero_add _)); all_goals ((conv => whnf); try simp only [])
        show IntKind.i64.wrap ((i : Int) + 1) = _
        rw [Wh.wr (by omega)]; omega
    · (refine CallN.q (setBadM t1 (ids.getD i (0, 0, 0)).2.1 (ids.getD i (0, 0, 0)).2.2 hv) [0, 1, 2, 3, 4, 5, 6, 7] (fun _ _ => ?_); (repeat' ((conv => whnf); first | apply And.intro | exact ⟨by kernel_rfl⟩ | apply DrawN.mk | apply CodeN.step hm rfl | exact trivial | exact rfl | (intro hh; try simp only [bs] at hh; try exact absurd hh (by decide)))); all_goals (conv => whnf); all_goals try exact ⟨by decide⟩)
      refine ⟨(i + 1, t1, L, es, c), [0, 1, 2, 3, 4, 5, 6, 7, 8], ⟨rfl, rfl, ?_, ?_⟩, ⟨by omega, h1, hM⟩, by simp only []; omega⟩
      · (repeat' ((conv => whnf) <;> first | exact rfl | exact trivial | exact Fw.Hp.like_refl _ | apply And.intro | exact Nat.zero_add _))
      · (repeat' ((conv => whnf) <;> first | exact rfl | exact trivial | exact Fw.Hp.like_refl _ | apply And.intro | exact Nat.zero_add _)); all_goals ((conv => whnf); try simp only [])
        show IntKind.i64.wrap ((i : Int) + 1) = _
        rw [Wh.wr (by omega)]; omega
  clear hh hi
  (repeat' ((conv => whnf); first | apply And.intro | exact ⟨by kernel_rfl⟩ | apply DrawN.mk | apply CodeN.step hm rfl | exact trivial | exact rfl | (intro hh; try simp only [bs] at hh; try exact absurd hh (by decide)))); all_goals (conv => whnf)
  refine LoopN.intro hm (X := Nat × Tm × Int × Ones × Es Int) (fun x => x.1 ≤ steps.length ∧ TL x.2.1 x.2.2.1 x.2.2.2.1 ∧ MRel x.2.2.2.2 x.2.2.2.1 ∧ (0 < x.1 → now ≤ steps.getD 0 0 → steps.getD 0 0 ≤ 1099511627776 → ∀ e ∈ x.2.2.2.1, x.2.2.1 < e.2) ∧ (x.1 = 0 → x.2.2.1 = now)) (fun x => steps.length - x.1)
    (fun x => [(0, .int .i64 fun _ => now), (2, .lst (.int .i64) fun _ => steps), (6, .ff), (7, .ptr 0 0), (9, .hm 8 fun _ => 0), (11, .int .i64 fun _ => (x.1 : Int))])
    (fun x => chO x.2.1 x.2.2.2.2 c) (0, t1, now, L, es) [0, 1, 2, 3, 4, 5, 6, 7, 8] ?_ ⟨Nat.zero_le _, h1, hM, by omega, fun _ => rfl⟩ ?_
  · refine ⟨rfl, rfl, ?_, ?_⟩
    · (repeat' ((conv => whnf) <;> first | exact rfl | exact trivial | exact Fw.Hp.like_refl _ | apply And.intro | exact Nat.zero_add _))
    · (repeat' ((conv => whnf) <;> first | exact rfl | exact trivial | exact Fw.Hp.like_refl _ | apply And.intro | exact Nat.zero_add _))
  clear h1 hM t1 L es
  rintro ⟨j, t1, n1, L, es⟩ ⟨hj, h1, hM, hset, hz⟩
  simp only [] at hj h1 hM hset hz
  (repeat' ((conv => whnf); first | apply And.intro | exact ⟨by kernel_rfl⟩ | apply DrawN.mk | apply CodeN.step hm rfl | exact trivial | exact rfl | (intro hh; try simp only [bs] at hh; try exact absurd hh (by decide)))); all_goals (conv => whnf)
  rotate_right
  · (refine CallN.q (liveM) [] (fun _ _ => ?_); (repeat' ((conv => whnf); first | apply And.intro | exact ⟨by kernel_rfl⟩ | apply DrawN.mk | apply CodeN.step hm rfl | exact trivial | exact rfl | (intro hh; try simp only [bs] at hh; try exact absurd hh (by decide)))); all_goals (conv => whnf); all_goals try exact ⟨by decide⟩)
    (refine RetN.q () [] ?_ ?_ ?_ <;> (repeat' ((conv => whnf) <;> first | exact rfl | exact trivial | exact Fw.Hp.like_refl _ | apply And.intro | exact Nat.zero_add _)); all_goals ((conv => whnf); try simp only []))
  (refine CallN.q (nowL t1 n1 L h1) [0, 1, 2, 3, 4, 5, 6, 7] (fun _ _ => ?_); (repeat' ((conv => whnf); first | apply And.intro | exact ⟨by kernel_rfl⟩ | apply DrawN.mk | apply CodeN.step hm rfl | exact trivial | exact rfl | (intro hh; try simp only [bs] at hh; try exact absurd hh (by decide)))); all_goals (conv => whnf); all_goals try exact ⟨by decide⟩)
  · exact ⟨⟨by simp, hh⟩⟩
  have hh3 : (j : Int) < steps.length := hh
  by_cases hv : n1 ≤ steps.getD j 0 ∧ steps.getD j 0 ≤ 1099511627776
  rotate_left
  · (refine CallN.q (advBadL t1 n1 L h1 (steps.getD j 0) (by omega)) [0, 1, 2, 3, 4, 5, 6, 7] (fun _ _ => ?_); (repeat' ((conv => whnf); first | apply And.intro | exact ⟨by kernel_rfl⟩ | apply DrawN.mk | apply CodeN.step hm rfl | exact trivial | exact rfl | (intro hh; try simp only [bs] at hh; try exact absurd hh (by decide)))); all_goals (conv => whnf); all_goals try exact ⟨by decide⟩)
    refine LoopN.intro hm (X := Unit) (fun _ => True) (fun x => 0)
      (fun x => [(0, .int .i64 fun _ => now), (2, .lst (.int .i64) fun _ => steps), (6, .ff), (7, .ptr 0 0), (9, .hm 8 fun _ => 0), (11, .int .i64 fun _ => (j : Int)), (13, .snil), (15, .int .i64 fun _ => 0)])
      (fun x => chO t1 es c) () [0, 1, 2, 3, 4, 5, 6, 7, 8] ?_ trivial ?_
    · refine ⟨rfl, rfl, ?_, ?_⟩
      · (repeat' ((conv => whnf) <;> first | exact rfl | exact trivial | exact Fw.Hp.like_refl _ | apply And.intro | exact Nat.zero_add _))
      · (repeat' ((conv => whnf) <;> first | exact rfl | exact trivial | exact Fw.Hp.like_refl _ | apply And.intro | exact Nat.zero_add _))
    intro _ _
    (repeat' ((conv => whnf); first | apply And.intro | exact ⟨by kernel_rfl⟩ | apply DrawN.mk | apply CodeN.step hm rfl | exact trivial | exact rfl | (intro hh; try simp only [bs] at hh; try exact absurd hh (by decide)))); all_goals (conv => whnf)
    (refine CallN.q (lenL t1 n1 L h1) [0, 1, 2, 3, 4, 5, 6, 7] (fun _ _ => ?_); (repeat' ((conv => whnf); first | apply And.intro | exact ⟨by kernel_rfl⟩ | apply DrawN.mk | apply CodeN.step hm rfl | exact trivial | exact rfl | (intro hh; try simp only [bs] at hh; try exact absurd hh (by decide)))); all_goals (conv => whnf); all_goals try exact ⟨by decide⟩)
    refine .mk ⟨_, _, rfl, ?_⟩
    rw [show (dueE es).length = es.length by simp [dueE], hM.len h1.nd]
    (repeat' ((conv => whnf); first | apply And.intro | exact ⟨by kernel_rfl⟩ | apply DrawN.mk | apply CodeN.step hm rfl | exact trivial | exact rfl | (intro hh; try simp only [bs] at hh; try exact absurd hh (by decide)))); all_goals (conv => whnf)
    · exact absurd rfl hh
    refine ⟨(j + 1, t1, n1, L, es), [0, 1, 2, 3, 4, 5, 6, 7, 8], ⟨rfl, rfl, ?_, ?_⟩, ⟨by omega, h1, hM, fun _ h3 h4 => ?_, by simp⟩, by simp only []; omega⟩
    · (repeat' ((conv => whnf) <;> first | exact rfl | exact trivial | exact Fw.Hp.like_refl _ | apply And.intro | exact Nat.zero_add _))
    · (repeat' ((conv => whnf) <;> first | exact rfl | exact trivial | exact Fw.Hp.like_refl _ | apply And.intro | exact Nat.zero_add _)); all_goals ((conv => whnf); try simp only [])
      show IntKind.i64.wrap ((j : Int) + 1) = _
      rw [Wh.wr (by omega)]; omega
    · by_cases hj0 : 0 < j
      · exact hset hj0 h3 h4
      · exfalso
        obtain rfl : j = 0 := by omega
        have := hz rfl
        omega
  (refine CallN.q (advL t1 n1 L h1 (steps.getD j 0) hv.1 hv.2) [0, 1, 2, 3, 4, 5, 6, 7] ?_; rintro t2 h2; (repeat' ((conv => whnf); first | apply And.intro | exact ⟨by kernel_rfl⟩ | apply DrawN.mk | apply CodeN.step hm rfl | exact trivial | exact rfl | (intro hh; try simp only [bs] at hh; try exact absurd hh (by decide)))); all_goals (conv => whnf); all_goals try exact ⟨by decide⟩)
  have hcut := cut_at L (steps.getD j 0)
  have hset2 : ∀ e ∈ L.drop (cutK L (steps.getD j 0)), steps.getD j 0 < e.2 := h1.cut _
  have hnx := hv.1
  have hset3 : 0 < j → now ≤ steps.getD (Int.toNat 0) (Ty.int .i64).dflt → steps.getD (Int.toNat 0) (Ty.int .i64).dflt ≤ 1099511627776 → ∀ e ∈ L, n1 < e.2 := hset
  have hRl : ((L.take (cutK L (steps.getD j 0))).map (·.1)).length = cutK L (steps.getD j 0) := by have := hcut.le; simp only [List.length_map, List.length_take]; omega
  generalize hK : cutK L (steps.getD j 0) = K at *
  refine LoopN.intro hm (X := Nat × Es Int) (fun x => x.1 ≤ K ∧ MRel x.2 (L.drop x.1)) (fun x => K - x.1)
    (fun x => [(0, .int .i64 fun _ => now), (2, .lst (.int .i64) fun _ => steps), (6, .ff), (7, .ptr 0 0), (9, .hm 8 fun _ => 0), (11, .int .i64 fun _ => (j : Int)), (12, .int .i64 fun _ => n1), (13, .lst (.int .i64) fun _ => (L.take K).map (·.1)), (14, .int .i64 fun _ => if x.1 = 0 then -1 else (L.getD (x.1 - 1) (0, 0)).2), (15, .int .i64 fun _ => (x.1 : Int))])
    (fun x => chO t2 x.2 c) (0, es) [0, 1, 2, 3, 4, 5, 6, 7, 8] ?_ ⟨Nat.zero_le _, hM⟩ ?_
  · refine ⟨rfl, rfl, ?_, ?_⟩
    · (repeat' ((conv => whnf) <;> first | exact rfl | exact trivial | exact Fw.Hp.like_refl _ | apply And.intro | exact Nat.zero_add _))
    · (repeat' ((conv => whnf) <;> first | exact rfl | exact trivial | exact Fw.Hp.like_refl _ | apply And.intro | exact Nat.zero_add _)); all_goals ((conv => whnf); try simp only [])
  rintro ⟨k, es2⟩ ⟨hk, hM2⟩
  simp only [] at hk hM2
  have hKL := hcut.le
  by_cases hkK : k < K
  rotate_left
  · (repeat' ((conv => whnf); first | apply And.intro | exact ⟨by kernel_rfl⟩ | apply DrawN.mk | apply CodeN.step hm rfl | exact trivial | exact rfl | (intro hh; try simp only [bs] at hh; try exact absurd hh (by decide)))); all_goals (conv => whnf)
    · exfalso; have h9 : (k : Int) < ((L.take K).map (·.1)).length := hh; omega
    · exfalso; have h9 : (k : Int) < ((L.take K).map (·.1)).length := by assumption
      omega
    have hkK2 : k = K := by omega
    subst hkK2
    (refine CallN.q (lenL t2 _ _ h2) [0, 1, 2, 3, 4, 5, 6, 7] (fun _ _ => ?_); (repeat' ((conv => whnf); first | apply And.intro | exact ⟨by kernel_rfl⟩ | apply DrawN.mk | apply CodeN.step hm rfl | exact trivial | exact rfl | (intro hh; try simp only [bs] at hh; try exact absurd hh (by decide)))); all_goals (conv => whnf); all_goals try exact ⟨by decide⟩)
    refine .mk ⟨_, _, rfl, ?_⟩
    rw [show (dueE es2).length = es2.length by simp [dueE], hM2.len h2.nd]
    (repeat' ((conv => whnf); first | apply And.intro | exact ⟨by kernel_rfl⟩ | apply DrawN.mk | apply CodeN.step hm rfl | exact trivial | exact rfl | (intro hh; try simp only [bs] at hh; try exact absurd hh (by decide)))); all_goals (conv => whnf)
    · exact absurd rfl hh
    refine ⟨(j + 1, t2, steps.getD j 0, L.drop k, es2), [0, 1, 2, 3, 4, 5, 6, 7, 8], ⟨rfl, rfl, ?_, ?_⟩, ⟨by omega, h2, hM2, fun _ _ _ => hset2, by simp⟩, by simp only []; omega⟩
    · (repeat' ((conv => whnf) <;> first | exact rfl | exact trivial | exact Fw.Hp.like_refl _ | apply And.intro | exact Nat.zero_add _))
    · (repeat' ((conv => whnf) <;> first | exact rfl | exact trivial | exact Fw.Hp.like_refl _ | apply And.intro | exact Nat.zero_add _)); all_goals ((conv => whnf); try simp only [])
      show IntKind.i64.wrap ((j : Int) + 1) = _
      rw [Wh.wr (by omega)]; omega
  have hg : L[k]? = some (L.getD k (0, 0)) := by rw [List.getD_eq_getElem?_getD, List.getElem?_eq_getElem (by omega)]; rfl
  have hR : ((L.take K).map (·.1)).getD k 0 = (L.getD k (0, 0)).1 := by
    rw [List.getD_eq_getElem?_getD, List.getElem?_map, List.getElem?_take, if_pos hkK, hg]; rfl
  have hR2 : ((L.take K).map (·.1)).getD (((k, es2) : Nat × Es Int).1 : Int).toNat (Ty.int .i64).dflt = (L.getD k (0, 0)).1 := hR
  have hgk : getH es2 (L.getD k (0, 0)).1 = some (L.getD k (0, 0)).2 := (hM2.mem _ _).2 (by
    rw [List.mem_iff_getElem?]
    exact ⟨0, by rw [List.getElem?_drop]; exact hg⟩)
  have hnow : (L.getD k (0, 0)).2 ≤ steps.getD j 0 := hcut.now _ (by rw [List.mem_take_iff_getElem]; exact ⟨k, by omega, (List.getElem?_eq_some_iff.1 hg).2⟩)
  (repeat' ((conv => whnf); first | apply And.intro | exact ⟨by kernel_rfl⟩ | apply DrawN.mk | apply CodeN.step hm rfl | exact trivial | exact rfl | (intro hh; try simp only [bs] at hh; try exact absurd hh (by decide)))); all_goals (conv => whnf)
  · exact ⟨⟨by simp, hh⟩⟩
  · refine lkDue2 rfl rfl (fun d hd => ?_) (fun hd => ?_)
    rotate_left
    · exfalso
      have hd : getH es2 (((L.take K).map (·.1)).getD k 0) = none := hd
      rw [hR, hgk] at hd; cases hd
    have hd : getH es2 (((L.take K).map (·.1)).getD k 0) = some d := hd
    rw [hR, hgk] at hd
    cases hd
    (repeat' ((conv => whnf); first | apply And.intro | exact ⟨by kernel_rfl⟩ | apply DrawN.mk | apply CodeN.step hm rfl | exact trivial | exact rfl | (intro hh; try simp only [bs] at hh; try exact absurd hh (by decide)))); all_goals (conv => whnf)
    have hxm : L.getD k (0, 0) ∈ L := List.mem_of_getElem? hg
    have hlast : ¬ (L.getD k (0, 0)).2 < if k = 0 then -1 else (L.getD (k - 1) (0, 0)).2 := by
      by_cases hk0 : k = 0
      · rw [if_pos hk0]; have := h1.pos _ hxm; omega
      · rw [if_neg hk0]
        have hk1 : k - 1 < L.length := by omega
        have hk2 : k < L.length := by omega
        have := List.pairwise_iff_getElem.1 h1.ord (k - 1) k hk1 hk2 (by omega)
        have e1 : L.getD (k - 1) (0, 0) = L[k - 1] := by rw [List.getD_eq_getElem?_getD, List.getElem?_eq_getElem hk1]; rfl
        have e2 : L.getD k (0, 0) = L[k] := by rw [List.getD_eq_getElem?_getD, List.getElem?_eq_getElem hk2]; rfl
        rw [e1, e2]; unfold ltK at this; omega
    have hidx : idxK (L.drop K) (((L.take K).map (·.1)).getD k 0) = none := by
      rw [hR, idx_none]
      intro e he e2
      obtain ⟨q, hq⟩ := List.mem_iff_getElem?.1 he
      rw [List.getElem?_drop] at hq
      have hn1 := h1.nd
      have a1 : (L.map (·.1))[k]? = some (L.getD k (0, 0)).1 := by rw [List.getElem?_map, hg]; rfl
      have a2 : (L.map (·.1))[K + q]? = some (L.getD k (0, 0)).1 := by rw [List.getElem?_map, hq, ← e2]; rfl
      have b1 := List.getElem?_eq_some_iff.1 a1
      have b2 := List.getElem?_eq_some_iff.1 a2
      have := (List.getElem_inj hn1).1 (b1.2.trans b2.2.symm)
      omega
    have hdue := dueL t2 _ _ h2 (((L.take K).map (·.1)).getD k 0)
    rw [hidx] at hdue
    have hdel := hM2.del h1.nd hg
    (refine CallN.q (nowL t2 _ _ h2) [0, 1, 2, 3, 4, 5, 6, 7] (fun _ _ => ?_); (repeat' ((conv => whnf); first | apply And.intro | exact ⟨by kernel_rfl⟩ | apply DrawN.mk | apply CodeN.step hm rfl | exact trivial | exact rfl | (intro hh; try simp only [bs] at hh; try exact absurd hh (by decide)))); all_goals (conv => whnf); all_goals try exact ⟨by decide⟩)
    all_goals first
      | (exfalso; exact hlast hh)
      | (exfalso; omega)
      | (exfalso; have := hset3 (by omega) (by assumption) (by assumption) _ hxm; omega)
      | exact ⟨⟨by simp, by assumption⟩⟩
      | exact Ob.mk ⟨Int.le_refl _, by show (0 : Int) < (steps.length : Int); omega⟩
      | skip
    all_goals ((refine CallN.q (hdue) [0, 1, 2, 3, 4, 5, 6, 7] (fun _ _ => ?_); (repeat' ((conv => whnf); first | apply And.intro | exact ⟨by kernel_rfl⟩ | apply DrawN.mk | apply CodeN.step hm rfl | exact trivial | exact rfl | (intro hh; try simp only [bs] at hh; try exact absurd hh (by decide)))); all_goals (conv => whnf); all_goals try exact ⟨by decide⟩))
    all_goals first | exact ⟨⟨by simp, by assumption⟩⟩ | skip
    all_goals (refine deDue rfl rfl ?_)
    all_goals (repeat' ((conv => whnf); first | apply And.intro | exact ⟨by kernel_rfl⟩ | apply DrawN.mk | apply CodeN.step hm rfl | exact trivial | exact rfl | (intro hh; try simp only [bs] at hh; try exact absurd hh (by decide)))); all_goals (conv => whnf)
    all_goals (refine ⟨(k + 1, delH es2 (((L.take K).map (·.1)).getD k 0)), [0, 1, 2, 3, 4, 5, 6, 7, 8], ⟨rfl, rfl, ?_, ?_⟩, ⟨by omega, by rw [hR]; exact hdel⟩, by simp only []; omega⟩)
    all_goals (repeat' ((conv => whnf) <;> first | exact rfl | exact trivial | exact Fw.Hp.like_refl _ | apply And.intro | exact Nat.zero_add _)); all_goals ((conv => whnf); try simp only [])
    all_goals (have hLl := h1.len; show IntKind.i64.wrap ((k : Int) + 1) = _; rw [Wh.wr (by omega)]; omega)
  · exfalso; have h9 : ¬ (k : Int) < ((L.take K).map (·.1)).length := hh; omega
end Go.Proofs.Ytafcenlbllmahaa.Ti
set_option linter.unusedVariables false
set_option linter.unusedSimpArgs false
namespace Go.Proofs.Ytafcenlbllmahaa.Ti
open Go Go.RowKit Fw Wh
theorem TL.due {t : Tm} {now : Int} {L : Ones} (h : TL t now L) : ∀ e ∈ L, e.2 ≤ 1099511627776 := by
  obtain ⟨D, _, h2⟩ := h.h
  intro e he
  have := h2.dom e.1 e.2 ((h2.mem e.1 e.2).1 he)
  omega
theorem ins_len : ∀ (L : Ones) (x : Int × Int), (insK L x).length = L.length + 1
  | [], x => rfl
  | e :: r, x => by
    simp only [insK]; split
    · simp [ins_len r x]
    · rfl
theorem set_len (L : Ones) (id d : Int) : (insK (canK L id) (id, d)).length ≤ L.length + 1 := by
  rw [ins_len]
  unfold canK; split
  · rw [List.length_eraseIdx]; split <;> omega
  · exact Nat.le_refl _
theorem nextLaw (now : Int) (ids : List (Int × Int × Int)) : Meets Try.prog 7 [.int .i64 fun _ => now, .lst OpT fun _ => ids] [] (Y := Unit) (fun _ => True) (fun _ => .tt) (fun _ => []) := by
  by_cases hn : 0 ≤ now ∧ now ≤ 1099511627776
  rotate_left
  · refine Meets.intro hm (fn := Try.f7) Try.func7 rfl (by decide) (Nat.le_of_ble_eq_true rfl) (fun _ => rfl) ?_; intro S hok; (conv => whnf)
    (repeat' ((conv => whnf); first | apply And.intro | exact ⟨by kernel_rfl⟩ | apply DrawN.mk | apply CodeN.step hm rfl | exact trivial | exact rfl | (intro hh; try simp only [bs] at hh; try exact absurd hh (by decide)))); all_goals (conv => whnf)
    (refine CallN.q (newBadM now hn) [] (fun _ _ => ?_); (repeat' ((conv => whnf); first | apply And.intro | exact ⟨by kernel_rfl⟩ | apply DrawN.mk | apply CodeN.step hm rfl | exact trivial | exact rfl | (intro hh; try simp only [bs] at hh; try exact absurd hh (by decide)))); all_goals (conv => whnf); all_goals try exact ⟨by decide⟩)
    all_goals ((refine CallN.q (liveM) [] (fun _ _ => ?_); (repeat' ((conv => whnf); first | apply And.intro | exact ⟨by kernel_rfl⟩ | apply DrawN.mk | apply CodeN.step hm rfl | exact trivial | exact rfl | (intro hh; try simp only [bs] at hh; try exact absurd hh (by decide)))); all_goals (conv => whnf); all_goals try exact ⟨by decide⟩))
    all_goals ((refine RetN.q () [] ?_ ?_ ?_ <;> (repeat' ((conv => whnf) <;> first | exact rfl | exact trivial | exact Fw.Hp.like_refl _ | apply And.intro | exact Nat.zero_add _)); all_goals ((conv => whnf); try simp only [])))
  refine Meets.intro hm (fn := Try.f7) Try.func7 rfl (by decide) (Nat.le_of_ble_eq_true rfl) (fun _ => rfl) ?_; intro S hok; (conv => whnf)
  (repeat' ((conv => whnf); first | apply And.intro | exact ⟨by kernel_rfl⟩ | apply DrawN.mk | apply CodeN.step hm rfl | exact trivial | exact rfl | (intro hh; try simp only [bs] at hh; try exact absurd hh (by decide)))); all_goals (conv => whnf)
  (refine CallN.q (newL now hn) [] (fun _ _ => ?_); (repeat' ((conv => whnf); first | apply And.intro | exact ⟨by kernel_rfl⟩ | apply DrawN.mk | exact trivial | exact rfl | (intro hh; try simp only [bs] at hh))); all_goals (conv => whnf); all_goals try exact ⟨by decide⟩)
  rename_i t ht
  (apply CodeN.step hm rfl; (repeat' ((conv => whnf); first | apply And.intro | exact ⟨by kernel_rfl⟩ | apply DrawN.mk | exact trivial | exact rfl | (intro hh; try simp only [bs] at hh))); all_goals (conv => whnf))
  rotate_left
  · (repeat' ((conv => whnf); first | apply And.intro | exact ⟨by kernel_rfl⟩ | apply DrawN.mk | apply CodeN.step hm rfl | exact trivial | exact rfl | (intro hh; try simp only [bs] at hh; try exact absurd hh (by decide)))); all_goals (conv => whnf)
    (refine CallN.q (liveM) [] (fun _ _ => ?_); (repeat' ((conv => whnf); first | apply And.intro | exact ⟨by kernel_rfl⟩ | apply DrawN.mk | apply CodeN.step hm rfl | exact trivial | exact rfl | (intro hh; try simp only [bs] at hh; try exact absurd hh (by decide)))); all_goals (conv => whnf); all_goals try exact ⟨by decide⟩)
    (refine RetN.q () [] ?_ ?_ ?_ <;> (repeat' ((conv => whnf) <;> first | exact rfl | exact trivial | exact Fw.Hp.like_refl _ | apply And.intro | exact Nat.zero_add _)); all_goals ((conv => whnf); try simp only []))
  (apply CodeN.step hm rfl; (repeat' ((conv => whnf); first | apply And.intro | exact ⟨by kernel_rfl⟩ | apply DrawN.mk | exact trivial | exact rfl | (intro hh; try simp only [bs] at hh))); all_goals (conv => whnf))
  all_goals first | exact absurd rfl hh | skip
  (apply CodeN.step hm rfl; (repeat' ((conv => whnf); first | apply And.intro | exact ⟨by kernel_rfl⟩ | apply DrawN.mk | exact trivial | exact rfl | (intro hh; try simp only [bs] at hh))); all_goals (conv => whnf))
  (apply CodeN.step hm rfl; (repeat' ((conv => whnf); first | apply And.intro | exact ⟨by kernel_rfl⟩ | apply DrawN.mk | exact trivial | exact rfl | (intro hh; try simp only [bs] at hh))); all_goals (conv => whnf))
  (apply CodeN.step hm rfl; (repeat' ((conv => whnf); first | apply And.intro | exact ⟨by kernel_rfl⟩ | apply DrawN.mk | exact trivial | exact rfl | (intro hh; try simp only [bs] at hh))); all_goals (conv => whnf))
  refine CodeN.heap0 (fun _ => .map [] 0) ?_
  (conv => whnf)
  refine CodeN.absorbM 9 8 rfl (fun c => hpD [] c) rfl rfl (like_new _) (fun c0 => ?_)
  (conv => whnf)
  (repeat' ((conv => whnf); first | apply And.intro | exact ⟨by kernel_rfl⟩ | apply DrawN.mk | apply CodeN.step hm rfl | exact trivial | exact rfl | (intro hh; try simp only [bs] at hh; try exact absurd hh (by decide)))); all_goals (conv => whnf)
  refine LoopN.intro hm (X := Nat × Tm × Ones × Es Int × Nat) (fun x => x.1 ≤ ids.length ∧ TL x.2.1 now x.2.2.1 ∧ MRel x.2.2.2.1 x.2.2.1 ∧ x.2.2.1.length ≤ x.1) (fun x => ids.length - x.1)
    (fun x => [(0, .int .i64 fun _ => now), (1, .lst OpT fun _ => ids), (4, .ff), (5, .ptr 0 0), (7, .hm 8 fun _ => 0), (8, .int .i64 fun _ => (x.1 : Int))])
    (fun x => chO x.2.1 x.2.2.2.1 x.2.2.2.2) (0, t, [], [], c0) [0, 1, 2, 3, 4, 5, 6, 7, 9] ?_ ⟨Nat.zero_le _, ht, mrel0, Nat.le_refl _⟩ ?_
  · refine ⟨rfl, rfl, ?_, ?_⟩
    · (repeat' ((conv => whnf) <;> first | exact rfl | exact trivial | exact Fw.Hp.like_refl _ | apply And.intro | exact Nat.zero_add _))
    · (repeat' ((conv => whnf) <;> first | exact rfl | exact trivial | exact Fw.Hp.like_refl _ | apply And.intro | exact Nat.zero_add _))
  rintro ⟨i, t1, L, es, c⟩ ⟨hi, h1, hM, hlen⟩
  simp only [] at hi h1 hM hlen
  clear ht t
  (repeat' ((conv => whnf); first | apply And.intro | exact ⟨by kernel_rfl⟩ | apply DrawN.mk | exact trivial | exact rfl | (intro hh; try simp only [bs] at hh))); all_goals (conv => whnf)
  (apply CodeN.step hm rfl; (repeat' ((conv => whnf); first | apply And.intro | exact ⟨by kernel_rfl⟩ | apply DrawN.mk | exact trivial | exact rfl | (intro hh; try simp only [bs] at hh))); all_goals (conv => whnf))
  (apply CodeN.step hm rfl; (repeat' ((conv => whnf); first | apply And.intro | exact ⟨by kernel_rfl⟩ | apply DrawN.mk | exact trivial | exact rfl | (intro hh; try simp only [bs] at hh))); all_goals (conv => whnf))
  · exact ⟨⟨by simp, hh⟩⟩
  · exact ⟨⟨by simp, hh⟩⟩
  · have hh3 : (i : Int) < ids.length := hh
    by_cases hv : (0 ≤ (ids.getD i (0, 0, 0)).2.1 ∧ (ids.getD i (0, 0, 0)).2.1 ≤ 1048575) ∧ (0 ≤ (ids.getD i (0, 0, 0)).2.2 ∧ (ids.getD i (0, 0, 0)).2.2 ≤ 1099511627776)
    · (refine CallN.q (setL t1 now L h1 (ids.getD i (0, 0, 0)).2.1 (ids.getD i (0, 0, 0)).2.2 hv.1 hv.2) [0, 1, 2, 3, 4, 5, 6, 7] ?_; rintro t2 h2; (repeat' ((conv => whnf); first | apply And.intro | exact ⟨by kernel_rfl⟩ | apply DrawN.mk | apply CodeN.step hm rfl | exact trivial | exact rfl | (intro hh; try simp only [bs] at hh; try exact absurd hh (by decide)))); all_goals (conv => whnf); all_goals try exact ⟨by decide⟩)
      · exact ⟨⟨by simp, hh3⟩⟩
      · exact ⟨⟨by simp, hh3⟩⟩
      refine muDue rfl rfl (.eq (.dat (.int .i64) (ids.getD i (0, 0, 0)).2.2)) ?_
      (repeat' ((conv => whnf); first | apply And.intro | exact ⟨by kernel_rfl⟩ | apply DrawN.mk | apply CodeN.step hm rfl | exact trivial | exact rfl | (intro hh; try simp only [bs] at hh; try exact absurd hh (by decide)))); all_goals (conv => whnf)
      refine ⟨(i + 1, t2, insK (canK L (ids.getD i (0, 0, 0)).2.1) ((ids.getD i (0, 0, 0)).2.1, (ids.getD i (0, 0, 0)).2.2), putH es c (ids.getD i (0, 0, 0)).2.1 (ids.getD i (0, 0, 0)).2.2, clkP es c (ids.getD i (0, 0, 0)).2.1), [0, 1, 2, 3, 4, 5, 6, 7, 8], ⟨rfl, rfl, ?_, ?_⟩, ⟨by omega, h2, hM.set h1 hv.1 hv.2 c, by have := set_len L (ids.getD i (0, 0, 0)).2.1 (ids.getD i (0, 0, 0)).2.2; simp only []; omega⟩, by simp only []; omega⟩
      · (repeat' ((conv => whnf) <;> first | exact rfl | exact trivial | exact Fw.Hp.like_refl _ | apply And.intro | exact Nat.zero_add _))
      · (repeat' ((conv => whnf) <;> first | exact rfl | exact trivial | exact Fw.Hp.like_refl _ | apply And.intro | exact Nat.zero_add _)); all_goals ((conv => whnf); try simp only [])
        show IntKind.i64.wrap ((i : Int) + 1) = _
        rw [Wh.wr (by omega)]; omega
    · (refine CallN.q (setBadM t1 (ids.getD i (0, 0, 0)).2.1 (ids.getD i (0, 0, 0)).2.2 hv) [0, 1, 2, 3, 4, 5, 6, 7] (fun _ _ => ?_); (repeat' ((conv => whnf); first | apply And.intro | exact ⟨by kernel_rfl⟩ | apply DrawN.mk | apply CodeN.step hm rfl | exact trivial | exact rfl | (intro hh; try simp only [bs] at hh; try exact absurd hh (by decide)))); all_goals (conv => whnf); all_goals try exact ⟨by decide⟩)
      refine ⟨(i + 1, t1, L, es, c), [0, 1, 2, 3, 4, 5, 6, 7, 8], ⟨rfl, rfl, ?_, ?_⟩, ⟨by omega, h1, hM, by simp only []; omega⟩, by simp only []; omega⟩
      · (repeat' ((conv => whnf) <;> first | exact rfl | exact trivial | exact Fw.Hp.like_refl _ | apply And.intro | exact Nat.zero_add _))
      · (repeat' ((conv => whnf) <;> first | exact rfl | exact trivial | exact Fw.Hp.like_refl _ | apply And.intro | exact Nat.zero_add _)); all_goals ((conv => whnf); try simp only [])
        show IntKind.i64.wrap ((i : Int) + 1) = _
        rw [Wh.wr (by omega)]; omega
  have hLi : L.length ≤ ids.length := by omega
  clear hh hlen hi
  have hid : ids.length ≤ 60 := by omega
  (repeat' ((conv => whnf); first | apply And.intro | exact ⟨by kernel_rfl⟩ | apply DrawN.mk | apply CodeN.step hm rfl | exact trivial | exact rfl | (intro hh; try simp only [bs] at hh; try exact absurd hh (by decide)))); all_goals (conv => whnf)
  refine .mk ⟨_, _, rfl, ?_⟩
  rw [show (dueE es).length = es.length by simp [dueE], hM.len h1.nd]
  (repeat' ((conv => whnf); first | apply And.intro | exact ⟨by kernel_rfl⟩ | apply DrawN.mk | apply CodeN.step hm rfl | exact trivial | exact rfl | (intro hh; try simp only [bs] at hh; try exact absurd hh (by decide)))); all_goals (conv => whnf)
  (refine CallN.q (lenL t1 now L h1) [0, 1, 2, 3, 4, 5, 6, 7] (fun _ _ => ?_); (repeat' ((conv => whnf); first | apply And.intro | exact ⟨by kernel_rfl⟩ | apply DrawN.mk | apply CodeN.step hm rfl | exact trivial | exact rfl | (intro hh; try simp only [bs] at hh; try exact absurd hh (by decide)))); all_goals (conv => whnf); all_goals try exact ⟨by decide⟩)
  · exact absurd rfl hh
  refine LoopN.intro hm (X := Nat × Tm × Int × Ones × Es Int) (fun x => x.2.2.2.1.length + x.1 ≤ 60 ∧ TL x.2.1 x.2.2.1 x.2.2.2.1 ∧ MRel x.2.2.2.2 x.2.2.2.1 ∧ (x.2.2.1 = now ∨ ∀ e ∈ x.2.2.2.1, x.2.2.1 < e.2)) (fun x => 61 - x.1)
    (fun x => [(0, .int .i64 fun _ => now), (4, .ff), (5, .ptr 0 0), (7, .hm 8 fun _ => 0), (9, .int .i64 fun _ => (x.1 : Int))])
    (fun x => chO x.2.1 x.2.2.2.2 c) (0, t1, now, L, es) [0, 1, 2, 3, 4, 5, 6, 7, 8] ?_ ⟨by simp only []; omega, h1, hM, .inl rfl⟩ ?_
  · refine ⟨rfl, rfl, ?_, ?_⟩
    · (repeat' ((conv => whnf) <;> first | exact rfl | exact trivial | exact Fw.Hp.like_refl _ | apply And.intro | exact Nat.zero_add _))
    · (repeat' ((conv => whnf) <;> first | exact rfl | exact trivial | exact Fw.Hp.like_refl _ | apply And.intro | exact Nat.zero_add _))
  clear hLi hid h1 hM t1 L es i
  rintro ⟨i, t1, n1, L, es⟩ ⟨hlen, h1, hM, hset⟩
  simp only [] at hlen h1 hM hset
  (repeat' ((conv => whnf); first | apply And.intro | exact ⟨by kernel_rfl⟩ | apply DrawN.mk | apply CodeN.step hm rfl | exact trivial | exact rfl | (intro hh; try simp only [bs] at hh; try exact absurd hh (by decide)))); all_goals (conv => whnf)
  (refine CallN.q (nextL t1 n1 L h1) [0, 1, 2, 3, 4, 5, 6, 7] (fun _ _ => ?_); (repeat' ((conv => whnf); first | apply And.intro | exact ⟨by kernel_rfl⟩ | apply DrawN.mk | apply CodeN.step hm rfl | exact trivial | exact rfl | (intro hh; try simp only [bs] at hh; try exact absurd hh (by decide)))); all_goals (conv => whnf); all_goals try exact ⟨by decide⟩)
  rotate_right
  · exfalso; have h9 : ¬ (i : Int) < 61 := hh; omega
  · have h0 : L = [] := List.isEmpty_iff.1 hh
    subst h0
    refine .mk ⟨_, _, rfl, ?_⟩
    rw [show (dueE es).length = es.length by simp [dueE], hM.len h1.nd]
    (repeat' ((conv => whnf); first | apply And.intro | exact ⟨by kernel_rfl⟩ | apply DrawN.mk | apply CodeN.step hm rfl | exact trivial | exact rfl | (intro hh; try simp only [bs] at hh; try exact absurd hh (by decide)))); all_goals (conv => whnf)
    (refine CallN.q (lenL t1 n1 _ h1) [0, 1, 2, 3, 4, 5, 6, 7] (fun _ _ => ?_); (repeat' ((conv => whnf); first | apply And.intro | exact ⟨by kernel_rfl⟩ | apply DrawN.mk | apply CodeN.step hm rfl | exact trivial | exact rfl | (intro hh; try simp only [bs] at hh; try exact absurd hh (by decide)))); all_goals (conv => whnf); all_goals try exact ⟨by decide⟩)
    (refine CallN.q (liveM) [] (fun _ _ => ?_); (repeat' ((conv => whnf); first | apply And.intro | exact ⟨by kernel_rfl⟩ | apply DrawN.mk | apply CodeN.step hm rfl | exact trivial | exact rfl | (intro hh; try simp only [bs] at hh; try exact absurd hh (by decide)))); all_goals (conv => whnf); all_goals try exact ⟨by decide⟩)
    (refine RetN.q () [] ?_ ?_ ?_ <;> (repeat' ((conv => whnf) <;> first | exact rfl | exact trivial | exact Fw.Hp.like_refl _ | apply And.intro | exact Nat.zero_add _)); all_goals ((conv => whnf); try simp only []))
  obtain ⟨x, r, rfl⟩ : ∃ x r, L = x :: r := by
    cases L with
    | nil => cases hh
    | cons x r => exact ⟨x, r, rfl⟩
  have hx0 := h1.pos x (List.mem_cons_self ..)
  have hxm := h1.due x (List.mem_cons_self ..)
  have hn1 := h1.now0
  (refine CallN.q (nowL t1 n1 _ h1) [0, 1, 2, 3, 4, 5, 6, 7] (fun _ _ => ?_); (repeat' ((conv => whnf); first | apply And.intro | exact ⟨by kernel_rfl⟩ | apply DrawN.mk | apply CodeN.step hm rfl | exact trivial | exact rfl | (intro hh; try simp only [bs] at hh; try exact absurd hh (by decide)))); all_goals (conv => whnf); all_goals try exact ⟨by decide⟩)
  (refine CallN.q (nowL t1 n1 _ h1) [0, 1, 2, 3, 4, 5, 6, 7] (fun _ _ => ?_); (repeat' ((conv => whnf); first | apply And.intro | exact ⟨by kernel_rfl⟩ | apply DrawN.mk | apply CodeN.step hm rfl | exact trivial | exact rfl | (intro hh; try simp only [bs] at hh; try exact absurd hh (by decide)))); all_goals (conv => whnf); all_goals try exact ⟨by decide⟩)
  · have hlt : n1 < x.2 := hh
    have ew : IntKind.i64.wrap (x.2 - 1) = x.2 - 1 := by rw [Wh.wr (by omega)]
    have hc0 : cutK (x :: r) (IntKind.i64.wrap (x.2 - 1)) = 0 := by
      unfold cutK; rw [List.takeWhile_cons]; rw [if_neg]; rfl
      rw [ew]; simp only [decide_eq_true_eq]; omega
    have hadv := advL t1 n1 _ h1 (IntKind.i64.wrap (x.2 - 1)) (by omega) (by omega)
    rw [hc0] at hadv
    (refine CallN.q (hadv) [0, 1, 2, 3, 4, 5, 6, 7] ?_; rintro t2 h2; (repeat' ((conv => whnf); first | apply And.intro | exact ⟨by kernel_rfl⟩ | apply DrawN.mk | apply CodeN.step hm rfl | exact trivial | exact rfl | (intro hh; try simp only [bs] at hh; try exact absurd hh (by decide)))); all_goals (conv => whnf); all_goals try exact ⟨by decide⟩)
    · exact absurd rfl hh
    have h2 : TL t2 (IntKind.i64.wrap (x.2 - 1)) (x :: r) := h2
    have hT0 : (if n1 > x.2 then n1 else x.2) = now ∨ ∀ e ∈ x :: r, (if n1 > x.2 then n1 else x.2) ≤ e.2 := by
      by_cases hc : n1 > x.2
      · rw [if_pos hc]
        rcases hset with h5 | h5
        · exact .inl h5
        · have := h5 x (List.mem_cons_self ..); omega
      · rw [if_neg hc]
        right
        intro e he
        rcases List.mem_cons.1 he with h5 | h5
        · rw [h5]; exact Int.le_refl _
        · have := (List.pairwise_cons.1 h1.ord).1 e h5
          unfold ltK at this; omega
    have hTx : x.2 ≤ (if n1 > x.2 then n1 else x.2) := by split <;> omega
    have hK1 : 1 ≤ cutK (x :: r) (if n1 > x.2 then n1 else x.2) := by unfold cutK; rw [List.takeWhile_cons]; simp [hTx]
    have hcut := cut_at (x :: r) (if n1 > x.2 then n1 else x.2)
    have hset2 : ∀ e ∈ (x :: r).drop (cutK (x :: r) (if n1 > x.2 then n1 else x.2)), (if n1 > x.2 then n1 else x.2) < e.2 := h1.cut _
    have hLl := h1.len
    have hnd := h1.nd
    have hKL := hcut.le
    have hRl : (((x :: r).take (cutK (x :: r) (if n1 > x.2 then n1 else x.2))).map (·.1)).length = cutK (x :: r) (if n1 > x.2 then n1 else x.2) := by simp only [List.length_map, List.length_take]; omega
    (refine CallN.q (advL t2 (IntKind.i64.wrap (x.2 - 1)) _ h2 (if n1 > x.2 then n1 else x.2) (by split <;> omega) (by split <;> omega)) [0, 1, 2, 3, 4, 5, 6, 7] ?_; rintro t3 h3; (repeat' ((conv => whnf); first | apply And.intro | exact ⟨by kernel_rfl⟩ | apply DrawN.mk | apply CodeN.step hm rfl | exact trivial | exact rfl | (intro hh; try simp only [bs] at hh; try exact absurd hh (by decide)))); all_goals (conv => whnf); all_goals try exact ⟨by decide⟩)
    · exfalso; have h9 : ((((x :: r).take (cutK (x :: r) (if n1 > x.2 then n1 else x.2))).map (·.1)).length : Int) = 0 := hh; omega
    refine LoopN.intro hm (X := Nat × Es Int) (fun y => y.1 ≤ cutK (x :: r) (if n1 > x.2 then n1 else x.2) ∧ MRel y.2 ((x :: r).drop y.1)) (fun y => cutK (x :: r) (if n1 > x.2 then n1 else x.2) - y.1)
      (fun y => [(0, .int .i64 fun _ => now), (4, .ff), (5, .ptr 0 0), (7, .hm 8 fun _ => 0), (9, .int .i64 fun _ => (i : Int)), (12, .int .i64 fun _ => if n1 > x.2 then n1 else x.2), (13, .lst (.int .i64) fun _ => ((x :: r).take (cutK (x :: r) (if n1 > x.2 then n1 else x.2))).map (·.1)), (14, .int .i64 fun _ => (y.1 : Int))])
      (fun y => chO t3 y.2 c) (0, es) [0, 1, 2, 3, 4, 5, 6, 7, 8] ?_ ⟨Nat.zero_le _, hM⟩ ?_
    · refine ⟨rfl, rfl, ?_, ?_⟩
      · (repeat' ((conv => whnf) <;> first | exact rfl | exact trivial | exact Fw.Hp.like_refl _ | apply And.intro | exact Nat.zero_add _))
      · (repeat' ((conv => whnf) <;> first | exact rfl | exact trivial | exact Fw.Hp.like_refl _ | apply And.intro | exact Nat.zero_add _))
    rintro ⟨k, es2⟩ ⟨hk, hM2⟩
    simp only [] at hk hM2
    generalize hTO : (if n1 > x.2 then n1 else x.2) = TO at *
    generalize hLd : x :: r = L at *
    generalize hK : cutK L TO = K at *
    by_cases hkK : k < K
    rotate_left
    · obtain rfl : k = K := by omega
      (repeat' ((conv => whnf); first | apply And.intro | exact ⟨by kernel_rfl⟩ | apply DrawN.mk | apply CodeN.step hm rfl | exact trivial | exact rfl | (intro hh; try simp only [bs] at hh; try exact absurd hh (by decide)))); all_goals (conv => whnf)
      · exfalso; have h9 : (k : Int) < ((L.take k).map (·.1)).length := hh; omega
      · exfalso; have h9 : (k : Int) < ((L.take k).map (·.1)).length := hh; omega
      refine ⟨(i + 1, t3, TO, L.drop k, es2), [0, 1, 2, 3, 4, 5, 6, 7, 8], ⟨rfl, rfl, ?_, ?_⟩, ⟨by simp only [List.length_drop]; omega, h3, hM2, .inr hset2⟩, by simp only []; omega⟩
      · (repeat' ((conv => whnf) <;> first | exact rfl | exact trivial | exact Fw.Hp.like_refl _ | apply And.intro | exact Nat.zero_add _))
      · (repeat' ((conv => whnf) <;> first | exact rfl | exact trivial | exact Fw.Hp.like_refl _ | apply And.intro | exact Nat.zero_add _)); all_goals ((conv => whnf); try simp only [])
        show IntKind.i64.wrap ((i : Int) + 1) = _
        rw [Wh.wr (by omega)]; omega
    have hg : L[k]? = some (L.getD k (0, 0)) := by rw [List.getD_eq_getElem?_getD, List.getElem?_eq_getElem (by omega)]; rfl
    have hR : ((L.take K).map (·.1)).getD k 0 = (L.getD k (0, 0)).1 := by
      rw [List.getD_eq_getElem?_getD, List.getElem?_map, List.getElem?_take, if_pos hkK, hg]; rfl
    have hgk : getH es2 (L.getD k (0, 0)).1 = some (L.getD k (0, 0)).2 := (hM2.mem _ _).2 (by
      rw [List.mem_iff_getElem?]
      exact ⟨0, by rw [List.getElem?_drop]; exact hg⟩)
    have hdv : dueOf es2 (((L.take K).map (·.1)).getD k 0) = (L.getD k (0, 0)).2 := by rw [hR]; unfold dueOf; rw [hgk]; rfl
    have hnow : (L.getD k (0, 0)).2 ≤ TO := hcut.now _ (by rw [List.mem_take_iff_getElem]; exact ⟨k, by omega, (List.getElem?_eq_some_iff.1 hg).2⟩)
    have hxm : L.getD k (0, 0) ∈ L := List.mem_of_getElem? hg
    have hdel := hM2.del hnd hg
    (repeat' ((conv => whnf); first | apply And.intro | exact ⟨by kernel_rfl⟩ | apply DrawN.mk | apply CodeN.step hm rfl | exact trivial | exact rfl | (intro hh; try simp only [bs] at hh; try exact absurd hh (by decide)))); all_goals (conv => whnf)
    · exact ⟨⟨by simp, hh⟩⟩
    rotate_left
    · exfalso; have h9 : ¬ (k : Int) < ((L.take K).map (·.1)).length := hh; omega
    refine lkDue rfl rfl ?_
    (repeat' ((conv => whnf); first | apply And.intro | exact ⟨by kernel_rfl⟩ | apply DrawN.mk | apply CodeN.step hm rfl | exact trivial | exact rfl | (intro hh; try simp only [bs] at hh; try exact absurd hh (by decide)))); all_goals (conv => whnf)
    · exact ⟨⟨by simp, by assumption⟩⟩
    rotate_left
    · exfalso
      have h9 : TO < dueOf es2 (((L.take K).map (·.1)).getD k 0) := hh
      rw [hdv] at h9; omega
    refine lkDue rfl rfl ?_
    (repeat' ((conv => whnf); first | apply And.intro | exact ⟨by kernel_rfl⟩ | apply DrawN.mk | apply CodeN.step hm rfl | exact trivial | exact rfl | (intro hh; try simp only [bs] at hh; try exact absurd hh (by decide)))); all_goals (conv => whnf)
    · exfalso
      rcases hT0 with h8 | h8
      · exact hh h8
      · have h9 : dueOf es2 (((L.take K).map (·.1)).getD k 0) < TO := by assumption
        rw [hdv] at h9
        have := h8 _ hxm
        omega
    all_goals first | exact ⟨⟨by simp, by assumption⟩⟩ | skip
    all_goals (refine deDue rfl rfl ?_)
    all_goals (repeat' ((conv => whnf); first | apply And.intro | exact ⟨by kernel_rfl⟩ | apply DrawN.mk | apply CodeN.step hm rfl | exact trivial | exact rfl | (intro hh; try simp only [bs] at hh; try exact absurd hh (by decide)))); all_goals (conv => whnf)
    all_goals (refine ⟨(k + 1, delH es2 (((L.take K).map (·.1)).getD k 0)), [0, 1, 2, 3, 4, 5, 6, 7, 8], ⟨rfl, rfl, ?_, ?_⟩, ⟨by omega, by rw [hR]; exact hdel⟩, by simp only []; omega⟩)
    all_goals (repeat' ((conv => whnf) <;> first | exact rfl | exact trivial | exact Fw.Hp.like_refl _ | apply And.intro | exact Nat.zero_add _)); all_goals ((conv => whnf); try simp only [])
    all_goals (show IntKind.i64.wrap ((k : Int) + 1) = _; rw [Wh.wr (by omega)]; omega)
  · have hle : x.2 ≤ n1 := by have h9 : ¬ n1 < x.2 := hh; omega
    have hT0 : (if n1 > x.2 then n1 else x.2) = now ∨ ∀ e ∈ x :: r, (if n1 > x.2 then n1 else x.2) ≤ e.2 := by
      by_cases hc : n1 > x.2
      · rw [if_pos hc]
        rcases hset with h5 | h5
        · exact .inl h5
        · have := h5 x (List.mem_cons_self ..); omega
      · rw [if_neg hc]
        right
        intro e he
        rcases List.mem_cons.1 he with h5 | h5
        · rw [h5]; exact Int.le_refl _
        · have := (List.pairwise_cons.1 h1.ord).1 e h5
          unfold ltK at this; omega
    have hTx : x.2 ≤ (if n1 > x.2 then n1 else x.2) := by split <;> omega
    have hK1 : 1 ≤ cutK (x :: r) (if n1 > x.2 then n1 else x.2) := by unfold cutK; rw [List.takeWhile_cons]; simp [hTx]
    have hcut := cut_at (x :: r) (if n1 > x.2 then n1 else x.2)
    have hset2 : ∀ e ∈ (x :: r).drop (cutK (x :: r) (if n1 > x.2 then n1 else x.2)), (if n1 > x.2 then n1 else x.2) < e.2 := h1.cut _
    have hLl := h1.len
    have hnd := h1.nd
    have hKL := hcut.le
    have hRl : (((x :: r).take (cutK (x :: r) (if n1 > x.2 then n1 else x.2))).map (·.1)).length = cutK (x :: r) (if n1 > x.2 then n1 else x.2) := by simp only [List.length_map, List.length_take]; omega
    (refine CallN.q (advL t1 n1 _ h1 (if n1 > x.2 then n1 else x.2) (by split <;> omega) (by split <;> omega)) [0, 1, 2, 3, 4, 5, 6, 7] ?_; rintro t3 h3; (repeat' ((conv => whnf); first | apply And.intro | exact ⟨by kernel_rfl⟩ | apply DrawN.mk | apply CodeN.step hm rfl | exact trivial | exact rfl | (intro hh; try simp only [bs] at hh; try exact absurd hh (by decide)))); all_goals (conv => whnf); all_goals try exact ⟨by decide⟩)
    · exfalso; have h9 : ((((x :: r).take (cutK (x :: r) (if n1 > x.2 then n1 else x.2))).map (·.1)).length : Int) = 0 := hh; omega
    refine LoopN.intro hm (X := Nat × Es Int) (fun y => y.1 ≤ cutK (x :: r) (if n1 > x.2 then n1 else x.2) ∧ MRel y.2 ((x :: r).drop y.1)) (fun y => cutK (x :: r) (if n1 > x.2 then n1 else x.2) - y.1)
      (fun y => [(0, .int .i64 fun _ => now), (4, .ff), (5, .ptr 0 0), (7, .hm 8 fun _ => 0), (9, .int .i64 fun _ => (i : Int)), (12, .int .i64 fun _ => if n1 > x.2 then n1 else x.2), (13, .lst (.int .i64) fun _ => ((x :: r).take (cutK (x :: r) (if n1 > x.2 then n1 else x.2))).map (·.1)), (14, .int .i64 fun _ => (y.1 : Int))])
      (fun y => chO t3 y.2 c) (0, es) [0, 1, 2, 3, 4, 5, 6, 7, 8] ?_ ⟨Nat.zero_le _, hM⟩ ?_
    · refine ⟨rfl, rfl, ?_, ?_⟩
      · (repeat' ((conv => whnf) <;> first | exact rfl | exact trivial | exact Fw.Hp.like_refl _ | apply And.intro | exact Nat.zero_add _))
      · (repeat' ((conv => whnf) <;> first | exact rfl | exact trivial | exact Fw.Hp.like_refl _ | apply And.intro | exact Nat.zero_add _))
    rintro ⟨k, es2⟩ ⟨hk, hM2⟩
    simp only [] at hk hM2
    generalize hTO : (if n1 > x.2 then n1 else x.2) = TO at *
    generalize hLd : x :: r = L at *
    generalize hK : cutK L TO = K at *
    by_cases hkK : k < K
    rotate_left
    · obtain rfl : k = K := by omega
      (repeat' ((conv => whnf); first | apply And.intro | exact ⟨by kernel_rfl⟩ | apply DrawN.mk | apply CodeN.step hm rfl | exact trivial | exact rfl | (intro hh; try simp only [bs] at hh; try exact absurd hh (by decide)))); all_goals (conv => whnf)
      · exfalso; have h9 : (k : Int) < ((L.take k).map (·.1)).length := hh; omega
      · exfalso; have h9 : (k : Int) < ((L.take k).map (·.1)).length := hh; omega
      refine ⟨(i + 1, t3, TO, L.drop k, es2), [0, 1, 2, 3, 4, 5, 6, 7, 8], ⟨rfl, rfl, ?_, ?_⟩, ⟨by simp only [List.length_drop]; omega, h3, hM2, .inr hset2⟩, by simp only []; omega⟩
      · (repeat' ((conv => whnf) <;> first | exact rfl | exact trivial | exact Fw.Hp.like_refl _ | apply And.intro | exact Nat.zero_add _))
      · (repeat' ((conv => whnf) <;> first | exact rfl | exact trivial | exact Fw.Hp.like_refl _ | apply And.intro | exact Nat.zero_add _)); all_goals ((conv => whnf); try simp only [])
        show IntKind.i64.wrap ((i : Int) + 1) = _
        rw [Wh.wr (by omega)]; omega
    have hg : L[k]? = some (L.getD k (0, 0)) := by rw [List.getD_eq_getElem?_getD, List.getElem?_eq_getElem (by omega)]; rfl
    have hR : ((L.take K).map (·.1)).getD k 0 = (L.getD k (0, 0)).1 := by
      rw [List.getD_eq_getElem?_getD, List.getElem?_map, List.getElem?_take, if_pos hkK, hg]; rfl
    have hgk : getH es2 (L.getD k (0, 0)).1 = some (L.getD k (0, 0)).2 := (hM2.mem _ _).2 (by
      rw [List.mem_iff_getElem?]
      exact ⟨0, by rw [List.getElem?_drop]; exact hg⟩)
    have hdv : dueOf es2 (((L.take K).map (·.1)).getD k 0) = (L.getD k (0, 0)).2 := by rw [hR]; unfold dueOf; rw [hgk]; rfl
    have hnow : (L.getD k (0, 0)).2 ≤ TO := hcut.now _ (by rw [List.mem_take_iff_getElem]; exact ⟨k, by omega, (List.getElem?_eq_some_iff.1 hg).2⟩)
    have hxm : L.getD k (0, 0) ∈ L := List.mem_of_getElem? hg
    have hdel := hM2.del hnd hg
    (repeat' ((conv => whnf); first | apply And.intro | exact ⟨by kernel_rfl⟩ | apply DrawN.mk | apply CodeN.step hm rfl | exact trivial | exact rfl | (intro hh; try simp only [bs] at hh; try exact absurd hh (by decide)))); all_goals (conv => whnf)
    · exact ⟨⟨by simp, hh⟩⟩
    rotate_left
    · exfalso; have h9 : ¬ (k : Int) < ((L.take K).map (·.1)).length := hh; omega
    refine lkDue rfl rfl ?_
    (repeat' ((conv => whnf); first | apply And.intro | exact ⟨by kernel_rfl⟩ | apply DrawN.mk | apply CodeN.step hm rfl | exact trivial | exact rfl | (intro hh; try simp only [bs] at hh; try exact absurd hh (by decide)))); all_goals (conv => whnf)
    · exact ⟨⟨by simp, by assumption⟩⟩
    rotate_left
    · exfalso
      have h9 : TO < dueOf es2 (((L.take K).map (·.1)).getD k 0) := hh
      rw [hdv] at h9; omega
    refine lkDue rfl rfl ?_
    (repeat' ((conv => whnf); first | apply And.intro | exact ⟨by kernel_rfl⟩ | apply DrawN.mk | apply CodeN.step hm rfl | exact trivial | exact rfl | (intro hh; try simp only [bs] at hh; try exact absurd hh (by decide)))); all_goals (conv => whnf)
    · exfalso
      rcases hT0 with h8 | h8
      · exact hh h8
      · have h9 : dueOf es2 (((L.take K).map (·.1)).getD k 0) < TO := by assumption
        rw [hdv] at h9
        have := h8 _ hxm
        omega
    all_goals first | exact ⟨⟨by simp, by assumption⟩⟩ | skip
    all_goals (refine deDue rfl rfl ?_)
    all_goals (repeat' ((conv => whnf); first | apply And.intro | exact ⟨by kernel_rfl⟩ | apply DrawN.mk | apply CodeN.step hm rfl | exact trivial | exact rfl | (intro hh; try simp only [bs] at hh; try exact absurd hh (by decide)))); all_goals (conv => whnf)
    all_goals (refine ⟨(k + 1, delH es2 (((L.take K).map (·.1)).getD k 0)), [0, 1, 2, 3, 4, 5, 6, 7, 8], ⟨rfl, rfl, ?_, ?_⟩, ⟨by omega, by rw [hR]; exact hdel⟩, by simp only []; omega⟩)
    all_goals (repeat' ((conv => whnf) <;> first | exact rfl | exact trivial | exact Fw.Hp.like_refl _ | apply And.intro | exact Nat.zero_add _)); all_goals ((conv => whnf); try simp only [])
    all_goals (show IntKind.i64.wrap ((k : Int) + 1) = _; rw [Wh.wr (by omega)]; omega)
end Go.Proofs.Ytafcenlbllmahaa.Ti
set_option linter.unusedVariables false
set_option linter.unusedSimpArgs false
namespace Go.Proofs.Ytafcenlbllmahaa.Fw
open Go Go.RowKit Go.ChangeShapes

/-- All that is there rests. -/
def gW (W : World) : Gh := { n := 0, Φ := fun b => W.heap[b]?, B := fun _ => 0, V := fun _ => none, L := fun _ => 0, k := 0, W := fun _ _ => 0, M := fun _ => 0 }
theorem sim_gW (W : World) : Sim (gW W) [] W := by
  refine ⟨rfl, fun b o h => h, fun i => trivial, fun i j b hi => ?_, fun i b hi => ?_⟩
  · simp [getE, Chunk.own] at hi
  · simp [getE, Chunk.own] at hi

/-- Numbers of their kinds, lengths that a machine bears. -/
def wfD : (t : Ty) → t.den → Prop
  | .int k, n => k.min ≤ n ∧ n ≤ k.max
  | .bool, _ => True
  | .str, s => List.length s ≤ maxLen
  | .list e, xs => List.length xs ≤ maxLen ∧ ∀ x, x ∈ (xs : List e.den) → wfD e x
  | .pair a b, x => wfD a x.1 ∧ wfD b x.2

theorem cells_at {w : World} {base : Nat} {a : Addr} {n : Nat} {cs : List Value} (h : w.cells? base a n = some cs) : cs.length = n ∧ ∀ (j : Nat) (u : Value), cs[j]? = some u → w.cell? (a.add j) = some u := by
  unfold World.cells? at h
  split at h
  · rename_i hb
    have key : ∀ (l : List Nat) (cs : List Value), l.mapM (fun i => w.cell? (a.add i)) = some cs → cs.length = l.length ∧ ∀ (j : Nat) (u : Value) (i : Nat), cs[j]? = some u → l[j]? = some i → w.cell? (a.add i) = some u := by
      intro l
      induction l with
      | nil => intro cs h; simp at h; subst h; simp
      | cons i l ih =>
        intro cs h
        simp only [List.mapM_cons, Option.bind_eq_bind, Option.bind_eq_some_iff, Option.pure_def, Option.some.injEq] at h
        obtain ⟨u, h1, r, h2, rfl⟩ := h
        obtain ⟨h3, h4⟩ := ih r h2
        refine ⟨by simp [h3], fun j v i' hj hi => ?_⟩
        cases j with
        | zero => simp at hj hi; subst hj hi; exact h1
        | succ j => exact h4 j v i' (by simpa using hj) (by simpa using hi)
    obtain ⟨h1, h2⟩ := key _ _ h
    refine ⟨by simpa using h1, fun j u hj => h2 j u j hj ?_⟩
    have := (List.getElem?_eq_some_iff.1 hj).1
    rw [List.getElem?_range (by rw [h1] at this; simpa using this)]
  · cases h
theorem cell_at_gW {W : World} {a : Addr} {u : Value} (h : W.cell? a = some u) : ∃ cells T fr, a.spot = none ∧ (gW W).Φ a.block = some (.cells cells T fr) ∧ cells[a.off]? = some u := by
  unfold World.cell? at h
  split at h
  · rename_i c T fr hc
    split at h
    · cases h
    · rename_i hs
      exact ⟨c, T, fr, by simpa using hs, hc, h⟩
  · cases h
theorem list_of {α : Type} {p : Nat → α → Prop} : ∀ n : Nat, (∀ i, i < n → ∃ x, p i x) → ∃ xs : List α, xs.length = n ∧ ∀ (i : Nat) (x : α), xs[i]? = some x → p i x
  | 0, _ => ⟨[], rfl, by simp⟩
  | n + 1, h => by
    obtain ⟨xs, h1, h2⟩ := list_of n (fun i hi => h i (by omega))
    obtain ⟨x, hx⟩ := h n (by omega)
    refine ⟨xs ++ [x], by simp [h1], fun i y hy => ?_⟩
    rw [List.getElem?_append] at hy
    split at hy
    · exact h2 i y hy
    · rename_i hi
      have : i - xs.length = 0 := by
        have := (List.getElem?_eq_some_iff.1 hy).1
        simp at this; omega
      rw [this] at hy
      simp at hy
      subst hy
      have : i = n := by omega
      subst this; exact hx

section
variable {H : Type} {enc' : TypeId × Value → H} {P : Program} {W : World} {base : Nat} {sp : Nat → Bool} {held : Bool}

/-- What reads, reads as data. -/
theorem trod_data (K : Kids P (· < P.types.size)) : ∀ (d : Nat) (t : Nat) (ty : Ty), t < P.types.size → tyOf P d t = some ty → ∀ (fuel : Nat) (cs : List Value) (x : DataW H × List MemPlace), DataW.trod enc' P W base sp held fuel t cs = some x →
    ∃ a : ty.den, RL (gW W) (enc ty (fun _ => a) []) cs ∧ wfD ty a
  | 0, _, _, _, h => by simp [tyOf] at h
  | d + 1, t, ty, hlt, h => by
    intro fuel cs x hx
    simp only [tyOf] at h
    split at h
    · rename_i k ht
      cases h
      obtain ⟨n, rfl, _, hw⟩ := DataW.trod_int (tund_und ht) hx
      simp only [Lit.wf, Bool.and_eq_true, decide_eq_true_eq] at hw
      exact ⟨n, ⟨.int k (fun _ => n), trivial⟩, hw⟩
    · rename_i ht
      cases h
      obtain ⟨b, rfl, _⟩ := DataW.trod_bool (tund_und ht) hx
      exact ⟨b, ⟨.bool (fun _ => b), trivial⟩, trivial⟩
    · rename_i ht
      cases h
      obtain ⟨s, rfl, _, hs⟩ := DataW.trod_string (tund_und ht) hx
      refine ⟨s.data.toList, ⟨?_, trivial⟩, ?_⟩
      · have := R.str (g := gW W) (fun _ => s.data.toList)
        simpa using this
      · show s.data.toList.length ≤ maxLen
        rw [Array.length_toList]; exact hs
    · rename_i e ht
      split at h <;> try cases h
      rename_i y hy
      have hye : y = y := rfl
      have hte := K.slice hlt (tund_und ht)
      rcases DataW.trod_slice (tund_und ht) hx with ⟨rfl, _⟩ | ⟨a, len, cap, elems, rest, n, _, rfl, _, _, hlc, hcm, hlen, hel, _⟩
      · refine ⟨([] : List y.den), ⟨?_, trivial⟩, ?_⟩
        · exact R.lst y (fun _ => []) none 0 (fun _ _ => .nilIface) (Nat.le_refl _) (by simp) (fun i x j z hx => by simp at hx) (fun i x j z hx => by simp at hx)
        · refine ⟨?_, fun x hx => ?_⟩
          · show ([] : List y.den).length ≤ maxLen
            simp
          · cases hx
      · have hl63 : maxLen = 9223372036854775807 := by decide
        have each : ∀ i, i < len → ∃ p : y.den × List Value, W.cells? base (a.add (i * P.cellsOf e)) (P.cellsOf e) = some p.2 ∧ RL (gW W) (enc y (fun _ => p.1) []) p.2 ∧ wfD y p.1 := by
          intro i hi
          have h1 := hel i hi
          rw [List.getElem?_eq_getElem (by omega)] at h1
          obtain ⟨cs', h2, h3⟩ := Option.bind_eq_some_iff.1 h1
          obtain ⟨b, h4, h5⟩ := trod_data K d e y hte hy n cs' _ h3
          exact ⟨(b, cs'), h2, h4, h5⟩
        obtain ⟨ps, hps, hp⟩ := list_of len each
        have hsz : ∀ (i : Nat) (p : y.den × List Value), ps[i]? = some p → P.cellsOf e = y.size := by
          intro i p hi
          obtain ⟨h1, h2, _⟩ := hp i p hi
          have := h2.length
          rw [enc_length, (cells_at h1).1] at this
          exact this.symm
        refine ⟨ps.map (·.1), ⟨?_, trivial⟩, ?_, ?_⟩
        · have hlm : (ps.map (·.1)).length = len := by simp [hps]
          have := R.lst (g := gW W) y (fun _ => ps.map (·.1)) (some a) cap (fun i j => ((ps[i]?.map (·.2)).getD [])[j]?.getD .nilIface) (by simp only [hlm]; exact hlc) (by simp only [hlm]; omega) ?_ ?_
          · simp only [hlm] at this; exact this
          · intro i x j z hx hz
            simp only [List.getElem?_map] at hx
            cases hq : ps[i]? with
            | none => rw [hq] at hx; cases hx
            | some p =>
              rw [hq] at hx
              simp only [Option.map_some, Option.some.injEq] at hx
              subst hx
              obtain ⟨h1, h2, _⟩ := hp i p hq
              obtain ⟨u, hu, _⟩ := h2.get hz
              have hc := (cells_at h1).2 j u hu
              obtain ⟨cells, T, fr, hs, hΦ, hcell⟩ := cell_at_gW hc
              have hsp : a.spot = none ∨ (i * P.cellsOf e = 0 ∧ j = 0) := by
                by_cases h0 : i * P.cellsOf e = 0 ∧ j = 0
                · exact .inr h0
                · left
                  by_cases h00 : i * P.cellsOf e + j = 0
                  · exact (h0 ⟨by omega, by omega⟩).elim
                  · -- the cells of the first one have the same spot
                    have h0i : 0 < len := by have := (List.getElem?_eq_some_iff.1 hq).1; omega
                    obtain ⟨p0, hp0⟩ : ∃ p0, ps[0]? = some p0 := ⟨ps[0]'(by omega), List.getElem?_eq_getElem (by omega)⟩
                    obtain ⟨g1, g2, _⟩ := hp 0 p0 hp0
                    have hy0 : (enc y (fun _ => p0.1) [])[0]? ≠ none := by
                      have := enc_length y (fun _ => p0.1)
                      have h0 := Ty.size_pos y
                      intro hn
                      rw [List.getElem?_eq_none_iff] at hn
                      omega
                    cases hz0 : (enc y (fun _ => p0.1) [])[0]? with
                    | none => exact (hy0 hz0).elim
                    | some z0 =>
                      obtain ⟨u0, hu0, _⟩ := g2.get hz0
                      have hc0 := (cells_at g1).2 0 u0 hu0
                      obtain ⟨_, _, _, hs0, _⟩ := cell_at_gW hc0
                      simpa [Addr.add] using hs0
              have hsp' : a.spot = none := by
                rcases hsp with h | ⟨h0, hj0⟩
                · exact h
                · subst hj0
                  rw [h0] at hs
                  simpa [Addr.add] using hs
              have e1 : (a.add (i * P.cellsOf e)).add j = ⟨a.block, a.off + (i * P.cellsOf e + j), none⟩ := by
                rw [add_none hsp', add_none rfl]; simp [Nat.add_assoc]
              rw [e1] at hΦ hcell
              refine ⟨a.block, a.off, cells, T, fr, by cases a; simp at hsp' ⊢; exact hsp', hΦ, ?_⟩
              rw [hsz i p hq] at hcell
              simp only [Option.map_some, Option.getD_some, hu]
              exact hcell
          · intro i x j z hx hz
            simp only [List.getElem?_map] at hx
            cases hq : ps[i]? with
            | none => rw [hq] at hx; cases hx
            | some p =>
              rw [hq] at hx
              simp only [Option.map_some, Option.some.injEq] at hx
              subst hx
              obtain ⟨h1, h2, _⟩ := hp i p hq
              obtain ⟨u, hu, hr⟩ := h2.get hz
              simp only [hq, Option.map_some, Option.getD_some, hu]
              exact hr
        · show (ps.map (·.1)).length ≤ maxLen
          rw [List.length_map]; omega
        · intro x hx
          obtain ⟨p, hp1, rfl⟩ := List.mem_map.1 hx
          obtain ⟨i, hi⟩ := List.mem_iff_getElem?.1 hp1
          exact (hp i p hi).2.2
    · rename_i fs ht
      obtain ⟨xs, n, _, _, hcl, hxl, hf⟩ := DataW.trod_struct (tund_und ht) hx
      obtain ⟨hft, hsum, hoff⟩ := K.struct hlt (tund_und ht)
      have go : ∀ (l : List Field) (k : Nat) (ty : Ty), tyFs (tyOf P d) l = some ty → (∀ f ∈ l, f.type < P.types.size) → (∀ (j : Nat) f, l[j]? = some f → f.offset = k + ((l.take j).map fun f => P.cellsOf f.type).sum) →
          (∀ f ∈ l, ∃ z, DataW.trod enc' P W base sp held n f.type ((cs.drop f.offset).take (P.cellsOf f.type)) = some z) → (cs.drop k).length = (l.map fun f => P.cellsOf f.type).sum →
          ∃ a : ty.den, RL (gW W) (enc ty (fun _ => a) []) (cs.drop k) ∧ wfD ty a := by
        intro l
        induction l with
        | nil => intro k ty h; simp [tyFs] at h
        | cons f r ih =>
          intro k ty h ht ho hz hl
          obtain ⟨z, hz0⟩ := hz f (List.mem_cons_self ..)
          have ho0 : f.offset = k := by simpa using ho 0 f rfl
          rw [ho0] at hz0
          have htf := ht f (List.mem_cons_self ..)
          cases r with
          | nil =>
            simp only [tyFs] at h
            obtain ⟨a, h1, h2⟩ := trod_data K d f.type ty htf h n _ _ hz0
            refine ⟨a, ?_, h2⟩
            simp only [List.map_cons, List.map_nil, List.sum_cons, List.sum_nil, Nat.add_zero] at hl
            rwa [List.take_of_length_le (by omega)] at h1
          | cons f2 r2 =>
            simp only [tyFs] at h
            split at h <;> try cases h
            rename_i ta tb hta htb
            obtain ⟨a, h1, h2⟩ := trod_data K d f.type ta htf hta n _ _ hz0
            obtain ⟨b, h3, h4⟩ := ih (k + P.cellsOf f.type) tb htb (fun q hq => ht q (List.mem_cons_of_mem _ hq)) (fun j q hq => by
              have := ho (j + 1) q (by simpa using hq)
              simp only [List.take_succ_cons, List.map_cons, List.sum_cons] at this
              omega) (fun q hq => hz q (List.mem_cons_of_mem _ hq)) (by
              simp only [List.map_cons, List.sum_cons, List.length_drop] at hl ⊢
              omega)
            refine ⟨(a, b), ?_, h2, h4⟩
            simp only [enc]
            rw [enc_append ta]
            have := h1.append h3
            rw [← List.drop_drop] at this
            rwa [List.take_append_drop] at this
      have := go fs.toList 0 ty h hft (fun j f hj => by simpa using hoff j f hj) (fun f hfm => by
        obtain ⟨i, hi⟩ := List.mem_iff_getElem?.1 hfm
        have hi' : fs[i]? = some f := by simpa using hi
        have h1 := hf i f hi'
        have hil := (List.getElem?_eq_some_iff.1 hi).1
        rw [List.getElem?_eq_getElem (by simp at hil; omega)] at h1
        exact ⟨_, h1⟩) (by simpa [hcl] using hsum)
      simpa using this
    · rename_i n e ht
      split at h <;> try cases h
      rename_i y hy
      obtain ⟨xs, m, _, _, hcl, hxl, hf⟩ := DataW.trod_array (tund_und ht) hx
      obtain ⟨hte, hsz⟩ := K.array hlt (tund_und ht)
      rw [hsz] at hcl
      have go : ∀ (n k : Nat) (ty : Ty), tyRep n y = some ty → (∀ i, i < n → ∃ z, DataW.trod enc' P W base sp held m e ((cs.drop ((k + i) * P.cellsOf e)).take (P.cellsOf e)) = some z) → (cs.drop (k * P.cellsOf e)).length = n * P.cellsOf e →
          ∃ a : ty.den, RL (gW W) (enc ty (fun _ => a) []) (cs.drop (k * P.cellsOf e)) ∧ wfD ty a := by
        intro n
        induction n with
        | zero => intro k ty h; simp [tyRep] at h
        | succ n ih =>
          intro k ty h hz hl
          obtain ⟨z, hz0⟩ := hz 0 (by omega)
          rw [Nat.add_zero] at hz0
          obtain ⟨a, h1, h2⟩ := trod_data K d e y hte hy m _ _ hz0
          cases n with
          | zero =>
            simp only [tyRep, Option.some.injEq] at h
            subst h
            rw [List.take_of_length_le (by omega)] at h1
            exact ⟨a, h1, h2⟩
          | succ n =>
            simp only [tyRep] at h
            split at h <;> try cases h
            rename_i tz htz
            obtain ⟨b, h3, h4⟩ := ih (k + 1) tz htz (fun i hi => by have := hz (i + 1) (by omega); rwa [show k + 1 + i = k + (i + 1) by omega]) (by
              rw [List.length_drop] at hl ⊢
              rw [Nat.add_mul, Nat.one_mul] at hl ⊢
              omega)
            refine ⟨(a, b), ?_, h2, h4⟩
            simp only [enc]
            rw [enc_append y]
            have := h1.append h3
            rw [Nat.add_mul, Nat.one_mul, ← List.drop_drop] at this
            rwa [List.take_append_drop] at this
      have := go n 0 ty h (fun i hi => by
        have h1 := hf i hi
        rw [List.getElem?_eq_getElem (by omega)] at h1
        exact ⟨_, by rw [Nat.zero_add]; exact h1⟩) (by simpa using hcl)
      simpa using this
    · cases h
end
end Go.Proofs.Ytafcenlbllmahaa.Fw
set_option linter.unusedVariables false
set_option linter.unusedSimpArgs false
namespace Go.Proofs.Ytafcenlbllmahaa.Fw
open Go Go.RowKit Go.ChangeShapes Go.WideShapes

theorem wf_i64 {n : Int} (h : wfD (.int .i64) n) : -9223372036854775808 ≤ n ∧ n ≤ 9223372036854775807 := h
theorem wf_u64 {n : Int} (h : wfD (.int .u64) n) : 0 ≤ n ∧ n ≤ 18446744073709551615 := h
def leafB : TypeDesc → Bool
  | .int _ => true | .bool => true | .string => true | .slice _ => true | _ => false
section
variable {H : Type} {enc' : TypeId × Value → H} {P : Program} {W : World} {base : Nat} {sp : Nat → Bool} {held : Bool}

theorem arg_leaf (K : Kids P (· < P.types.size)) {b0 : Nat} {t : Nat} {ty : Ty} {d : TypeDesc} (hd : tund P t = some d) (hb : leafB d = true) (hlt : t < P.types.size) (hty : tyOf P 6 t = some ty) {v : Value} {x : DataW H} {ps : List MemPlace}
    (hval : Value.okWide P W .any b0 t v) (h : DataW.Trod enc' P W base sp held t v x ps) : ∃ a : ty.den, RL (gW W) (enc ty (fun _ => a) []) [v] ∧ wfD ty a := by
  obtain ⟨fuel, hf⟩ := h
  obtain ⟨a, h1, h2⟩ := trod_data K 6 t ty hlt hty fuel _ _ hf
  refine ⟨a, ?_, h2⟩
  have hc : v.cells.toList = [v] := by
    have hu := tund_und hd
    cases v <;> first | rfl | skip
    cases d <;> first | (cases hb; done) | (simp [Value.okWide, hu, Cell.okWide, Cell.ok] at hval)
  rwa [hc] at h1
def aggB : TypeDesc → Bool
  | .struct _ => true | .array _ _ => true | _ => false
theorem arg_struct (K : Kids P (· < P.types.size)) {b0 : Nat} {t : Nat} {ty : Ty} {d : TypeDesc} (hd : tund P t = some d) (hb : aggB d = true) (hlt : t < P.types.size) (hty : tyOf P 6 t = some ty) {v : Value} {x : DataW H} {ps : List MemPlace}
    (hval : Value.okWide P W .any b0 t v) (h : DataW.Trod enc' P W base sp held t v x ps) : ∃ a : ty.den, R (gW W) (.agg (enc ty (fun _ => a) [])) v ∧ wfD ty a := by
  obtain ⟨fuel, hf⟩ := h
  obtain ⟨a, h1, h2⟩ := trod_data K 6 t ty hlt hty fuel _ _ hf
  have hu := tund_und hd
  have hv : ∃ cs, v = .agg cs := by
    cases d <;> first | (cases hb; done) | skip
    all_goals
      simp only [Value.okWide, hu] at hval
      obtain ⟨cs, rfl, _⟩ := hval
      exact ⟨cs, rfl⟩
  obtain ⟨cs, rfl⟩ := hv
  refine ⟨a, ?_, h2⟩
  have := R.mkAgg h1
  simpa [Value.cells] using this

theorem law_run {f : FuncId} {args : List AV} {vals : List Value} {Y : Type} {Q : Y → Prop} {res : Y → AV} {out : Y → List Chunk} (hm : Meets P f args [] Q res out) (hres : ∀ y, Q y → res y = .tt) (hr : RL (gW W) args vals) :
    Calls P f vals.toArray W fun e W' => e = .returned (.bool true) ∧ Below W.heap.size W W' := by
  refine (hm.h (gW W) W vals (sim_gW W) hr).mono ?_
  rintro e W' ⟨y, c, g', hq, rfl, h1, h2, h3⟩
  rw [hres y hq] at h1
  rw [h1.tt_iff]
  refine ⟨rfl, h3.os, h3.tape, h3.output.o, h3.size, fun b hb => h3.keep b hb ?_⟩
  rintro ⟨i, hi⟩
  simp [getE, Chunk.own] at hi

theorem trodAll_stays (hl : laidOutB P = true) {W' : World} (hb : Below W.heap.size W W') : ∀ {ts : List TypeId} {vs : List Value} {ds : List (DataW H)} {ps : List MemPlace} (sp' : Nat → Bool), (∀ t ∈ ts, P.readableRec t = true ∧ t < P.types.size) →
    DataW.TrodAll enc' P W 0 (fun _ => true) true ts vs ds ps → (∀ p ∈ ps, p.block < W.heap.size) → (∀ p ∈ ps, sp' p.block = true) → DataW.TrodAll enc' P W' 0 sp' true ts vs ds ps
  | [], [], [], ps, sp', _, h, _, _ => h
  | t :: ts, v :: vs, d :: ds, ps, sp', ht, h, hlt, hsp => by
    obtain ⟨p, q, h1, h2, rfl⟩ := h
    obtain ⟨hr, hrow⟩ := ht t (List.mem_cons_self ..)
    refine ⟨p, q, WideElems.Trod_stays hl hr hrow h1 (fun x hx => hb.same (hlt x (List.mem_append_left _ hx))) (fun x hx => hsp x (List.mem_append_left _ hx)), ?_, rfl⟩
    exact trodAll_stays hl hb sp' (fun t ht' => ht t (List.mem_cons_of_mem _ ht')) h2 (fun x hx => hlt x (List.mem_append_right _ hx)) (fun x hx => hsp x (List.mem_append_right _ hx))
  | [], _ :: _, _, _, _, _, h, _, _ => h.elim
  | [], [], _ :: _, _, _, _, h, _, _ => h.elim
  | _ :: _, [], _, _, _, _, h, _, _ => h.elim
  | _ :: _, _ :: _, [], _, _, _, h, _, _ => h.elim

theorem law_post {f : Func} {s : ChangeSpec} {W' : World} {args : Array Value} {ds gs : List (DataW H)} {before : List MemPlace} (hl : laidOutB P = true) {tb : TypeId}
    (hW : DataW.Whole enc' P f.params.toList s.vars false W args.toList ds gs before) (hv : s.vars = []) (hfn : s.fn H (ds ++ gs) = { results := [.lit (.bool true)], args := ds })
    (hres : f.resultTypes = #[tb]) (htb : P.underlying tb = some .bool) (ht : ∀ t ∈ f.params.toList, P.readableRec t = true ∧ t < P.types.size) (hb : Below W.heap.size W W') :
    s.post enc' P f false true false false W args (.bool true) W' := by
  have hlt := hW.lt
  have hW' := hW
  obtain ⟨p, q, hA, hV, hpq, hfz, hnd⟩ := hW'
  rw [hv] at hV
  have hgq : gs = [] ∧ q = [] := by
    cases gs with
    | nil => exact ⟨rfl, hV⟩
    | cons g r => exact hV.elim
  obtain ⟨rfl, rfl⟩ := hgq
  rw [List.append_nil] at hpq
  subst hpq
  have hold : ∀ p ∈ before, (fun b => decide (b < W.heap.size)) p.block = true := fun p hp => by simpa using hlt p hp
  have hargs : ∀ sp : Nat → Bool, (∀ p ∈ before, sp p.block = true) → DataW.TrodAll enc' P W' 0 sp true f.params.toList args.toList ds before := fun sp hsp => trodAll_stays hl hb sp ht hA hlt hsp
  have hresT : ∀ (b : Nat) (sp : Nat → Bool) (hd : Bool), DataW.TrodAll enc' P W' b sp hd f.resultTypes.toList ((Value.bool true).resultList f.resultTypes.size) [.lit (.bool true)] [] := by
    intro b sp hd
    rw [hres]
    exact trodAll_mk1 (shut_bool htb true)
  refine ⟨ds, [], before, [], before, [], hW, ?_, ?_, ?_, World.keptBut_mono (fun p hp => ⟨hp, ?_⟩) (hb.frame (· ∈ before)), fun h => by cases h⟩
  · rw [hfn]; exact hresT _ _ _
  · rw [hfn]; exact hargs _ hold
  · rw [hfn, hv]; rfl
  · exact .inr (by simpa using hp)
end
end Go.Proofs.Ytafcenlbllmahaa.Fw
set_option linter.unusedVariables false
set_option linter.unusedSimpArgs false
namespace Go.Proofs.Ytafcenlbllmahaa.RTimerNext
open Go Go.ChangeShapes Go.WideShapes Go.ChangeAt Go.RowKit Fw
theorem own : ownKnob Try.prog.godebug = none := by kernel_rfl
theorem laidOut : laidOutB Try.prog = true := by kernel_rfl
theorem mapsOk : mapsRowed Try.prog = true := by kernel_rfl
theorem kids : Kids Try.prog (· < Try.prog.types.size) := kids_rows laidOut mapsOk
theorem readable : ∀ t ∈ Try.f7.params.toList, Try.prog.readableRec t = true ∧ t < Try.prog.types.size := by
  have h : (Try.f7.params.toList.all fun t => Try.prog.readableRec t && decide (t < Try.prog.types.size)) = true := by kernel_rfl
  intro t ht
  have := List.all_eq_true.1 h t ht
  rw [Bool.and_eq_true, decide_eq_true_eq] at this
  exact this
set_option maxRecDepth 100000 in
theorem lifted (os : Os) (started : os.Started) (H : Type) (enc : TypeId × Value → H) :
    ReturnsInHanded {} Try.checked os 7 .any (Rows.timerNextSpec.pre6 enc Try.prog Try.f7 Rows.timerNextRow.domain false) (Rows.timerNextSpec.post enc Try.prog Try.f7 false true false false) := by
  refine returnsInHanded_of_change (C := Try.checked) own started (by kernel_rfl) Try.func7
    (ChangeSpec.witness6 (enc := enc) (C := Try.checked) false ⟨#[], #[.int .i64 0, .slice none 0 0], []⟩ 8 (by kernel_rfl) (by kernel_rfl) (by kernel_rfl) (by kernel_rfl)) ?_
  intro W base args ds gs before hval0 hW hcnd _
  have hval : ∀ (j : Nat) t v, Try.f7.params[j]? = some t → args[j]? = some v → Value.okWide Try.prog W .any base t v := hval0
  have hW' : DataW.Whole enc Try.prog Try.f7.params.toList Rows.timerNextSpec.vars false W args.toList ds gs before := hW
  obtain ⟨p, q, hA0, hV, _, _, _⟩ := hW'
  have hA : DataW.TrodAll enc Try.prog W 0 (fun _ => true) true Try.f7.params.toList args.toList ds p := hA0
  rw [Try.params7] at hA hval
  obtain ⟨v0, v1, d0, d1, p0, p1, rfl, rfl, rfl, h0, h1⟩ := trodAll_two hA
  obtain ⟨rfl, rfl⟩ := trodVars_none hV
  obtain ⟨a0, r0, w0⟩ := arg_leaf (ty := (.int .i64)) kids rfl rfl (of_decide_eq_true (by kernel_rfl)) (by kernel_rfl) (hval 0 _ v0 rfl rfl) h0
  obtain ⟨a1, r1, w1⟩ := arg_leaf (ty := (.list Ti.OpT)) kids rfl rfl (of_decide_eq_true (by kernel_rfl)) (by kernel_rfl) (hval 1 _ v1 rfl rfl) h1
  refine (law_run (vals := [v0, v1]) (Ti.nextLaw a0 a1) (fun _ _ => rfl) ⟨r0.1, r1.1, trivial⟩).mono ?_
  rintro e W' ⟨rfl, hb⟩
  exact ⟨_, rfl, law_post laidOut hW rfl rfl (by rfl) Try.underlying4 readable hb⟩

theorem holds : Rows.TimerNextSaid :=
  OpenClaim.holds_of_wide 7 Try.f7 rfl rfl rfl rfl rfl rfl rfl ⟨rfl, rfl, rfl, rfl, rfl⟩ rfl rfl rfl rfl rfl (by kernel_rfl) Try.func7 (by kernel_rfl)
    (of_decide_eq_true (by kernel_rfl)) (by unfold Func.isWrapper; first | (rw [if_pos (by decide +kernel)]; kernel_rfl) | (rw [if_neg (by decide +kernel)]; exact ⟨rfl, rfl⟩))
    (fun os started H enc _ => lifted os started H enc)
end Go.Proofs.Ytafcenlbllmahaa.RTimerNext
#print axioms Go.Proofs.Ytafcenlbllmahaa.RTimerNext.holds
