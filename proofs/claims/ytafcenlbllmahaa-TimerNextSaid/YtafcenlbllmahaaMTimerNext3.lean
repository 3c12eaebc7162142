/- The law TimerNext holds at every input that its statement lets in; part 4 of its proof. -/
import Derived.Test.YtafcenlbllmahaaMTimerNext2
set_option linter.unusedVariables false
set_option linter.unusedSimpArgs false
namespace Go.Proofs.Ytafcenlbllmahaa.Wh
open Go Go.RowKit Fw
abbrev Es (α : Type) := List (Nat × Int × α)
def bornH {α : Type} (es : Es α) : List Nat := es.map (·.1)
theorem sub_len : ∀ (l m : List Nat), l.Nodup → (∀ x ∈ l, x ∈ m) → l.length ≤ m.length
  | [], _, _, _ => Nat.zero_le _
  | x :: l, m, hn, hs => by
    have hx : x ∈ m := hs x (List.mem_cons_self ..)
    rw [List.nodup_cons] at hn
    have := sub_len l (m.erase x) hn.2 (fun y hy => (List.mem_erase_of_ne (fun e : y = x => hn.1 (by rw [← e]; exact hy))).2 (hs y (List.mem_cons_of_mem _ hy)))
    rw [List.length_erase_of_mem hx] at this
    have := List.length_pos_of_mem hx
    simp only [List.length_cons]; omega
/-- 'vis': what is seen, in this order. -/
structure Vis {α : Type} (es vis : Es α) : Prop where
  nd : (bornH vis).Nodup
  sub : ∀ e ∈ vis, e ∈ es
theorem Vis.nil {α : Type} (es : Es α) : Vis es [] := ⟨List.nodup_nil, fun _ h => by cases h⟩
theorem Vis.add {α : Type} {es vis : Es α} (h : Vis es vis) {b : Nat} {n : Int} {v : α} (hm : (b, n, v) ∈ es) (hb : b ∉ bornH vis) : Vis es (vis ++ [(b, n, v)]) := by
  refine ⟨?_, fun e he => ?_⟩
  · unfold bornH; rw [List.map_append, List.nodup_append]
    exact ⟨h.nd, by simp, fun x hx y hy e => by simp at hy; subst hy; subst e; exact hb hx⟩
  · rcases List.mem_append.1 he with h1 | h1
    · exact h.sub e h1
    · rw [List.mem_singleton.1 h1]; exact hm
theorem Vis.len {α : Type} {es vis : Es α} (h : Vis es vis) : vis.length ≤ es.length := by
  have := sub_len (bornH vis) (bornH es) h.nd (fun x hx => by
    obtain ⟨e, he, rfl⟩ := List.mem_map.1 hx
    exact List.mem_map.2 ⟨e, h.sub e he, rfl⟩)
  simpa [bornH] using this
theorem born_inj {α : Type} {es : Es α} (hn : (bornH es).Nodup) {e f : Nat × Int × α} (he : e ∈ es) (hf : f ∈ es) (h : e.1 = f.1) : e = f := by
  induction es with
  | nil => cases he
  | cons x r ih =>
    simp only [bornH, List.map_cons, List.nodup_cons] at hn
    rcases List.mem_cons.1 he with h1 | h1 <;> rcases List.mem_cons.1 hf with h2 | h2
    · rw [h1, h2]
    · subst h1; exact (hn.1 (List.mem_map.2 ⟨f, h2, h.symm⟩)).elim
    · subst h2; exact (hn.1 (List.mem_map.2 ⟨e, h1, h⟩)).elim
    · exact ih hn.2 h1 h2
theorem Vis.all {α : Type} {es vis : Es α} (h : Vis es vis) (hn : (bornH es).Nodup) (ha : ∀ e ∈ es, e.1 ∈ bornH vis) (e : Nat × Int × α) : e ∈ vis ↔ e ∈ es := by
  refine ⟨h.sub e, fun he => ?_⟩
  obtain ⟨f, hf, h1⟩ := List.mem_map.1 (ha e he)
  rw [← born_inj hn (h.sub f hf) he h1]; exact hf
theorem Vis.len_lt {α : Type} {es vis : Es α} (h : Vis es vis) {b : Nat} {n : Int} {v : α} (hm : (b, n, v) ∈ es) (hb : b ∉ bornH vis) : vis.length < es.length := by
  have := (h.add hm hb).len
  simp only [List.length_append, List.length_cons, List.length_nil] at this
  omega
theorem nxMap {α : Type} (f : α → HV) {es vis : Es α} {c j : Nat} {g : Unit → Nat} {K0 : Prop} {K : Int → AV → List Nat → Prop} (hg : g () = 0) (hlt : ∀ e ∈ es, e.1 < c)
    (k0 : (∀ e ∈ es, e.1 ∈ bornH vis) → K0) (k1 : ∀ b n v, (b, n, v) ∈ es → b ∉ bornH vis → K n ((f v).av j) (bornH (vis ++ [(b, n, v)]))) :
    NxH j (fun _ => ⟨1, fun _ => .map (es.map fun e => (e.1, e.2.1, f e.2.2)) c⟩) g c c (fun _ => bornH vis) K0 K := by
  refine ⟨_, rfl, rfl, fun e he => ?_, fun h => k0 fun e he => ?_, fun b n v hm hb => ?_⟩
  · obtain ⟨x, hx, rfl⟩ := List.mem_map.1 he
    exact hlt x hx
  · exact h _ (List.mem_map.2 ⟨e, he, rfl⟩)
  · obtain ⟨⟨b', n', v'⟩, hx, h1⟩ := List.mem_map.1 hm
    cases h1
    have := k1 b' n' v' hx hb
    unfold bornH at this ⊢
    rw [List.map_append] at this
    exact this
theorem key_inj {α : Type} {es : Es α} (hn : (keysH es).Nodup) {e f : Nat × Int × α} (he : e ∈ es) (hf : f ∈ es) (h : e.2.1 = f.2.1) : e = f := by
  induction es with
  | nil => cases he
  | cons x r ih =>
    simp only [keysH, List.map_cons, List.nodup_cons] at hn
    rcases List.mem_cons.1 he with h1 | h1 <;> rcases List.mem_cons.1 hf with h2 | h2
    · rw [h1, h2]
    · subst h1; exact (hn.1 (List.mem_map.2 ⟨f, h2, h.symm⟩)).elim
    · subst h2; exact (hn.1 (List.mem_map.2 ⟨e, h1, h⟩)).elim
    · exact ih hn.2 h1 h2
theorem Vis.keys {α : Type} {es vis : Es α} (h : Vis es vis) (hn : (keysH es).Nodup) : (keysH vis).Nodup := by
  have := h.nd
  unfold bornH at this
  unfold keysH
  rw [List.nodup_iff_pairwise_ne, List.pairwise_map] at this ⊢
  refine List.Pairwise.imp_of_mem ?_ this
  intro a b ha hb hab e
  exact hab (by rw [key_inj hn (h.sub a ha) (h.sub b hb) e])
theorem find_born {α : Type} (f : α → HV) {es : Es α} (hn : (bornH es).Nodup) {b : Nat} {n : Int} {v : α} (hm : (b, n, v) ∈ es) :
    (es.map fun e => (e.1, e.2.1, f e.2.2)).find? (fun e => e.1 == b) = some (b, n, f v) := by
  induction es with
  | nil => cases hm
  | cons x r ih =>
    simp only [bornH, List.map_cons, List.nodup_cons] at hn
    simp only [List.map_cons, List.find?_cons]
    rcases List.mem_cons.1 hm with h | h
    · subst h; simp
    · have hne : ¬ x.1 = b := fun e => hn.1 (by rw [e]; exact List.mem_map.2 ⟨(b, n, v), h, rfl⟩)
      rw [show (x.1 == b) = false by simpa using hne]
      exact ih hn.2 h
/-- The entry that the last step saw. -/
theorem enMap {α : Type} (f : α → HV) {es vis : Es α} {c j : Nat} {g : Unit → Nat} {b : Nat} {n : Int} {v : α} {K : Int → AV → Prop} (hg : g () = 0) (hn : (bornH es).Nodup) (hm : (b, n, v) ∈ es)
    (k : K n ((f v).av j)) : EnH j (fun _ => ⟨1, fun _ => .map (es.map fun e => (e.1, e.2.1, f e.2.2)) c⟩) g c (fun _ => bornH (vis ++ [(b, n, v)])) K :=
  ⟨_, b, _, rfl, by simp [bornH], find_born f hn hm, k⟩
theorem born_del {α : Type} {es : Es α} (h : (bornH es).Nodup) (n : Int) : (bornH (delH es n)).Nodup := by
  have : (delH es n).Sublist es := by
    induction es with
    | nil => exact List.Sublist.refl _
    | cons x r ih =>
      obtain ⟨b, k, v⟩ := x
      simp only [bornH, List.map_cons, List.nodup_cons] at h
      simp only [delH]
      split
      · exact List.sublist_cons_self _ _
      · exact List.Sublist.cons_cons _ (ih h.2)
  exact h.sublist (this.map _)
theorem born_put {α : Type} {es : Es α} (h : (bornH es).Nodup) {c : Nat} (hc : ∀ e ∈ es, e.1 < c) (n : Int) (v : α) : (bornH (putH es c n v)).Nodup := by
  have key : bornH (putH es c n v) = bornH es ∨ bornH (putH es c n v) = bornH es ++ [c] := by
    clear h hc
    induction es with
    | nil => exact .inr rfl
    | cons x r ih =>
      obtain ⟨b, k, u⟩ := x
      simp only [putH]
      split
      · exact .inl rfl
      · rcases ih with e | e
        · left; simp only [bornH, List.map_cons] at e ⊢; rw [e]
        · right; simp only [bornH, List.map_cons, List.cons_append] at e ⊢; rw [e]
  rcases key with e | e
  · rw [e]; exact h
  · rw [e, List.nodup_append]
    refine ⟨h, by simp, fun x hx y hy e2 => ?_⟩
    simp at hy; subst hy; subst e2
    obtain ⟨e, he, h1⟩ := List.mem_map.1 hx
    have := hc e he
    omega
end Go.Proofs.Ytafcenlbllmahaa.Wh
set_option linter.unusedVariables false
set_option linter.unusedSimpArgs false
namespace Go.Proofs.Ytafcenlbllmahaa.Ti
open Go Go.RowKit Fw Wh
/-- Keys in a map of 'true's. -/
abbrev Ks := List (Nat × Int × Bool)
def boolE (es : Ks) : List (Nat × Int × HV) := es.map fun e => (e.1, e.2.1, .dat .bool e.2.2)
def hpB (es : Ks) (c : Nat) : Hp := ⟨1, fun _ => .map (boolE es) c⟩
structure Tm where
  now : Int
  due : List (Nat × Int × Int)
  dc : Nat
  far : Ks
  fc : Nat
  late : Ks
  lc : Nat
  w0 : Wl
  w1 : Wl
  w2 : Wl
  w3 : Wl
abbrev TimerT : TypeId := 54
def cellsT (now : Int) : Chunk := .cells TimerT [.int .i64 fun _ => now, .hm 1 fun _ => 0, .hp 4 fun _ => some (1, 0), .hp 5 fun _ => some (1, 0), .hp 6 fun _ => some (1, 0), .hp 7 fun _ => some (1, 0), .hm 2 fun _ => 0, .hm 3 fun _ => 0]
def chT (t : Tm) : List Chunk := [cellsT t.now, .heap fun _ => hpD t.due t.dc, .heap fun _ => hpB t.far t.fc, .heap fun _ => hpB t.late t.lc, .heap fun _ => hpW t.w0, .heap fun _ => hpW t.w1, .heap fun _ => hpW t.w2, .heap fun _ => hpW t.w3]
/-- The rows of level i. -/
def posOf (P : Int → Option Pl) (i : Nat) (id : Int) : Option Nat := match P id with | some (.row j s) => if j = i then some s else none | _ => none
def updP {α : Type} (P : Int → Option α) (id : Int) (v : Option α) : Int → Option α := fun j => if j = id then v else P j
structure KRel (es : Ks) (c : Nat) (p : Int → Prop) : Prop where
  nd : (keysH es).Nodup
  mem : ∀ id, id ∈ keysH es ↔ p id
  lt : ∀ e ∈ es, e.1 < c
  bnd : (bornH es).Nodup
structure TRel (t : Tm) (D : Int → Option Int) (P : Int → Option Pl) : Prop where
  now0 : 0 ≤ t.now ∧ t.now ≤ 1099511627776
  dnd : (keysH t.due).Nodup
  dget : ∀ id, getH t.due id = D id
  dlt : ∀ e ∈ t.due, e.1 < t.dc
  dbnd : (bornH t.due).Nodup
  dom : ∀ id d, D id = some d → 0 ≤ id ∧ id ≤ 1048575 ∧ 0 ≤ d ∧ d ≤ 1099511627776
  far : KRel t.far t.fc fun id => P id = some .far
  late : KRel t.late t.lc fun id => P id = some .late
  w0 : WRel t.w0 (posOf P 0)
  w1 : WRel t.w1 (posOf P 1)
  w2 : WRel t.w2 (posOf P 2)
  w3 : WRel t.w3 (posOf P 3)
/-- Each lies where it belongs. -/
structure Can (now : Int) (D : Int → Option Int) (P : Int → Option Pl) : Prop where
  h : ∀ id, P id = (D id).map (lv now)
theorem posOf_none (P : Int → Option Pl) (i : Nat) (id : Int) : updI (posOf P i) id none = posOf (updP P id none) i := by
  funext j; unfold updI posOf updP; split <;> rfl
theorem posOf_row (P : Int → Option Pl) (i s : Nat) (id : Int) : updI (posOf P i) id (some s) = posOf (updP P id (some (.row i s))) i := by
  funext j; unfold updI posOf updP; split <;> simp
theorem posOf_other (P : Int → Option Pl) (i : Nat) (id : Int) (v : Pl) (hP : P id = none) (hv : ∀ s, v ≠ .row i s) : posOf P i = posOf (updP P id (some v)) i := by
  funext j; unfold posOf updP
  by_cases h : j = id
  · subst h; rw [hP, if_pos rfl]
    cases v with
    | late => rfl
    | far => rfl
    | row a b => by_cases ha : a = i
                 · subst ha; exact (hv b rfl).elim
                 · simp [ha]
  · rw [if_neg h]
theorem mem_keys {α : Type} {es : List (Nat × Int × α)} {e : Nat × Int × α} (h : e ∈ es) : e.2.1 ∈ keysH es := List.mem_map.2 ⟨e, h, rfl⟩
theorem mem_delH {α : Type} {es : List (Nat × Int × α)} {n : Int} {e : Nat × Int × α} (h : e ∈ delH es n) : e ∈ es := by
  induction es with
  | nil => cases h
  | cons x r ih =>
    obtain ⟨b, k, v⟩ := x
    simp only [delH] at h
    split at h
    · exact List.mem_cons_of_mem _ h
    · rcases List.mem_cons.1 h with h | h
      · exact h ▸ List.mem_cons_self ..
      · exact List.mem_cons_of_mem _ (ih h)
theorem KRel.del {es : Ks} {c : Nat} {p : Int → Prop} (h : KRel es c p) (id : Int) : KRel (delH es id) c fun j => p j ∧ j ≠ id := by
  refine ⟨nodup_del h.nd id, fun j => ?_, fun e he => h.lt e (mem_delH he), born_del h.bnd id⟩
  rw [keys_del, List.Nodup.mem_erase_iff h.nd, h.mem]
  exact And.comm
def clkP {α : Type} (es : List (Nat × Int × α)) (c : Nat) (n : Int) : Nat := match getH es n with | some _ => c | none => c + 1
theorem mem_putH {α : Type} {es : List (Nat × Int × α)} {c : Nat} {n : Int} {v : α} {e : Nat × Int × α} (h : e ∈ putH es c n v) : (∃ e' ∈ es, e'.1 = e.1) ∨ (e.1 = c ∧ getH es n = none) := by
  induction es with
  | nil =>
    simp only [putH, List.mem_singleton] at h
    subst h; exact .inr ⟨rfl, rfl⟩
  | cons x r ih =>
    obtain ⟨b, k, u⟩ := x
    simp only [putH] at h
    by_cases hk : k = n
    · rw [if_pos hk] at h
      rcases List.mem_cons.1 h with h | h
      · subst h; exact .inl ⟨_, List.mem_cons_self .., rfl⟩
      · exact .inl ⟨e, List.mem_cons_of_mem _ h, rfl⟩
    · rw [if_neg hk] at h
      rcases List.mem_cons.1 h with h | h
      · subst h; exact .inl ⟨_, List.mem_cons_self .., rfl⟩
      · rcases ih h with ⟨e', h1, h2⟩ | h1
        · exact .inl ⟨e', List.mem_cons_of_mem _ h1, h2⟩
        · refine .inr ⟨h1.1, ?_⟩
          simp only [getH]; rw [if_neg hk]; exact h1.2
theorem lt_put {α : Type} {es : List (Nat × Int × α)} {c : Nat} {n : Int} {v : α} (h : ∀ e ∈ es, e.1 < c) : ∀ e ∈ putH es c n v, e.1 < clkP es c n := by
  intro e he
  unfold clkP
  rcases mem_putH he with ⟨e', h1, h2⟩ | ⟨h1, h2⟩
  · have := h e' h1
    split <;> omega
  · rw [h2]; simp only []; omega
theorem KRel.put {es : Ks} {c : Nat} {p : Int → Prop} (h : KRel es c p) (id : Int) : KRel (putH es c id true) (clkP es c id) fun j => p j ∨ j = id := by
  refine ⟨nodup_put h.nd c id true, fun j => ?_, lt_put h.lt, born_put h.bnd h.lt id true⟩
  rw [keys_put]
  split
  · rename_i hm
    rw [h.mem]
    exact ⟨.inl, fun h1 => h1.elim (fun h => h) (fun e => by subst e; exact (h.mem _).1 hm)⟩
  · rw [List.mem_append, h.mem]; simp
theorem KRel.iff {es : Ks} {c : Nat} {p q : Int → Prop} (h : KRel es c p) (hpq : ∀ id, p id ↔ q id) : KRel es c q := ⟨h.nd, fun id => (h.mem id).trans (hpq id), h.lt, h.bnd⟩
/-! ### the map operations as they are met -/
theorem getH_bool (es : Ks) (n : Int) : getH (boolE es) n = (getH es n).map fun d => HV.dat .bool d := by
  induction es with
  | nil => rfl
  | cons e r ih =>
    obtain ⟨b, k, x⟩ := e
    simp only [boolE, List.map_cons, getH]
    split
    · rfl
    · exact ih
theorem delH_map {α : Type} (f : α → HV) (es : List (Nat × Int × α)) (n : Int) : delH (es.map fun e => (e.1, e.2.1, f e.2.2)) n = (delH es n).map fun e => (e.1, e.2.1, f e.2.2) := by
  induction es with
  | nil => rfl
  | cons e r ih =>
    obtain ⟨b, k, x⟩ := e
    simp only [List.map_cons, delH]
    split
    · rfl
    · rw [List.map_cons]; congr 1
theorem putH_map {α : Type} (f : α → HV) (es : List (Nat × Int × α)) (c : Nat) (n : Int) (v : α) : putH (es.map fun e => (e.1, e.2.1, f e.2.2)) c n (f v) = (putH es c n v).map fun e => (e.1, e.2.1, f e.2.2) := by
  induction es with
  | nil => rfl
  | cons e r ih =>
    obtain ⟨b, k, x⟩ := e
    simp only [List.map_cons, putH]
    split
    · rfl
    · rw [List.map_cons]; congr 1
section
variable {P : Program} {ty i c : Nat} {K : Hp → Prop} {g : Unit → Nat} {n : Unit → Int} {z v : AV}
theorem deBool {es : Ks} (hz : mapZ P ty = some (.bool false)) (hg : g () = 0) (k : K (hpB (delH es (n ())) c)) : DeH P ty n (fun _ => hpB es c) g K :=
  ⟨boolE es, c, _, hpB (delH es (n ())) c, rfl, hz, ⟨rfl, fun j hj => like_self (by
    have : j = 0 := by change j < 1 at hj; omega
    subst this; rw [hg]
    show HO.map _ _ = HO.map _ _
    rw [show boolE (delH es (n ())) = delH (boolE es) (n ()) from (delH_map (fun b => HV.dat .bool b) es (n ())).symm])⟩, k⟩
theorem deDue {es : List (Nat × Int × Int)} (hz : mapZ P ty = some (.int .i64 0)) (hg : g () = 0) (k : K (hpD (delH es (n ())) c)) : DeH P ty n (fun _ => hpD es c) g K :=
  ⟨dueE es, c, _, hpD (delH es (n ())) c, rfl, hz, ⟨rfl, fun j hj => like_self (by
    have : j = 0 := by change j < 1 at hj; omega
    subst this; rw [hg]
    show HO.map _ _ = HO.map _ _
    rw [show dueE (delH es (n ())) = delH (dueE es) (n ()) from (delH_map (fun b => HV.dat (.int .i64) b) es (n ())).symm])⟩, k⟩
theorem muBool {es : Ks} (hz : mapZ P ty = some (.bool false)) (hg : g () = 0) (hv : IsHV i v (.dat .bool true)) (k : K (hpB (putH es c (n ()) true) (clkP es c (n ())))) : MuH P ty i n v (fun _ => hpB es c) g K :=
  ⟨boolE es, c, _, _, hpB (putH es c (n ()) true) (clkP es c (n ())), rfl, hz, hv, ⟨rfl, fun j hj => like_self (by
    have : j = 0 := by change j < 1 at hj; omega
    subst this; rw [hg]
    show HO.map _ _ = putO _ _ _ _
    unfold putO clkP
    rw [show boolE (putH es c (n ()) true) = putH (boolE es) c (n ()) (.dat .bool true) from (putH_map (fun b => HV.dat .bool b) es c (n ()) true).symm, getH_bool]
    cases getH es (n ()) <;> rfl)⟩, k⟩
theorem muDue {es : List (Nat × Int × Int)} {x : Int} (hz : mapZ P ty = some (.int .i64 0)) (hg : g () = 0) (hv : IsHV i v (.dat (.int .i64) x)) (k : K (hpD (putH es c (n ()) x) (clkP es c (n ())))) : MuH P ty i n v (fun _ => hpD es c) g K :=
  ⟨dueE es, c, _, _, hpD (putH es c (n ()) x) (clkP es c (n ())), rfl, hz, hv, ⟨rfl, fun j hj => like_self (by
    have : j = 0 := by change j < 1 at hj; omega
    subst this; rw [hg]
    show HO.map _ _ = putO _ _ _ _
    unfold putO clkP
    rw [show dueE (putH es c (n ()) x) = putH (dueE es) c (n ()) (.dat (.int .i64) x) from (putH_map (fun b => HV.dat (.int .i64) b) es c (n ()) x).symm, getH_due]
    cases getH es (n ()) <;> rfl)⟩, k⟩
end
end Go.Proofs.Ytafcenlbllmahaa.Ti
set_option linter.unusedVariables false
set_option linter.unusedSimpArgs false
namespace Go.Proofs.Ytafcenlbllmahaa.Ti
open Go Go.RowKit Fw Wh
structure Lifted (t : Tm) (D : Int → Option Int) (P : Int → Option Pl) (t' : Tm) : Prop where
  rel : TRel t' D P
  now : t'.now = t.now
abbrev WA : AV := .agg [.hp 4 fun _ => some (1, 0), .hp 5 fun _ => some (1, 0), .hp 6 fun _ => some (1, 0), .hp 7 fun _ => some (1, 0)]
def withW (t : Tm) (a b c d : Wl) : Tm := { t with w0 := a, w1 := b, w2 := c, w3 := d }
theorem liftM (t : Tm) (D : Int → Option Int) (P : Int → Option Pl) (h : TRel t D P) (id : Int) : Meets Try.prog 26 [.ptr 0 0, .int .i64 fun _ => id] (chT t) (Y := Tm) (Lifted t D (updP P id none))
    (fun _ => .tup []) chT := by
  refine Meets.intro hm (fn := Try.f26) Try.func26 rfl (by decide) (Nat.le_of_ble_eq_true rfl) (fun _ => rfl) ?_; intro S hok; (conv => whnf)
  (repeat' ((conv => whnf); first | apply And.intro | exact ⟨by kernel_rfl⟩ | apply DrawN.mk | apply CodeN.step hm rfl | exact trivial | exact rfl | (intro hh; try simp only [bs] at hh; try exact absurd hh (by decide)))); all_goals (conv => whnf)
  refine LoopN.intro hm (X := Nat × Wl × Wl × Wl × Wl)
    (fun x => x.1 ≤ 4 ∧ WRel x.2.1 (posOf (if 0 < x.1 then updP P id none else P) 0) ∧ WRel x.2.2.1 (posOf (if 1 < x.1 then updP P id none else P) 1) ∧ WRel x.2.2.2.1 (posOf (if 2 < x.1 then updP P id none else P) 2) ∧ WRel x.2.2.2.2 (posOf (if 3 < x.1 then updP P id none else P) 3)) (fun x => 4 - x.1)
    (fun x => [(0, .ptr 0 0), (1, .int .i64 fun _ => id), (9, WA), (10, .int .i64 fun _ => (x.1 : Int))])
    (fun x => chT (withW t x.2.1 x.2.2.1 x.2.2.2.1 x.2.2.2.2)) (0, t.w0, t.w1, t.w2, t.w3) [0, 1, 2, 3, 4, 5, 6, 7] ⟨rfl, rfl, ?_, ?_⟩ ⟨by omega, h.w0, h.w1, h.w2, h.w3⟩ ?_
  · (repeat' ((conv => whnf) <;> first | exact rfl | exact trivial | exact Fw.Hp.like_refl _ | apply And.intro | exact Nat.zero_add _))
  · (repeat' ((conv => whnf) <;> first | exact rfl | exact trivial | exact Fw.Hp.like_refl _ | apply And.intro | exact Nat.zero_add _)); all_goals ((conv => whnf); try simp only [])
  · rintro ⟨i, a, b, c, d⟩ ⟨hi, h0, h1, h2, h3⟩
    simp only [] at hi h0 h1 h2 h3
    obtain rfl | rfl | rfl | rfl | rfl : i = 0 ∨ i = 1 ∨ i = 2 ∨ i = 3 ∨ i = 4 := by omega
    · (repeat' ((conv => whnf); first | apply And.intro | exact ⟨by kernel_rfl⟩ | apply DrawN.mk | apply CodeN.step hm rfl | exact trivial | exact rfl | (intro hh; try simp only [bs] at hh; try exact absurd hh (by decide)))); all_goals (conv => whnf)
      · exact ⟨by simp⟩
      (refine CallN.q (dropM a (posOf P 0) h0 id) [4] ?_; rintro a1 ha; (repeat' ((conv => whnf); first | apply And.intro | exact ⟨by kernel_rfl⟩ | apply DrawN.mk | apply CodeN.step hm rfl | exact trivial | exact rfl | (intro hh; try simp only [bs] at hh; try exact absurd hh (by decide)))); all_goals (conv => whnf); all_goals try exact ⟨by decide⟩)
      refine ⟨(1, a1, b, c, d), [0, 1, 2, 3, 4, 5, 6, 7], ⟨rfl, rfl, ?_, ?_⟩, ⟨by omega, ?_, h1, h2, h3⟩, by simp only []; omega⟩
      · (repeat' ((conv => whnf) <;> first | exact rfl | exact trivial | exact Fw.Hp.like_refl _ | apply And.intro | exact Nat.zero_add _))
      · (repeat' ((conv => whnf) <;> first | exact rfl | exact trivial | exact Fw.Hp.like_refl _ | apply And.intro | exact Nat.zero_add _)); all_goals ((conv => whnf); try simp only [])
      · rw [posOf_none] at ha; exact ha
    · (repeat' ((conv => whnf); first | apply And.intro | exact ⟨by kernel_rfl⟩ | apply DrawN.mk | apply CodeN.step hm rfl | exact trivial | exact rfl | (intro hh; try simp only [bs] at hh; try exact absurd hh (by decide)))); all_goals (conv => whnf)
      · exact ⟨by simp⟩
      (refine CallN.q (dropM b (posOf P 1) h1 id) [5] ?_; rintro a1 ha; (repeat' ((conv => whnf); first | apply And.intro | exact ⟨by kernel_rfl⟩ | apply DrawN.mk | apply CodeN.step hm rfl | exact trivial | exact rfl | (intro hh; try simp only [bs] at hh; try exact absurd hh (by decide)))); all_goals (conv => whnf); all_goals try exact ⟨by decide⟩)
      refine ⟨(2, a, a1, c, d), [0, 1, 2, 3, 4, 5, 6, 7], ⟨rfl, rfl, ?_, ?_⟩, ⟨by omega, h0, ?_, h2, h3⟩, by simp only []; omega⟩
      · (repeat' ((conv => whnf) <;> first | exact rfl | exact trivial | exact Fw.Hp.like_refl _ | apply And.intro | exact Nat.zero_add _))
      · (repeat' ((conv => whnf) <;> first | exact rfl | exact trivial | exact Fw.Hp.like_refl _ | apply And.intro | exact Nat.zero_add _)); all_goals ((conv => whnf); try simp only [])
      · rw [posOf_none] at ha; exact ha
    · (repeat' ((conv => whnf); first | apply And.intro | exact ⟨by kernel_rfl⟩ | apply DrawN.mk | apply CodeN.step hm rfl | exact trivial | exact rfl | (intro hh; try simp only [bs] at hh; try exact absurd hh (by decide)))); all_goals (conv => whnf)
      · exact ⟨by simp⟩
      (refine CallN.q (dropM c (posOf P 2) h2 id) [6] ?_; rintro a1 ha; (repeat' ((conv => whnf); first | apply And.intro | exact ⟨by kernel_rfl⟩ | apply DrawN.mk | apply CodeN.step hm rfl | exact trivial | exact rfl | (intro hh; try simp only [bs] at hh; try exact absurd hh (by decide)))); all_goals (conv => whnf); all_goals try exact ⟨by decide⟩)
      refine ⟨(3, a, b, a1, d), [0, 1, 2, 3, 4, 5, 6, 7], ⟨rfl, rfl, ?_, ?_⟩, ⟨by omega, h0, h1, ?_, h3⟩, by simp only []; omega⟩
      · (repeat' ((conv => whnf) <;> first | exact rfl | exact trivial | exact Fw.Hp.like_refl _ | apply And.intro | exact Nat.zero_add _))
      · (repeat' ((conv => whnf) <;> first | exact rfl | exact trivial | exact Fw.Hp.like_refl _ | apply And.intro | exact Nat.zero_add _)); all_goals ((conv => whnf); try simp only [])
      · rw [posOf_none] at ha; exact ha
    · (repeat' ((conv => whnf); first | apply And.intro | exact ⟨by kernel_rfl⟩ | apply DrawN.mk | apply CodeN.step hm rfl | exact trivial | exact rfl | (intro hh; try simp only [bs] at hh; try exact absurd hh (by decide)))); all_goals (conv => whnf)
      · exact ⟨by simp⟩
      (refine CallN.q (dropM d (posOf P 3) h3 id) [7] ?_; rintro a1 ha; (repeat' ((conv => whnf); first | apply And.intro | exact ⟨by kernel_rfl⟩ | apply DrawN.mk | apply CodeN.step hm rfl | exact trivial | exact rfl | (intro hh; try simp only [bs] at hh; try exact absurd hh (by decide)))); all_goals (conv => whnf); all_goals try exact ⟨by decide⟩)
      refine ⟨(4, a, b, c, a1), [0, 1, 2, 3, 4, 5, 6, 7], ⟨rfl, rfl, ?_, ?_⟩, ⟨by omega, h0, h1, h2, ?_⟩, by simp only []; omega⟩
      · (repeat' ((conv => whnf) <;> first | exact rfl | exact trivial | exact Fw.Hp.like_refl _ | apply And.intro | exact Nat.zero_add _))
      · (repeat' ((conv => whnf) <;> first | exact rfl | exact trivial | exact Fw.Hp.like_refl _ | apply And.intro | exact Nat.zero_add _)); all_goals ((conv => whnf); try simp only [])
      · rw [posOf_none] at ha; exact ha
    · (repeat' ((conv => whnf); first | apply And.intro | exact ⟨by kernel_rfl⟩ | apply DrawN.mk | apply CodeN.step hm rfl | exact trivial | exact rfl | (intro hh; try simp only [bs] at hh; try exact absurd hh (by decide)))); all_goals (conv => whnf)
      (all_goals first | exact Ob.mk (fun h => by cases h) | exact Ob.mk ⟨(fun h => by cases h), by simp only []; omega, by simp only []; omega⟩ | skip)
      refine deBool rfl rfl ?_
      (repeat' ((conv => whnf); first | apply And.intro | exact ⟨by kernel_rfl⟩ | apply DrawN.mk | apply CodeN.step hm rfl | exact trivial | exact rfl | (intro hh; try simp only [bs] at hh; try exact absurd hh (by decide)))); all_goals (conv => whnf)
      (all_goals first | exact Ob.mk (fun h => by cases h) | exact Ob.mk ⟨(fun h => by cases h), by simp only []; omega, by simp only []; omega⟩ | skip)
      refine deBool rfl rfl ?_
      (repeat' ((conv => whnf); first | apply And.intro | exact ⟨by kernel_rfl⟩ | apply DrawN.mk | apply CodeN.step hm rfl | exact trivial | exact rfl | (intro hh; try simp only [bs] at hh; try exact absurd hh (by decide)))); all_goals (conv => whnf)
      (refine RetN.q { withW t a b c d with far := delH t.far id, late := delH t.late id } [0, 1, 2, 3, 4, 5, 6, 7] ?_ ?_ ?_ <;> (repeat' ((conv => whnf) <;> first | exact rfl | exact trivial | exact Fw.Hp.like_refl _ | apply And.intro | exact Nat.zero_add _)); all_goals ((conv => whnf); try simp only []))
      refine ⟨⟨h.now0, h.dnd, h.dget, h.dlt, h.dbnd, h.dom, (h.far.del id).iff fun j => ?_, (h.late.del id).iff fun j => ?_, h0, h1, h2, h3⟩, rfl⟩
      · unfold updP; split <;> simp [*]
      · unfold updP; split <;> simp [*]
end Go.Proofs.Ytafcenlbllmahaa.Ti
set_option linter.unusedVariables false
set_option linter.unusedSimpArgs false
namespace Go.Proofs.Ytafcenlbllmahaa.Ti
open Go Go.RowKit Fw Wh
theorem wr {x : Int} (h0 : 0 ≤ x) (h1 : x < 9223372036854775808) : IntKind.i64.wrap x = x := by
  simp only [IntKind.wrap, IntKind.bits, IntKind.signed]; simp; omega
theorem xorI {a b : Int} (ha : 0 ≤ a) (hb : 0 ≤ b) (ha1 : a < 2199023255552) (hb1 : b < 2199023255552) :
    IntKind.i64.wrap ((BitVec.ofInt IntKind.i64.bits a ^^^ BitVec.ofInt IntKind.i64.bits b).toNat : Int) = ((a.toNat ^^^ b.toNat : Nat) : Int) := by
  have e1 : (BitVec.ofInt IntKind.i64.bits a).toNat = a.toNat := by
    rw [BitVec.toNat_ofInt]; show (a % ((2 ^ 64 : Nat) : Int)).toNat = _; congr 1; omega
  have e2 : (BitVec.ofInt IntKind.i64.bits b).toNat = b.toNat := by
    rw [BitVec.toNat_ofInt]; show (b % ((2 ^ 64 : Nat) : Int)).toNat = _; congr 1; omega
  rw [BitVec.toNat_xor, e1, e2]
  have : a.toNat ^^^ b.toNat < 2 ^ 41 := Nat.xor_lt_two_pow (by omega) (by omega)
  exact wr (by omega) (by omega)
theorem xsh (a b k : Nat) : ((a ^^^ b : Nat) : Int).fdiv (2 ^ k) = 0 ↔ a / 2 ^ k = b / 2 ^ k := by
  have e : ((a ^^^ b : Nat) : Int).fdiv (2 ^ k) = (((a ^^^ b) / 2 ^ k : Nat) : Int) := by
    rw [Int.fdiv_eq_ediv_of_nonneg _ (by exact_mod_cast Nat.zero_le (2 ^ k))]; norm_cast
  rw [e]
  have e2 : (a ^^^ b) / 2 ^ k = (a / 2 ^ k) ^^^ (b / 2 ^ k) := by
    rw [← Nat.shiftRight_eq_div_pow, ← Nat.shiftRight_eq_div_pow, ← Nat.shiftRight_eq_div_pow, Nat.shiftRight_xor_distrib]
  rw [e2]
  constructor
  · intro h
    have h : (a / 2 ^ k) ^^^ (b / 2 ^ k) = 0 := by omega
    refine Nat.eq_of_testBit_eq fun i => ?_
    have h2 := congrArg (fun z => Nat.testBit z i) h
    simpa [Nat.testBit_xor] using h2
  · intro h; rw [h, Nat.xor_self]; rfl
theorem andI {x : Int} (h0 : 0 ≤ x) (h1 : x < 2199023255552) : IntKind.i64.wrap ((BitVec.ofInt IntKind.i64.bits x &&& BitVec.ofInt IntKind.i64.bits 63).toNat : Int) = x % 64 := by
  have e1 : (BitVec.ofInt IntKind.i64.bits x).toNat = x.toNat := by
    rw [BitVec.toNat_ofInt]; show (x % ((2 ^ 64 : Nat) : Int)).toNat = _; congr 1; omega
  have e2 : (BitVec.ofInt IntKind.i64.bits 63).toNat = 2 ^ 6 - 1 := by decide
  rw [BitVec.toNat_and, e1, e2, Nat.and_two_pow_sub_one_eq_mod]
  have : x.toNat % 2 ^ 6 < 64 := Nat.mod_lt _ (by decide)
  rw [Wh.wr (by omega)]
  omega
theorem fdivI (x : Int) (k : Nat) (m : Int) (h : (2 : Int) ^ k = m) (hm : 0 ≤ m) : x.fdiv (2 ^ k) = x / m := by
  rw [h, Int.fdiv_eq_ediv_of_nonneg _ hm]
theorem lv_row0' {now d : Int} (h0 : now < d) (h : d / 64 = now / 64) : lv now d = .row 0 (d / 1 % 64).toNat := by rw [Int.ediv_one]; exact lv_row0 h0 h
theorem placeM (t : Tm) (D : Int → Option Int) (P : Int → Option Pl) (h : TRel t D P) (id d : Int) (hd : D id = some d) (hp : P id = none) : Meets Try.prog 27 [.ptr 0 0, .int .i64 fun _ => id] (chT t) (Y := Tm)
    (Lifted t D (updP P id (some (lv t.now d)))) (fun _ => .tup []) chT := by
  have hdu : dueOf t.due id = d := by unfold dueOf; rw [h.dget, hd]; rfl
  obtain ⟨hi0, hi1, hd0, hd1⟩ := h.dom id d hd
  refine Meets.intro hm (fn := Try.f27) Try.func27 rfl (by decide) (Nat.le_of_ble_eq_true rfl) (fun _ => rfl) ?_; intro S hok; (conv => whnf)
  (repeat' ((conv => whnf); first | apply And.intro | exact ⟨by kernel_rfl⟩ | apply DrawN.mk | apply CodeN.step hm rfl | exact trivial | exact rfl | (intro hh; try simp only [bs] at hh; try exact absurd hh (by decide)))); all_goals (conv => whnf)
  (all_goals first | exact Ob.mk (fun h => by cases h) | exact Ob.mk ⟨(fun h => by cases h), by simp only []; omega, by simp only []; omega⟩ | skip)
  refine lkDue rfl rfl ?_
  rw [hdu]
  (repeat' ((conv => whnf); first | apply And.intro | exact ⟨by kernel_rfl⟩ | apply DrawN.mk | apply CodeN.step hm rfl | exact trivial | exact rfl | (intro hh; try simp only [bs] at hh; try exact absurd hh (by decide)))); all_goals (conv => whnf)
  (all_goals first | exact Ob.mk (fun h => by cases h) | exact Ob.mk ⟨(fun h => by cases h), by simp only []; omega, by simp only []; omega⟩ | skip)
  · refine muBool rfl rfl .tt ?_
    (repeat' ((conv => whnf); first | apply And.intro | exact ⟨by kernel_rfl⟩ | apply DrawN.mk | apply CodeN.step hm rfl | exact trivial | exact rfl | (intro hh; try simp only [bs] at hh; try exact absurd hh (by decide)))); all_goals (conv => whnf)
    (refine RetN.q { t with late := putH t.late t.lc id true, lc := clkP t.late t.lc id } [0, 1, 2, 3, 4, 5, 6, 7] ?_ ?_ ?_ <;> (repeat' ((conv => whnf) <;> first | exact rfl | exact trivial | exact Fw.Hp.like_refl _ | apply And.intro | exact Nat.zero_add _)); all_goals ((conv => whnf); try simp only []))
    rw [lv_late.2 hh]
    refine ⟨⟨h.now0, h.dnd, h.dget, h.dlt, h.dbnd, h.dom, h.far.iff fun j => ?_, (h.late.put id).iff fun j => ?_, ?_, ?_, ?_, ?_⟩, rfl⟩
    · unfold updP; split
      · rename_i e; subst e; simp [hp]
      · rfl
    · unfold updP; split
      · simp [*]
      · simp [*]
    · rw [← posOf_other P 0 id _ hp (fun s e => by cases e)]; exact h.w0
    · rw [← posOf_other P 1 id _ hp (fun s e => by cases e)]; exact h.w1
    · rw [← posOf_other P 2 id _ hp (fun s e => by cases e)]; exact h.w2
    · rw [← posOf_other P 3 id _ hp (fun s e => by cases e)]; exact h.w3
  have hlt : t.now < d := by omega
  refine LoopN.intro hm (X := Nat) (fun i => i ≤ 4 ∧ (1 ≤ i → d / 64 ≠ t.now / 64) ∧ (2 ≤ i → d / 4096 ≠ t.now / 4096) ∧ (3 ≤ i → d / 262144 ≠ t.now / 262144) ∧ (4 ≤ i → d / 16777216 ≠ t.now / 16777216)) (fun i => 4 - i)
    (fun i => [(0, .ptr 0 0), (1, .int .i64 fun _ => id), (4, .int .i64 fun _ => d), (5, .int .i64 fun _ => ((d.toNat ^^^ t.now.toNat : Nat) : Int)), (34, WA), (35, .int .i64 fun _ => (i : Int))])
    (fun _ => chT t) 0 [0, 1, 2, 3, 4, 5, 6, 7] ⟨rfl, rfl, ?_, ?_⟩ ⟨by omega, by omega, by omega, by omega, by omega⟩ ?_
  · (repeat' ((conv => whnf) <;> first | exact rfl | exact trivial | exact Fw.Hp.like_refl _ | apply And.intro | exact Nat.zero_add _))
  · (repeat' ((conv => whnf) <;> first | exact rfl | exact trivial | exact Fw.Hp.like_refl _ | apply And.intro | exact Nat.zero_add _)); all_goals ((conv => whnf); try simp only [])
    exact xorI hd0 h.now0.1 (by omega) (by have := h.now0.2; omega)
  · rintro i ⟨hi, g1, g2, g3, g4⟩
    obtain rfl | rfl | rfl | rfl | rfl : i = 0 ∨ i = 1 ∨ i = 2 ∨ i = 3 ∨ i = 4 := by omega
    · (repeat' ((conv => whnf); first | apply And.intro | exact ⟨by kernel_rfl⟩ | apply DrawN.mk | apply CodeN.step hm rfl | exact trivial | exact rfl | (intro hh; try simp only [bs] at hh; try exact absurd hh (by decide)))); all_goals (conv => whnf)
      · exact ⟨by simp⟩
      · exact ⟨by decide⟩
      · exact ⟨by decide⟩
      · have hq : d / 64 = t.now / 64 := by
          have h2 : ((d.toNat ^^^ t.now.toNat : Nat) : Int).fdiv (2 ^ (6 * (0 + 1))) = 0 := hh
          have h2 := (xsh d.toNat t.now.toNat (6 * (0 + 1))).1 h2
          have e : (2 : Nat) ^ (6 * (0 + 1)) = 64 := by decide
          rw [e] at h2
          have := h.now0.1
          omega
        have hsl : 0 ≤ d / 1 % 64 ∧ d / 1 % 64 < 64 := by omega
        refine CallN.intro (addM t.w0 (posOf P 0) h.w0 (d / 1 % 64).toNat (by omega) id hi0 hi1) [4] rfl rfl ?_ ?_ (fun a1 ha => ?_)
        · (repeat' ((conv => whnf) <;> first | exact rfl | exact trivial | exact Fw.Hp.like_refl _ | apply And.intro | exact Nat.zero_add _)); all_goals ((conv => whnf); try simp only [])
          have e := andI (x := d / 1) (by omega) (by omega)
          have e2 : d.fdiv (2 ^ (6 * 0)) = d / 1 := fdivI d (6 * 0) 1 (by decide) (by decide)
          exact ((congrArg (fun z => IntKind.i64.wrap ((BitVec.ofInt IntKind.i64.bits z &&& BitVec.ofInt IntKind.i64.bits 63).toNat : Int)) e2).trans e).trans (Int.toNat_of_nonneg hsl.1).symm
        · (repeat' ((conv => whnf) <;> first | exact rfl | exact trivial | exact Fw.Hp.like_refl _ | apply And.intro | exact Nat.zero_add _))
        (repeat' ((conv => whnf); first | apply And.intro | exact ⟨by kernel_rfl⟩ | apply DrawN.mk | apply CodeN.step hm rfl | exact trivial | exact rfl | (intro hh; try simp only [bs] at hh; try exact absurd hh (by decide)))); all_goals (conv => whnf)
        (refine RetN.q (withW t a1 t.w1 t.w2 t.w3) [0, 1, 2, 3, 4, 5, 6, 7] ?_ ?_ ?_ <;> (repeat' ((conv => whnf) <;> first | exact rfl | exact trivial | exact Fw.Hp.like_refl _ | apply And.intro | exact Nat.zero_add _)); all_goals ((conv => whnf); try simp only []))
        rw [lv_row0' hlt hq]
        rw [posOf_row] at ha
        refine ⟨⟨h.now0, h.dnd, h.dget, h.dlt, h.dbnd, h.dom, h.far.iff fun j => ?_, h.late.iff fun j => ?_, ?_, ?_, ?_, ?_⟩, rfl⟩
        · unfold updP; split
          · rename_i e; subst e; simp [hp]
          · rfl
        · unfold updP; split
          · rename_i e; subst e; simp [hp]
          · rfl
        · first | exact ha | (rw [← posOf_other P 0 id _ hp (fun s e => by cases e)]; exact h.w0)
        · first | exact ha | (rw [← posOf_other P 1 id _ hp (fun s e => by cases e)]; exact h.w1)
        · first | exact ha | (rw [← posOf_other P 2 id _ hp (fun s e => by cases e)]; exact h.w2)
        · first | exact ha | (rw [← posOf_other P 3 id _ hp (fun s e => by cases e)]; exact h.w3)
      · have hq : d / 64 ≠ t.now / 64 := fun hq => hh ((xsh d.toNat t.now.toNat (6 * (0 + 1))).2 (by
          have e : (2 : Nat) ^ (6 * (0 + 1)) = 64 := by decide
          rw [e]
          have := h.now0.1
          omega))
        refine ⟨0 + 1, [0, 1, 2, 3, 4, 5, 6, 7], ⟨rfl, rfl, ?_, ?_⟩, ⟨by omega, fun _ => hq, by omega, by omega, by omega⟩, by omega⟩
        · (repeat' ((conv => whnf) <;> first | exact rfl | exact trivial | exact Fw.Hp.like_refl _ | apply And.intro | exact Nat.zero_add _))
        · (repeat' ((conv => whnf) <;> first | exact rfl | exact trivial | exact Fw.Hp.like_refl _ | apply And.intro | exact Nat.zero_add _))
    · (repeat' ((conv => whnf); first | apply And.intro | exact ⟨by kernel_rfl⟩ | apply DrawN.mk | apply CodeN.step hm rfl | exact trivial | exact rfl | (intro hh; try simp only [bs] at hh; try exact absurd hh (by decide)))); all_goals (conv => whnf)
      · exact ⟨by simp⟩
      · exact ⟨by decide⟩
      · exact ⟨by decide⟩
      · have hq : d / 4096 = t.now / 4096 := by
          have h2 : ((d.toNat ^^^ t.now.toNat : Nat) : Int).fdiv (2 ^ (6 * (1 + 1))) = 0 := hh
          have h2 := (xsh d.toNat t.now.toNat (6 * (1 + 1))).1 h2
          have e : (2 : Nat) ^ (6 * (1 + 1)) = 4096 := by decide
          rw [e] at h2
          have := h.now0.1
          omega
        have hsl : 0 ≤ d / 64 % 64 ∧ d / 64 % 64 < 64 := by omega
        refine CallN.intro (addM t.w1 (posOf P 1) h.w1 (d / 64 % 64).toNat (by omega) id hi0 hi1) [5] rfl rfl ?_ ?_ (fun a1 ha => ?_)
        · (repeat' ((conv => whnf) <;> first | exact rfl | exact trivial | exact Fw.Hp.like_refl _ | apply And.intro | exact Nat.zero_add _)); all_goals ((conv => whnf); try simp only [])
          have e := andI (x := d / 64) (by omega) (by omega)
          have e2 : d.fdiv (2 ^ (6 * 1)) = d / 64 := fdivI d (6 * 1) 64 (by decide) (by decide)
          exact ((congrArg (fun z => IntKind.i64.wrap ((BitVec.ofInt IntKind.i64.bits z &&& BitVec.ofInt IntKind.i64.bits 63).toNat : Int)) e2).trans e).trans (Int.toNat_of_nonneg hsl.1).symm
        · (repeat' ((conv => whnf) <;> first | exact rfl | exact trivial | exact Fw.Hp.like_refl _ | apply And.intro | exact Nat.zero_add _))
        (repeat' ((conv => whnf); first | apply And.intro | exact ⟨by kernel_rfl⟩ | apply DrawN.mk | apply CodeN.step hm rfl | exact trivial | exact rfl | (intro hh; try simp only [bs] at hh; try exact absurd hh (by decide)))); all_goals (conv => whnf)
        (refine RetN.q (withW t t.w0 a1 t.w2 t.w3) [0, 1, 2, 3, 4, 5, 6, 7] ?_ ?_ ?_ <;> (repeat' ((conv => whnf) <;> first | exact rfl | exact trivial | exact Fw.Hp.like_refl _ | apply And.intro | exact Nat.zero_add _)); all_goals ((conv => whnf); try simp only []))
        rw [lv_row1 hlt (g1 (by omega)) hq]
        rw [posOf_row] at ha
        refine ⟨⟨h.now0, h.dnd, h.dget, h.dlt, h.dbnd, h.dom, h.far.iff fun j => ?_, h.late.iff fun j => ?_, ?_, ?_, ?_, ?_⟩, rfl⟩
        · unfold updP; split
          · rename_i e; subst e; simp [hp]
          · rfl
        · unfold updP; split
          · rename_i e; subst e; simp [hp]
          · rfl
        · first | exact ha | (rw [← posOf_other P 0 id _ hp (fun s e => by cases e)]; exact h.w0)
        · first | exact ha | (rw [← posOf_other P 1 id _ hp (fun s e => by cases e)]; exact h.w1)
        · first | exact ha | (rw [← posOf_other P 2 id _ hp (fun s e => by cases e)]; exact h.w2)
        · first | exact ha | (rw [← posOf_other P 3 id _ hp (fun s e => by cases e)]; exact h.w3)
      · have hq : d / 4096 ≠ t.now / 4096 := fun hq => hh ((xsh d.toNat t.now.toNat (6 * (1 + 1))).2 (by
          have e : (2 : Nat) ^ (6 * (1 + 1)) = 4096 := by decide
          rw [e]
          have := h.now0.1
          omega))
        refine ⟨1 + 1, [0, 1, 2, 3, 4, 5, 6, 7], ⟨rfl, rfl, ?_, ?_⟩, ⟨by omega, fun _ => g1 (by omega), fun _ => hq, by omega, by omega⟩, by omega⟩
        · (repeat' ((conv => whnf) <;> first | exact rfl | exact trivial | exact Fw.Hp.like_refl _ | apply And.intro | exact Nat.zero_add _))
        · (repeat' ((conv => whnf) <;> first | exact rfl | exact trivial | exact Fw.Hp.like_refl _ | apply And.intro | exact Nat.zero_add _))
    · (repeat' ((conv => whnf); first | apply And.intro | exact ⟨by kernel_rfl⟩ | apply DrawN.mk | apply CodeN.step hm rfl | exact trivial | exact rfl | (intro hh; try simp only [bs] at hh; try exact absurd hh (by decide)))); all_goals (conv => whnf)
      · exact ⟨by simp⟩
      · exact ⟨by decide⟩
      · exact ⟨by decide⟩
      · have hq : d / 262144 = t.now / 262144 := by
          have h2 : ((d.toNat ^^^ t.now.toNat : Nat) : Int).fdiv (2 ^ (6 * (2 + 1))) = 0 := hh
          have h2 := (xsh d.toNat t.now.toNat (6 * (2 + 1))).1 h2
          have e : (2 : Nat) ^ (6 * (2 + 1)) = 262144 := by decide
          rw [e] at h2
          have := h.now0.1
          omega
        have hsl : 0 ≤ d / 4096 % 64 ∧ d / 4096 % 64 < 64 := by omega
        refine CallN.intro (addM t.w2 (posOf P 2) h.w2 (d / 4096 % 64).toNat (by omega) id hi0 hi1) [6] rfl rfl ?_ ?_ (fun a1 ha => ?_)
        · (repeat' ((conv => whnf) <;> first | exact rfl | exact trivial | exact Fw.Hp.like_refl _ | apply And.intro | exact Nat.zero_add _)); all_goals ((conv => whnf); try simp only [])
          have e := andI (x := d / 4096) (by omega) (by omega)
          have e2 : d.fdiv (2 ^ (6 * 2)) = d / 4096 := fdivI d (6 * 2) 4096 (by decide) (by decide)
          exact ((congrArg (fun z => IntKind.i64.wrap ((BitVec.ofInt IntKind.i64.bits z &&& BitVec.ofInt IntKind.i64.bits 63).toNat : Int)) e2).trans e).trans (Int.toNat_of_nonneg hsl.1).symm
        · (repeat' ((conv => whnf) <;> first | exact rfl | exact trivial | exact Fw.Hp.like_refl _ | apply And.intro | exact Nat.zero_add _))
        (repeat' ((conv => whnf); first | apply And.intro | exact ⟨by kernel_rfl⟩ | apply DrawN.mk | apply CodeN.step hm rfl | exact trivial | exact rfl | (intro hh; try simp only [bs] at hh; try exact absurd hh (by decide)))); all_goals (conv => whnf)
        (refine RetN.q (withW t t.w0 t.w1 a1 t.w3) [0, 1, 2, 3, 4, 5, 6, 7] ?_ ?_ ?_ <;> (repeat' ((conv => whnf) <;> first | exact rfl | exact trivial | exact Fw.Hp.like_refl _ | apply And.intro | exact Nat.zero_add _)); all_goals ((conv => whnf); try simp only []))
        rw [lv_row2 hlt (g2 (by omega)) hq]
        rw [posOf_row] at ha
        refine ⟨⟨h.now0, h.dnd, h.dget, h.dlt, h.dbnd, h.dom, h.far.iff fun j => ?_, h.late.iff fun j => ?_, ?_, ?_, ?_, ?_⟩, rfl⟩
        · unfold updP; split
          · rename_i e; subst e; simp [hp]
          · rfl
        · unfold updP; split
          · rename_i e; subst e; simp [hp]
          · rfl
        · first | exact ha | (rw [← posOf_other P 0 id _ hp (fun s e => by cases e)]; exact h.w0)
        · first | exact ha | (rw [← posOf_other P 1 id _ hp (fun s e => by cases e)]; exact h.w1)
        · first | exact ha | (rw [← posOf_other P 2 id _ hp (fun s e => by cases e)]; exact h.w2)
        · first | exact ha | (rw [← posOf_other P 3 id _ hp (fun s e => by cases e)]; exact h.w3)
      · have hq : d / 262144 ≠ t.now / 262144 := fun hq => hh ((xsh d.toNat t.now.toNat (6 * (2 + 1))).2 (by
          have e : (2 : Nat) ^ (6 * (2 + 1)) = 262144 := by decide
          rw [e]
          have := h.now0.1
          omega))
        refine ⟨2 + 1, [0, 1, 2, 3, 4, 5, 6, 7], ⟨rfl, rfl, ?_, ?_⟩, ⟨by omega, fun _ => g1 (by omega), fun _ => g2 (by omega), fun _ => hq, by omega⟩, by omega⟩
        · (repeat' ((conv => whnf) <;> first | exact rfl | exact trivial | exact Fw.Hp.like_refl _ | apply And.intro | exact Nat.zero_add _))
        · (repeat' ((conv => whnf) <;> first | exact rfl | exact trivial | exact Fw.Hp.like_refl _ | apply And.intro | exact Nat.zero_add _))
    · (repeat' ((conv => whnf); first | apply And.intro | exact ⟨by kernel_rfl⟩ | apply DrawN.mk | apply CodeN.step hm rfl | exact trivial | exact rfl | (intro hh; try simp only [bs] at hh; try exact absurd hh (by decide)))); all_goals (conv => whnf)
      · exact ⟨by simp⟩
      · exact ⟨by decide⟩
      · exact ⟨by decide⟩
      · have hq : d / 16777216 = t.now / 16777216 := by
          have h2 : ((d.toNat ^^^ t.now.toNat : Nat) : Int).fdiv (2 ^ (6 * (3 + 1))) = 0 := hh
          have h2 := (xsh d.toNat t.now.toNat (6 * (3 + 1))).1 h2
          have e : (2 : Nat) ^ (6 * (3 + 1)) = 16777216 := by decide
          rw [e] at h2
          have := h.now0.1
          omega
        have hsl : 0 ≤ d / 262144 % 64 ∧ d / 262144 % 64 < 64 := by omega
        refine CallN.intro (addM t.w3 (posOf P 3) h.w3 (d / 262144 % 64).toNat (by omega) id hi0 hi1) [7] rfl rfl ?_ ?_ (fun a1 ha => ?_)
        · (repeat' ((conv => whnf) <;> first | exact rfl | exact trivial | exact Fw.Hp.like_refl _ | apply And.intro | exact Nat.zero_add _)); all_goals ((conv => whnf); try simp only [])
          have e := andI (x := d / 262144) (by omega) (by omega)
          have e2 : d.fdiv (2 ^ (6 * 3)) = d / 262144 := fdivI d (6 * 3) 262144 (by decide) (by decide)
          exact ((congrArg (fun z => IntKind.i64.wrap ((BitVec.ofInt IntKind.i64.bits z &&& BitVec.ofInt IntKind.i64.bits 63).toNat : Int)) e2).trans e).trans (Int.toNat_of_nonneg hsl.1).symm
        · (repeat' ((conv => whnf) <;> first | exact rfl | exact trivial | exact Fw.Hp.like_refl _ | apply And.intro | exact Nat.zero_add _))
        (repeat' ((conv => whnf); first | apply And.intro | exact ⟨by kernel_rfl⟩ | apply DrawN.mk | apply CodeN.step hm rfl | exact trivial | exact rfl | (intro hh; try simp only [bs] at hh; try exact absurd hh (by decide)))); all_goals (conv => whnf)
        (refine RetN.q (withW t t.w0 t.w1 t.w2 a1) [0, 1, 2, 3, 4, 5, 6, 7] ?_ ?_ ?_ <;> (repeat' ((conv => whnf) <;> first | exact rfl | exact trivial | exact Fw.Hp.like_refl _ | apply And.intro | exact Nat.zero_add _)); all_goals ((conv => whnf); try simp only []))
        rw [lv_row3 hlt (g3 (by omega)) hq]
        rw [posOf_row] at ha
        refine ⟨⟨h.now0, h.dnd, h.dget, h.dlt, h.dbnd, h.dom, h.far.iff fun j => ?_, h.late.iff fun j => ?_, ?_, ?_, ?_, ?_⟩, rfl⟩
        · unfold updP; split
          · rename_i e; subst e; simp [hp]
          · rfl
        · unfold updP; split
          · rename_i e; subst e; simp [hp]
          · rfl
        · first | exact ha | (rw [← posOf_other P 0 id _ hp (fun s e => by cases e)]; exact h.w0)
        · first | exact ha | (rw [← posOf_other P 1 id _ hp (fun s e => by cases e)]; exact h.w1)
        · first | exact ha | (rw [← posOf_other P 2 id _ hp (fun s e => by cases e)]; exact h.w2)
        · first | exact ha | (rw [← posOf_other P 3 id _ hp (fun s e => by cases e)]; exact h.w3)
      · have hq : d / 16777216 ≠ t.now / 16777216 := fun hq => hh ((xsh d.toNat t.now.toNat (6 * (3 + 1))).2 (by
          have e : (2 : Nat) ^ (6 * (3 + 1)) = 16777216 := by decide
          rw [e]
          have := h.now0.1
          omega))
        refine ⟨3 + 1, [0, 1, 2, 3, 4, 5, 6, 7], ⟨rfl, rfl, ?_, ?_⟩, ⟨by omega, fun _ => g1 (by omega), fun _ => g2 (by omega), fun _ => g3 (by omega), fun _ => hq⟩, by omega⟩
        · (repeat' ((conv => whnf) <;> first | exact rfl | exact trivial | exact Fw.Hp.like_refl _ | apply And.intro | exact Nat.zero_add _))
        · (repeat' ((conv => whnf) <;> first | exact rfl | exact trivial | exact Fw.Hp.like_refl _ | apply And.intro | exact Nat.zero_add _))
    · (repeat' ((conv => whnf); first | apply And.intro | exact ⟨by kernel_rfl⟩ | apply DrawN.mk | apply CodeN.step hm rfl | exact trivial | exact rfl | (intro hh; try simp only [bs] at hh; try exact absurd hh (by decide)))); all_goals (conv => whnf)
      (all_goals first | exact Ob.mk (fun h => by cases h) | exact Ob.mk ⟨(fun h => by cases h), by simp only []; omega, by simp only []; omega⟩ | skip)
      refine muBool rfl rfl .tt ?_
      (repeat' ((conv => whnf); first | apply And.intro | exact ⟨by kernel_rfl⟩ | apply DrawN.mk | apply CodeN.step hm rfl | exact trivial | exact rfl | (intro hh; try simp only [bs] at hh; try exact absurd hh (by decide)))); all_goals (conv => whnf)
      (refine RetN.q { t with far := putH t.far t.fc id true, fc := clkP t.far t.fc id } [0, 1, 2, 3, 4, 5, 6, 7] ?_ ?_ ?_ <;> (repeat' ((conv => whnf) <;> first | exact rfl | exact trivial | exact Fw.Hp.like_refl _ | apply And.intro | exact Nat.zero_add _)); all_goals ((conv => whnf); try simp only []))
      rw [lv_far' hlt (g4 (by omega))]
      refine ⟨⟨h.now0, h.dnd, h.dget, h.dlt, h.dbnd, h.dom, (h.far.put id).iff fun j => ?_, h.late.iff fun j => ?_, ?_, ?_, ?_, ?_⟩, rfl⟩
      · unfold updP; split
        · simp [*]
        · simp [*]
      · unfold updP; split
        · rename_i e; subst e; simp [hp]
        · rfl
      · rw [← posOf_other P 0 id _ hp (fun s e => by cases e)]; exact h.w0
      · rw [← posOf_other P 1 id _ hp (fun s e => by cases e)]; exact h.w1
      · rw [← posOf_other P 2 id _ hp (fun s e => by cases e)]; exact h.w2
      · rw [← posOf_other P 3 id _ hp (fun s e => by cases e)]; exact h.w3
end Go.Proofs.Ytafcenlbllmahaa.Ti
set_option linter.unusedVariables false
set_option linter.unusedSimpArgs false
namespace Go.Proofs.Ytafcenlbllmahaa.Ti
open Go Go.RowKit Fw Wh
structure StopOf (now : Int) (D : Int → Option Int) (y : Int × Int × List Int) : Prop where
  gt : now < y.1
  stay : ∀ id d, D id = some d → id ∉ y.2.2 → lv y.1 d = lv now d
  wait : ∀ to id d, now ≤ to → to < y.1 → D id = some d → lv to d = lv now d
  mem : ∀ id, id ∈ y.2.2 → ∃ d, D id = some d
  nd : y.2.2.Nodup
  len : y.2.2.length ≤ 1048576
theorem orI {y : Int} (K : Nat) (m q : Int) (hm : (2 : Int) ^ K = m) (hmle : m ≤ 16777216) (hq : 0 ≤ q) (hx : q * m < 2199023255552) (hy : 0 ≤ y) (hy1 : y < m) :
    IntKind.i64.wrap ((BitVec.ofInt IntKind.i64.bits (q * m) ||| BitVec.ofInt IntKind.i64.bits y).toNat : Int) = q * m + y := by
  have hm0 : 0 ≤ m := by omega
  have hqm : 0 ≤ q * m := Int.mul_nonneg hq hm0
  have hmN : m.toNat = 2 ^ K := by
    have : ((2 ^ K : Nat) : Int) = m := by rw [← hm]; norm_cast
    omega
  have e0 : (q * m).toNat = q.toNat * 2 ^ K := by rw [Int.toNat_mul hq hm0, hmN]
  have e1 : (BitVec.ofInt IntKind.i64.bits (q * m)).toNat = (q * m).toNat := by
    rw [BitVec.toNat_ofInt]; show ((q * m) % ((2 ^ 64 : Nat) : Int)).toNat = _; congr 1
    exact Int.emod_eq_of_lt hqm (by have : ((2 ^ 64 : Nat) : Int) = 18446744073709551616 := rfl
                                    omega)
  have e2 : (BitVec.ofInt IntKind.i64.bits y).toNat = y.toNat := by
    rw [BitVec.toNat_ofInt]; show (y % ((2 ^ 64 : Nat) : Int)).toNat = _; congr 1; omega
  rw [BitVec.toNat_or, e1, e2, e0]
  have h3 := Nat.shiftLeft_add_eq_or_of_lt (b := y.toNat) (i := K) (by omega) q.toNat
  rw [Nat.shiftLeft_eq] at h3
  rw [← h3, ← e0, Wh.wr (by omega)]
  omega
theorem no_row {now : Int} {D : Int → Option Int} {P : Int → Option Pl} (hc : Can now D P) {i f : Nat} (hf : (f : Int) = dig i now + 1) (hy : FirstRow (posOf P i) f none) : ∀ id s, P id ≠ some (.row i s) := by
  intro id s e
  have h1 := hc.h id
  rw [e] at h1
  cases hd : D id with
  | none => rw [hd] at h1; cases h1
  | some d =>
    rw [hd] at h1
    have h2 : lv now d = .row i s := (Option.some.inj h1).symm
    obtain ⟨_, _, h3, _, _, h4⟩ := lv_row h2
    exact hy.none_ rfl s (by omega) h3 id (by unfold posOf; rw [e]; simp)
theorem Can.pl {now : Int} {D : Int → Option Int} {P : Int → Option Pl} (hc : Can now D P) {id d : Int} (hd : D id = some d) : P id = some (lv now d) := by rw [hc.h id, hd]; rfl
theorem stop_row {t : Tm} {D : Int → Option Int} {P : Int → Option Pl} (hc : Can t.now D P) (h : TRel t D P) {i f s : Nat} {l : List Int} {n : Int} (hi : i < 4) (g : ∀ j, j < i → ∀ id s, P id ≠ some (.row j s)) (hf : (f : Int) = dig i t.now + 1)
    (hy : FirstRow (posOf P i) f (some s)) (hl : RowOf (posOf P i) s l) : StopOf t.now D (beg i t.now s, n, l) := by
  obtain ⟨k1, k2, k3, k4⟩ := hy.some_ s rfl
  have hn := h.now0.1
  have hgt : t.now < beg i t.now s := beg_gt hn hi (by omega)
  have key : ∀ id d, D id = some d → (lv t.now d = .late ∨ lv t.now d = .far ∨ (∃ j s', i < j ∧ lv t.now d = .row j s') ∨ (∃ s', s ≤ s' ∧ lv t.now d = .row i s')) := by
    intro id d hd
    have hp := hc.pl hd
    cases hlv : lv t.now d with
    | late => exact .inl rfl
    | far => exact .inr (.inl rfl)
    | row j s' =>
      rw [hlv] at hp
      by_cases hj : j < i
      · exact (g j hj id s' hp).elim
      by_cases hj2 : j = i
      · subst hj2
        refine .inr (.inr (.inr ⟨s', ?_, rfl⟩))
        obtain ⟨_, _, h3, _, _, h4⟩ := lv_row hlv
        by_cases hs : s ≤ s'
        · exact hs
        · exact (k4 s' (by omega) (by omega) id (by unfold posOf; rw [hp]; simp)).elim
      · exact .inr (.inr (.inl ⟨j, s', by omega, rfl⟩))
  refine ⟨hgt, fun id d hd hni => ?_, fun to id d h1 h2 hd => ?_, fun id hid => ?_, hl.nd, hl.len⟩
  · rcases key id d hd with e | e | ⟨j, s', hj, e⟩ | ⟨s', hs, e⟩
    · rw [e]; have := lv_late.1 e; exact lv_late.2 (by simp only []; omega)
    · rw [e]; exact lv_above_far e (Int.le_of_lt hgt) hi k2 (Int.le_refl _)
    · rw [e]; exact lv_above e (Int.le_of_lt hgt) hj k2 (Int.le_refl _)
    · rw [e]
      have hne : s ≠ s' := fun e2 => by
        subst e2
        exact hni ((hl.mem id).2 (by unfold posOf; rw [hc.pl hd, e]; simp))
      exact lv_wait e (Int.le_of_lt hgt) (beg_lt hi (by omega))
  · simp only [] at h2
    rcases key id d hd with e | e | ⟨j, s', hj, e⟩ | ⟨s', hs, e⟩
    · rw [e]; have := lv_late.1 e; exact lv_late.2 (by omega)
    · rw [e]; exact lv_above_far e h1 hi k2 (Int.le_of_lt h2)
    · rw [e]; exact lv_above e h1 hj k2 (Int.le_of_lt h2)
    · rw [e]
      refine lv_wait e h1 ?_
      by_cases hne : s = s'
      · subst hne; exact h2
      · have := beg_lt (now := t.now) hi (show s < s' by omega)
        omega
  · have h1 := (hl.mem id).1 hid
    cases hd : D id with
    | some d => exact ⟨d, rfl⟩
    | none =>
      exfalso
      unfold posOf at h1
      rw [hc.h id, hd] at h1
      cases h1
def blkF (es : List (Nat × Int × Int)) (id : Int) : Int := dueOf es id / 16777216 * 16777216
def minF (es : List (Nat × Int × Int)) (vis : Es Bool) : Int := vis.foldl (fun a e => if blkF es e.2.1 < a then blkF es e.2.1 else a) 2199023255552
def getF (es : List (Nat × Int × Int)) (at_ : Int) (vis : Es Bool) : List Int := (vis.filter fun e => decide (blkF es e.2.1 = at_)).map (·.2.1)
theorem due_rng {t : Tm} {D : Int → Option Int} {P : Int → Option Pl} (h : TRel t D P) (id : Int) : 0 ≤ dueOf t.due id ∧ dueOf t.due id ≤ 1099511627776 := by
  unfold dueOf; rw [h.dget]
  cases hd : D id with
  | none => simp
  | some d => have := h.dom id d hd; simp only [Option.getD_some]; omega
theorem blkW {d : Int} (h0 : 0 ≤ d) (h1 : d ≤ 1099511627776) : IntKind.i64.wrap (d.fdiv (2 ^ 24) * 2 ^ 24) = d / 16777216 * 16777216 := by
  rw [fdivI d 24 16777216 (by decide) (by decide), show (2 : Int) ^ 24 = 16777216 by decide, Wh.wr (by omega)]
theorem KRel.len {es : Ks} {c : Nat} {p : Int → Prop} (h : KRel es c p) (hp : ∀ id, p id → 0 ≤ id ∧ id ≤ 1048575) : es.length ≤ 1048576 := by
  have := nodup_lenI (n := 1048576) h.nd (fun x hx => by have := hp x ((h.mem x).1 hx); omega)
  simpa [keysH] using this
theorem minF_le (es : List (Nat × Int × Int)) : ∀ (vis : Es Bool) (a : Int), (vis.foldl (fun a e => if blkF es e.2.1 < a then blkF es e.2.1 else a) a ≤ a) ∧ ∀ e ∈ vis, vis.foldl (fun a e => if blkF es e.2.1 < a then blkF es e.2.1 else a) a ≤ blkF es e.2.1
  | [], a => ⟨Int.le_refl _, fun _ h => by cases h⟩
  | x :: r, a => by
    obtain ⟨h1, h2⟩ := minF_le es r (if blkF es x.2.1 < a then blkF es x.2.1 else a)
    refine ⟨Int.le_trans h1 (by split <;> omega), fun e he => ?_⟩
    rcases List.mem_cons.1 he with h | h
    · subst h; exact Int.le_trans h1 (by split <;> omega)
    · exact h2 e h
theorem minF_or (es : List (Nat × Int × Int)) : ∀ (vis : Es Bool) (a : Int), vis.foldl (fun a e => if blkF es e.2.1 < a then blkF es e.2.1 else a) a = a ∨ ∃ e ∈ vis, vis.foldl (fun a e => if blkF es e.2.1 < a then blkF es e.2.1 else a) a = blkF es e.2.1
  | [], a => .inl rfl
  | x :: r, a => by
    rcases minF_or es r (if blkF es x.2.1 < a then blkF es x.2.1 else a) with h | ⟨e, he, h⟩
    · simp only [List.foldl_cons]
      by_cases hx : blkF es x.2.1 < a
      · rw [if_pos hx] at h ⊢; exact .inr ⟨x, List.mem_cons_self .., h⟩
      · rw [if_neg hx] at h ⊢; exact .inl h
    · exact .inr ⟨e, List.mem_cons_of_mem _ he, h⟩
theorem stop_far {t : Tm} {D : Int → Option Int} {P : Int → Option Pl} (hc : Can t.now D P) (h : TRel t D P) (g : ∀ j, j < 4 → ∀ id s, P id ≠ some (.row j s)) {vis vis2 : Es Bool} (hv2 : Vis t.far vis2) {n m : Int} (hat : minF t.due vis = m)
    (ha : ∀ e, e ∈ vis ↔ e ∈ t.far) (ha2 : ∀ e, e ∈ vis2 ↔ e ∈ t.far) (hlen : t.far.length ≤ 1048576) : StopOf t.now D (m, n, getF t.due m vis2) := by
  obtain ⟨hn0, hn1⟩ := h.now0
  have hfar : ∀ id, (∃ e ∈ t.far, e.2.1 = id) ↔ P id = some .far := fun id => by
    rw [← h.far.mem id]; unfold keysH; simp only [List.mem_map]
  have hd : ∀ e ∈ t.far, ∃ d, D e.2.1 = some d ∧ lv t.now d = .far ∧ dueOf t.due e.2.1 = d := fun e he => by
    have hp := (hfar e.2.1).1 ⟨e, he, rfl⟩
    have h1 := hc.h e.2.1
    rw [hp] at h1
    cases hd : D e.2.1 with
    | none => rw [hd] at h1; cases h1
    | some d => rw [hd] at h1; exact ⟨d, rfl, (Option.some.inj h1).symm, by unfold dueOf; rw [h.dget, hd]; rfl⟩
  have hmin := minF_le t.due vis 2199023255552
  have hle : ∀ e ∈ t.far, m ≤ blkF t.due e.2.1 := fun e he => by rw [← hat]; exact hmin.2 e ((ha e).2 he)
  have hgt : t.now < m := by
    rcases minF_or t.due vis 2199023255552 with h1 | ⟨e, he, h1⟩
    · have : m = 2199023255552 := by rw [← hat]; exact h1
      omega
    · have h2 : m = blkF t.due e.2.1 := by rw [← hat]; exact h1
      obtain ⟨d, _, h3, h4⟩ := hd e ((ha e).1 he)
      rw [h2]; unfold blkF; rw [h4]
      have := lv_far h3
      omega
  have key : ∀ id d, D id = some d → lv t.now d = .late ∨ (lv t.now d = .far ∧ ∃ e ∈ t.far, e.2.1 = id ∧ dueOf t.due id = d) := fun id d hd' => by
    have hp := hc.pl hd'
    cases hlv : lv t.now d with
    | late => exact .inl rfl
    | row j s => rw [hlv] at hp; exact (g j (lv_row hlv).2.1 id s hp).elim
    | far =>
      rw [hlv] at hp
      obtain ⟨e, he, h1⟩ := (hfar id).2 hp
      exact .inr ⟨rfl, e, he, h1, by unfold dueOf; rw [h.dget, hd']; rfl⟩
  refine ⟨hgt, fun id d hd' hni => ?_, fun to id d h1 h2 hd' => ?_, fun id hid => ?_, ?_, ?_⟩
  · rcases key id d hd' with e | ⟨e, en, he, h1, h2⟩
    · rw [e]; have := lv_late.1 e; exact lv_late.2 (by simp only []; omega)
    · rw [e]
      have h3 := hle en he
      have h4 : blkF t.due en.2.1 ≠ m := fun h5 => hni (List.mem_map.2 ⟨en, List.mem_filter.2 ⟨(ha2 en).2 he, by simpa using h5⟩, h1⟩)
      unfold blkF at h3 h4
      rw [h1, h2] at h3 h4
      exact lv_wait_far e (Int.le_of_lt hgt) (by simp only []; omega)
  · simp only [] at h2
    rcases key id d hd' with e | ⟨e, en, he, h3, h4⟩
    · rw [e]; have := lv_late.1 e; exact lv_late.2 (by omega)
    · rw [e]
      have h5 := hle en he
      unfold blkF at h5
      rw [h3, h4] at h5
      exact lv_wait_far e h1 (by omega)
  · obtain ⟨e, he, rfl⟩ := List.mem_map.1 hid
    obtain ⟨d, h1, _⟩ := hd e ((ha2 e).1 (List.mem_filter.1 he).1)
    exact ⟨d, h1⟩
  · have := hv2.keys h.far.nd
    exact this.sublist (List.filter_sublist.map _)
  · have h1 := hv2.len
    have h2 := List.length_filter_le (fun e : Nat × Int × Bool => decide (blkF t.due e.2.1 = m)) vis2
    unfold getF
    simp only [List.length_map]
    omega
theorem stopM (t : Tm) (D : Int → Option Int) (P : Int → Option Pl) (h : TRel t D P) (hc : Can t.now D P) : Meets Try.prog 28 [.ptr 0 0] (chT t) (Y := Int × Int × List Int)
    (StopOf t.now D) (fun y => .tup [.int .i64 fun _ => y.1, .int .i64 fun _ => y.2.1, .lst (.int .i64) fun _ => y.2.2]) (fun _ => chT t) := by
  obtain ⟨hn0, hn1⟩ := h.now0
  have hfl : t.far.length ≤ 1048576 := h.far.len fun id hp => by
    have h1 := hc.h id
    rw [hp] at h1
    cases hd : D id with
    | none => rw [hd] at h1; cases h1
    | some d => have := h.dom id d hd; omega
  refine Meets.intro hm (fn := Try.f28) Try.func28 rfl (by decide) (Nat.le_of_ble_eq_true rfl) (fun _ => rfl) ?_; intro S hok; (conv => whnf)
  (repeat' ((conv => whnf); first | apply And.intro | exact ⟨by kernel_rfl⟩ | apply DrawN.mk | apply CodeN.step hm rfl | exact trivial | exact rfl | (intro hh; try simp only [bs] at hh; try exact absurd hh (by decide)))); all_goals (conv => whnf)
  refine LoopN.intro hm (X := Nat) (fun i => i ≤ 4 ∧ ∀ j, j < i → ∀ id s, P id ≠ some (.row j s)) (fun i => 4 - i)
    (fun i => [(0, .ptr 0 0), (2, .int .i64 fun _ => 0), (3, .int .i64 fun _ => 0), (4, .snil), (18, WA), (19, .int .i64 fun _ => (i : Int))])
    (fun _ => chT t) 0 [0, 1, 2, 3, 4, 5, 6, 7] ⟨rfl, rfl, ?_, ?_⟩ ⟨by omega, fun j hj => by omega⟩ ?_
  · (repeat' ((conv => whnf) <;> first | exact rfl | exact trivial | exact Fw.Hp.like_refl _ | apply And.intro | exact Nat.zero_add _))
  · (repeat' ((conv => whnf) <;> first | exact rfl | exact trivial | exact Fw.Hp.like_refl _ | apply And.intro | exact Nat.zero_add _)); all_goals ((conv => whnf); try simp only [])
  · rintro i ⟨hi, g⟩
    obtain rfl | rfl | rfl | rfl | rfl : i = 0 ∨ i = 1 ∨ i = 2 ∨ i = 3 ∨ i = 4 := by omega
    · (repeat' ((conv => whnf); first | apply And.intro | exact ⟨by kernel_rfl⟩ | apply DrawN.mk | apply CodeN.step hm rfl | exact trivial | exact rfl | (intro hh; try simp only [bs] at hh; try exact absurd hh (by decide)))); all_goals (conv => whnf)
      · exact ⟨by simp⟩
      · exact ⟨by decide⟩
      have e2 : t.now.fdiv (2 ^ (6 * 0)) = t.now / 1 := fdivI t.now (6 * 0) 1 (by decide) (by decide)
      have e := andI (x := t.now / 1) (by omega) (by omega)
      refine CallN.intro (nextWM t.w0 (posOf P 0) h.w0 (t.now / 1 % 64 + 1).toNat (by omega)) [4] rfl rfl ?_ ?_ (fun y hy => ?_)
      · (repeat' ((conv => whnf) <;> first | exact rfl | exact trivial | exact Fw.Hp.like_refl _ | apply And.intro | exact Nat.zero_add _)); all_goals ((conv => whnf); try simp only [])
        refine (congrArg (fun z => IntKind.i64.wrap (IntKind.i64.wrap ((BitVec.ofInt IntKind.i64.bits z &&& BitVec.ofInt IntKind.i64.bits 63).toNat : Int) + 1)) e2).trans ?_
        rw [e, Wh.wr (by omega)]; omega
      · (repeat' ((conv => whnf) <;> first | exact rfl | exact trivial | exact Fw.Hp.like_refl _ | apply And.intro | exact Nat.zero_add _))
      cases y with
      | none =>
        (repeat' ((conv => whnf); first | apply And.intro | exact ⟨by kernel_rfl⟩ | apply DrawN.mk | apply CodeN.step hm rfl | exact trivial | exact rfl | (intro hh; try simp only [bs] at hh; try exact absurd hh (by decide)))); all_goals (conv => whnf)
        refine ⟨0 + 1, [0, 1, 2, 3, 4, 5, 6, 7], ⟨rfl, rfl, ?_, ?_⟩, ⟨by omega, fun j hj id s => ?_⟩, by omega⟩
        · (repeat' ((conv => whnf) <;> first | exact rfl | exact trivial | exact Fw.Hp.like_refl _ | apply And.intro | exact Nat.zero_add _))
        · (repeat' ((conv => whnf) <;> first | exact rfl | exact trivial | exact Fw.Hp.like_refl _ | apply And.intro | exact Nat.zero_add _))
        · by_cases hj2 : j = 0
          · subst hj2
            exact no_row hc (f := (t.now / 1 % 64 + 1).toNat) (by simp only [dig]; omega) hy id s
          · exact g j (by omega) id s
      | some s =>
        have hf : (((t.now / 1 % 64 + 1).toNat : Nat) : Int) = dig 0 t.now + 1 := by simp only [dig]; omega
        obtain ⟨k1, k2, k3, k4⟩ := hy.some_ s rfl
        (repeat' ((conv => whnf); first | apply And.intro | exact ⟨by kernel_rfl⟩ | apply DrawN.mk | apply CodeN.step hm rfl | exact trivial | exact rfl | (intro hh; try simp only [bs] at hh; try exact absurd hh (by decide)))); all_goals (conv => whnf)
        all_goals first | (exfalso; simp at hh; done) | skip
        · exact ⟨by decide⟩
        · exact ⟨by decide⟩
        · exact ⟨by decide⟩
        (refine CallN.q (rowM t.w0 (posOf P 0) h.w0 s k2) [4] ?_; rintro l hl; (repeat' ((conv => whnf); first | apply And.intro | exact ⟨by kernel_rfl⟩ | apply DrawN.mk | apply CodeN.step hm rfl | exact trivial | exact rfl | (intro hh; try simp only [bs] at hh; try exact absurd hh (by decide)))); all_goals (conv => whnf); all_goals try exact ⟨by decide⟩)
        (refine RetN.q (beg 0 t.now s, 0, l) [0, 1, 2, 3, 4, 5, 6, 7] ?_ ?_ ?_ <;> (repeat' ((conv => whnf) <;> first | exact rfl | exact trivial | exact Fw.Hp.like_refl _ | apply And.intro | exact Nat.zero_add _)); all_goals ((conv => whnf); try simp only []))
        · have p1 : (2 : Int) ^ (6 * 0 + 6) = 64 := by decide
          have p2 : (2 : Int) ^ (6 * 0) = 1 := by decide
          have e3 : IntKind.i64.wrap (t.now.fdiv (2 ^ (6 * 0 + 6)) * 2 ^ (6 * 0 + 6)) = t.now / 64 * 64 := by
            rw [fdivI t.now (6 * 0 + 6) 64 p1 (by decide), p1, Wh.wr (by omega)]
          have e4 : IntKind.i64.wrap (((some s).getD 0 : Nat) * 2 ^ (6 * 0)) = (s : Int) * 1 := by
            rw [p2, show (some s).getD 0 = s from rfl, Wh.wr (by omega)]
          exact (congr (congrArg (fun z w => IntKind.i64.wrap ((BitVec.ofInt IntKind.i64.bits z ||| BitVec.ofInt IntKind.i64.bits w).toNat : Int)) e3) e4).trans (orI (6 * 0 + 6) 64 (t.now / 64) p1 (by decide) (by omega) (by omega) (by omega) (by omega))
        · exact stop_row hc h (by omega) g hf hy hl
    · (repeat' ((conv => whnf); first | apply And.intro | exact ⟨by kernel_rfl⟩ | apply DrawN.mk | apply CodeN.step hm rfl | exact trivial | exact rfl | (intro hh; try simp only [bs] at hh; try exact absurd hh (by decide)))); all_goals (conv => whnf)
      · exact ⟨by simp⟩
      · exact ⟨by decide⟩
      have e2 : t.now.fdiv (2 ^ (6 * 1)) = t.now / 64 := fdivI t.now (6 * 1) 64 (by decide) (by decide)
      have e := andI (x := t.now / 64) (by omega) (by omega)
      refine CallN.intro (nextWM t.w1 (posOf P 1) h.w1 (t.now / 64 % 64 + 1).toNat (by omega)) [5] rfl rfl ?_ ?_ (fun y hy => ?_)
      · (repeat' ((conv => whnf) <;> first | exact rfl | exact trivial | exact Fw.Hp.like_refl _ | apply And.intro | exact Nat.zero_add _)); all_goals ((conv => whnf); try simp only [])
        refine (congrArg (fun z => IntKind.i64.wrap (IntKind.i64.wrap ((BitVec.ofInt IntKind.i64.bits z &&& BitVec.ofInt IntKind.i64.bits 63).toNat : Int) + 1)) e2).trans ?_
        rw [e, Wh.wr (by omega)]; omega
      · (repeat' ((conv => whnf) <;> first | exact rfl | exact trivial | exact Fw.Hp.like_refl _ | apply And.intro | exact Nat.zero_add _))
      cases y with
      | none =>
        (repeat' ((conv => whnf); first | apply And.intro | exact ⟨by kernel_rfl⟩ | apply DrawN.mk | apply CodeN.step hm rfl | exact trivial | exact rfl | (intro hh; try simp only [bs] at hh; try exact absurd hh (by decide)))); all_goals (conv => whnf)
        refine ⟨1 + 1, [0, 1, 2, 3, 4, 5, 6, 7], ⟨rfl, rfl, ?_, ?_⟩, ⟨by omega, fun j hj id s => ?_⟩, by omega⟩
        · (repeat' ((conv => whnf) <;> first | exact rfl | exact trivial | exact Fw.Hp.like_refl _ | apply And.intro | exact Nat.zero_add _))
        · (repeat' ((conv => whnf) <;> first | exact rfl | exact trivial | exact Fw.Hp.like_refl _ | apply And.intro | exact Nat.zero_add _))
        · by_cases hj2 : j = 1
          · subst hj2
            exact no_row hc (f := (t.now / 64 % 64 + 1).toNat) (by simp only [dig]; omega) hy id s
          · exact g j (by omega) id s
      | some s =>
        have hf : (((t.now / 64 % 64 + 1).toNat : Nat) : Int) = dig 1 t.now + 1 := by simp only [dig]; omega
        obtain ⟨k1, k2, k3, k4⟩ := hy.some_ s rfl
        (repeat' ((conv => whnf); first | apply And.intro | exact ⟨by kernel_rfl⟩ | apply DrawN.mk | apply CodeN.step hm rfl | exact trivial | exact rfl | (intro hh; try simp only [bs] at hh; try exact absurd hh (by decide)))); all_goals (conv => whnf)
        all_goals first | (exfalso; simp at hh; done) | skip
        · exact ⟨by decide⟩
        · exact ⟨by decide⟩
        · exact ⟨by decide⟩
        (refine CallN.q (rowM t.w1 (posOf P 1) h.w1 s k2) [5] ?_; rintro l hl; (repeat' ((conv => whnf); first | apply And.intro | exact ⟨by kernel_rfl⟩ | apply DrawN.mk | apply CodeN.step hm rfl | exact trivial | exact rfl | (intro hh; try simp only [bs] at hh; try exact absurd hh (by decide)))); all_goals (conv => whnf); all_goals try exact ⟨by decide⟩)
        (refine RetN.q (beg 1 t.now s, 1, l) [0, 1, 2, 3, 4, 5, 6, 7] ?_ ?_ ?_ <;> (repeat' ((conv => whnf) <;> first | exact rfl | exact trivial | exact Fw.Hp.like_refl _ | apply And.intro | exact Nat.zero_add _)); all_goals ((conv => whnf); try simp only []))
        · have p1 : (2 : Int) ^ (6 * 1 + 6) = 4096 := by decide
          have p2 : (2 : Int) ^ (6 * 1) = 64 := by decide
          have e3 : IntKind.i64.wrap (t.now.fdiv (2 ^ (6 * 1 + 6)) * 2 ^ (6 * 1 + 6)) = t.now / 4096 * 4096 := by
            rw [fdivI t.now (6 * 1 + 6) 4096 p1 (by decide), p1, Wh.wr (by omega)]
          have e4 : IntKind.i64.wrap (((some s).getD 0 : Nat) * 2 ^ (6 * 1)) = (s : Int) * 64 := by
            rw [p2, show (some s).getD 0 = s from rfl, Wh.wr (by omega)]
          exact (congr (congrArg (fun z w => IntKind.i64.wrap ((BitVec.ofInt IntKind.i64.bits z ||| BitVec.ofInt IntKind.i64.bits w).toNat : Int)) e3) e4).trans (orI (6 * 1 + 6) 4096 (t.now / 4096) p1 (by decide) (by omega) (by omega) (by omega) (by omega))
        · exact stop_row hc h (by omega) g hf hy hl
    · (repeat' ((conv => whnf); first | apply And.intro | exact ⟨by kernel_rfl⟩ | apply DrawN.mk | apply CodeN.step hm rfl | exact trivial | exact rfl | (intro hh; try simp only [bs] at hh; try exact absurd hh (by decide)))); all_goals (conv => whnf)
      · exact ⟨by simp⟩
      · exact ⟨by decide⟩
      have e2 : t.now.fdiv (2 ^ (6 * 2)) = t.now / 4096 := fdivI t.now (6 * 2) 4096 (by decide) (by decide)
      have e := andI (x := t.now / 4096) (by omega) (by omega)
      refine CallN.intro (nextWM t.w2 (posOf P 2) h.w2 (t.now / 4096 % 64 + 1).toNat (by omega)) [6] rfl rfl ?_ ?_ (fun y hy => ?_)
      · (repeat' ((conv => whnf) <;> first | exact rfl | exact trivial | exact Fw.Hp.like_refl _ | apply And.intro | exact Nat.zero_add _)); all_goals ((conv => whnf); try simp only [])
        refine (congrArg (fun z => IntKind.i64.wrap (IntKind.i64.wrap ((BitVec.ofInt IntKind.i64.bits z &&& BitVec.ofInt IntKind.i64.bits 63).toNat : Int) + 1)) e2).trans ?_
        rw [e, Wh.wr (by omega)]; omega
      · (repeat' ((conv => whnf) <;> first | exact rfl | exact trivial | exact Fw.Hp.like_refl _ | apply And.intro | exact Nat.zero_add _))
      cases y with
      | none =>
        (repeat' ((conv => whnf); first | apply And.intro | exact ⟨by kernel_rfl⟩ | apply DrawN.mk | apply CodeN.step hm rfl | exact trivial | exact rfl | (intro hh; try simp only [bs] at hh; try exact absurd hh (by decide)))); all_goals (conv => whnf)
        refine ⟨2 + 1, [0, 1, 2, 3, 4, 5, 6, 7], ⟨rfl, rfl, ?_, ?_⟩, ⟨by omega, fun j hj id s => ?_⟩, by omega⟩
        · (repeat' ((conv => whnf) <;> first | exact rfl | exact trivial | exact Fw.Hp.like_refl _ | apply And.intro | exact Nat.zero_add _))
        · (repeat' ((conv => whnf) <;> first | exact rfl | exact trivial | exact Fw.Hp.like_refl _ | apply And.intro | exact Nat.zero_add _))
        · by_cases hj2 : j = 2
          · subst hj2
            exact no_row hc (f := (t.now / 4096 % 64 + 1).toNat) (by simp only [dig]; omega) hy id s
          · exact g j (by omega) id s
      | some s =>
        have hf : (((t.now / 4096 % 64 + 1).toNat : Nat) : Int) = dig 2 t.now + 1 := by simp only [dig]; omega
        obtain ⟨k1, k2, k3, k4⟩ := hy.some_ s rfl
        (repeat' ((conv => whnf); first | apply And.intro | exact ⟨by kernel_rfl⟩ | apply DrawN.mk | apply CodeN.step hm rfl | exact trivial | exact rfl | (intro hh; try simp only [bs] at hh; try exact absurd hh (by decide)))); all_goals (conv => whnf)
        all_goals first | (exfalso; simp at hh; done) | skip
        · exact ⟨by decide⟩
        · exact ⟨by decide⟩
        · exact ⟨by decide⟩
        (refine CallN.q (rowM t.w2 (posOf P 2) h.w2 s k2) [6] ?_; rintro l hl; (repeat' ((conv => whnf); first | apply And.intro | exact ⟨by kernel_rfl⟩ | apply DrawN.mk | apply CodeN.step hm rfl | exact trivial | exact rfl | (intro hh; try simp only [bs] at hh; try exact absurd hh (by decide)))); all_goals (conv => whnf); all_goals try exact ⟨by decide⟩)
        (refine RetN.q (beg 2 t.now s, 2, l) [0, 1, 2, 3, 4, 5, 6, 7] ?_ ?_ ?_ <;> (repeat' ((conv => whnf) <;> first | exact rfl | exact trivial | exact Fw.Hp.like_refl _ | apply And.intro | exact Nat.zero_add _)); all_goals ((conv => whnf); try simp only []))
        · have p1 : (2 : Int) ^ (6 * 2 + 6) = 262144 := by decide
          have p2 : (2 : Int) ^ (6 * 2) = 4096 := by decide
          have e3 : IntKind.i64.wrap (t.now.fdiv (2 ^ (6 * 2 + 6)) * 2 ^ (6 * 2 + 6)) = t.now / 262144 * 262144 := by
            rw [fdivI t.now (6 * 2 + 6) 262144 p1 (by decide), p1, Wh.wr (by omega)]
          have e4 : IntKind.i64.wrap (((some s).getD 0 : Nat) * 2 ^ (6 * 2)) = (s : Int) * 4096 := by
            rw [p2, show (some s).getD 0 = s from rfl, Wh.wr (by omega)]
          exact (congr (congrArg (fun z w => IntKind.i64.wrap ((BitVec.ofInt IntKind.i64.bits z ||| BitVec.ofInt IntKind.i64.bits w).toNat : Int)) e3) e4).trans (orI (6 * 2 + 6) 262144 (t.now / 262144) p1 (by decide) (by omega) (by omega) (by omega) (by omega))
        · exact stop_row hc h (by omega) g hf hy hl
    · (repeat' ((conv => whnf); first | apply And.intro | exact ⟨by kernel_rfl⟩ | apply DrawN.mk | apply CodeN.step hm rfl | exact trivial | exact rfl | (intro hh; try simp only [bs] at hh; try exact absurd hh (by decide)))); all_goals (conv => whnf)
      · exact ⟨by simp⟩
      · exact ⟨by decide⟩
      have e2 : t.now.fdiv (2 ^ (6 * 3)) = t.now / 262144 := fdivI t.now (6 * 3) 262144 (by decide) (by decide)
      have e := andI (x := t.now / 262144) (by omega) (by omega)
      refine CallN.intro (nextWM t.w3 (posOf P 3) h.w3 (t.now / 262144 % 64 + 1).toNat (by omega)) [7] rfl rfl ?_ ?_ (fun y hy => ?_)
      · (repeat' ((conv => whnf) <;> first | exact rfl | exact trivial | exact Fw.Hp.like_refl _ | apply And.intro | exact Nat.zero_add _)); all_goals ((conv => whnf); try simp only [])
        refine (congrArg (fun z => IntKind.i64.wrap (IntKind.i64.wrap ((BitVec.ofInt IntKind.i64.bits z &&& BitVec.ofInt IntKind.i64.bits 63).toNat : Int) + 1)) e2).trans ?_
        rw [e, Wh.wr (by omega)]; omega
      · (repeat' ((conv => whnf) <;> first | exact rfl | exact trivial | exact Fw.Hp.like_refl _ | apply And.intro | exact Nat.zero_add _))
      cases y with
      | none =>
        (repeat' ((conv => whnf); first | apply And.intro | exact ⟨by kernel_rfl⟩ | apply DrawN.mk | apply CodeN.step hm rfl | exact trivial | exact rfl | (intro hh; try simp only [bs] at hh; try exact absurd hh (by decide)))); all_goals (conv => whnf)
        refine ⟨3 + 1, [0, 1, 2, 3, 4, 5, 6, 7], ⟨rfl, rfl, ?_, ?_⟩, ⟨by omega, fun j hj id s => ?_⟩, by omega⟩
        · (repeat' ((conv => whnf) <;> first | exact rfl | exact trivial | exact Fw.Hp.like_refl _ | apply And.intro | exact Nat.zero_add _))
        · (repeat' ((conv => whnf) <;> first | exact rfl | exact trivial | exact Fw.Hp.like_refl _ | apply And.intro | exact Nat.zero_add _))
        · by_cases hj2 : j = 3
          · subst hj2
            exact no_row hc (f := (t.now / 262144 % 64 + 1).toNat) (by simp only [dig]; omega) hy id s
          · exact g j (by omega) id s
      | some s =>
        have hf : (((t.now / 262144 % 64 + 1).toNat : Nat) : Int) = dig 3 t.now + 1 := by simp only [dig]; omega
        obtain ⟨k1, k2, k3, k4⟩ := hy.some_ s rfl
        (repeat' ((conv => whnf); first | apply And.intro | exact ⟨by kernel_rfl⟩ | apply DrawN.mk | apply CodeN.step hm rfl | exact trivial | exact rfl | (intro hh; try simp only [bs] at hh; try exact absurd hh (by decide)))); all_goals (conv => whnf)
        all_goals first | (exfalso; simp at hh; done) | skip
        · exact ⟨by decide⟩
        · exact ⟨by decide⟩
        · exact ⟨by decide⟩
        (refine CallN.q (rowM t.w3 (posOf P 3) h.w3 s k2) [7] ?_; rintro l hl; (repeat' ((conv => whnf); first | apply And.intro | exact ⟨by kernel_rfl⟩ | apply DrawN.mk | apply CodeN.step hm rfl | exact trivial | exact rfl | (intro hh; try simp only [bs] at hh; try exact absurd hh (by decide)))); all_goals (conv => whnf); all_goals try exact ⟨by decide⟩)
        (refine RetN.q (beg 3 t.now s, 3, l) [0, 1, 2, 3, 4, 5, 6, 7] ?_ ?_ ?_ <;> (repeat' ((conv => whnf) <;> first | exact rfl | exact trivial | exact Fw.Hp.like_refl _ | apply And.intro | exact Nat.zero_add _)); all_goals ((conv => whnf); try simp only []))
        · have p1 : (2 : Int) ^ (6 * 3 + 6) = 16777216 := by decide
          have p2 : (2 : Int) ^ (6 * 3) = 262144 := by decide
          have e3 : IntKind.i64.wrap (t.now.fdiv (2 ^ (6 * 3 + 6)) * 2 ^ (6 * 3 + 6)) = t.now / 16777216 * 16777216 := by
            rw [fdivI t.now (6 * 3 + 6) 16777216 p1 (by decide), p1, Wh.wr (by omega)]
          have e4 : IntKind.i64.wrap (((some s).getD 0 : Nat) * 2 ^ (6 * 3)) = (s : Int) * 262144 := by
            rw [p2, show (some s).getD 0 = s from rfl, Wh.wr (by omega)]
          exact (congr (congrArg (fun z w => IntKind.i64.wrap ((BitVec.ofInt IntKind.i64.bits z ||| BitVec.ofInt IntKind.i64.bits w).toNat : Int)) e3) e4).trans (orI (6 * 3 + 6) 16777216 (t.now / 16777216) p1 (by decide) (by omega) (by omega) (by omega) (by omega))
        · exact stop_row hc h (by omega) g hf hy hl
    · (repeat' ((conv => whnf); first | apply And.intro | exact ⟨by kernel_rfl⟩ | apply DrawN.mk | apply CodeN.step hm rfl | exact trivial | exact rfl | (intro hh; try simp only [bs] at hh; try exact absurd hh (by decide)))); all_goals (conv => whnf)
      refine .mk ⟨_, _, _, _, rfl, rfl, ?_⟩
      (repeat' ((conv => whnf); first | apply And.intro | exact ⟨by kernel_rfl⟩ | apply DrawN.mk | apply CodeN.step hm rfl | exact trivial | exact rfl | (intro hh; try simp only [bs] at hh; try exact absurd hh (by decide)))); all_goals (conv => whnf)
      refine LoopN.intro hm (X := Es Bool) (Vis t.far) (fun vis => t.far.length - vis.length)
        (fun vis => [(0, .ptr 0 0), (2, .int .i64 fun _ => 0), (3, .int .i64 fun _ => 0), (4, .snil), (10, .int .i64 fun _ => 24), (11, .int .i64 fun _ => minF t.due vis), (62, .ptr 8 0)])
        (fun vis => chT t ++ [.mit (.hm 2 fun _ => 0) t.fc t.fc fun _ => bornH vis]) [] [0, 1, 2, 3, 4, 5, 6, 7, 8] ⟨rfl, rfl, ?_, ?_⟩ (Vis.nil _) ?_
      · (repeat' ((conv => whnf) <;> first | exact rfl | exact trivial | exact Fw.Hp.like_refl _ | apply And.intro | exact Nat.zero_add _))
      · (repeat' ((conv => whnf) <;> first | exact rfl | exact trivial | exact Fw.Hp.like_refl _ | apply And.intro | exact Nat.zero_add _)); all_goals ((conv => whnf); try simp only [])
      intro vis hv
      (repeat' ((conv => whnf); first | apply And.intro | exact ⟨by kernel_rfl⟩ | apply DrawN.mk | apply CodeN.step hm rfl | exact trivial | exact rfl | (intro hh; try simp only [bs] at hh; try exact absurd hh (by decide)))); all_goals (conv => whnf)
      refine nxMap (fun b => HV.dat .bool b) (es := t.far) (vis := vis) rfl h.far.lt (fun hall => ?_) (fun b n v hmem hb => ?_)
      rotate_left
      · (repeat' ((conv => whnf); first | apply And.intro | exact ⟨by kernel_rfl⟩ | apply DrawN.mk | apply CodeN.step hm rfl | exact trivial | exact rfl | (intro hh; try simp only [bs] at hh; try exact absurd hh (by decide)))); all_goals (conv => whnf)
        refine enMap (fun b => HV.dat .bool b) (es := t.far) (vis := vis) rfl h.far.bnd hmem ?_
        (repeat' ((conv => whnf); first | apply And.intro | exact ⟨by kernel_rfl⟩ | apply DrawN.mk | apply CodeN.step hm rfl | exact trivial | exact rfl | (intro hh; try simp only [bs] at hh; try exact absurd hh (by decide)))); all_goals (conv => whnf)
        refine lkDue rfl rfl ?_
        (repeat' ((conv => whnf); first | apply And.intro | exact ⟨by kernel_rfl⟩ | apply DrawN.mk | apply CodeN.step hm rfl | exact trivial | exact rfl | (intro hh; try simp only [bs] at hh; try exact absurd hh (by decide)))); all_goals (conv => whnf)
        · exact ⟨by decide⟩
        · exact ⟨by decide⟩
        obtain ⟨q0, q1⟩ := due_rng h n
        have hbl : IntKind.i64.wrap ((dueOf t.due n).fdiv (2 ^ 24) * 2 ^ 24) = blkF t.due n := blkW q0 q1
        refine ⟨vis ++ [(b, n, v)], [0, 1, 2, 3, 4, 5, 6, 7, 8], ⟨rfl, rfl, ?_, ?_⟩, hv.add hmem hb, ?_⟩
        · (repeat' ((conv => whnf) <;> first | exact rfl | exact trivial | exact Fw.Hp.like_refl _ | apply And.intro | exact Nat.zero_add _))
        · (repeat' ((conv => whnf) <;> first | exact rfl | exact trivial | exact Fw.Hp.like_refl _ | apply And.intro | exact Nat.zero_add _)); all_goals ((conv => whnf); try simp only [])
          unfold minF
          rw [List.foldl_append]
          exact congrArg (fun z => if z < minF t.due vis then z else minF t.due vis) hbl
        · have := hv.len_lt hmem hb
          simp only [List.length_append, List.length_cons, List.length_nil]; omega
      · (repeat' ((conv => whnf); first | apply And.intro | exact ⟨by kernel_rfl⟩ | apply DrawN.mk | exact trivial | exact rfl | (intro hh; try simp only [bs] at hh))); all_goals (conv => whnf)
        (apply CodeN.step hm rfl; (repeat' ((conv => whnf); first | apply And.intro | exact ⟨by kernel_rfl⟩ | apply DrawN.mk | exact trivial | exact rfl | (intro hh; try simp only [bs] at hh))); all_goals (conv => whnf))
        (apply CodeN.step hm rfl; (repeat' ((conv => whnf); first | apply And.intro | exact ⟨by kernel_rfl⟩ | apply DrawN.mk | exact trivial | exact rfl | (intro hh; try simp only [bs] at hh))); all_goals (conv => whnf))
        refine CodeN.nil 3 (.int .i64) none [13] ?_
        (conv => whnf)
        (repeat' ((conv => whnf); first | apply And.intro | exact ⟨by kernel_rfl⟩ | apply DrawN.mk | apply CodeN.step hm rfl | exact trivial | exact rfl | (intro hh; try simp only [bs] at hh; try exact absurd hh (by decide)))); all_goals (conv => whnf)
        refine .mk ⟨_, _, _, _, rfl, rfl, ?_⟩
        (repeat' ((conv => whnf); first | apply And.intro | exact ⟨by kernel_rfl⟩ | apply DrawN.mk | apply CodeN.step hm rfl | exact trivial | exact rfl | (intro hh; try simp only [bs] at hh; try exact absurd hh (by decide)))); all_goals (conv => whnf)
        generalize hat : minF t.due vis = m
        refine LoopN.intro hm (X := Es Bool) (Vis t.far) (fun vis => t.far.length - vis.length)
          (fun vis => [(0, .ptr 0 0), (2, .int .i64 fun _ => 0), (3, .int .i64 fun _ => 0), (4, .snil), (10, .int .i64 fun _ => 24), (11, .int .i64 fun _ => m), (13, .vec 8 1 (fun _ => 0) fun _ => (getF t.due m vis).length), (83, .ptr 9 0)])
          (fun vis => chT t ++ [.vect 3 (.int .i64) fun _ => getF t.due m vis, .mit (.hm 2 fun _ => 0) t.fc t.fc fun _ => bornH vis]) [] [0, 1, 2, 3, 4, 5, 6, 7, 9, 10] ⟨rfl, rfl, ?_, ?_⟩ (Vis.nil _) ?_
        · (repeat' ((conv => whnf) <;> first | exact rfl | exact trivial | exact Fw.Hp.like_refl _ | apply And.intro | exact Nat.zero_add _))
        · (repeat' ((conv => whnf) <;> first | exact rfl | exact trivial | exact Fw.Hp.like_refl _ | apply And.intro | exact Nat.zero_add _)); all_goals ((conv => whnf); try simp only [])
        intro vis2 hv2
        (repeat' ((conv => whnf); first | apply And.intro | exact ⟨by kernel_rfl⟩ | apply DrawN.mk | apply CodeN.step hm rfl | exact trivial | exact rfl | (intro hh; try simp only [bs] at hh; try exact absurd hh (by decide)))); all_goals (conv => whnf)
        refine nxMap (fun b => HV.dat .bool b) (es := t.far) (vis := vis2) rfl h.far.lt (fun hall2 => ?_) (fun b n v hmem hb => ?_)
        rotate_left
        · (repeat' ((conv => whnf); first | apply And.intro | exact ⟨by kernel_rfl⟩ | apply DrawN.mk | apply CodeN.step hm rfl | exact trivial | exact rfl | (intro hh; try simp only [bs] at hh; try exact absurd hh (by decide)))); all_goals (conv => whnf)
          refine enMap (fun b => HV.dat .bool b) (es := t.far) (vis := vis2) rfl h.far.bnd hmem ?_
          (repeat' ((conv => whnf); first | apply And.intro | exact ⟨by kernel_rfl⟩ | apply DrawN.mk | apply CodeN.step hm rfl | exact trivial | exact rfl | (intro hh; try simp only [bs] at hh; try exact absurd hh (by decide)))); all_goals (conv => whnf)
          obtain ⟨q0, q1⟩ := due_rng h n
          have hbl : IntKind.i64.wrap ((dueOf t.due n).fdiv (2 ^ 24) * 2 ^ 24) = blkF t.due n := blkW q0 q1
          have hll := hv2.len_lt hmem hb
          have hgl : (getF t.due m vis2).length ≤ 1048576 := by
            have h2 := List.length_filter_le (fun e : Nat × Int × Bool => decide (blkF t.due e.2.1 = m)) vis2
            unfold getF
            simp only [List.length_map]
            omega
          refine lkDue rfl rfl ?_
          (repeat' ((conv => whnf); first | apply And.intro | exact ⟨by kernel_rfl⟩ | apply DrawN.mk | apply CodeN.step hm rfl | exact trivial | exact rfl | (intro hh; try simp only [bs] at hh; try exact absurd hh (by decide)))); all_goals (conv => whnf)
          all_goals try exact ⟨by decide⟩
          · refine ⟨⟨rfl, ?_, ?_⟩⟩
            · show (getF t.due m vis2).length + 1 ≤ _
              omega
            · show ((getF t.due m vis2).length + 1) * 8 ≤ _
              omega
          · have hq : blkF t.due n = m := hbl.symm.trans hh
            have hge : getF t.due m (vis2 ++ [(b, n, v)]) = getF t.due m vis2 ++ [n] := by
              unfold getF; rw [List.filter_append, List.map_append]; simp [hq]
            refine ⟨vis2 ++ [(b, n, v)], [0, 1, 2, 3, 4, 5, 6, 7, 8, 9], ⟨rfl, rfl, ?_, ?_⟩, hv2.add hmem hb, ?_⟩
            · (repeat' ((conv => whnf) <;> first | exact rfl | exact trivial | exact Fw.Hp.like_refl _ | apply And.intro | exact Nat.zero_add _)); all_goals ((conv => whnf); try simp only [])
              rw [hge]; try simp
            · (repeat' ((conv => whnf) <;> first | exact rfl | exact trivial | exact Fw.Hp.like_refl _ | apply And.intro | exact Nat.zero_add _)); all_goals ((conv => whnf); try simp only [])
              rw [hge]; try simp
            · simp only [List.length_append, List.length_cons, List.length_nil]; omega
          · have hq : blkF t.due n ≠ m := fun e => hh (hbl.trans e)
            have hge : getF t.due m (vis2 ++ [(b, n, v)]) = getF t.due m vis2 := by
              unfold getF; rw [List.filter_append, List.map_append]; simp [hq]
            refine ⟨vis2 ++ [(b, n, v)], [0, 1, 2, 3, 4, 5, 6, 7, 8, 9], ⟨rfl, rfl, ?_, ?_⟩, hv2.add hmem hb, ?_⟩
            · (repeat' ((conv => whnf) <;> first | exact rfl | exact trivial | exact Fw.Hp.like_refl _ | apply And.intro | exact Nat.zero_add _)); all_goals ((conv => whnf); try simp only [])
              rw [hge]; try simp
            · (repeat' ((conv => whnf) <;> first | exact rfl | exact trivial | exact Fw.Hp.like_refl _ | apply And.intro | exact Nat.zero_add _)); all_goals ((conv => whnf); try simp only [])
              rw [hge]; try simp
            · simp only [List.length_append, List.length_cons, List.length_nil]; omega
        · (repeat' ((conv => whnf); first | apply And.intro | exact ⟨by kernel_rfl⟩ | apply DrawN.mk | apply CodeN.step hm rfl | exact trivial | exact rfl | (intro hh; try simp only [bs] at hh; try exact absurd hh (by decide)))); all_goals (conv => whnf)
          (refine RetN.frz 8 ?_; (conv => whnf))
          (refine RetN.q (m, 4, getF t.due m vis2) [0, 1, 2, 3, 4, 5, 6, 7] ?_ ?_ ?_ <;> (repeat' ((conv => whnf) <;> first | exact rfl | exact trivial | exact Fw.Hp.like_refl _ | apply And.intro | exact Nat.zero_add _)); all_goals ((conv => whnf); try simp only []))
          · simp
          · exact stop_far hc h g hv2 hat (hv.all h.far.bnd hall) (hv2.all h.far.bnd hall2) hfl
end Go.Proofs.Ytafcenlbllmahaa.Ti
set_option linter.unusedVariables false
set_option linter.unusedSimpArgs false
namespace Go.Proofs.Ytafcenlbllmahaa.Ti
open Go Go.RowKit Fw Wh
/-- What a client knows of a timer. -/
structure TOk (t : Tm) (now : Int) (D : Int → Option Int) : Prop where
  h : ∃ P, TRel t D P ∧ Can t.now D P
  now : t.now = now
theorem TRel.setDue {t : Tm} {D : Int → Option Int} {P : Int → Option Pl} (h : TRel t D P) {id d : Int} (hi : 0 ≤ id ∧ id ≤ 1048575) (hd : 0 ≤ d ∧ d ≤ 1099511627776) :
    TRel { t with due := putH t.due t.dc id d, dc := clkP t.due t.dc id } (updP D id (some d)) P := by
  refine ⟨h.now0, nodup_put h.dnd _ _ _, fun j => ?_, lt_put h.dlt, born_put h.dbnd h.dlt _ _, fun j e hj => ?_, h.far, h.late, h.w0, h.w1, h.w2, h.w3⟩
  · show getH (putH t.due t.dc id d) j = _
    rw [getH_put, h.dget]; rfl
  · unfold updP at hj
    split at hj
    · rename_i e2; cases hj; omega
    · exact h.dom j e hj
theorem TRel.delDue {t : Tm} {D : Int → Option Int} {P : Int → Option Pl} (h : TRel t D P) (id : Int) : TRel { t with due := delH t.due id } (updP D id none) P := by
  refine ⟨h.now0, nodup_del h.dnd _, fun j => ?_, fun e he => h.dlt e (mem_delH he), born_del h.dbnd _, fun j e hj => ?_, h.far, h.late, h.w0, h.w1, h.w2, h.w3⟩
  · show getH (delH t.due id) j = _
    rw [getH_del h.dnd, h.dget]; rfl
  · unfold updP at hj
    split at hj
    · cases hj
    · exact h.dom j e hj
theorem Can.set {now : Int} {D : Int → Option Int} {P : Int → Option Pl} (h : Can now D P) (id d : Int) : Can now (updP D id (some d)) (updP (updP P id none) id (some (lv now d))) := by
  refine .mk fun j => ?_
  unfold updP; split
  · rfl
  · exact h.h j
theorem Can.del {now : Int} {D : Int → Option Int} {P : Int → Option Pl} (h : Can now D P) (id : Int) : Can now (updP D id none) (updP P id none) := by
  refine .mk fun j => ?_
  unfold updP; split
  · rfl
  · exact h.h j
theorem setM (t : Tm) (now : Int) (D : Int → Option Int) (h : TOk t now D) (id d : Int) (hi : 0 ≤ id ∧ id ≤ 1048575) (hd : 0 ≤ d ∧ d ≤ 1099511627776) : Meets Try.prog 14 [.ptr 0 0, .int .i64 fun _ => id, .int .i64 fun _ => d] (chT t) (Y := Tm)
    (fun t' => TOk t' now (updP D id (some d))) (fun _ => .int .i64 fun _ => 0) chT := by
  obtain ⟨⟨P, hr, hc⟩, rfl⟩ := h
  refine Meets.intro hm (fn := Try.f14) Try.func14 rfl (by decide) (Nat.le_of_ble_eq_true rfl) (fun _ => rfl) ?_; intro S hok; (conv => whnf)
  (repeat' ((conv => whnf); first | apply And.intro | exact ⟨by kernel_rfl⟩ | apply DrawN.mk | apply CodeN.step hm rfl | exact trivial | exact rfl | (intro hh; try simp only [bs] at hh; try exact absurd hh (by decide)))); all_goals (conv => whnf)
  all_goals first | (exfalso; omega) | skip
  (refine CallN.q (liftM t D P hr id) [0, 1, 2, 3, 4, 5, 6, 7] ?_; rintro t1 h1; (repeat' ((conv => whnf); first | apply And.intro | exact ⟨by kernel_rfl⟩ | apply DrawN.mk | apply CodeN.step hm rfl | exact trivial | exact rfl | (intro hh; try simp only [bs] at hh; try exact absurd hh (by decide)))); all_goals (conv => whnf); all_goals try exact ⟨by decide⟩)
  refine muDue rfl rfl (.eq (.dat (.int .i64) d)) ?_
  (repeat' ((conv => whnf); first | apply And.intro | exact ⟨by kernel_rfl⟩ | apply DrawN.mk | apply CodeN.step hm rfl | exact trivial | exact rfl | (intro hh; try simp only [bs] at hh; try exact absurd hh (by decide)))); all_goals (conv => whnf)
  have hr2 := h1.rel.setDue hi hd
  (refine CallN.q (placeM _ _ _ hr2 id d (by simp [updP]) (by simp [updP])) [0, 1, 2, 3, 4, 5, 6, 7] ?_; rintro t2 h2; (repeat' ((conv => whnf); first | apply And.intro | exact ⟨by kernel_rfl⟩ | apply DrawN.mk | apply CodeN.step hm rfl | exact trivial | exact rfl | (intro hh; try simp only [bs] at hh; try exact absurd hh (by decide)))); all_goals (conv => whnf); all_goals try exact ⟨by decide⟩)
  (refine RetN.q t2 [0, 1, 2, 3, 4, 5, 6, 7] ?_ ?_ ?_ <;> (repeat' ((conv => whnf) <;> first | exact rfl | exact trivial | exact Fw.Hp.like_refl _ | apply And.intro | exact Nat.zero_add _)); all_goals ((conv => whnf); try simp only []))
  have e1 : t2.now = t.now := h2.now.trans h1.now
  have e2 : t1.now = t.now := h1.now
  refine ⟨⟨_, h2.rel, ?_⟩, e1⟩
  have := hc.set id d
  rw [e1]
  exact cast (by rw [← e2]) this
theorem setBadM (t : Tm) (id d : Int) (h : ¬ ((0 ≤ id ∧ id ≤ 1048575) ∧ (0 ≤ d ∧ d ≤ 1099511627776))) : Meets Try.prog 14 [.ptr 0 0, .int .i64 fun _ => id, .int .i64 fun _ => d] (chT t) (Y := Unit)
    (fun _ => True) (fun _ => .int .i64 fun _ => 1) (fun _ => chT t) := by
  refine Meets.intro hm (fn := Try.f14) Try.func14 rfl (by decide) (Nat.le_of_ble_eq_true rfl) (fun _ => rfl) ?_; intro S hok; (conv => whnf)
  (repeat' ((conv => whnf); first | apply And.intro | exact ⟨by kernel_rfl⟩ | apply DrawN.mk | apply CodeN.step hm rfl | exact trivial | exact rfl | (intro hh; try simp only [bs] at hh; try exact absurd hh (by decide)))); all_goals (conv => whnf)
  all_goals first | (exfalso; omega) | skip
  all_goals (refine RetN.q () [0, 1, 2, 3, 4, 5, 6, 7] ?_ ?_ ?_ <;> (repeat' ((conv => whnf) <;> first | exact rfl | exact trivial | exact Fw.Hp.like_refl _ | apply And.intro | exact Nat.zero_add _)); all_goals ((conv => whnf); try simp only []))
theorem nowM (t : Tm) : Meets Try.prog 12 [.ptr 0 0] (chT t) (Y := Unit) (fun _ => True) (fun _ => .int .i64 fun _ => t.now) (fun _ => chT t) := by
  refine Meets.intro hm (fn := Try.f12) Try.func12 rfl (by decide) (Nat.le_of_ble_eq_true rfl) (fun _ => rfl) ?_; intro S hok; (conv => whnf)
  (repeat' ((conv => whnf); first | apply And.intro | exact ⟨by kernel_rfl⟩ | apply DrawN.mk | apply CodeN.step hm rfl | exact trivial | exact rfl | (intro hh; try simp only [bs] at hh; try exact absurd hh (by decide)))); all_goals (conv => whnf)
  (refine RetN.q () [0, 1, 2, 3, 4, 5, 6, 7] ?_ ?_ ?_ <;> (repeat' ((conv => whnf) <;> first | exact rfl | exact trivial | exact Fw.Hp.like_refl _ | apply And.intro | exact Nat.zero_add _)); all_goals ((conv => whnf); try simp only []))
theorem lenM (t : Tm) : Meets Try.prog 13 [.ptr 0 0] (chT t) (Y := Unit) (fun _ => True) (fun _ => .int .i64 fun _ => (t.due.length : Int)) (fun _ => chT t) := by
  refine Meets.intro hm (fn := Try.f13) Try.func13 rfl (by decide) (Nat.le_of_ble_eq_true rfl) (fun _ => rfl) ?_; intro S hok; (conv => whnf)
  (repeat' ((conv => whnf); first | apply And.intro | exact ⟨by kernel_rfl⟩ | apply DrawN.mk | apply CodeN.step hm rfl | exact trivial | exact rfl | (intro hh; try simp only [bs] at hh; try exact absurd hh (by decide)))); all_goals (conv => whnf)
  refine .mk ⟨_, _, rfl, ?_⟩
  rw [show (dueE t.due).length = t.due.length by simp [dueE]]
  (repeat' ((conv => whnf); first | apply And.intro | exact ⟨by kernel_rfl⟩ | apply DrawN.mk | apply CodeN.step hm rfl | exact trivial | exact rfl | (intro hh; try simp only [bs] at hh; try exact absurd hh (by decide)))); all_goals (conv => whnf)
  (refine RetN.q () [0, 1, 2, 3, 4, 5, 6, 7] ?_ ?_ ?_ <;> (repeat' ((conv => whnf) <;> first | exact rfl | exact trivial | exact Fw.Hp.like_refl _ | apply And.intro | exact Nat.zero_add _)); all_goals ((conv => whnf); try simp only []))
theorem dueM (t : Tm) (now : Int) (D : Int → Option Int) (h : TOk t now D) (id : Int) : Meets Try.prog 17 [.ptr 0 0, .int .i64 fun _ => id] (chT t) (Y := Unit) (fun _ => True)
    (fun _ => .tup [.int .i64 fun _ => (D id).getD 0, .bool fun _ => (D id).isSome]) (fun _ => chT t) := by
  obtain ⟨⟨P, hr, hc⟩, rfl⟩ := h
  refine Meets.intro hm (fn := Try.f17) Try.func17 rfl (by decide) (Nat.le_of_ble_eq_true rfl) (fun _ => rfl) ?_; intro S hok; (conv => whnf)
  (repeat' ((conv => whnf); first | apply And.intro | exact ⟨by kernel_rfl⟩ | apply DrawN.mk | apply CodeN.step hm rfl | exact trivial | exact rfl | (intro hh; try simp only [bs] at hh; try exact absurd hh (by decide)))); all_goals (conv => whnf)
  refine lkDue2 rfl rfl (fun d hd => ?_) (fun hd => ?_)
  · (repeat' ((conv => whnf); first | apply And.intro | exact ⟨by kernel_rfl⟩ | apply DrawN.mk | apply CodeN.step hm rfl | exact trivial | exact rfl | (intro hh; try simp only [bs] at hh; try exact absurd hh (by decide)))); all_goals (conv => whnf)
    (refine RetN.q () [0, 1, 2, 3, 4, 5, 6, 7] ?_ ?_ ?_ <;> (repeat' ((conv => whnf) <;> first | exact rfl | exact trivial | exact Fw.Hp.like_refl _ | apply And.intro | exact Nat.zero_add _)); all_goals ((conv => whnf); try simp only []))
    all_goals rw [← hr.dget, hd]; rfl
  · (repeat' ((conv => whnf); first | apply And.intro | exact ⟨by kernel_rfl⟩ | apply DrawN.mk | apply CodeN.step hm rfl | exact trivial | exact rfl | (intro hh; try simp only [bs] at hh; try exact absurd hh (by decide)))); all_goals (conv => whnf)
    (refine RetN.q () [0, 1, 2, 3, 4, 5, 6, 7] ?_ ?_ ?_ <;> (repeat' ((conv => whnf) <;> first | exact rfl | exact trivial | exact Fw.Hp.like_refl _ | apply And.intro | exact Nat.zero_add _)); all_goals ((conv => whnf); try simp only []))
    all_goals rw [← hr.dget, hd]; rfl
theorem cancelM (t : Tm) (now : Int) (D : Int → Option Int) (h : TOk t now D) (id : Int) : Meets Try.prog 19 [.ptr 0 0, .int .i64 fun _ => id] (chT t) (Y := Tm) (fun t' => TOk t' now (updP D id none))
    (fun _ => .bool fun _ => (D id).isSome) chT := by
  obtain ⟨⟨P, hr, hc⟩, rfl⟩ := h
  refine Meets.intro hm (fn := Try.f19) Try.func19 rfl (by decide) (Nat.le_of_ble_eq_true rfl) (fun _ => rfl) ?_; intro S hok; (conv => whnf)
  (repeat' ((conv => whnf); first | apply And.intro | exact ⟨by kernel_rfl⟩ | apply DrawN.mk | apply CodeN.step hm rfl | exact trivial | exact rfl | (intro hh; try simp only [bs] at hh; try exact absurd hh (by decide)))); all_goals (conv => whnf)
  refine lkDue2 rfl rfl (fun d hd => ?_) (fun hd => ?_)
  · have hD : D id = some d := by rw [← hr.dget]; exact hd
    (repeat' ((conv => whnf); first | apply And.intro | exact ⟨by kernel_rfl⟩ | apply DrawN.mk | apply CodeN.step hm rfl | exact trivial | exact rfl | (intro hh; try simp only [bs] at hh; try exact absurd hh (by decide)))); all_goals (conv => whnf)
    (refine CallN.q (liftM t D P hr id) [0, 1, 2, 3, 4, 5, 6, 7] ?_; rintro t1 h1; (repeat' ((conv => whnf); first | apply And.intro | exact ⟨by kernel_rfl⟩ | apply DrawN.mk | apply CodeN.step hm rfl | exact trivial | exact rfl | (intro hh; try simp only [bs] at hh; try exact absurd hh (by decide)))); all_goals (conv => whnf); all_goals try exact ⟨by decide⟩)
    refine deDue rfl rfl ?_
    (repeat' ((conv => whnf); first | apply And.intro | exact ⟨by kernel_rfl⟩ | apply DrawN.mk | apply CodeN.step hm rfl | exact trivial | exact rfl | (intro hh; try simp only [bs] at hh; try exact absurd hh (by decide)))); all_goals (conv => whnf)
    (refine RetN.q { t1 with due := delH t1.due id } [0, 1, 2, 3, 4, 5, 6, 7] ?_ ?_ ?_ <;> (repeat' ((conv => whnf) <;> first | exact rfl | exact trivial | exact Fw.Hp.like_refl _ | apply And.intro | exact Nat.zero_add _)); all_goals ((conv => whnf); try simp only []))
    · rw [hD]; rfl
    · exact ⟨⟨_, h1.rel.delDue id, by rw [show ({ t1 with due := delH t1.due id } : Tm).now = t.now from h1.now]; exact hc.del id⟩, h1.now⟩
  · have hD : D id = none := by rw [← hr.dget]; exact hd
    (repeat' ((conv => whnf); first | apply And.intro | exact ⟨by kernel_rfl⟩ | apply DrawN.mk | apply CodeN.step hm rfl | exact trivial | exact rfl | (intro hh; try simp only [bs] at hh; try exact absurd hh (by decide)))); all_goals (conv => whnf)
    (refine RetN.q t [0, 1, 2, 3, 4, 5, 6, 7] ?_ ?_ ?_ <;> (repeat' ((conv => whnf) <;> first | exact rfl | exact trivial | exact Fw.Hp.like_refl _ | apply And.intro | exact Nat.zero_add _)); all_goals ((conv => whnf); try simp only []))
    · rw [hD]; rfl
    · have e : updP D id none = D := by funext j; unfold updP; split <;> simp_all
      rw [e]; exact ⟨⟨P, hr, hc⟩, rfl⟩
end Go.Proofs.Ytafcenlbllmahaa.Ti
set_option linter.unusedVariables false
set_option linter.unusedSimpArgs false
namespace Go.Proofs.Ytafcenlbllmahaa.Ti
open Go Go.RowKit Fw Wh
structure NextOf (D : Int → Option Int) (y : Option Int) : Prop where
  some_ : ∀ d, y = some d → (∃ id, D id = some d) ∧ ∀ id e, D id = some e → d ≤ e
  none_ : y = none → ∀ id, D id = none
def minD (vis : Es Int) : Int := vis.foldl (fun a e => if e.2.2 < a then e.2.2 else a) 2199023255552
theorem minD_le : ∀ (vis : Es Int) (a : Int), (vis.foldl (fun a e => if e.2.2 < a then e.2.2 else a) a ≤ a) ∧ ∀ e ∈ vis, vis.foldl (fun a e => if e.2.2 < a then e.2.2 else a) a ≤ e.2.2
  | [], a => ⟨Int.le_refl _, fun _ h => by cases h⟩
  | x :: r, a => by
    obtain ⟨h1, h2⟩ := minD_le r (if x.2.2 < a then x.2.2 else a)
    refine ⟨Int.le_trans h1 (by split <;> omega), fun e he => ?_⟩
    rcases List.mem_cons.1 he with h | h
    · subst h; exact Int.le_trans h1 (by split <;> omega)
    · exact h2 e h
theorem minD_or : ∀ (vis : Es Int) (a : Int), vis.foldl (fun a e => if e.2.2 < a then e.2.2 else a) a = a ∨ ∃ e ∈ vis, vis.foldl (fun a e => if e.2.2 < a then e.2.2 else a) a = e.2.2
  | [], a => .inl rfl
  | x :: r, a => by
    rcases minD_or r (if x.2.2 < a then x.2.2 else a) with h | ⟨e, he, h⟩
    · simp only [List.foldl_cons]
      by_cases hx : x.2.2 < a
      · rw [if_pos hx] at h ⊢; exact .inr ⟨x, List.mem_cons_self .., h⟩
      · rw [if_neg hx] at h ⊢; exact .inl h
    · exact .inr ⟨e, List.mem_cons_of_mem _ he, h⟩
theorem nextM (t : Tm) (now : Int) (D : Int → Option Int) (h : TOk t now D) : Meets Try.prog 18 [.ptr 0 0] (chT t) (Y := Option Int) (NextOf D)
    (fun y => .tup [.int .i64 fun _ => y.getD 0, .bool fun _ => y.isSome]) (fun _ => chT t) := by
  obtain ⟨⟨P, hr, hc⟩, rfl⟩ := h
  refine Meets.intro hm (fn := Try.f18) Try.func18 rfl (by decide) (Nat.le_of_ble_eq_true rfl) (fun _ => rfl) ?_; intro S hok; (conv => whnf)
  (repeat' ((conv => whnf); first | apply And.intro | exact ⟨by kernel_rfl⟩ | apply DrawN.mk | apply CodeN.step hm rfl | exact trivial | exact rfl | (intro hh; try simp only [bs] at hh; try exact absurd hh (by decide)))); all_goals (conv => whnf)
  refine .mk ⟨_, _, rfl, ?_⟩
  rw [show (dueE t.due).length = t.due.length by simp [dueE]]
  (repeat' ((conv => whnf); first | apply And.intro | exact ⟨by kernel_rfl⟩ | apply DrawN.mk | apply CodeN.step hm rfl | exact trivial | exact rfl | (intro hh; try simp only [bs] at hh; try exact absurd hh (by decide)))); all_goals (conv => whnf)
  · have h0 : t.due = [] := List.length_eq_zero_iff.1 (by omega)
    (refine RetN.q (none) [0, 1, 2, 3, 4, 5, 6, 7] ?_ ?_ ?_ <;> (repeat' ((conv => whnf) <;> first | exact rfl | exact trivial | exact Fw.Hp.like_refl _ | apply And.intro | exact Nat.zero_add _)); all_goals ((conv => whnf); try simp only []))
    refine ⟨fun d e => (by cases e), fun _ id => ?_⟩
    rw [← hr.dget, h0]; rfl
  refine .mk ⟨_, _, _, _, rfl, rfl, ?_⟩
  (repeat' ((conv => whnf); first | apply And.intro | exact ⟨by kernel_rfl⟩ | apply DrawN.mk | apply CodeN.step hm rfl | exact trivial | exact rfl | (intro hh; try simp only [bs] at hh; try exact absurd hh (by decide)))); all_goals (conv => whnf)
  refine LoopN.intro hm (X := Es Int) (Vis t.due) (fun vis => t.due.length - vis.length)
    (fun vis => [(0, .ptr 0 0), (2, .int .i64 fun _ => 0), (3, .ff), (4, .int .i64 fun _ => minD vis), (21, .ptr 8 0)])
    (fun vis => chT t ++ [.mit (.hm 1 fun _ => 0) t.dc t.dc fun _ => bornH vis]) [] [0, 1, 2, 3, 4, 5, 6, 7, 8] ⟨rfl, rfl, ?_, ?_⟩ (Vis.nil _) ?_
  · (repeat' ((conv => whnf) <;> first | exact rfl | exact trivial | exact Fw.Hp.like_refl _ | apply And.intro | exact Nat.zero_add _))
  · (repeat' ((conv => whnf) <;> first | exact rfl | exact trivial | exact Fw.Hp.like_refl _ | apply And.intro | exact Nat.zero_add _))
  intro vis hv
  (repeat' ((conv => whnf); first | apply And.intro | exact ⟨by kernel_rfl⟩ | apply DrawN.mk | apply CodeN.step hm rfl | exact trivial | exact rfl | (intro hh; try simp only [bs] at hh; try exact absurd hh (by decide)))); all_goals (conv => whnf)
  refine nxMap (fun b => HV.dat (.int .i64) b) (es := t.due) (vis := vis) rfl hr.dlt (fun hall => ?_) (fun b n v hmem hb => ?_)
  rotate_left
  · (repeat' ((conv => whnf); first | apply And.intro | exact ⟨by kernel_rfl⟩ | apply DrawN.mk | apply CodeN.step hm rfl | exact trivial | exact rfl | (intro hh; try simp only [bs] at hh; try exact absurd hh (by decide)))); all_goals (conv => whnf)
    refine enMap (fun b => HV.dat (.int .i64) b) (es := t.due) (vis := vis) rfl hr.dbnd hmem ?_
    (repeat' ((conv => whnf); first | apply And.intro | exact ⟨by kernel_rfl⟩ | apply DrawN.mk | apply CodeN.step hm rfl | exact trivial | exact rfl | (intro hh; try simp only [bs] at hh; try exact absurd hh (by decide)))); all_goals (conv => whnf)
    refine ⟨vis ++ [(b, n, v)], [0, 1, 2, 3, 4, 5, 6, 7, 8], ⟨rfl, rfl, ?_, ?_⟩, hv.add hmem hb, ?_⟩
    · (repeat' ((conv => whnf) <;> first | exact rfl | exact trivial | exact Fw.Hp.like_refl _ | apply And.intro | exact Nat.zero_add _))
    · (repeat' ((conv => whnf) <;> first | exact rfl | exact trivial | exact Fw.Hp.like_refl _ | apply And.intro | exact Nat.zero_add _)); all_goals ((conv => whnf); try simp only [])
      unfold minD
      rw [List.foldl_append]; rfl
    · have := hv.len_lt hmem hb
      simp only [List.length_append, List.length_cons, List.length_nil]; omega
  · (repeat' ((conv => whnf); first | apply And.intro | exact ⟨by kernel_rfl⟩ | apply DrawN.mk | apply CodeN.step hm rfl | exact trivial | exact rfl | (intro hh; try simp only [bs] at hh; try exact absurd hh (by decide)))); all_goals (conv => whnf)
    (refine RetN.q (some (minD vis)) [0, 1, 2, 3, 4, 5, 6, 7] ?_ ?_ ?_ <;> (repeat' ((conv => whnf) <;> first | exact rfl | exact trivial | exact Fw.Hp.like_refl _ | apply And.intro | exact Nat.zero_add _)); all_goals ((conv => whnf); try simp only []))
    have hall := hv.all hr.dbnd hall
    have hval : ∀ e ∈ t.due, D e.2.1 = some e.2.2 := fun e he => by rw [← hr.dget]; exact mem_getH hr.dnd (b := e.1) he
    have hle : ∀ e ∈ t.due, minD vis ≤ e.2.2 := fun e he => (minD_le vis 2199023255552).2 e ((hall e).2 he)
    refine ⟨fun d e => ?_, fun e => (by cases e)⟩
    cases e
    refine ⟨?_, fun id e he => ?_⟩
    · rcases minD_or vis 2199023255552 with h1 | ⟨e, he, h1⟩
      · exfalso
        have : minD vis = 2199023255552 := h1
        cases hd : t.due with
        | nil => rw [hd] at hh; exact hh rfl
        | cons e r =>
          have he : e ∈ t.due := by rw [hd]; exact List.mem_cons_self ..
          have h2 := hle e he
          have h3 := hr.dom _ _ (hval e he)
          omega
      · exact ⟨e.2.1, by rw [hval e ((hall e).1 he)]; exact congrArg some h1.symm⟩
    · rw [← hr.dget] at he
      obtain ⟨b, hb⟩ := getH_mem he
      exact hle _ hb
theorem like_new (o : Nat → HO) (c : Nat) : (⟨1, fun _ => .map [] c⟩ : Hp).like (Hp.add ⟨0, o⟩ (.map [] c)) := by
  refine ⟨rfl, fun j hj => ?_⟩
  have : j = 0 := by change j < 1 at hj; omega
  subst this; exact HO.like_refl _
def cN (now : Int) (a b c d : AV) : Chunk := .cells TimerT [.int .i64 fun _ => now, .hm 1 fun _ => 0, a, b, c, d, .hm 2 fun _ => 0, .hm 3 fun _ => 0]
def chN (now : Int) (c0 c1 c2 i : Nat) (w0 w1 w2 w3 : Wl) : List Chunk := match i with
  | 0 => [cN now .pnil .pnil .pnil .pnil, .heap fun _ => hpD [] c0, .heap fun _ => hpB [] c1, .heap fun _ => hpB [] c2]
  | 1 => [cN now (.hp 4 fun _ => some (1, 0)) .pnil .pnil .pnil, .heap fun _ => hpD [] c0, .heap fun _ => hpB [] c1, .heap fun _ => hpB [] c2, .heap fun _ => hpW w0]
  | 2 => [cN now (.hp 4 fun _ => some (1, 0)) (.hp 5 fun _ => some (1, 0)) .pnil .pnil, .heap fun _ => hpD [] c0, .heap fun _ => hpB [] c1, .heap fun _ => hpB [] c2, .heap fun _ => hpW w0, .heap fun _ => hpW w1]
  | 3 => [cN now (.hp 4 fun _ => some (1, 0)) (.hp 5 fun _ => some (1, 0)) (.hp 6 fun _ => some (1, 0)) .pnil, .heap fun _ => hpD [] c0, .heap fun _ => hpB [] c1, .heap fun _ => hpB [] c2, .heap fun _ => hpW w0, .heap fun _ => hpW w1, .heap fun _ => hpW w2]
  | _ => chT ⟨now, [], c0, [], c1, [], c2, w0, w1, w2, w3⟩
set_option maxRecDepth 4000 in
theorem newM (now : Int) (hn : 0 ≤ now ∧ now ≤ 1099511627776) : Meets Try.prog 8 [.int .i64 fun _ => now] [] (Y := Tm) (fun t => TOk t now fun _ => none) (fun _ => .tup [.ptr 0 0, .int .i64 fun _ => 0]) chT := by
  refine Meets.intro hm (fn := Try.f8) Try.func8 rfl (by decide) (Nat.le_of_ble_eq_true rfl) (fun _ => rfl) ?_; intro S hok; (conv => whnf)
  (repeat' ((conv => whnf); first | apply And.intro | exact ⟨by kernel_rfl⟩ | apply DrawN.mk | exact trivial | exact rfl | (intro hh; try simp only [bs] at hh))); all_goals (conv => whnf)
  (apply CodeN.step hm rfl; (repeat' ((conv => whnf); first | apply And.intro | exact ⟨by kernel_rfl⟩ | apply DrawN.mk | exact trivial | exact rfl | (intro hh; try simp only [bs] at hh))); all_goals (conv => whnf))
  (apply CodeN.step hm rfl; (repeat' ((conv => whnf); first | apply And.intro | exact ⟨by kernel_rfl⟩ | apply DrawN.mk | exact trivial | exact rfl | (intro hh; try simp only [bs] at hh))); all_goals (conv => whnf))
  all_goals first | (exfalso; omega) | skip
  (apply CodeN.step hm rfl; (repeat' ((conv => whnf); first | apply And.intro | exact ⟨by kernel_rfl⟩ | apply DrawN.mk | exact trivial | exact rfl | (intro hh; try simp only [bs] at hh))); all_goals (conv => whnf))
  refine CodeN.heap0 (fun _ => .map [] 0) ?_
  (conv => whnf)
  refine CodeN.absorbM 4 0 rfl (fun c => hpD [] c) rfl rfl (like_new _) (fun c0 => ?_)
  (conv => whnf)
  refine CodeN.heap0 (fun _ => .map [] 0) ?_
  (conv => whnf)
  refine CodeN.absorbM 5 1 rfl (fun c => hpB [] c) rfl rfl (like_new _) (fun c1 => ?_)
  (conv => whnf)
  refine CodeN.heap0 (fun _ => .map [] 0) ?_
  (conv => whnf)
  refine CodeN.absorbM 6 2 rfl (fun c => hpB [] c) rfl rfl (like_new _) (fun c2 => ?_)
  (conv => whnf)
  (repeat' ((conv => whnf); first | apply And.intro | exact ⟨by kernel_rfl⟩ | apply DrawN.mk | apply CodeN.step hm rfl | exact trivial | exact rfl | (intro hh; try simp only [bs] at hh; try exact absurd hh (by decide)))); all_goals (conv => whnf)
  refine LoopN.intro hm (X := Nat × Wl × Wl × Wl × Wl) (fun x => x.1 ≤ 4 ∧ (1 ≤ x.1 → WRel x.2.1 fun _ => none) ∧ (2 ≤ x.1 → WRel x.2.2.1 fun _ => none) ∧ (3 ≤ x.1 → WRel x.2.2.2.1 fun _ => none) ∧ (4 ≤ x.1 → WRel x.2.2.2.2 fun _ => none)) (fun x => 4 - x.1)
    (fun x => [(3, .int .i64 fun _ => 0), (2, .pnil), (4, .ptr 0 0), (18, .int .i64 fun _ => (x.1 : Int))])
    (fun x => chN now c0 c1 c2 x.1 x.2.1 x.2.2.1 x.2.2.2.1 x.2.2.2.2) (0, wl0 0, wl0 0, wl0 0, wl0 0) [3, 4, 5, 6] ?_ ⟨by simp, by simp, by simp, by simp, by simp⟩ ?_
  · refine ⟨rfl, rfl, ?_, ?_⟩
    · (repeat' ((conv => whnf) <;> first | exact rfl | exact trivial | exact Fw.Hp.like_refl _ | apply And.intro | exact Nat.zero_add _))
    · (repeat' ((conv => whnf) <;> first | exact rfl | exact trivial | exact Fw.Hp.like_refl _ | apply And.intro | exact Nat.zero_add _))
  · rintro ⟨i, a, b, c, d⟩ ⟨hi, h0, h1, h2, h3⟩
    simp only [] at hi h0 h1 h2 h3
    obtain rfl | rfl | rfl | rfl | rfl : i = 0 ∨ i = 1 ∨ i = 2 ∨ i = 3 ∨ i = 4 := by omega
    · (repeat' ((conv => whnf); first | apply And.intro | exact ⟨by kernel_rfl⟩ | apply DrawN.mk | apply CodeN.step hm rfl | exact trivial | exact rfl | (intro hh; try simp only [bs] at hh; try exact absurd hh (by decide)))); all_goals (conv => whnf)
      (refine CallN.q (Wh.newM) [] ?_; rintro w hw; (repeat' ((conv => whnf); first | apply And.intro | exact ⟨by kernel_rfl⟩ | apply DrawN.mk | apply CodeN.step hm rfl | exact trivial | exact rfl | (intro hh; try simp only [bs] at hh; try exact absurd hh (by decide)))); all_goals (conv => whnf); all_goals try exact ⟨by decide⟩)
      all_goals try exact ⟨by decide⟩
      all_goals try exact ⟨by simp⟩
      refine ⟨(1, w, b, c, d), [0, 1, 2, 3, 4], ⟨rfl, rfl, ?_, ?_⟩, ⟨by omega, fun _ => hw, by omega, by omega, by omega⟩, by simp only []; omega⟩
      · (repeat' ((conv => whnf) <;> first | exact rfl | exact trivial | exact Fw.Hp.like_refl _ | apply And.intro | exact Nat.zero_add _))
      · (repeat' ((conv => whnf) <;> first | exact rfl | exact trivial | exact Fw.Hp.like_refl _ | apply And.intro | exact Nat.zero_add _))
    · (repeat' ((conv => whnf); first | apply And.intro | exact ⟨by kernel_rfl⟩ | apply DrawN.mk | apply CodeN.step hm rfl | exact trivial | exact rfl | (intro hh; try simp only [bs] at hh; try exact absurd hh (by decide)))); all_goals (conv => whnf)
      (refine CallN.q (Wh.newM) [] ?_; rintro w hw; (repeat' ((conv => whnf); first | apply And.intro | exact ⟨by kernel_rfl⟩ | apply DrawN.mk | apply CodeN.step hm rfl | exact trivial | exact rfl | (intro hh; try simp only [bs] at hh; try exact absurd hh (by decide)))); all_goals (conv => whnf); all_goals try exact ⟨by decide⟩)
      all_goals try exact ⟨by decide⟩
      all_goals try exact ⟨by simp⟩
      refine ⟨(2, a, w, c, d), [0, 1, 2, 3, 4, 5], ⟨rfl, rfl, ?_, ?_⟩, ⟨by omega, fun _ => h0 (by omega), fun _ => hw, by omega, by omega⟩, by simp only []; omega⟩
      · (repeat' ((conv => whnf) <;> first | exact rfl | exact trivial | exact Fw.Hp.like_refl _ | apply And.intro | exact Nat.zero_add _))
      · (repeat' ((conv => whnf) <;> first | exact rfl | exact trivial | exact Fw.Hp.like_refl _ | apply And.intro | exact Nat.zero_add _))
    · (repeat' ((conv => whnf); first | apply And.intro | exact ⟨by kernel_rfl⟩ | apply DrawN.mk | apply CodeN.step hm rfl | exact trivial | exact rfl | (intro hh; try simp only [bs] at hh; try exact absurd hh (by decide)))); all_goals (conv => whnf)
      (refine CallN.q (Wh.newM) [] ?_; rintro w hw; (repeat' ((conv => whnf); first | apply And.intro | exact ⟨by kernel_rfl⟩ | apply DrawN.mk | apply CodeN.step hm rfl | exact trivial | exact rfl | (intro hh; try simp only [bs] at hh; try exact absurd hh (by decide)))); all_goals (conv => whnf); all_goals try exact ⟨by decide⟩)
      all_goals try exact ⟨by decide⟩
      all_goals try exact ⟨by simp⟩
      refine ⟨(3, a, b, w, d), [0, 1, 2, 3, 4, 5, 6], ⟨rfl, rfl, ?_, ?_⟩, ⟨by omega, fun _ => h0 (by omega), fun _ => h1 (by omega), fun _ => hw, by omega⟩, by simp only []; omega⟩
      · (repeat' ((conv => whnf) <;> first | exact rfl | exact trivial | exact Fw.Hp.like_refl _ | apply And.intro | exact Nat.zero_add _))
      · (repeat' ((conv => whnf) <;> first | exact rfl | exact trivial | exact Fw.Hp.like_refl _ | apply And.intro | exact Nat.zero_add _))
    · (repeat' ((conv => whnf); first | apply And.intro | exact ⟨by kernel_rfl⟩ | apply DrawN.mk | apply CodeN.step hm rfl | exact trivial | exact rfl | (intro hh; try simp only [bs] at hh; try exact absurd hh (by decide)))); all_goals (conv => whnf)
      (refine CallN.q (Wh.newM) [] ?_; rintro w hw; (repeat' ((conv => whnf); first | apply And.intro | exact ⟨by kernel_rfl⟩ | apply DrawN.mk | apply CodeN.step hm rfl | exact trivial | exact rfl | (intro hh; try simp only [bs] at hh; try exact absurd hh (by decide)))); all_goals (conv => whnf); all_goals try exact ⟨by decide⟩)
      all_goals try exact ⟨by decide⟩
      all_goals try exact ⟨by simp⟩
      refine ⟨(4, a, b, c, w), [0, 1, 2, 3, 4, 5, 6, 7], ⟨rfl, rfl, ?_, ?_⟩, ⟨by omega, fun _ => h0 (by omega), fun _ => h1 (by omega), fun _ => h2 (by omega), fun _ => hw⟩, by simp only []; omega⟩
      · (repeat' ((conv => whnf) <;> first | exact rfl | exact trivial | exact Fw.Hp.like_refl _ | apply And.intro | exact Nat.zero_add _))
      · (repeat' ((conv => whnf) <;> first | exact rfl | exact trivial | exact Fw.Hp.like_refl _ | apply And.intro | exact Nat.zero_add _))
    · (repeat' ((conv => whnf); first | apply And.intro | exact ⟨by kernel_rfl⟩ | apply DrawN.mk | apply CodeN.step hm rfl | exact trivial | exact rfl | (intro hh; try simp only [bs] at hh; try exact absurd hh (by decide)))); all_goals (conv => whnf)
      (refine RetN.q ⟨now, [], c0, [], c1, [], c2, a, b, c, d⟩ [0, 1, 2, 3, 4, 5, 6, 7] ?_ ?_ ?_ <;> (repeat' ((conv => whnf) <;> first | exact rfl | exact trivial | exact Fw.Hp.like_refl _ | apply And.intro | exact Nat.zero_add _)); all_goals ((conv => whnf); try simp only []))
      refine ⟨⟨fun _ => none, ⟨hn, List.nodup_nil, fun _ => rfl, by simp, List.nodup_nil, by simp, ⟨List.nodup_nil, by simp [keysH], by simp, List.nodup_nil⟩, ⟨List.nodup_nil, by simp [keysH], by simp, List.nodup_nil⟩, h0 (by omega), h1 (by omega), h2 (by omega), h3 (by omega)⟩, .mk fun _ => rfl⟩, rfl⟩
theorem newBadM (now : Int) (hn : ¬ (0 ≤ now ∧ now ≤ 1099511627776)) : Meets Try.prog 8 [.int .i64 fun _ => now] [] (Y := Unit) (fun _ => True) (fun _ => .tup [.pnil, .int .i64 fun _ => 1]) (fun _ => []) := by
  refine Meets.intro hm (fn := Try.f8) Try.func8 rfl (by decide) (Nat.le_of_ble_eq_true rfl) (fun _ => rfl) ?_; intro S hok; (conv => whnf)
  (repeat' ((conv => whnf); first | apply And.intro | exact ⟨by kernel_rfl⟩ | apply DrawN.mk | apply CodeN.step hm rfl | exact trivial | exact rfl | (intro hh; try simp only [bs] at hh; try exact absurd hh (by decide)))); all_goals (conv => whnf)
  all_goals first | (exfalso; omega) | skip
  all_goals (refine RetN.q () [] ?_ ?_ ?_ <;> (repeat' ((conv => whnf) <;> first | exact rfl | exact trivial | exact Fw.Hp.like_refl _ | apply And.intro | exact Nat.zero_add _)); all_goals ((conv => whnf); try simp only []))
theorem setNil (id d : Int) : Meets Try.prog 14 [.pnil, .int .i64 fun _ => id, .int .i64 fun _ => d] [] (Y := Unit) (fun _ => True) (fun _ => .int .i64 fun _ => 1) (fun _ => []) := by
  refine Meets.intro hm (fn := Try.f14) Try.func14 rfl (by decide) (Nat.le_of_ble_eq_true rfl) (fun _ => rfl) ?_; intro S hok; (conv => whnf)
  (repeat' ((conv => whnf); first | apply And.intro | exact ⟨by kernel_rfl⟩ | apply DrawN.mk | apply CodeN.step hm rfl | exact trivial | exact rfl | (intro hh; try simp only [bs] at hh; try exact absurd hh (by decide)))); all_goals (conv => whnf)
  all_goals (refine RetN.q () [] ?_ ?_ ?_ <;> (repeat' ((conv => whnf) <;> first | exact rfl | exact trivial | exact Fw.Hp.like_refl _ | apply And.intro | exact Nat.zero_add _)); all_goals ((conv => whnf); try simp only []))
theorem cancelNil (id : Int) : Meets Try.prog 19 [.pnil, .int .i64 fun _ => id] [] (Y := Unit) (fun _ => True) (fun _ => .ff) (fun _ => []) := by
  refine Meets.intro hm (fn := Try.f19) Try.func19 rfl (by decide) (Nat.le_of_ble_eq_true rfl) (fun _ => rfl) ?_; intro S hok; (conv => whnf)
  (repeat' ((conv => whnf); first | apply And.intro | exact ⟨by kernel_rfl⟩ | apply DrawN.mk | apply CodeN.step hm rfl | exact trivial | exact rfl | (intro hh; try simp only [bs] at hh; try exact absurd hh (by decide)))); all_goals (conv => whnf)
  all_goals (refine RetN.q () [] ?_ ?_ ?_ <;> (repeat' ((conv => whnf) <;> first | exact rfl | exact trivial | exact Fw.Hp.like_refl _ | apply And.intro | exact Nat.zero_add _)); all_goals ((conv => whnf); try simp only []))
theorem dueNil (id : Int) : Meets Try.prog 17 [.pnil, .int .i64 fun _ => id] [] (Y := Unit) (fun _ => True) (fun _ => .tup [.int .i64 fun _ => 0, .ff]) (fun _ => []) := by
  refine Meets.intro hm (fn := Try.f17) Try.func17 rfl (by decide) (Nat.le_of_ble_eq_true rfl) (fun _ => rfl) ?_; intro S hok; (conv => whnf)
  (repeat' ((conv => whnf); first | apply And.intro | exact ⟨by kernel_rfl⟩ | apply DrawN.mk | apply CodeN.step hm rfl | exact trivial | exact rfl | (intro hh; try simp only [bs] at hh; try exact absurd hh (by decide)))); all_goals (conv => whnf)
  all_goals (refine RetN.q () [] ?_ ?_ ?_ <;> (repeat' ((conv => whnf) <;> first | exact rfl | exact trivial | exact Fw.Hp.like_refl _ | apply And.intro | exact Nat.zero_add _)); all_goals ((conv => whnf); try simp only []))
theorem nextNil : Meets Try.prog 18 [.pnil] [] (Y := Unit) (fun _ => True) (fun _ => .tup [.int .i64 fun _ => 0, .ff]) (fun _ => []) := by
  refine Meets.intro hm (fn := Try.f18) Try.func18 rfl (by decide) (Nat.le_of_ble_eq_true rfl) (fun _ => rfl) ?_; intro S hok; (conv => whnf)
  (repeat' ((conv => whnf); first | apply And.intro | exact ⟨by kernel_rfl⟩ | apply DrawN.mk | apply CodeN.step hm rfl | exact trivial | exact rfl | (intro hh; try simp only [bs] at hh; try exact absurd hh (by decide)))); all_goals (conv => whnf)
  all_goals (refine RetN.q () [] ?_ ?_ ?_ <;> (repeat' ((conv => whnf) <;> first | exact rfl | exact trivial | exact Fw.Hp.like_refl _ | apply And.intro | exact Nat.zero_add _)); all_goals ((conv => whnf); try simp only []))
theorem advNil (n : Int) : Meets Try.prog 15 [.pnil, .int .i64 fun _ => n] [] (Y := Unit) (fun _ => True) (fun _ => .snil) (fun _ => []) := by
  refine Meets.intro hm (fn := Try.f15) Try.func15 rfl (by decide) (Nat.le_of_ble_eq_true rfl) (fun _ => rfl) ?_; intro S hok; (conv => whnf)
  (repeat' ((conv => whnf); first | apply And.intro | exact ⟨by kernel_rfl⟩ | apply DrawN.mk | apply CodeN.step hm rfl | exact trivial | exact rfl | (intro hh; try simp only [bs] at hh; try exact absurd hh (by decide)))); all_goals (conv => whnf)
  all_goals (refine RetN.q () [] ?_ ?_ ?_ <;> (repeat' ((conv => whnf) <;> first | exact rfl | exact trivial | exact Fw.Hp.like_refl _ | apply And.intro | exact Nat.zero_add _)); all_goals ((conv => whnf); try simp only []))
theorem nowNil : Meets Try.prog 12 [.pnil] [] (Y := Unit) (fun _ => True) (fun _ => .int .i64 fun _ => 0) (fun _ => []) := by
  refine Meets.intro hm (fn := Try.f12) Try.func12 rfl (by decide) (Nat.le_of_ble_eq_true rfl) (fun _ => rfl) ?_; intro S hok; (conv => whnf)
  (repeat' ((conv => whnf); first | apply And.intro | exact ⟨by kernel_rfl⟩ | apply DrawN.mk | apply CodeN.step hm rfl | exact trivial | exact rfl | (intro hh; try simp only [bs] at hh; try exact absurd hh (by decide)))); all_goals (conv => whnf)
  all_goals (refine RetN.q () [] ?_ ?_ ?_ <;> (repeat' ((conv => whnf) <;> first | exact rfl | exact trivial | exact Fw.Hp.like_refl _ | apply And.intro | exact Nat.zero_add _)); all_goals ((conv => whnf); try simp only []))
theorem lenNil : Meets Try.prog 13 [.pnil] [] (Y := Unit) (fun _ => True) (fun _ => .int .i64 fun _ => 0) (fun _ => []) := by
  refine Meets.intro hm (fn := Try.f13) Try.func13 rfl (by decide) (Nat.le_of_ble_eq_true rfl) (fun _ => rfl) ?_; intro S hok; (conv => whnf)
  (repeat' ((conv => whnf); first | apply And.intro | exact ⟨by kernel_rfl⟩ | apply DrawN.mk | apply CodeN.step hm rfl | exact trivial | exact rfl | (intro hh; try simp only [bs] at hh; try exact absurd hh (by decide)))); all_goals (conv => whnf)
  all_goals (refine RetN.q () [] ?_ ?_ ?_ <;> (repeat' ((conv => whnf) <;> first | exact rfl | exact trivial | exact Fw.Hp.like_refl _ | apply And.intro | exact Nat.zero_add _)); all_goals ((conv => whnf); try simp only []))
end Go.Proofs.Ytafcenlbllmahaa.Ti
set_option linter.unusedVariables false
set_option linter.unusedSimpArgs false
namespace Go.Proofs.Ytafcenlbllmahaa.Ti
open Go Go.RowKit Fw Wh Go.Sort
def chS (t : Tm) : List Chunk := [.cells TimerT [.int .i64 fun _ => t.now, .hm 2 fun _ => 0, .hp 5 fun _ => some (1, 0), .hp 6 fun _ => some (1, 0), .hp 7 fun _ => some (1, 0), .hp 8 fun _ => some (1, 0), .hm 3 fun _ => 0, .hm 4 fun _ => 0],
  .heap fun _ => hpD t.due t.dc, .heap fun _ => hpB t.far t.fc, .heap fun _ => hpB t.late t.lc, .heap fun _ => hpW t.w0, .heap fun _ => hpW t.w1, .heap fun _ => hpW t.w2, .heap fun _ => hpW t.w3, .cells 23 [.ptr 1 0]]
theorem sortM (t : Tm) (xs : List Int) (hn : xs.length < 4611686018427387904) : Meets Try.prog 29
    [.vec 0 1 (fun _ => 0) fun _ => xs.length, .fn (.func 30) [] [.ptr 9 0]] (.row 3 (.int .i64) (fun _ => xs) :: chS t) (Y := Unit) (fun _ => True) (fun _ => .tup [])
    (fun _ => .row 3 (.int .i64) (fun _ => sortT t.due xs) :: chS t) := by
  refine sortMeets (P := Try.prog) (ρ := Lay.sortInt_ren) Lay.sortInt 3 (swoT t.due) (totT t.due) (fun g W ws hS hr x y => ?_)
    (Go.Proofs.enters_of Try.func30 (by kernel_rfl) rfl) ⟨_, Try.func29, rfl, by decide⟩ (fun c hc T t xs e => by simp [chS] at hc; rcases hc with h | h | h | h | h | h | h | h | h <;> (rw [h] at e; cases e)) xs hn
  have her : ER g (argEnv 0 [.ptr 9 0]) ws.toArray := argEnv_ok 0 [.ptr 9 0] ws hr (fun j u hj => by simp [Array.getD_eq_getD_getElem?, hj])
  have hk : frzT [1, 9] (argEnv 0 [.ptr 9 0]) (.none :: chS t) fun env' E' => LeL [0, 2] (lookL env' 0 1) [.cptr [TR] 0] ∧ LeE [0, 2] E' [0, 2] [.none, .heap fun _ => hpD t.due t.dc] := by
    (repeat' ((conv => whnf) <;> first | exact rfl | exact trivial | exact Fw.Hp.like_refl _ | apply And.intro | exact Nat.zero_add _)); all_goals ((conv => whnf); try simp only [])
  obtain ⟨g1, env1, E1, hs1, he1, ⟨hl, hle⟩, _⟩ := frzT_ok [1, 9] hS her hk
  have hlen := hr.length
  have hargs := lookL_ok he1 1 0 (by simpa using hlen)
  have hargs : RL (g1.ren [0, 2]) [.cptr [TR] 0] ws := LeL_ok _ _ _ hl (by simpa using hargs)
  have := exactD (closeM t.due t.dc x y) (vals := .int .i64 x :: .int .i64 y :: ws) (hs1.ren hle rfl) ⟨.int .i64 fun _ => x, .int .i64 fun _ => y, hargs⟩
  simpa using this
end Go.Proofs.Ytafcenlbllmahaa.Ti
set_option linter.unusedVariables false
set_option linter.unusedSimpArgs false
namespace Go.Proofs.Ytafcenlbllmahaa.Ti
open Go Go.RowKit Fw Wh
/-- What Advance tells. -/
structure Told (D : Int → Option Int) (to : Int) (l : List Int) : Prop where
  nd : l.Nodup
  mem : ∀ id, id ∈ l ↔ ∃ d, D id = some d ∧ d ≤ to
  ord : l.Pairwise fun a b => (D a).getD 0 < (D b).getD 0 ∨ ((D a).getD 0 = (D b).getD 0 ∧ a < b)
def cutD (D : Int → Option Int) (to : Int) : Int → Option Int := fun id => match D id with | some d => if d ≤ to then none else some d | none => none
structure AdvOf (D : Int → Option Int) (to : Int) (y : List Int × Tm) : Prop where
  told : Told D to y.1
  ok : TOk y.2 to (cutD D to)
def setN (t : Tm) (n : Int) : Tm := { t with now := n }
def mixP (D : Int → Option Int) (P : Int → Option Pl) (at_ : Int) (l : List Int) (i : Nat) : Int → Option Pl := fun id => if id ∈ l.take i then (D id).map (lv at_) else P id
theorem TRel.setNow {t : Tm} {D : Int → Option Int} {P : Int → Option Pl} (h : TRel t D P) {n : Int} (hn : 0 ≤ n ∧ n ≤ 1099511627776) : TRel (setN t n) D P :=
  ⟨hn, h.dnd, h.dget, h.dlt, h.dbnd, h.dom, h.far, h.late, h.w0, h.w1, h.w2, h.w3⟩
theorem takeS {α : Type} {L : List α} {i : Nat} {k : α} (h : L[i]? = some k) : L.take (i + 1) = L.take i ++ [k] := by
  rw [List.take_add_one, h]; rfl
theorem mix_step {D : Int → Option Int} {P : Int → Option Pl} {at_ : Int} {l : List Int} {i : Nat} {id d : Int} (hi : l[i]? = some id) (hd : D id = some d) :
    updP (updP (mixP D P at_ l i) id none) id (some (lv at_ d)) = mixP D P at_ l (i + 1) := by
  funext j
  unfold updP mixP
  rw [takeS hi]
  by_cases h : j = id
  · subst h; simp [hd]
  · simp [h]
theorem mix_end {now : Int} {D : Int → Option Int} {P : Int → Option Pl} {at_ n : Int} {l : List Int} (hc : Can now D P) (hs : StopOf now D (at_, n, l)) {i : Nat} (hi : l.length ≤ i) : Can at_ D (mixP D P at_ l i) := by
  refine .mk fun id => ?_
  unfold mixP
  rw [List.take_of_length_le hi]
  split
  · rfl
  · rename_i hni
    rw [hc.h id]
    cases hd : D id with
    | none => rfl
    | some d => exact congrArg some (hs.stay id d hd hni).symm
theorem sortT_mem (es : List (Nat × Int × Int)) (xs : List Int) (x : Int) : x ∈ sortT es xs ↔ x ∈ xs := (List.mergeSort_perm xs _).mem_iff
theorem sortT_ord (es : List (Nat × Int × Int)) {xs : List Int} (hn : xs.Nodup) : (sortT es xs).Nodup ∧ (sortT es xs).Pairwise fun a b => dueOf es a < dueOf es b ∨ (dueOf es a = dueOf es b ∧ a < b) := by
  have hnd : (sortT es xs).Nodup := (List.mergeSort_perm xs _).nodup_iff.2 hn
  refine ⟨hnd, ?_⟩
  have hO := swoT es
  have hp : (sortT es xs).Pairwise fun a b => (!(Go.Proofs.ltOf (cmpT es)) b a) = true := List.pairwise_mergeSort (le := fun x y => !(Go.Proofs.ltOf (cmpT es)) y x) (fun a b c h1 h2 => by
    simp only [Bool.not_eq_true'] at *
    exact hO.ntrans c b a h2 h1) (fun a b => by
    cases h1 : Go.Proofs.ltOf (cmpT es) b a with
    | false => rfl
    | true =>
      cases h2 : Go.Proofs.ltOf (cmpT es) a b with
      | false => rfl
      | true => have := hO.trans a b a h2 h1; rw [hO.irrefl] at this; cases this) xs
  rw [List.nodup_iff_pairwise_ne] at hnd
  refine List.Pairwise.imp₂ (fun a b h1 h2 => ?_) hp hnd
  cases h : Go.Proofs.ltOf (cmpT es) a b with
  | true => exact (ltT es a b).1 h
  | false => exact (h2 (totT es a b h (by simpa using h1))).elim
theorem advM (t : Tm) (now : Int) (D : Int → Option Int) (h : TOk t now D) (to : Int) (h1 : now ≤ to) (h2 : to ≤ 1099511627776) : Meets Try.prog 15 [.ptr 0 0, .int .i64 fun _ => to] (chT t) (Y := List Int × Tm)
    (AdvOf D to) (fun y => .lst (.int .i64) fun _ => y.1) (fun y => chT y.2) := by
  obtain ⟨⟨P, hr, hc⟩, rfl⟩ := h
  refine Meets.intro hm (fn := Try.f15) Try.func15 rfl (by decide) (Nat.le_of_ble_eq_true rfl) (fun _ => rfl) ?_; intro S hok; (conv => whnf)
  (repeat' ((conv => whnf); first | apply And.intro | exact ⟨by kernel_rfl⟩ | apply DrawN.mk | apply CodeN.step hm rfl | exact trivial | exact rfl | (intro hh; try simp only [bs] at hh; try exact absurd hh (by decide)))); all_goals (conv => whnf)
  all_goals first | (exfalso; omega) | skip
  refine LoopN.intro hm (X := Tm × (Int → Option Pl)) (fun x => TRel x.1 D x.2 ∧ Can x.1.now D x.2 ∧ x.1.now ≤ to) (fun x => (to - x.1.now).toNat)
    (fun x => [(1, .int .i64 fun _ => to), (2, .ptr 8 0), (4, .snil)])
    (fun x => chT x.1 ++ [.cells 23 [.ptr 0 0]]) (t, P) [0, 1, 2, 3, 4, 5, 6, 7, 8] ⟨rfl, rfl, ?_, ?_⟩ ⟨hr, hc, h1⟩ ?_
  · (repeat' ((conv => whnf) <;> first | exact rfl | exact trivial | exact Fw.Hp.like_refl _ | apply And.intro | exact Nat.zero_add _))
  · (repeat' ((conv => whnf) <;> first | exact rfl | exact trivial | exact Fw.Hp.like_refl _ | apply And.intro | exact Nat.zero_add _))
  rintro ⟨t1, P1⟩ ⟨hr1, hc1, hn1⟩
  simp only [] at hr1 hc1 hn1
  (repeat' ((conv => whnf); first | apply And.intro | exact ⟨by kernel_rfl⟩ | apply DrawN.mk | apply CodeN.step hm rfl | exact trivial | exact rfl | (intro hh; try simp only [bs] at hh; try exact absurd hh (by decide)))); all_goals (conv => whnf)
  (refine CallN.q (stopM t1 D P1 hr1 hc1) [0, 1, 2, 3, 4, 5, 6, 7] (fun _ _ => ?_); (repeat' ((conv => whnf); first | apply And.intro | exact ⟨by kernel_rfl⟩ | apply DrawN.mk | exact trivial | exact rfl | (intro hh; try simp only [bs] at hh))); all_goals (conv => whnf); all_goals try exact ⟨by decide⟩)
  rename_i y hs
  obtain ⟨at1, n1, l1⟩ := y
  (apply CodeN.step hm rfl; (repeat' ((conv => whnf); first | apply And.intro | exact ⟨by kernel_rfl⟩ | apply DrawN.mk | exact trivial | exact rfl | (intro hh; try simp only [bs] at hh))); all_goals (conv => whnf))
  (apply CodeN.step hm rfl; (repeat' ((conv => whnf); first | apply And.intro | exact ⟨by kernel_rfl⟩ | apply DrawN.mk | exact trivial | exact rfl | (intro hh; try simp only [bs] at hh))); all_goals (conv => whnf))
  · (apply CodeN.step hm rfl; (repeat' ((conv => whnf); first | apply And.intro | exact ⟨by kernel_rfl⟩ | apply DrawN.mk | exact trivial | exact rfl | (intro hh; try simp only [bs] at hh))); all_goals (conv => whnf))
    (apply CodeN.step hm rfl; (repeat' ((conv => whnf); first | apply And.intro | exact ⟨by kernel_rfl⟩ | apply DrawN.mk | exact trivial | exact rfl | (intro hh; try simp only [bs] at hh))); all_goals (conv => whnf))
    refine CodeN.nil 3 (.int .i64) none [10] ?_
    (conv => whnf)
    (repeat' ((conv => whnf); first | apply And.intro | exact ⟨by kernel_rfl⟩ | apply DrawN.mk | apply CodeN.step hm rfl | exact trivial | exact rfl | (intro hh; try simp only [bs] at hh; try exact absurd hh (by decide)))); all_goals (conv => whnf)
    refine .mk ⟨_, _, _, _, rfl, rfl, ?_⟩
    (repeat' ((conv => whnf); first | apply And.intro | exact ⟨by kernel_rfl⟩ | apply DrawN.mk | apply CodeN.step hm rfl | exact trivial | exact rfl | (intro hh; try simp only [bs] at hh; try exact absurd hh (by decide)))); all_goals (conv => whnf)
    have hr5 := hr1.setNow (n := to) ⟨by have := hr1.now0.1; omega, h2⟩
    have hc5 : Can to D P1 := .mk fun id => by
      rw [hc1.h id]
      cases hd : D id with
      | none => rfl
      | some d => exact congrArg some (hs.wait to id d hn1 hh hd).symm
    have hll : t1.late.length ≤ 1048576 := hr1.late.len fun id hp => by
      have h3 := hc1.h id
      rw [hp] at h3
      cases hd : D id with
      | none => rw [hd] at h3; cases h3
      | some d => have := hr1.dom id d hd; omega
    refine LoopN.intro hm (X := Es Bool) (Vis t1.late) (fun vis => t1.late.length - vis.length)
      (fun vis => [(2, .ptr 8 0), (4, .snil), (10, .vec 9 1 (fun _ => 0) fun _ => (keysH vis).length), (62, .ptr 10 0)])
      (fun vis => chT (setN t1 to) ++ [.cells 23 [.ptr 0 0], .vect 3 (.int .i64) fun _ => keysH vis, .mit (.hm 3 fun _ => 0) t1.lc t1.lc fun _ => bornH vis]) [] [0, 1, 2, 3, 4, 5, 6, 7, 8, 9, 10] ⟨rfl, rfl, ?_, ?_⟩ (Vis.nil _) ?_
    · (repeat' ((conv => whnf) <;> first | exact rfl | exact trivial | exact Fw.Hp.like_refl _ | apply And.intro | exact Nat.zero_add _))
    · (repeat' ((conv => whnf) <;> first | exact rfl | exact trivial | exact Fw.Hp.like_refl _ | apply And.intro | exact Nat.zero_add _))
    intro vis hv
    (repeat' ((conv => whnf); first | apply And.intro | exact ⟨by kernel_rfl⟩ | apply DrawN.mk | apply CodeN.step hm rfl | exact trivial | exact rfl | (intro hh; try simp only [bs] at hh; try exact absurd hh (by decide)))); all_goals (conv => whnf)
    refine nxMap (fun b => HV.dat .bool b) (es := t1.late) (vis := vis) rfl hr1.late.lt (fun hall => ?_) (fun b n v hmem hb => ?_)
    rotate_left
    · have hlv := hv.len_lt hmem hb
      have hkl : (keysH vis).length = vis.length := by simp [keysH]
      have hke : keysH (vis ++ [(b, n, v)]) = keysH vis ++ [n] := by simp [keysH]
      (repeat' ((conv => whnf); first | apply And.intro | exact ⟨by kernel_rfl⟩ | apply DrawN.mk | apply CodeN.step hm rfl | exact trivial | exact rfl | (intro hh; try simp only [bs] at hh; try exact absurd hh (by decide)))); all_goals (conv => whnf)
      refine enMap (fun b => HV.dat .bool b) (es := t1.late) (vis := vis) rfl hr1.late.bnd hmem ?_
      (repeat' ((conv => whnf); first | apply And.intro | exact ⟨by kernel_rfl⟩ | apply DrawN.mk | apply CodeN.step hm rfl | exact trivial | exact rfl | (intro hh; try simp only [bs] at hh; try exact absurd hh (by decide)))); all_goals (conv => whnf)
      · refine ⟨⟨rfl, ?_, ?_⟩⟩
        · show (keysH vis).length + 1 ≤ _
          omega
        · show ((keysH vis).length + 1) * 8 ≤ _
          omega
      refine ⟨vis ++ [(b, n, v)], [0, 1, 2, 3, 4, 5, 6, 7, 8, 9, 10], ⟨rfl, rfl, ?_, ?_⟩, hv.add hmem hb, ?_⟩
      · (repeat' ((conv => whnf) <;> first | exact rfl | exact trivial | exact Fw.Hp.like_refl _ | apply And.intro | exact Nat.zero_add _)); all_goals ((conv => whnf); try simp only [])
        rw [hke]; try simp
      · (repeat' ((conv => whnf) <;> first | exact rfl | exact trivial | exact Fw.Hp.like_refl _ | apply And.intro | exact Nat.zero_add _)); all_goals ((conv => whnf); try simp only [])
        rw [hke]; try simp
      · simp only [List.length_append, List.length_cons, List.length_nil]; omega
    have hall := hv.all hr1.late.bnd hall
    have hkl : (keysH vis).length = vis.length := by simp [keysH]
    have hvl := hv.len
    (repeat' ((conv => whnf); first | apply And.intro | exact ⟨by kernel_rfl⟩ | apply DrawN.mk | apply CodeN.step hm rfl | exact trivial | exact rfl | (intro hh; try simp only [bs] at hh; try exact absurd hh (by decide)))); all_goals (conv => whnf)
    (refine CallN.q (sortM (setN t1 to) (keysH vis) (by omega)) [9, 0, 1, 2, 3, 4, 5, 6, 7, 8] ?_; rintro _ _; (repeat' ((conv => whnf); first | apply And.intro | exact ⟨by kernel_rfl⟩ | apply DrawN.mk | apply CodeN.step hm rfl | exact trivial | exact rfl | (intro hh; try simp only [bs] at hh; try exact absurd hh (by decide)))); all_goals (conv => whnf); all_goals try exact ⟨by decide⟩)
    have hsl : (sortT t1.due (keysH vis)).length = (keysH vis).length := List.length_mergeSort _
    have hdue : ∀ id, dueOf t1.due id = (D id).getD 0 := fun id => by unfold dueOf; rw [hr1.dget]
    have hso := sortT_ord t1.due (hv.keys hr1.late.nd)
    have hL : Told D to (sortT t1.due (keysH vis)) := by
      refine ⟨hso.1, fun id => ?_, hso.2.imp fun h => by rw [hdue, hdue] at h; exact h⟩
      rw [sortT_mem]
      have e1 : id ∈ keysH vis ↔ id ∈ keysH t1.late := by
        unfold keysH; simp only [List.mem_map]
        exact ⟨fun ⟨e, h3, h4⟩ => ⟨e, (hall e).1 h3, h4⟩, fun ⟨e, h3, h4⟩ => ⟨e, (hall e).2 h3, h4⟩⟩
      rw [e1, hr1.late.mem, hc5.h id]
      cases hd : D id with
      | none => simp
      | some d => simp [lv_late]
    have hn0 : (sortT t1.due (keysH vis)).length ≤ 1048576 := by omega
    rw [← hsl]
    generalize hLd : sortT t1.due (keysH vis) = L at *
    refine LoopN.intro hm (X := Nat × Tm) (fun x => x.1 ≤ L.length ∧ TOk x.2 to (fun id => if id ∈ L.take x.1 then none else D id)) (fun x => L.length - x.1)
      (fun x => [(2, .ptr 8 0), (4, .snil), (10, .vec 9 1 (fun _ => 0) fun _ => L.length), (74, .vec 9 1 (fun _ => 0) fun _ => L.length), (75, .int .i64 fun _ => (L.length : Int)), (76, .int .i64 fun _ => (x.1 : Int))])
      (fun x => chT x.2 ++ [.cells 23 [.ptr 0 0], .row 3 (.int .i64) fun _ => L]) (0, setN t1 to) [0, 1, 2, 3, 4, 5, 6, 7, 8, 9] ⟨rfl, rfl, ?_, ?_⟩ ⟨Nat.zero_le _, ?_⟩ ?_
    · (repeat' ((conv => whnf) <;> first | exact rfl | exact trivial | exact Fw.Hp.like_refl _ | apply And.intro | exact Nat.zero_add _)); all_goals ((conv => whnf); try simp only [])
      exact hLd
    · (repeat' ((conv => whnf) <;> first | exact rfl | exact trivial | exact Fw.Hp.like_refl _ | apply And.intro | exact Nat.zero_add _))
    · refine ⟨⟨P1, ?_, hc5⟩, rfl⟩
      simpa using hr5
    rintro ⟨i, t3⟩ ⟨hi, hok3⟩
    simp only [] at hi hok3
    (repeat' ((conv => whnf); first | apply And.intro | exact ⟨by kernel_rfl⟩ | apply DrawN.mk | apply CodeN.step hm rfl | exact trivial | exact rfl | (intro hh; try simp only [bs] at hh; try exact absurd hh (by decide)))); all_goals (conv => whnf)
    · exact ⟨⟨by simp, hh⟩⟩
    · have hh2 : (i : Int) < L.length := hh
      have hil : i < L.length := by omega
      have hLi : L[i]? = some (L.getD (0 + i) 0) := by rw [Nat.zero_add, List.getD_eq_getElem?_getD, List.getElem?_eq_getElem hil]; rfl
      (refine CallN.q (cancelM t3 to _ hok3 (L.getD (0 + i) 0)) [0, 1, 2, 3, 4, 5, 6, 7] ?_; rintro t4 h4; (repeat' ((conv => whnf); first | apply And.intro | exact ⟨by kernel_rfl⟩ | apply DrawN.mk | apply CodeN.step hm rfl | exact trivial | exact rfl | (intro hh; try simp only [bs] at hh; try exact absurd hh (by decide)))); all_goals (conv => whnf); all_goals try exact ⟨by decide⟩)
      refine ⟨(i + 1, t4), [0, 1, 2, 3, 4, 5, 6, 7, 8, 9], ⟨rfl, rfl, ?_, ?_⟩, ⟨by omega, ?_⟩, by simp only []; omega⟩
      · (repeat' ((conv => whnf) <;> first | exact rfl | exact trivial | exact Fw.Hp.like_refl _ | apply And.intro | exact Nat.zero_add _))
      · (repeat' ((conv => whnf) <;> first | exact rfl | exact trivial | exact Fw.Hp.like_refl _ | apply And.intro | exact Nat.zero_add _)); all_goals ((conv => whnf); try simp only [])
        show IntKind.i64.wrap ((i : Int) + 1) = _
        rw [Wh.wr (by omega)]; omega
      · have e : (fun id => if id ∈ L.take (i + 1) then none else D id) = updP (fun id => if id ∈ L.take i then none else D id) (L.getD (0 + i) 0) none := by
          funext j
          unfold updP
          rw [takeS hLi]
          by_cases hj : j = L.getD (0 + i) 0
          · rw [if_pos hj, if_pos (by simp [hj])]
          · rw [if_neg hj]
            simp only [List.mem_append, List.mem_singleton, hj, or_false]
        rw [e]; exact h4
    · have hh2 : ¬ (i : Int) < L.length := hh
      have hil : L.length ≤ i := by omega
      refine RetN.unrow 9 rfl ?_
      (conv => whnf)
      (refine RetN.frz 9 ?_; (conv => whnf))
      (refine RetN.q (L, t3) [0, 1, 2, 3, 4, 5, 6, 7] ?_ ?_ ?_ <;> (repeat' ((conv => whnf) <;> first | exact rfl | exact trivial | exact Fw.Hp.like_refl _ | apply And.intro | exact Nat.zero_add _)); all_goals ((conv => whnf); try simp only []))
      · simp
      · refine ⟨hL, ?_⟩
        have e : (fun id => if id ∈ L.take i then none else D id) = cutD D to := by
          funext j
          rw [List.take_of_length_le hil]
          unfold cutD
          by_cases hj : j ∈ L
          · obtain ⟨d, h3, h4⟩ := (hL.mem j).1 hj
            rw [if_pos hj, h3]; simp [h4]
          · rw [if_neg hj]
            cases hd : D j with
            | none => rfl
            | some d =>
              have : ¬ d ≤ to := fun h4 => hj ((hL.mem j).2 ⟨d, hd, h4⟩)
              simp [this]
        rw [← e]; exact hok3
  · have hle : at1 ≤ to := by have h3 : ¬ to < at1 := hh; omega
    (repeat' ((conv => whnf); first | apply And.intro | exact ⟨by kernel_rfl⟩ | apply DrawN.mk | apply CodeN.step hm rfl | exact trivial | exact rfl | (intro hh; try simp only [bs] at hh; try exact absurd hh (by decide)))); all_goals (conv => whnf)
    refine LoopN.intro hm (X := Nat × Tm) (fun x => x.1 ≤ l1.length ∧ TRel x.2 D (mixP D P1 at1 l1 x.1) ∧ x.2.now = at1) (fun x => l1.length - x.1)
      (fun x => [(1, .int .i64 fun _ => to), (2, .ptr 8 0), (4, .snil), (41, .lst (.int .i64) fun _ => l1), (42, .int .i64 fun _ => (l1.length : Int)), (43, .int .i64 fun _ => (x.1 : Int))])
      (fun x => chT x.2 ++ [.cells 23 [.ptr 0 0]]) (0, setN t1 at1) [0, 1, 2, 3, 4, 5, 6, 7, 8] ⟨rfl, rfl, ?_, ?_⟩ ⟨Nat.zero_le _, ?_, rfl⟩ ?_
    · (repeat' ((conv => whnf) <;> first | exact rfl | exact trivial | exact Fw.Hp.like_refl _ | apply And.intro | exact Nat.zero_add _))
    · (repeat' ((conv => whnf) <;> first | exact rfl | exact trivial | exact Fw.Hp.like_refl _ | apply And.intro | exact Nat.zero_add _))
    · have e0 : mixP D P1 at1 l1 0 = P1 := by funext j; simp [mixP]
      rw [e0]
      have hh2 : ¬ to < at1 := hh
      have hg : t1.now < at1 := hs.gt
      exact hr1.setNow ⟨by have := hr1.now0.1; omega, by omega⟩
    rintro ⟨i, t2⟩ ⟨hi, hr2, hn2⟩
    simp only [] at hi hr2 hn2
    (repeat' ((conv => whnf); first | apply And.intro | exact ⟨by kernel_rfl⟩ | apply DrawN.mk | apply CodeN.step hm rfl | exact trivial | exact rfl | (intro hh; try simp only [bs] at hh; try exact absurd hh (by decide)))); all_goals (conv => whnf)
    · exact ⟨⟨by simp, hh⟩⟩
    · have hh2 : (i : Int) < l1.length := hh
      have hil : i < l1.length := by omega
      have hlen : l1.length ≤ 1048576 := hs.len
      have hL : l1[i]? = some (l1.getD i 0) := by rw [List.getD_eq_getElem?_getD, List.getElem?_eq_getElem hil]; rfl
      obtain ⟨d, hd⟩ := hs.mem (l1.getD i 0) (List.mem_of_getElem? hL)
      (refine CallN.q (liftM t2 D _ hr2 (l1.getD i 0)) [0, 1, 2, 3, 4, 5, 6, 7] ?_; rintro t3 h3; (repeat' ((conv => whnf); first | apply And.intro | exact ⟨by kernel_rfl⟩ | apply DrawN.mk | apply CodeN.step hm rfl | exact trivial | exact rfl | (intro hh; try simp only [bs] at hh; try exact absurd hh (by decide)))); all_goals (conv => whnf); all_goals try exact ⟨by decide⟩)
      (refine CallN.q (placeM t3 D _ h3.rel (l1.getD i 0) d hd (by simp [updP])) [0, 1, 2, 3, 4, 5, 6, 7] ?_; rintro t4 h4; (repeat' ((conv => whnf); first | apply And.intro | exact ⟨by kernel_rfl⟩ | apply DrawN.mk | apply CodeN.step hm rfl | exact trivial | exact rfl | (intro hh; try simp only [bs] at hh; try exact absurd hh (by decide)))); all_goals (conv => whnf); all_goals try exact ⟨by decide⟩)
      refine ⟨(i + 1, t4), [0, 1, 2, 3, 4, 5, 6, 7, 8], ⟨rfl, rfl, ?_, ?_⟩, ⟨by omega, ?_, ?_⟩, by simp only []; omega⟩
      · (repeat' ((conv => whnf) <;> first | exact rfl | exact trivial | exact Fw.Hp.like_refl _ | apply And.intro | exact Nat.zero_add _))
      · (repeat' ((conv => whnf) <;> first | exact rfl | exact trivial | exact Fw.Hp.like_refl _ | apply And.intro | exact Nat.zero_add _)); all_goals ((conv => whnf); try simp only [])
        show IntKind.i64.wrap ((i : Int) + 1) = _
        rw [Wh.wr (by omega)]; omega
      · have := h4.rel
        rw [h3.now.trans hn2, mix_step hL hd] at this
        exact this
      · exact h4.now.trans (h3.now.trans hn2)
    · have hh2 : ¬ (i : Int) < l1.length := hh
      have hil : l1.length ≤ i := by omega
      refine ⟨(t2, mixP D P1 at1 l1 i), [0, 1, 2, 3, 4, 5, 6, 7, 8], ⟨rfl, rfl, ?_, ?_⟩, ⟨hr2, ?_, ?_⟩, ?_⟩
      · (repeat' ((conv => whnf) <;> first | exact rfl | exact trivial | exact Fw.Hp.like_refl _ | apply And.intro | exact Nat.zero_add _))
      · (repeat' ((conv => whnf) <;> first | exact rfl | exact trivial | exact Fw.Hp.like_refl _ | apply And.intro | exact Nat.zero_add _))
      · rw [hn2]; exact mix_end hc1 hs hil
      · show t2.now ≤ to
        omega
      · have hg : t1.now < at1 := hs.gt
        show (to - t2.now).toNat < (to - t1.now).toNat
        omega
theorem advBadM (t : Tm) (to : Int) (h : to < t.now ∨ 1099511627776 < to) : Meets Try.prog 15 [.ptr 0 0, .int .i64 fun _ => to] (chT t) (Y := Unit) (fun _ => True) (fun _ => .snil) (fun _ => chT t) := by
  refine Meets.intro hm (fn := Try.f15) Try.func15 rfl (by decide) (Nat.le_of_ble_eq_true rfl) (fun _ => rfl) ?_; intro S hok; (conv => whnf)
  (repeat' ((conv => whnf); first | apply And.intro | exact ⟨by kernel_rfl⟩ | apply DrawN.mk | apply CodeN.step hm rfl | exact trivial | exact rfl | (intro hh; try simp only [bs] at hh; try exact absurd hh (by decide)))); all_goals (conv => whnf)
  all_goals first | (exfalso; omega) | skip
  all_goals (refine RetN.q () [0, 1, 2, 3, 4, 5, 6, 7] ?_ ?_ ?_ <;> (repeat' ((conv => whnf) <;> first | exact rfl | exact trivial | exact Fw.Hp.like_refl _ | apply And.intro | exact Nat.zero_add _)); all_goals ((conv => whnf); try simp only []))
end Go.Proofs.Ytafcenlbllmahaa.Ti
set_option linter.unusedVariables false
set_option linter.unusedSimpArgs false
namespace Go.Proofs.Ytafcenlbllmahaa.Ti
open Go Go.RowKit Fw Wh
abbrev OneT : Ty := .pair (.int .i64) (.int .i64)
abbrev Ones := List (Int × Int)
def chK (a : Int) (L : Ones) : List Chunk := [.cells 37 [.int .i64 fun _ => a, .lst OneT fun _ => L]]
def idxK (L : Ones) (id : Int) : Option Nat := L.findIdx? fun e => decide (e.1 = id)
theorem eB : Try.t71.bytes = 16 := rfl
theorem idx_some {L : Ones} {id : Int} {i : Nat} : idxK L id = some i ↔ ∃ h : i < L.length, (L[i]).1 = id ∧ ∀ j (hj : j < i), (L[j]'(by omega)).1 ≠ id := by
  unfold idxK
  rw [List.findIdx?_eq_some_iff_getElem]
  simp
theorem idx_none {L : Ones} {id : Int} : idxK L id = none ↔ ∀ e ∈ L, e.1 ≠ id := by
  unfold idxK
  rw [List.findIdx?_eq_none_iff]
  simp
theorem idx_of {L : Ones} {id : Int} {i : Nat} (hi : i < L.length) (h : (L.getD i (0, 0)).1 = id) (hno : ∀ e ∈ L.take i, e.1 ≠ id) : idxK L id = some i := by
  rw [idx_some]
  refine ⟨hi, ?_, fun j hj => hno _ ?_⟩
  · rw [List.getD_eq_getElem?_getD, List.getElem?_eq_getElem hi] at h; exact h
  · rw [List.mem_take_iff_getElem]; exact ⟨j, by omega, rfl⟩
theorem placeK (a : Int) (L : Ones) (hl : L.length ≤ 1048576) (id : Int) : Meets Try.prog 33 [.ptr 0 0, .int .i64 fun _ => id] (chK a L) (Y := Unit) (fun _ => True)
    (fun _ => .int .i64 fun _ => match idxK L id with | some i => (i : Int) | none => -1) (fun _ => chK a L) := by
  refine Meets.intro hm (fn := Try.f33) Try.func33 rfl (by decide) (Nat.le_of_ble_eq_true rfl) (fun _ => rfl) ?_; intro S hok; (conv => whnf)
  (repeat' ((conv => whnf); first | apply And.intro | exact ⟨by kernel_rfl⟩ | apply DrawN.mk | apply CodeN.step hm rfl | exact trivial | exact rfl | (intro hh; try simp only [bs] at hh; try exact absurd hh (by decide)))); all_goals (conv => whnf)
  refine LoopN.intro hm (X := Nat) (fun i => i ≤ L.length ∧ ∀ e ∈ L.take i, e.1 ≠ id) (fun i => L.length - i)
    (fun i => [(0, .ptr 0 0), (1, .int .i64 fun _ => id), (4, .int .i64 fun _ => 0), (5, .int .i64 fun _ => (i : Int))])
    (fun _ => chK a L) 0 [0] ⟨rfl, rfl, ?_, ?_⟩ ⟨Nat.zero_le _, by simp⟩ ?_
  · (repeat' ((conv => whnf) <;> first | exact rfl | exact trivial | exact Fw.Hp.like_refl _ | apply And.intro | exact Nat.zero_add _))
  · (repeat' ((conv => whnf) <;> first | exact rfl | exact trivial | exact Fw.Hp.like_refl _ | apply And.intro | exact Nat.zero_add _))
  · rintro i ⟨hi, hno⟩
    (repeat' ((conv => whnf); first | apply And.intro | exact ⟨by kernel_rfl⟩ | apply DrawN.mk | apply CodeN.step hm rfl | exact trivial | exact rfl | (intro hh; try simp only [bs] at hh; try exact absurd hh (by decide)))); all_goals (conv => whnf)
    · exact ⟨⟨by simp, hh⟩⟩
    · have hil : i < L.length := by omega
      (refine RetN.q () [0] ?_ ?_ ?_ <;> (repeat' ((conv => whnf) <;> first | exact rfl | exact trivial | exact Fw.Hp.like_refl _ | apply And.intro | exact Nat.zero_add _)); all_goals ((conv => whnf); try simp only []))
      rw [idx_of hil hh hno]
    · have hil : i < L.length := by omega
      have hg : L[i]? = some (L.getD i (0, 0)) := by rw [List.getD_eq_getElem?_getD, List.getElem?_eq_getElem hil]; rfl
      refine ⟨i + 1, [0], ⟨rfl, rfl, ?_, ?_⟩, ⟨by omega, fun e he => ?_⟩, by omega⟩
      · (repeat' ((conv => whnf) <;> first | exact rfl | exact trivial | exact Fw.Hp.like_refl _ | apply And.intro | exact Nat.zero_add _))
      · (repeat' ((conv => whnf) <;> first | exact rfl | exact trivial | exact Fw.Hp.like_refl _ | apply And.intro | exact Nat.zero_add _)); all_goals ((conv => whnf); try simp only [])
        rw [Wh.wr (by omega)]; omega
      · rw [takeS hg] at he
        rcases List.mem_append.1 he with h1 | h1
        · exact hno e h1
        · rw [List.mem_singleton.1 h1]; exact hh
    · have hil : L.length ≤ i := by omega
      rw [List.take_of_length_le hil] at hno
      (refine RetN.q () [0] ?_ ?_ ?_ <;> (repeat' ((conv => whnf) <;> first | exact rfl | exact trivial | exact Fw.Hp.like_refl _ | apply And.intro | exact Nat.zero_add _)); all_goals ((conv => whnf); try simp only []))
      rw [idx_none.2 hno]
theorem placeS (a : Int) (L : Ones) (hl : L.length ≤ 1048576) (id : Int) {i : Nat} (hk : idxK L id = some i) : Meets Try.prog 33 [.ptr 0 0, .int .i64 fun _ => id] (chK a L) (Y := Unit) (fun _ => True)
    (fun _ => .int .i64 fun _ => (i : Int)) (fun _ => chK a L) := by have h := placeK a L hl id; rw [hk] at h; exact h
theorem placeN (a : Int) (L : Ones) (hl : L.length ≤ 1048576) (id : Int) (hk : idxK L id = none) : Meets Try.prog 33 [.ptr 0 0, .int .i64 fun _ => id] (chK a L) (Y := Unit) (fun _ => True)
    (fun _ => .int .i64 fun _ => -1) (fun _ => chK a L) := by have h := placeK a L hl id; rw [hk] at h; exact h
def canK (L : Ones) (id : Int) : Ones := match idxK L id with | some i => L.eraseIdx i | none => L
theorem cancelK (a : Int) (L : Ones) (hl : L.length ≤ 1048576) (id : Int) : Meets Try.prog 22 [.ptr 0 0, .int .i64 fun _ => id] (chK a L) (Y := Unit) (fun _ => True)
    (fun _ => .bool fun _ => (idxK L id).isSome) (fun _ => chK a (canK L id)) := by
  cases hk : idxK L id with
  | none =>
    have e : canK L id = L := by unfold canK; rw [hk]
    rw [e]
    refine Meets.intro hm (fn := Try.f22) Try.func22 rfl (by decide) (Nat.le_of_ble_eq_true rfl) (fun _ => rfl) ?_; intro S hok; (conv => whnf)
    (repeat' ((conv => whnf); first | apply And.intro | exact ⟨by kernel_rfl⟩ | apply DrawN.mk | apply CodeN.step hm rfl | exact trivial | exact rfl | (intro hh; try simp only [bs] at hh; try exact absurd hh (by decide)))); all_goals (conv => whnf)
    (refine CallN.q (placeN a L hl id hk) [0] (fun _ _ => ?_); (repeat' ((conv => whnf); first | apply And.intro | exact ⟨by kernel_rfl⟩ | apply DrawN.mk | apply CodeN.step hm rfl | exact trivial | exact rfl | (intro hh; try simp only [bs] at hh; try exact absurd hh (by decide)))); all_goals (conv => whnf); all_goals try exact ⟨by decide⟩)
    · (refine RetN.q () [0] ?_ ?_ ?_ <;> (repeat' ((conv => whnf) <;> first | exact rfl | exact trivial | exact Fw.Hp.like_refl _ | apply And.intro | exact Nat.zero_add _)); all_goals ((conv => whnf); try simp only []))
  | some i =>
    have e : canK L id = L.eraseIdx i := by unfold canK; rw [hk]
    rw [e]
    obtain ⟨hi, _, _⟩ := idx_some.1 hk
    have e1 : IntKind.i64.wrap ((i : Int) + 1) = ((i + 1 : Nat) : Int) := by rw [Wh.wr (by omega)]; omega
    refine Meets.intro hm (fn := Try.f22) Try.func22 rfl (by decide) (Nat.le_of_ble_eq_true rfl) (fun _ => rfl) ?_; intro S hok; (conv => whnf)
    (repeat' ((conv => whnf); first | apply And.intro | exact ⟨by kernel_rfl⟩ | apply DrawN.mk | apply CodeN.step hm rfl | exact trivial | exact rfl | (intro hh; try simp only [bs] at hh; try exact absurd hh (by decide)))); all_goals (conv => whnf)
    (refine CallN.q (placeS a L hl id hk) [0] (fun _ _ => ?_); (repeat' ((conv => whnf); first | apply And.intro | exact ⟨by kernel_rfl⟩ | apply DrawN.mk | apply CodeN.step hm rfl | exact trivial | exact rfl | (intro hh; try simp only [bs] at hh; try exact absurd hh (by decide)))); all_goals (conv => whnf); all_goals try exact ⟨by decide⟩)
    · omega
    · (refine Ob.mk ?_; (try simp only [Ty.dflt, Nat.zero_add, Nat.add_zero, Int.toNat_natCast, Int.toNat_zero, Int.toNat_one, List.length_take, List.length_drop, List.length_append, List.length_replicate, List.length_cons, List.length_nil, List.length_set, List.length_map, true_and, and_true]); omega)
    · (refine Ob.mk ?_; (try simp only [Ty.dflt, Nat.zero_add, Nat.add_zero, Int.toNat_natCast, Int.toNat_zero, Int.toNat_one, List.length_take, List.length_drop, List.length_append, List.length_replicate, List.length_cons, List.length_nil, List.length_set, List.length_map, true_and, and_true, eB]); omega)
    · (refine Ob.mk ?_; (try simp only [Ty.dflt, Nat.zero_add, Nat.add_zero, Int.toNat_natCast, Int.toNat_zero, Int.toNat_one, List.length_take, List.length_drop, List.length_append, List.length_replicate, List.length_cons, List.length_nil, List.length_set, List.length_map, true_and, and_true, e1]); omega)
    · (refine Ob.mk ?_; (try simp only [Ty.dflt, Nat.zero_add, Nat.add_zero, Int.toNat_natCast, Int.toNat_zero, Int.toNat_one, List.length_take, List.length_drop, List.length_append, List.length_replicate, List.length_cons, List.length_nil, List.length_set, List.length_map, true_and, and_true, e1, eB]); omega)
    · (refine RetN.frz 1 ?_; (conv => whnf))
      (refine RetN.q () [0] ?_ ?_ ?_ <;> (repeat' ((conv => whnf) <;> first | exact rfl | exact trivial | exact Fw.Hp.like_refl _ | apply And.intro | exact Nat.zero_add _)); all_goals ((conv => whnf); try simp only []))
      rw [List.eraseIdx_eq_take_drop_succ, e1]
      simp [List.take_of_length_le, List.take_take]
theorem dueK (a : Int) (L : Ones) (hl : L.length ≤ 1048576) (id : Int) : Meets Try.prog 23 [.ptr 0 0, .int .i64 fun _ => id] (chK a L) (Y := Unit) (fun _ => True)
    (fun _ => .tup [.int .i64 fun _ => match idxK L id with | some i => (L.getD i (0, 0)).2 | none => 0, .bool fun _ => (idxK L id).isSome]) (fun _ => chK a L) := by
  cases hk : idxK L id with
  | none =>
    refine Meets.intro hm (fn := Try.f23) Try.func23 rfl (by decide) (Nat.le_of_ble_eq_true rfl) (fun _ => rfl) ?_; intro S hok; (conv => whnf)
    (repeat' ((conv => whnf); first | apply And.intro | exact ⟨by kernel_rfl⟩ | apply DrawN.mk | apply CodeN.step hm rfl | exact trivial | exact rfl | (intro hh; try simp only [bs] at hh; try exact absurd hh (by decide)))); all_goals (conv => whnf)
    (refine CallN.q (placeN a L hl id hk) [0] (fun _ _ => ?_); (repeat' ((conv => whnf); first | apply And.intro | exact ⟨by kernel_rfl⟩ | apply DrawN.mk | apply CodeN.step hm rfl | exact trivial | exact rfl | (intro hh; try simp only [bs] at hh; try exact absurd hh (by decide)))); all_goals (conv => whnf); all_goals try exact ⟨by decide⟩)
    · (refine RetN.q () [0] ?_ ?_ ?_ <;> (repeat' ((conv => whnf) <;> first | exact rfl | exact trivial | exact Fw.Hp.like_refl _ | apply And.intro | exact Nat.zero_add _)); all_goals ((conv => whnf); try simp only []))
  | some i =>
    obtain ⟨hi, _, _⟩ := idx_some.1 hk
    refine Meets.intro hm (fn := Try.f23) Try.func23 rfl (by decide) (Nat.le_of_ble_eq_true rfl) (fun _ => rfl) ?_; intro S hok; (conv => whnf)
    (repeat' ((conv => whnf); first | apply And.intro | exact ⟨by kernel_rfl⟩ | apply DrawN.mk | apply CodeN.step hm rfl | exact trivial | exact rfl | (intro hh; try simp only [bs] at hh; try exact absurd hh (by decide)))); all_goals (conv => whnf)
    (refine CallN.q (placeS a L hl id hk) [0] (fun _ _ => ?_); (repeat' ((conv => whnf); first | apply And.intro | exact ⟨by kernel_rfl⟩ | apply DrawN.mk | apply CodeN.step hm rfl | exact trivial | exact rfl | (intro hh; try simp only [bs] at hh; try exact absurd hh (by decide)))); all_goals (conv => whnf); all_goals try exact ⟨by decide⟩)
    · omega
    · (refine Ob.mk ?_; (try simp only [Ty.dflt, Nat.zero_add, Nat.add_zero, Int.toNat_natCast, Int.toNat_zero, Int.toNat_one, List.length_take, List.length_drop, List.length_append, List.length_replicate, List.length_cons, List.length_nil, List.length_set, List.length_map, true_and, and_true]); omega)
    · (refine RetN.q () [0] ?_ ?_ ?_ <;> (repeat' ((conv => whnf) <;> first | exact rfl | exact trivial | exact Fw.Hp.like_refl _ | apply And.intro | exact Nat.zero_add _)); all_goals ((conv => whnf); try simp only []))
theorem nextK (a : Int) (L : Ones) : Meets Try.prog 25 [.ptr 0 0] (chK a L) (Y := Unit) (fun _ => True)
    (fun _ => .tup [.int .i64 fun _ => (L.getD 0 (0, 0)).2, .bool fun _ => !L.isEmpty]) (fun _ => chK a L) := by
  refine Meets.intro hm (fn := Try.f25) Try.func25 rfl (by decide) (Nat.le_of_ble_eq_true rfl) (fun _ => rfl) ?_; intro S hok; (conv => whnf)
  (repeat' ((conv => whnf); first | apply And.intro | exact ⟨by kernel_rfl⟩ | apply DrawN.mk | apply CodeN.step hm rfl | exact trivial | exact rfl | (intro hh; try simp only [bs] at hh; try exact absurd hh (by decide)))); all_goals (conv => whnf)
  · have h0 : L = [] := List.length_eq_zero_iff.1 (by omega)
    subst h0
    (refine RetN.q () [0] ?_ ?_ ?_ <;> (repeat' ((conv => whnf) <;> first | exact rfl | exact trivial | exact Fw.Hp.like_refl _ | apply And.intro | exact Nat.zero_add _)); all_goals ((conv => whnf); try simp only []))
  · (refine Ob.mk ?_; (try simp only [Ty.dflt, Nat.zero_add, Nat.add_zero, Int.toNat_natCast, Int.toNat_zero, Int.toNat_one, List.length_take, List.length_drop, List.length_append, List.length_replicate, List.length_cons, List.length_nil, List.length_set, List.length_map, true_and, and_true]); omega)
  · (refine RetN.q () [0] ?_ ?_ ?_ <;> (repeat' ((conv => whnf) <;> first | exact rfl | exact trivial | exact Fw.Hp.like_refl _ | apply And.intro | exact Nat.zero_add _)); all_goals ((conv => whnf); try simp only []))
    cases L with
    | nil => exact absurd rfl hh
    | cons _ _ => rfl
end Go.Proofs.Ytafcenlbllmahaa.Ti
set_option linter.unusedVariables false
set_option linter.unusedSimpArgs false
namespace Go.Proofs.Ytafcenlbllmahaa.Ti
open Go Go.RowKit Fw Wh
def ltK (e x : Int × Int) : Prop := e.2 < x.2 ∨ (e.2 = x.2 ∧ e.1 < x.1)
instance (e x : Int × Int) : Decidable (ltK e x) := by unfold ltK; infer_instance
def insK : Ones → Int × Int → Ones
  | [], x => [x] | e :: r, x => if ltK e x then e :: insK r x else x :: e :: r
theorem ins_at : ∀ {L : Ones} {x : Int × Int} {i : Nat}, i ≤ L.length → (∀ e ∈ L.take i, ltK e x) → (∀ h : i < L.length, ¬ ltK (L.getD i (0, 0)) x) → L.take i ++ x :: L.drop i = insK L x
  | [], x, i, hi, _, _ => by simp at hi; subst hi; rfl
  | e :: r, x, 0, _, _, h => by
    have := h (by simp)
    simp only [insK]
    rw [if_neg (by simpa using this)]; rfl
  | e :: r, x, i + 1, hi, h1, h2 => by
    have he : ltK e x := h1 e (by simp)
    simp only [insK]
    rw [if_pos he]
    have := ins_at (L := r) (x := x) (i := i) (by simpa using hi) (fun e' he' => h1 e' (by simp [he'])) (fun h => by simpa using h2 (by simpa using h))
    simpa using this
theorem setK (a : Int) (L : Ones) (hl : L.length ≤ 1048576) (id d : Int) (hi : 0 ≤ id ∧ id ≤ 1048575) (hd : 0 ≤ d ∧ d ≤ 1099511627776) : Meets Try.prog 21 [.ptr 0 0, .int .i64 fun _ => id, .int .i64 fun _ => d] (chK a L) (Y := Unit) (fun _ => True)
    (fun _ => .int .i64 fun _ => 0) (fun _ => chK a (insK (canK L id) (id, d))) := by
  have hcl : (canK L id).length ≤ L.length := by
    unfold canK; split
    · rw [List.length_eraseIdx]; split <;> omega
    · exact Nat.le_refl _
  refine Meets.intro hm (fn := Try.f21) Try.func21 rfl (by decide) (Nat.le_of_ble_eq_true rfl) (fun _ => rfl) ?_; intro S hok; (conv => whnf)
  (repeat' ((conv => whnf); first | apply And.intro | exact ⟨by kernel_rfl⟩ | apply DrawN.mk | apply CodeN.step hm rfl | exact trivial | exact rfl | (intro hh; try simp only [bs] at hh; try exact absurd hh (by decide)))); all_goals (conv => whnf)
  all_goals first | (exfalso; omega) | skip
  (refine CallN.q (cancelK a L hl id) [0] (fun _ _ => ?_); (repeat' ((conv => whnf); first | apply And.intro | exact ⟨by kernel_rfl⟩ | apply DrawN.mk | apply CodeN.step hm rfl | exact trivial | exact rfl | (intro hh; try simp only [bs] at hh; try exact absurd hh (by decide)))); all_goals (conv => whnf); all_goals try exact ⟨by decide⟩)
  generalize hc : canK L id = C at *
  refine LoopN.intro hm (X := Nat) (fun i => i ≤ C.length ∧ ∀ e ∈ C.take i, ltK e (id, d)) (fun i => C.length - i)
    (fun i => [(0, .ptr 0 0), (1, .int .i64 fun _ => id), (2, .int .i64 fun _ => d), (6, .int .i64 fun _ => 0), (7, .int .i64 fun _ => (i : Int))])
    (fun _ => chK a C) 0 [0] ⟨rfl, rfl, ?_, ?_⟩ ⟨Nat.zero_le _, by simp⟩ ?_
  · (repeat' ((conv => whnf) <;> first | exact rfl | exact trivial | exact Fw.Hp.like_refl _ | apply And.intro | exact Nat.zero_add _))
  · (repeat' ((conv => whnf) <;> first | exact rfl | exact trivial | exact Fw.Hp.like_refl _ | apply And.intro | exact Nat.zero_add _)); all_goals ((conv => whnf); try simp only [])
  · rintro i ⟨hi2, hall⟩
    (repeat' ((conv => whnf); first | apply And.intro | exact ⟨by kernel_rfl⟩ | apply DrawN.mk | apply CodeN.step hm rfl | exact trivial | exact rfl | (intro hh; try simp only [bs] at hh; try exact absurd hh (by decide)))); all_goals (conv => whnf)
    all_goals first | ((refine Ob.mk ?_; (try simp only [Ty.dflt, Nat.zero_add, Nat.add_zero, Int.toNat_natCast, Int.toNat_zero, Int.toNat_one, List.length_take, List.length_drop, List.length_append, List.length_replicate, List.length_cons, List.length_nil, List.length_set, List.length_map, true_and, and_true, eB]); omega)) | skip
    · have hil : i < C.length := by omega
      have hg : C[i]? = some (C.getD i (0, 0)) := by rw [List.getD_eq_getElem?_getD, List.getElem?_eq_getElem hil]; rfl
      refine ⟨i + 1, [0], ⟨rfl, rfl, ?_, ?_⟩, ⟨by omega, fun e he => ?_⟩, by omega⟩
      · (repeat' ((conv => whnf) <;> first | exact rfl | exact trivial | exact Fw.Hp.like_refl _ | apply And.intro | exact Nat.zero_add _))
      · (repeat' ((conv => whnf) <;> first | exact rfl | exact trivial | exact Fw.Hp.like_refl _ | apply And.intro | exact Nat.zero_add _)); all_goals ((conv => whnf); try simp only [])
        rw [Wh.wr (by omega)]; omega
      · rw [takeS hg] at he
        rcases List.mem_append.1 he with h1 | h1
        · exact hall e h1
        · rw [List.mem_singleton.1 h1]; exact .inr ⟨by assumption, hh⟩
    · have hins := ins_at (x := (id, d)) hi2 hall (fun _ => by rintro (h1 | ⟨h1, h2⟩) <;> first | contradiction | omega)
      (refine RetN.frz 1 ?_; (conv => whnf))
      (refine RetN.q () [0] ?_ ?_ ?_ <;> (repeat' ((conv => whnf) <;> first | exact rfl | exact trivial | exact Fw.Hp.like_refl _ | apply And.intro | exact Nat.zero_add _)); all_goals ((conv => whnf); try simp only []))
      rw [← hins]
      simp [List.take_of_length_le, List.take_take]
      refine List.take_of_length_le ?_
      simp only [List.length_append, List.length_take, List.length_cons, List.length_drop]
      omega
    · have hins := ins_at (x := (id, d)) hi2 hall (fun _ => by rintro (h1 | ⟨h1, h2⟩) <;> first | contradiction | omega)
      (refine RetN.frz 1 ?_; (conv => whnf))
      (refine RetN.q () [0] ?_ ?_ ?_ <;> (repeat' ((conv => whnf) <;> first | exact rfl | exact trivial | exact Fw.Hp.like_refl _ | apply And.intro | exact Nat.zero_add _)); all_goals ((conv => whnf); try simp only []))
      rw [← hins]
      simp [List.take_of_length_le, List.take_take]
      refine List.take_of_length_le ?_
      simp only [List.length_append, List.length_take, List.length_cons, List.length_drop]
      omega
    · have hil : i < C.length := by omega
      have hg : C[i]? = some (C.getD i (0, 0)) := by rw [List.getD_eq_getElem?_getD, List.getElem?_eq_getElem hil]; rfl
      refine ⟨i + 1, [0], ⟨rfl, rfl, ?_, ?_⟩, ⟨by omega, fun e he => ?_⟩, by omega⟩
      · (repeat' ((conv => whnf) <;> first | exact rfl | exact trivial | exact Fw.Hp.like_refl _ | apply And.intro | exact Nat.zero_add _))
      · (repeat' ((conv => whnf) <;> first | exact rfl | exact trivial | exact Fw.Hp.like_refl _ | apply And.intro | exact Nat.zero_add _)); all_goals ((conv => whnf); try simp only [])
        rw [Wh.wr (by omega)]; omega
      · rw [takeS hg] at he
        rcases List.mem_append.1 he with h1 | h1
        · exact hall e h1
        · rw [List.mem_singleton.1 h1]; exact .inl hh
    · have hins := ins_at (x := (id, d)) hi2 hall (fun _ => by omega)
      (refine RetN.frz 1 ?_; (conv => whnf))
      (refine RetN.q () [0] ?_ ?_ ?_ <;> (repeat' ((conv => whnf) <;> first | exact rfl | exact trivial | exact Fw.Hp.like_refl _ | apply And.intro | exact Nat.zero_add _)); all_goals ((conv => whnf); try simp only []))
      rw [← hins]
      simp [List.take_of_length_le, List.take_take]
      refine List.take_of_length_le ?_
      simp only [List.length_append, List.length_take, List.length_cons, List.length_drop]
      omega
theorem setBadK (a : Int) (L : Ones) (id d : Int) (h : ¬ ((0 ≤ id ∧ id ≤ 1048575) ∧ (0 ≤ d ∧ d ≤ 1099511627776))) : Meets Try.prog 21 [.ptr 0 0, .int .i64 fun _ => id, .int .i64 fun _ => d] (chK a L) (Y := Unit) (fun _ => True)
    (fun _ => .int .i64 fun _ => 1) (fun _ => chK a L) := by
  refine Meets.intro hm (fn := Try.f21) Try.func21 rfl (by decide) (Nat.le_of_ble_eq_true rfl) (fun _ => rfl) ?_; intro S hok; (conv => whnf)
  (repeat' ((conv => whnf); first | apply And.intro | exact ⟨by kernel_rfl⟩ | apply DrawN.mk | apply CodeN.step hm rfl | exact trivial | exact rfl | (intro hh; try simp only [bs] at hh; try exact absurd hh (by decide)))); all_goals (conv => whnf)
  all_goals first | (exfalso; omega) | skip
  all_goals (refine RetN.q () [0] ?_ ?_ ?_ <;> (repeat' ((conv => whnf) <;> first | exact rfl | exact trivial | exact Fw.Hp.like_refl _ | apply And.intro | exact Nat.zero_add _)); all_goals ((conv => whnf); try simp only []))
structure CutAt (L : Ones) (to : Int) (k : Nat) : Prop where
  le : k ≤ L.length
  now : ∀ e ∈ L.take k, e.2 ≤ to
  then_ : k < L.length → ¬ (L.getD k (0, 0)).2 ≤ to
theorem advK (a : Int) (L : Ones) (hl : L.length ≤ 1048576) (to : Int) (h1 : a ≤ to) (h2 : to ≤ 1099511627776) : Meets Try.prog 24 [.ptr 0 0, .int .i64 fun _ => to] (chK a L) (Y := Nat) (CutAt L to)
    (fun k => .lst (.int .i64) fun _ => (L.take k).map (·.1)) (fun k => chK to (L.drop k)) := by
  refine Meets.intro hm (fn := Try.f24) Try.func24 rfl (by decide) (Nat.le_of_ble_eq_true rfl) (fun _ => rfl) ?_; intro S hok; (conv => whnf)
  (repeat' ((conv => whnf); first | apply And.intro | exact ⟨by kernel_rfl⟩ | apply DrawN.mk | exact trivial | exact rfl | (intro hh; try simp only [bs] at hh))); all_goals (conv => whnf)
  (apply CodeN.step hm rfl; (repeat' ((conv => whnf); first | apply And.intro | exact ⟨by kernel_rfl⟩ | apply DrawN.mk | exact trivial | exact rfl | (intro hh; try simp only [bs] at hh))); all_goals (conv => whnf))
  (apply CodeN.step hm rfl; (repeat' ((conv => whnf); first | apply And.intro | exact ⟨by kernel_rfl⟩ | apply DrawN.mk | exact trivial | exact rfl | (intro hh; try simp only [bs] at hh))); all_goals (conv => whnf))
  all_goals first | (exfalso; omega) | skip
  (apply CodeN.step hm rfl; (repeat' ((conv => whnf); first | apply And.intro | exact ⟨by kernel_rfl⟩ | apply DrawN.mk | exact trivial | exact rfl | (intro hh; try simp only [bs] at hh))); all_goals (conv => whnf))
  (apply CodeN.step hm rfl; (repeat' ((conv => whnf); first | apply And.intro | exact ⟨by kernel_rfl⟩ | apply DrawN.mk | exact trivial | exact rfl | (intro hh; try simp only [bs] at hh))); all_goals (conv => whnf))
  refine CodeN.nil 3 (.int .i64) none [5] ?_
  (conv => whnf)
  (repeat' ((conv => whnf); first | apply And.intro | exact ⟨by kernel_rfl⟩ | apply DrawN.mk | apply CodeN.step hm rfl | exact trivial | exact rfl | (intro hh; try simp only [bs] at hh; try exact absurd hh (by decide)))); all_goals (conv => whnf)
  refine LoopN.intro hm (X := Nat) (fun k => k ≤ L.length ∧ ∀ e ∈ L.take k, e.2 ≤ to) (fun k => L.length - k)
    (fun k => [(0, .ptr 0 0), (1, .int .i64 fun _ => to), (4, .snil), (5, .vec 1 1 (fun _ => 0) fun _ => ((L.take k).map (·.1)).length)])
    (fun k => chK to (L.drop k) ++ [.vect 3 (.int .i64) fun _ => (L.take k).map (·.1)]) 0 [0, 1] ⟨rfl, rfl, ?_, ?_⟩ ⟨Nat.zero_le _, by simp⟩ ?_
  · (repeat' ((conv => whnf) <;> first | exact rfl | exact trivial | exact Fw.Hp.like_refl _ | apply And.intro | exact Nat.zero_add _))
  · (repeat' ((conv => whnf) <;> first | exact rfl | exact trivial | exact Fw.Hp.like_refl _ | apply And.intro | exact Nat.zero_add _))
  · rintro k ⟨hk, hall⟩
    have hml : ((L.take k).map (·.1)).length = k := by simp [hk]
    have hg0 : k < L.length → (L.drop k).getD 0 (0, 0) = L.getD k (0, 0) := fun h => by simp [List.getD_eq_getElem?_getD]
    have hdl : (L.drop k).length = L.length - k := List.length_drop
    have eI : Try.t3.bytes = 8 := rfl
    (repeat' ((conv => whnf); first | apply And.intro | exact ⟨by kernel_rfl⟩ | apply DrawN.mk | apply CodeN.step hm rfl | exact trivial | exact rfl | (intro hh; try simp only [bs] at hh; try exact absurd hh (by decide)))); all_goals (conv => whnf)
    all_goals first | ((refine Ob.mk ?_; (try simp only [Ty.dflt, Nat.zero_add, Nat.add_zero, Int.toNat_natCast, Int.toNat_zero, Int.toNat_one, List.length_take, List.length_drop, List.length_append, List.length_replicate, List.length_cons, List.length_nil, List.length_set, List.length_map, true_and, and_true, eI, hdl]); omega)) | skip
    · have hkl : k < L.length := by omega
      have hg : L[k]? = some (L.getD k (0, 0)) := by rw [List.getD_eq_getElem?_getD, List.getElem?_eq_getElem hkl]; rfl
      have hg1 : (L.drop k).getD 0 (0, 0) = L.getD k (0, 0) := hg0 hkl
      refine ⟨k + 1, [0, 1], ⟨rfl, rfl, ?_, ?_⟩, ⟨by omega, fun e he => ?_⟩, by omega⟩
      · (repeat' ((conv => whnf) <;> first | exact rfl | exact trivial | exact Fw.Hp.like_refl _ | apply And.intro | exact Nat.zero_add _)); all_goals ((conv => whnf); try simp only [])
        · rw [Int.toNat_natCast, List.take_of_length_le (Nat.le_refl _)]
          show List.drop 1 (List.drop k L) = _
          rw [List.drop_drop]
        · rw [takeS hg, List.take_of_length_le (Nat.le_refl _), List.map_append, ← hg1]
          rfl
      · (repeat' ((conv => whnf) <;> first | exact rfl | exact trivial | exact Fw.Hp.like_refl _ | apply And.intro | exact Nat.zero_add _)); all_goals ((conv => whnf); try simp only [])
        rw [takeS hg, List.map_append, List.length_append]; rfl
      · rw [takeS hg] at he
        rcases List.mem_append.1 he with h3 | h3
        · exact hall e h3
        · rw [List.mem_singleton.1 h3, ← hg1]; exact hh
    · (refine RetN.frz 1 ?_; (conv => whnf))
      (refine RetN.q k [0] ?_ ?_ ?_ <;> (repeat' ((conv => whnf) <;> first | exact rfl | exact trivial | exact Fw.Hp.like_refl _ | apply And.intro | exact Nat.zero_add _)); all_goals ((conv => whnf); try simp only []))
      · exact List.take_of_length_le (by simp)
      · exact ⟨hk, hall, fun h3 => by rw [← hg0 h3]; exact hh⟩
    · (refine RetN.frz 1 ?_; (conv => whnf))
      (refine RetN.q k [0] ?_ ?_ ?_ <;> (repeat' ((conv => whnf) <;> first | exact rfl | exact trivial | exact Fw.Hp.like_refl _ | apply And.intro | exact Nat.zero_add _)); all_goals ((conv => whnf); try simp only []))
      · exact List.take_of_length_le (by simp)
      · exact ⟨hk, hall, fun h3 => by omega⟩
theorem advBadK (a : Int) (L : Ones) (to : Int) (h : to < a ∨ 1099511627776 < to) : Meets Try.prog 24 [.ptr 0 0, .int .i64 fun _ => to] (chK a L) (Y := Unit) (fun _ => True) (fun _ => .snil) (fun _ => chK a L) := by
  refine Meets.intro hm (fn := Try.f24) Try.func24 rfl (by decide) (Nat.le_of_ble_eq_true rfl) (fun _ => rfl) ?_; intro S hok; (conv => whnf)
  (repeat' ((conv => whnf); first | apply And.intro | exact ⟨by kernel_rfl⟩ | apply DrawN.mk | apply CodeN.step hm rfl | exact trivial | exact rfl | (intro hh; try simp only [bs] at hh; try exact absurd hh (by decide)))); all_goals (conv => whnf)
  all_goals first | (exfalso; omega) | skip
  all_goals (refine RetN.q () [0] ?_ ?_ ?_ <;> (repeat' ((conv => whnf) <;> first | exact rfl | exact trivial | exact Fw.Hp.like_refl _ | apply And.intro | exact Nat.zero_add _)); all_goals ((conv => whnf); try simp only []))
theorem newK (now : Int) (hn : 0 ≤ now ∧ now ≤ 1099511627776) : Meets Try.prog 9 [.int .i64 fun _ => now] [] (Y := Unit) (fun _ => True) (fun _ => .tup [.ptr 0 0, .int .i64 fun _ => 0]) (fun _ => chK now []) := by
  refine Meets.intro hm (fn := Try.f9) Try.func9 rfl (by decide) (Nat.le_of_ble_eq_true rfl) (fun _ => rfl) ?_; intro S hok; (conv => whnf)
  (repeat' ((conv => whnf); first | apply And.intro | exact ⟨by kernel_rfl⟩ | apply DrawN.mk | apply CodeN.step hm rfl | exact trivial | exact rfl | (intro hh; try simp only [bs] at hh; try exact absurd hh (by decide)))); all_goals (conv => whnf)
  all_goals first | (exfalso; omega) | skip
  (refine RetN.q () [0] ?_ ?_ ?_ <;> (repeat' ((conv => whnf) <;> first | exact rfl | exact trivial | exact Fw.Hp.like_refl _ | apply And.intro | exact Nat.zero_add _)); all_goals ((conv => whnf); try simp only []))
theorem newBadK (now : Int) (hn : ¬ (0 ≤ now ∧ now ≤ 1099511627776)) : Meets Try.prog 9 [.int .i64 fun _ => now] [] (Y := Unit) (fun _ => True) (fun _ => .tup [.pnil, .int .i64 fun _ => 1]) (fun _ => []) := by
  refine Meets.intro hm (fn := Try.f9) Try.func9 rfl (by decide) (Nat.le_of_ble_eq_true rfl) (fun _ => rfl) ?_; intro S hok; (conv => whnf)
  (repeat' ((conv => whnf); first | apply And.intro | exact ⟨by kernel_rfl⟩ | apply DrawN.mk | apply CodeN.step hm rfl | exact trivial | exact rfl | (intro hh; try simp only [bs] at hh; try exact absurd hh (by decide)))); all_goals (conv => whnf)
  all_goals first | (exfalso; omega) | skip
  all_goals (refine RetN.q () [] ?_ ?_ ?_ <;> (repeat' ((conv => whnf) <;> first | exact rfl | exact trivial | exact Fw.Hp.like_refl _ | apply And.intro | exact Nat.zero_add _)); all_goals ((conv => whnf); try simp only []))
end Go.Proofs.Ytafcenlbllmahaa.Ti
set_option linter.unusedVariables false
set_option linter.unusedSimpArgs false
namespace Go.Proofs.Ytafcenlbllmahaa.Ti
open Go Go.RowKit Fw Wh
structure LRel (L : Ones) (D : Int → Option Int) : Prop where
  ord : L.Pairwise ltK
  mem : ∀ id d, (id, d) ∈ L ↔ D id = some d
  dom : ∀ id d, D id = some d → 0 ≤ id ∧ id ≤ 1048575 ∧ 0 ≤ d ∧ d ≤ 1099511627776
theorem lrel0 : LRel [] fun _ => none := ⟨List.Pairwise.nil, fun _ _ => by simp, fun _ _ h => by cases h⟩
theorem LRel.uniq {L : Ones} {D : Int → Option Int} (h : LRel L D) {e f : Int × Int} (he : e ∈ L) (hf : f ∈ L) (hi : e.1 = f.1) : e = f := by
  obtain ⟨a, b⟩ := e
  obtain ⟨c, d⟩ := f
  simp only [] at hi
  subst hi
  have h1 := (h.mem a b).1 he
  have h2 := (h.mem a d).1 hf
  rw [h1] at h2; cases h2; rfl
theorem LRel.nd {L : Ones} {D : Int → Option Int} (h : LRel L D) : (L.map (·.1)).Nodup := by
  rw [List.nodup_iff_pairwise_ne, List.pairwise_map]
  refine List.Pairwise.imp_of_mem ?_ h.ord
  intro a b ha hb hab e
  have := h.uniq ha hb e
  subst this
  unfold ltK at hab; omega
theorem LRel.len {L : Ones} {D : Int → Option Int} (h : LRel L D) : L.length ≤ 1048576 := by
  have := nodup_lenI (n := 1048576) h.nd (fun x hx => by
    obtain ⟨e, he, rfl⟩ := List.mem_map.1 hx
    have := h.dom e.1 e.2 ((h.mem e.1 e.2).1 he)
    omega)
  simpa using this
theorem LRel.idxN {L : Ones} {D : Int → Option Int} (h : LRel L D) {id : Int} (hk : idxK L id = none) : D id = none := by
  have := idx_none.1 hk
  cases hd : D id with
  | none => rfl
  | some d => exact (this _ ((h.mem id d).2 hd) rfl).elim
theorem LRel.idxS {L : Ones} {D : Int → Option Int} (h : LRel L D) {id : Int} {i : Nat} (hk : idxK L id = some i) : i < L.length ∧ D id = some (L.getD i (0, 0)).2 ∧ L[i]? = some (id, (L.getD i (0, 0)).2) := by
  obtain ⟨hi, h1, _⟩ := idx_some.1 hk
  have hg : L.getD i (0, 0) = L[i] := by rw [List.getD_eq_getElem?_getD, List.getElem?_eq_getElem hi]; rfl
  have he : (id, (L.getD i (0, 0)).2) = L[i] := by rw [hg]; exact Prod.ext h1.symm rfl
  refine ⟨hi, (h.mem _ _).1 (by rw [he]; exact List.getElem_mem hi), by rw [he]; exact List.getElem?_eq_getElem hi⟩
theorem LRel.can {L : Ones} {D : Int → Option Int} (h : LRel L D) (id : Int) : LRel (canK L id) (updP D id none) := by
  have hdom : ∀ j d, updP D id none j = some d → D j = some d := fun j d hj => by
    unfold updP at hj; split at hj
    · cases hj
    · exact hj
  unfold canK
  cases hk : idxK L id with
  | none =>
    refine ⟨h.ord, fun j d => ?_, fun j d hj => h.dom j d (hdom j d hj)⟩
    rw [h.mem]
    unfold updP; split
    · rename_i e; subst e; rw [h.idxN hk]
    · rfl
  | some i =>
    obtain ⟨hi, h1, h2⟩ := h.idxS hk
    have hsub := List.eraseIdx_sublist L i
    refine ⟨h.ord.sublist hsub, fun j d => ?_, fun j d hj => h.dom j d (hdom j d hj)⟩
    have hndL : L.Nodup := by
      have := h.nd
      rw [List.nodup_iff_pairwise_ne, List.pairwise_map] at this
      rw [List.nodup_iff_pairwise_ne]
      exact this.imp fun h3 h4 => h3 (by rw [h4])
    have hmem : (j, d) ∈ L.eraseIdx i ↔ (j, d) ∈ L ∧ (j, d) ≠ (id, (L.getD i (0, 0)).2) := by
      constructor
      · intro hx
        refine ⟨hsub.subset hx, fun e => ?_⟩
        obtain ⟨k, hk2⟩ := List.mem_iff_getElem?.1 hx
        rw [List.getElem?_eraseIdx] at hk2
        have key : ∀ q, L[q]? = some (j, d) → q = i := fun q hq => by
          have a1 := List.getElem?_eq_some_iff.1 hq
          have a2 := List.getElem?_eq_some_iff.1 h2
          exact (List.getElem_inj hndL).1 (a1.2.trans (e.trans a2.2.symm))
        split at hk2
        · have := key _ hk2; omega
        · have := key _ hk2; omega
      · rintro ⟨hx, hne⟩
        obtain ⟨q, hq⟩ := List.mem_iff_getElem?.1 hx
        refine List.mem_iff_getElem?.2 ?_
        rcases Nat.lt_trichotomy q i with h3 | h3 | h3
        · exact ⟨q, by rw [List.getElem?_eraseIdx, if_pos h3]; exact hq⟩
        · subst h3; rw [h2] at hq; cases hq; exact (hne rfl).elim
        · exact ⟨q - 1, by rw [List.getElem?_eraseIdx, if_neg (by omega), show q - 1 + 1 = q by omega]; exact hq⟩
    rw [hmem, h.mem]
    unfold updP; split
    · rename_i e; subst e
      refine ⟨fun ⟨h3, h4⟩ => ?_, fun h3 => (by cases h3)⟩
      rw [h1] at h3; cases h3; exact (h4 rfl).elim
    · rename_i e
      exact ⟨fun h3 => h3.1, fun h3 => ⟨h3, fun h4 => e (congrArg Prod.fst h4)⟩⟩
theorem ins_mem : ∀ (L : Ones) (x e : Int × Int), e ∈ insK L x ↔ e = x ∨ e ∈ L
  | [], x, e => by simp [insK]
  | y :: r, x, e => by
    simp only [insK]
    split
    · rw [List.mem_cons, ins_mem r x e, List.mem_cons]
      constructor <;> (rintro (h | h | h) <;> simp [h])
    · rw [List.mem_cons, List.mem_cons]
theorem ltK_trans {a b c : Int × Int} (h1 : ltK a b) (h2 : ltK b c) : ltK a c := by unfold ltK at *; omega
theorem ins_ord : ∀ {L : Ones} {x : Int × Int}, L.Pairwise ltK → (∀ e ∈ L, e.1 ≠ x.1) → (insK L x).Pairwise ltK
  | [], x, _, _ => by simp [insK]
  | y :: r, x, h, hne => by
    rw [List.pairwise_cons] at h
    simp only [insK]
    split
    · rename_i hlt
      rw [List.pairwise_cons]
      refine ⟨fun e he => ?_, ins_ord h.2 (fun e he => hne e (List.mem_cons_of_mem _ he))⟩
      rcases (ins_mem r x e).1 he with h1 | h1
      · rw [h1]; exact hlt
      · exact h.1 e h1
    · rename_i hlt
      have hxy : ltK x y := by
        have := hne y (List.mem_cons_self ..)
        unfold ltK at *; omega
      rw [List.pairwise_cons]
      refine ⟨fun e he => ?_, List.pairwise_cons.2 h⟩
      rcases List.mem_cons.1 he with h1 | h1
      · rw [h1]; exact hxy
      · exact ltK_trans hxy (h.1 e h1)
theorem LRel.ins {L : Ones} {D : Int → Option Int} (h : LRel L D) {id d : Int} (hn : D id = none) (hi : 0 ≤ id ∧ id ≤ 1048575) (hd : 0 ≤ d ∧ d ≤ 1099511627776) : LRel (insK L (id, d)) (updP D id (some d)) := by
  refine ⟨ins_ord h.ord fun e he e2 => ?_, fun j e => ?_, fun j e hj => ?_⟩
  · have := (h.mem e.1 e.2).1 he
    simp only [] at e2
    rw [e2, hn] at this; cases this
  · rw [ins_mem, h.mem]
    unfold updP; split
    · rename_i e3; subst e3
      rw [hn]
      constructor
      · rintro (h1 | h1)
        · cases h1; rfl
        · cases h1
      · intro h1; cases h1; exact .inl rfl
    · rename_i e3
      constructor
      · rintro (h1 | h1)
        · exact (e3 (congrArg Prod.fst h1)).elim
        · exact h1
      · exact .inr
  · unfold updP at hj; split at hj
    · cases hj; rename_i e; subst e; omega
    · exact h.dom j e hj
theorem LRel.set {L : Ones} {D : Int → Option Int} (h : LRel L D) {id d : Int} (hi : 0 ≤ id ∧ id ≤ 1048575) (hd : 0 ≤ d ∧ d ≤ 1099511627776) : LRel (insK (canK L id) (id, d)) (updP D id (some d)) := by
  have := (h.can id).ins (id := id) (d := d) (by simp [updP]) hi hd
  have e : updP (updP D id none) id (some d) = updP D id (some d) := by funext j; unfold updP; split <;> rfl
  rwa [e] at this
theorem LRel.next {L : Ones} {D : Int → Option Int} (h : LRel L D) {y : Option Int} (hy : NextOf D y) : y.getD 0 = (L.getD 0 (0, 0)).2 ∧ y.isSome = !L.isEmpty := by
  cases L with
  | nil =>
    cases y with
    | none => exact ⟨rfl, rfl⟩
    | some d =>
      obtain ⟨⟨id, h1⟩, _⟩ := hy.some_ d rfl
      have := (h.mem id d).2 h1
      cases this
  | cons e r =>
    have he := (h.mem e.1 e.2).1 (List.mem_cons_self ..)
    cases y with
    | none => have := hy.none_ rfl e.1; rw [this] at he; cases he
    | some d =>
      refine ⟨?_, rfl⟩
      obtain ⟨⟨id, h1⟩, h2⟩ := hy.some_ d rfl
      have h3 := h2 _ _ he
      have h4 := (h.mem id d).2 h1
      show d = e.2
      rcases List.mem_cons.1 h4 with h5 | h5
      · rw [← h5]
      · have := (List.pairwise_cons.1 h.ord).1 _ h5
        unfold ltK at this
        simp only [] at this
        omega
def cutK (L : Ones) (to : Int) : Nat := (L.takeWhile fun e => decide (e.2 ≤ to)).length
theorem cut_eq : ∀ {L : Ones} {to : Int} {k : Nat}, CutAt L to k → k = cutK L to
  | [], to, k, h => by have := h.le; simp at this; subst this; rfl
  | e :: r, to, 0, h => by
    have := h.then_ (by simp)
    have h1 : ¬ e.2 ≤ to := this
    unfold cutK; rw [List.takeWhile_cons]; simp [h1]
  | e :: r, to, k + 1, h => by
    have h1 : e.2 ≤ to := h.now e (by simp)
    have := cut_eq (L := r) (to := to) (k := k) ⟨by have := h.le; simpa using this, fun x hx => h.now x (by simp [hx]), fun h3 => by simpa using h.then_ (by simpa using h3)⟩
    unfold cutK at *; rw [List.takeWhile_cons]; simp [h1, this]
theorem cut_at : ∀ (L : Ones) (to : Int), CutAt L to (cutK L to)
  | [], to => ⟨Nat.zero_le _, by simp, by simp [cutK]⟩
  | e :: r, to => by
    have ih := cut_at r to
    by_cases h : e.2 ≤ to
    · have hc : cutK (e :: r) to = cutK r to + 1 := by unfold cutK; rw [List.takeWhile_cons]; simp [h]
      rw [hc]
      refine ⟨by have := ih.le; simpa using this, fun x hx => ?_, fun h3 => by simpa using ih.then_ (by simpa using h3)⟩
      rw [List.take_succ_cons] at hx
      rcases List.mem_cons.1 hx with h1 | h1
      · rw [h1]; exact h
      · exact ih.now x h1
    · have hc : cutK (e :: r) to = 0 := by unfold cutK; rw [List.takeWhile_cons]; simp [h]
      rw [hc]
      exact ⟨Nat.zero_le _, by simp, fun _ => by simpa using h⟩
theorem LRel.after {L : Ones} {D : Int → Option Int} (h : LRel L D) {to : Int} {k : Nat} (hk : CutAt L to k) : ∀ e ∈ L.drop k, ¬ e.2 ≤ to := by
  intro e he hle
  obtain ⟨q, hq⟩ := List.mem_iff_getElem?.1 he
  rw [List.getElem?_drop] at hq
  obtain ⟨hq1, hq2⟩ := List.getElem?_eq_some_iff.1 hq
  have hkl : k < L.length := by omega
  have h1 := hk.then_ hkl
  have hg : L.getD k (0, 0) = L[k] := by rw [List.getD_eq_getElem?_getD, List.getElem?_eq_getElem hkl]; rfl
  rw [hg] at h1
  by_cases hq0 : q = 0
  · subst hq0
    simp only [Nat.add_zero] at hq2
    rw [hq2] at h1; exact h1 hle
  · have := List.pairwise_iff_getElem.1 h.ord k (k + q) hkl hq1 (by omega)
    rw [hq2] at this
    unfold ltK at this; omega
theorem LRel.adv {L : Ones} {D : Int → Option Int} (h : LRel L D) {to : Int} {k : Nat} (hk : CutAt L to k) : Told D to ((L.take k).map (·.1)) ∧ LRel (L.drop k) (cutD D to) := by
  have haft := h.after hk
  have hD : ∀ e ∈ L, (D e.1).getD 0 = e.2 := fun e he => by rw [(h.mem e.1 e.2).1 he]; rfl
  refine ⟨⟨?_, fun id => ?_, ?_⟩, h.ord.sublist (List.drop_sublist _ _), fun id d => ?_, fun id d hd => ?_⟩
  · exact h.nd.sublist ((List.take_sublist _ _).map _)
  · simp only [List.mem_map]
    constructor
    · rintro ⟨e, he, rfl⟩
      exact ⟨e.2, (h.mem _ _).1 (List.mem_of_mem_take he), hk.now e he⟩
    · rintro ⟨d, h1, h2⟩
      have h3 := (h.mem id d).2 h1
      rw [← List.take_append_drop k L, List.mem_append] at h3
      rcases h3 with h3 | h3
      · exact ⟨_, h3, rfl⟩
      · exact (haft _ h3 h2).elim
  · rw [List.pairwise_map]
    refine List.Pairwise.imp_of_mem ?_ (h.ord.sublist (List.take_sublist k L))
    intro a b ha hb hab
    rw [hD a (List.mem_of_mem_take ha), hD b (List.mem_of_mem_take hb)]
    exact hab
  · unfold cutD
    constructor
    · intro hx
      have h1 := (h.mem id d).1 (List.mem_of_mem_drop hx)
      rw [h1]; simp only []
      rw [if_neg (haft _ hx)]
    · intro hx
      cases hd : D id with
      | none => rw [hd] at hx; cases hx
      | some d' =>
        rw [hd] at hx
        simp only [] at hx
        split at hx
        · cases hx
        · rename_i hgt
          cases hx
          have h1 := (h.mem id _).2 hd
          rw [← List.take_append_drop k L, List.mem_append] at h1
          rcases h1 with h1 | h1
          · exact (hgt (hk.now _ h1)).elim
          · exact h1
  · unfold cutD at hd
    split at hd
    · split at hd
      · cases hd
      · rename_i h1 _; cases hd; exact h.dom _ _ h1
    · cases hd
theorem sorted_eq {α : Type} {r : α → α → Prop} (hirr : ∀ a, ¬ r a a) (htr : ∀ a b c, r a b → r b c → r a c) : ∀ {l m : List α}, l.Pairwise r → m.Pairwise r → (∀ x, x ∈ l ↔ x ∈ m) → l = m
  | [], [], _, _, _ => rfl
  | [], y :: m, _, _, h => by have := (h y).2 (List.mem_cons_self ..); cases this
  | x :: l, [], _, _, h => by have := (h x).1 (List.mem_cons_self ..); cases this
  | x :: l, y :: m, h1, h2, h => by
    rw [List.pairwise_cons] at h1 h2
    have hxy : x = y := by
      rcases List.mem_cons.1 ((h x).1 (List.mem_cons_self ..)) with h3 | h3
      · exact h3
      · rcases List.mem_cons.1 ((h y).2 (List.mem_cons_self ..)) with h4 | h4
        · exact h4.symm
        · exact (hirr x (htr _ _ _ (h1.1 y h4) (h2.1 x h3))).elim
    subst hxy
    rw [sorted_eq hirr htr h1.2 h2.2 fun z => ?_]
    constructor
    · intro hz
      rcases List.mem_cons.1 ((h z).1 (List.mem_cons_of_mem _ hz)) with h3 | h3
      · subst h3; exact (hirr z (h1.1 z hz)).elim
      · exact h3
    · intro hz
      rcases List.mem_cons.1 ((h z).2 (List.mem_cons_of_mem _ hz)) with h3 | h3
      · subst h3; exact (hirr z (h2.1 z hz)).elim
      · exact h3
theorem told_eq {D : Int → Option Int} {to : Int} {l m : List Int} (h1 : Told D to l) (h2 : Told D to m) : l = m :=
  sorted_eq (fun a h => by omega) (fun a b c h3 h4 => by omega) h1.ord h2.ord fun x => (h1.mem x).trans (h2.mem x).symm
theorem len_eq {t : Tm} {now : Int} {D : Int → Option Int} {L : Ones} (h : TOk t now D) (hl : LRel L D) : t.due.length = L.length := by
  obtain ⟨⟨P, hr, hc⟩, _⟩ := h
  have hm : ∀ x, x ∈ keysH t.due ↔ x ∈ L.map (·.1) := fun x => by
    have h1 : x ∈ keysH t.due ↔ D x ≠ none := by
      rw [← hr.dget]
      have := @getH_none Int t.due x
      constructor
      · exact fun hx e => (this.1 e) hx
      · intro hx
        by_cases hk : x ∈ keysH t.due
        · exact hk
        · exact (hx (this.2 hk)).elim
    rw [h1]
    simp only [List.mem_map]
    constructor
    · intro hx
      cases hd : D x with
      | none => exact (hx hd).elim
      | some d => exact ⟨_, (hl.mem x d).2 hd, rfl⟩
    · rintro ⟨e, he, rfl⟩ h2
      rw [(hl.mem e.1 e.2).1 he] at h2; cases h2
  have h2 := (List.perm_ext_iff_of_nodup hr.dnd hl.nd).2 hm
  have := h2.length_eq
  simpa [keysH] using this
end Go.Proofs.Ytafcenlbllmahaa.Ti
set_option linter.unusedVariables false
set_option linter.unusedSimpArgs false
namespace Go.Proofs.Ytafcenlbllmahaa.Ti
open Go Go.RowKit Fw Wh
structure TL (t : Tm) (now : Int) (L : Ones) : Prop where
  h : ∃ D, TOk t now D ∧ LRel L D
theorem TL.len {t : Tm} {now : Int} {L : Ones} (h : TL t now L) : L.length ≤ 1048576 := by obtain ⟨D, _, h2⟩ := h.h; exact h2.len
theorem TL.now0 {t : Tm} {now : Int} {L : Ones} (h : TL t now L) : t.now = now ∧ 0 ≤ now ∧ now ≤ 1099511627776 := by
  obtain ⟨D, ⟨⟨P, hr, _⟩, h1⟩, _⟩ := h.h
  have := hr.now0
  exact ⟨h1, by omega, by omega⟩
theorem _root_.Go.Proofs.Ytafcenlbllmahaa.Fw.Meets.map {P : Program} {f : FuncId} {args : List AV} {E : List Chunk} {Y Y' : Type} {Q : Y → Prop} {res : Y → AV} {out : Y → List Chunk} {Q' : Y' → Prop} {res' : Y' → AV} {out' : Y' → List Chunk}
    (hm : Meets P f args E Q res out) (F : Y → Y') (h : ∀ y, Q y → Q' (F y) ∧ res y = res' (F y) ∧ out y = out' (F y)) : Meets P f args E Q' res' out' where
  callable := hm.callable
  h := by
    intro g w vals hS hr
    refine (hm.h g w vals hS hr).mono ?_
    rintro e w' ⟨y, c, g', hq, rfl, h1, h2, h3⟩
    obtain ⟨k1, k2, k3⟩ := h y hq
    exact ⟨F y, c, g', k1, rfl, by rw [← k2]; exact h1, by rw [← k3]; exact h2, by rw [← k3]; exact h3⟩
theorem newL (now : Int) (hn : 0 ≤ now ∧ now ≤ 1099511627776) : Meets Try.prog 8 [.int .i64 fun _ => now] [] (Y := Tm) (fun t => TL t now []) (fun _ => .tup [.ptr 0 0, .int .i64 fun _ => 0]) chT :=
  (newM now hn).map (fun t => t) fun t ht => ⟨.mk ⟨_, ht, lrel0⟩, rfl, rfl⟩
theorem setL (t : Tm) (now : Int) (L : Ones) (h : TL t now L) (id d : Int) (hi : 0 ≤ id ∧ id ≤ 1048575) (hd : 0 ≤ d ∧ d ≤ 1099511627776) : Meets Try.prog 14 [.ptr 0 0, .int .i64 fun _ => id, .int .i64 fun _ => d] (chT t) (Y := Tm)
    (fun t' => TL t' now (insK (canK L id) (id, d))) (fun _ => .int .i64 fun _ => 0) chT := by
  obtain ⟨D, h1, h2⟩ := h.h
  exact (setM t now D h1 id d hi hd).map (fun t => t) fun t ht => ⟨.mk ⟨_, ht, h2.set hi hd⟩, rfl, rfl⟩
def dueV (L : Ones) (id : Int) : Int := match idxK L id with | some i => (L.getD i (0, 0)).2 | none => 0
theorem LRel.dueV {L : Ones} {D : Int → Option Int} (h : LRel L D) (id : Int) : (D id).getD 0 = Ti.dueV L id ∧ (D id).isSome = (idxK L id).isSome := by
  unfold Ti.dueV
  cases hk : idxK L id with
  | none => rw [h.idxN hk]; exact ⟨rfl, rfl⟩
  | some i => rw [(h.idxS hk).2.1]; exact ⟨rfl, rfl⟩
theorem cancelL (t : Tm) (now : Int) (L : Ones) (h : TL t now L) (id : Int) : Meets Try.prog 19 [.ptr 0 0, .int .i64 fun _ => id] (chT t) (Y := Tm) (fun t' => TL t' now (canK L id))
    (fun _ => .bool fun _ => (idxK L id).isSome) chT := by
  obtain ⟨D, h1, h2⟩ := h.h
  have := cancelM t now D h1 id
  rw [(h2.dueV id).2] at this
  exact this.map (fun t => t) fun t ht => ⟨.mk ⟨_, ht, h2.can id⟩, rfl, rfl⟩
theorem dueL (t : Tm) (now : Int) (L : Ones) (h : TL t now L) (id : Int) : Meets Try.prog 17 [.ptr 0 0, .int .i64 fun _ => id] (chT t) (Y := Unit) (fun _ => True)
    (fun _ => .tup [.int .i64 fun _ => dueV L id, .bool fun _ => (idxK L id).isSome]) (fun _ => chT t) := by
  obtain ⟨D, h1, h2⟩ := h.h
  have := dueM t now D h1 id
  rwa [(h2.dueV id).1, (h2.dueV id).2] at this
theorem nextL (t : Tm) (now : Int) (L : Ones) (h : TL t now L) : Meets Try.prog 18 [.ptr 0 0] (chT t) (Y := Unit) (fun _ => True)
    (fun _ => .tup [.int .i64 fun _ => (L.getD 0 (0, 0)).2, .bool fun _ => !L.isEmpty]) (fun _ => chT t) := by
  obtain ⟨D, h1, h2⟩ := h.h
  exact (nextM t now D h1).map (fun _ => ()) fun y hy => ⟨trivial, by rw [(h2.next hy).1, (h2.next hy).2], rfl⟩
theorem advL (t : Tm) (now : Int) (L : Ones) (h : TL t now L) (to : Int) (h1 : now ≤ to) (h2 : to ≤ 1099511627776) : Meets Try.prog 15 [.ptr 0 0, .int .i64 fun _ => to] (chT t) (Y := Tm) (fun t' => TL t' to (L.drop (cutK L to)))
    (fun _ => .lst (.int .i64) fun _ => (L.take (cutK L to)).map (·.1)) chT := by
  obtain ⟨D, h3, h4⟩ := h.h
  obtain ⟨h5, h6⟩ := h4.adv (cut_at L to)
  exact (advM t now D h3 to h1 h2).map (fun y => y.2) fun y hy => ⟨.mk ⟨_, hy.ok, h6⟩, by rw [told_eq hy.told h5], rfl⟩
theorem advBadL (t : Tm) (now : Int) (L : Ones) (h : TL t now L) (to : Int) (h1 : to < now ∨ 1099511627776 < to) : Meets Try.prog 15 [.ptr 0 0, .int .i64 fun _ => to] (chT t) (Y := Unit) (fun _ => True) (fun _ => .snil) (fun _ => chT t) :=
  advBadM t to (by rw [h.now0.1]; exact h1)
theorem nowL (t : Tm) (now : Int) (L : Ones) (h : TL t now L) : Meets Try.prog 12 [.ptr 0 0] (chT t) (Y := Unit) (fun _ => True) (fun _ => .int .i64 fun _ => now) (fun _ => chT t) := by
  have := nowM t
  rwa [h.now0.1] at this
theorem lenL (t : Tm) (now : Int) (L : Ones) (h : TL t now L) : Meets Try.prog 13 [.ptr 0 0] (chT t) (Y := Unit) (fun _ => True) (fun _ => .int .i64 fun _ => (L.length : Int)) (fun _ => chT t) := by
  obtain ⟨D, h1, h2⟩ := h.h
  have := lenM t
  rwa [len_eq h1 h2] at this
/-! ### the document's, so told -/
structure KL (L : Ones) : Prop where
  h : ∃ D, LRel L D
theorem KL.len {L : Ones} (h : KL L) : L.length ≤ 1048576 := by obtain ⟨D, h2⟩ := h.h; exact h2.len
theorem TL.kl {t : Tm} {now : Int} {L : Ones} (h : TL t now L) : KL L := by obtain ⟨D, _, h2⟩ := h.h; exact .mk ⟨D, h2⟩
theorem advKL (a : Int) (L : Ones) (hl : L.length ≤ 1048576) (to : Int) (h1 : a ≤ to) (h2 : to ≤ 1099511627776) : Meets Try.prog 24 [.ptr 0 0, .int .i64 fun _ => to] (chK a L) (Y := Unit) (fun _ => True)
    (fun _ => .lst (.int .i64) fun _ => (L.take (cutK L to)).map (·.1)) (fun _ => chK to (L.drop (cutK L to))) :=
  (advK a L hl to h1 h2).map (fun _ => ()) fun k hk => by rw [cut_eq hk]; exact ⟨trivial, rfl, rfl⟩
end Go.Proofs.Ytafcenlbllmahaa.Ti
set_option linter.unusedVariables false
set_option linter.unusedSimpArgs false
namespace Go.Proofs.Ytafcenlbllmahaa.Ti
open Go Go.RowKit Fw Wh
theorem intsM (a b : List Int) (ha : a.length ≤ 1000000000) : Meets Try.prog 16 [.lst (.int .i64) fun _ => a, .lst (.int .i64) fun _ => b] [] (Y := Unit) (fun _ => True) (fun _ => .bool fun _ => decide (a = b)) (fun _ => []) := by
  refine Meets.intro hm (fn := Try.f16) Try.func16 rfl (by decide) (Nat.le_of_ble_eq_true rfl) (fun _ => rfl) ?_; intro S hok; (conv => whnf)
  (repeat' ((conv => whnf); first | apply And.intro | exact ⟨by kernel_rfl⟩ | apply DrawN.mk | apply CodeN.step hm rfl | exact trivial | exact rfl | (intro hh; try simp only [bs] at hh))); all_goals (conv => whnf)
  · (refine RetN.q () [] ?_ ?_ ?_ <;> (repeat' ((conv => whnf) <;> first | exact rfl | exact trivial | exact Fw.Hp.like_refl _ | apply And.intro | exact Nat.zero_add _)); all_goals ((conv => whnf); try simp only []))
    have : a ≠ b := fun e => by rw [e] at hh; exact hh rfl
    simp [this]
  · have hl : a.length = b.length := by omega
    refine LoopN.intro hm (X := Nat) (fun i => i ≤ a.length ∧ a.take i = b.take i) (fun i => a.length - i)
      (fun i => [(5, .int .i64 fun _ => (i : Int)), (0, .lst (.int .i64) fun _ => a), (1, .lst (.int .i64) fun _ => b)]) (fun _ => []) 0 [] ⟨rfl, rfl, ?_, ?_⟩ ⟨Nat.zero_le _, rfl⟩ (fun i hi => ?_)
    · (repeat' ((conv => whnf) <;> first | exact rfl | exact trivial | exact Fw.Hp.like_refl _ | apply And.intro | exact Nat.zero_add _))
    · (repeat' ((conv => whnf) <;> first | exact rfl | exact trivial | exact Fw.Hp.like_refl _ | apply And.intro | exact Nat.zero_add _))
    · (repeat' ((conv => whnf); first | apply And.intro | exact ⟨by kernel_rfl⟩ | apply DrawN.mk | apply CodeN.step hm rfl | exact trivial | exact rfl | (intro hh; try simp only [bs] at hh))); all_goals (conv => whnf)
      · (refine Ob.mk ?_; (try simp only [Ty.dflt, Nat.zero_add, Nat.add_zero, Int.toNat_natCast, Int.toNat_zero, Int.toNat_one, List.length_take, List.length_drop, List.length_append, List.length_replicate, List.length_cons, List.length_nil, List.length_set, List.length_map, true_and, and_true]); omega)
      · (refine Ob.mk ?_; (try simp only [Ty.dflt, Nat.zero_add, Nat.add_zero, Int.toNat_natCast, Int.toNat_zero, Int.toNat_one, List.length_take, List.length_drop, List.length_append, List.length_replicate, List.length_cons, List.length_nil, List.length_set, List.length_map, true_and, and_true]); omega)
      · have hne : a ≠ b := by rintro rfl; exact hh rfl
        (refine RetN.q () [] ?_ ?_ ?_ <;> (repeat' ((conv => whnf) <;> first | exact rfl | exact trivial | exact Fw.Hp.like_refl _ | apply And.intro | exact Nat.zero_add _)); all_goals ((conv => whnf); try simp only []))
        simp [hne]
      · have hi1 : i < a.length := by omega
        refine ⟨i + 1, [], ⟨rfl, rfl, ?_, ?_⟩, ⟨hi1, ?_⟩, by omega⟩
        · (repeat' ((conv => whnf) <;> first | exact rfl | exact trivial | exact Fw.Hp.like_refl _ | apply And.intro | exact Nat.zero_add _))
        · (repeat' ((conv => whnf) <;> first | exact rfl | exact trivial | exact Fw.Hp.like_refl _ | apply And.intro | exact Nat.zero_add _)); all_goals ((conv => whnf); try simp only [])
          rw [Wh.wr (by omega)]; omega
        · simp only [Int.toNat_natCast, Ty.dflt] at hh
          rw [List.getD_eq_getElem?_getD, List.getD_eq_getElem?_getD, List.getElem?_eq_getElem hi1, List.getElem?_eq_getElem (by omega)] at hh
          rw [List.take_add_one, List.take_add_one, hi.2, List.getElem?_eq_getElem hi1, List.getElem?_eq_getElem (by omega)]
          have hh : a[i]'hi1 = b[i]'(by omega) := hh
          simp [hh]
      · have e : i = a.length := by omega
        have hab : a = b := by
          have := hi.2
          rw [e, List.take_length, hl, List.take_length] at this
          exact this
        (refine RetN.q () [] ?_ ?_ ?_ <;> (repeat' ((conv => whnf) <;> first | exact rfl | exact trivial | exact Fw.Hp.like_refl _ | apply And.intro | exact Nat.zero_add _)); all_goals ((conv => whnf); try simp only []))
        simp [hab]
set_option maxRecDepth 20000 in
theorem liveM : Meets Try.prog 10 [] [] (Y := Unit) (fun _ => True) (fun _ => .tt) (fun _ => []) := by
  refine Meets.intro hm (fn := Try.f10) Try.func10 rfl (by decide) (Nat.le_of_ble_eq_true rfl) (fun _ => rfl) ?_; intro S hok; (conv => whnf)
  (repeat' ((conv => whnf); first | apply And.intro | exact ⟨by kernel_rfl⟩ | apply DrawN.mk | apply CodeN.step hm rfl | exact trivial | exact rfl | (intro hh; try simp only [bs] at hh; try exact absurd hh (by decide)))); all_goals (conv => whnf)
  (refine CallN.q (newL 10 (by decide)) [] ?_; rintro t h0; (repeat' ((conv => whnf); first | apply And.intro | exact ⟨by kernel_rfl⟩ | apply DrawN.mk | apply CodeN.step hm rfl | exact trivial | exact rfl | (intro hh; try simp only [bs] at hh; try exact absurd hh (by decide)))); all_goals (conv => whnf); all_goals try exact ⟨by decide⟩)
  (refine CallN.q (newBadM (-1) (by decide)) [] (fun _ _ => ?_); (repeat' ((conv => whnf); first | apply And.intro | exact ⟨by kernel_rfl⟩ | apply DrawN.mk | apply CodeN.step hm rfl | exact trivial | exact rfl | (intro hh; try simp only [bs] at hh; try exact absurd hh (by decide)))); all_goals (conv => whnf); all_goals try exact ⟨by decide⟩)
  (refine CallN.q (setL t 10 [] h0 1 100 (by decide) (by decide)) [0, 1, 2, 3, 4, 5, 6, 7] ?_; rintro t1 h1; (repeat' ((conv => whnf); first | apply And.intro | exact ⟨by kernel_rfl⟩ | apply DrawN.mk | apply CodeN.step hm rfl | exact trivial | exact rfl | (intro hh; try simp only [bs] at hh; try exact absurd hh (by decide)))); all_goals (conv => whnf); all_goals try exact ⟨by decide⟩)
  have h1 : TL t1 10 [(1, 100)] := h1
  (refine CallN.q (setL t1 10 _ h1 2 5000 (by decide) (by decide)) [0, 1, 2, 3, 4, 5, 6, 7] ?_; rintro t2 h2; (repeat' ((conv => whnf); first | apply And.intro | exact ⟨by kernel_rfl⟩ | apply DrawN.mk | apply CodeN.step hm rfl | exact trivial | exact rfl | (intro hh; try simp only [bs] at hh; try exact absurd hh (by decide)))); all_goals (conv => whnf); all_goals try exact ⟨by decide⟩)
  have h2 : TL t2 10 [(1, 100), (2, 5000)] := h2
  (refine CallN.q (setL t2 10 _ h2 3 5 (by decide) (by decide)) [0, 1, 2, 3, 4, 5, 6, 7] ?_; rintro t3 h3; (repeat' ((conv => whnf); first | apply And.intro | exact ⟨by kernel_rfl⟩ | apply DrawN.mk | apply CodeN.step hm rfl | exact trivial | exact rfl | (intro hh; try simp only [bs] at hh; try exact absurd hh (by decide)))); all_goals (conv => whnf); all_goals try exact ⟨by decide⟩)
  have h3 : TL t3 10 [(3, 5), (1, 100), (2, 5000)] := h3
  (refine CallN.q (setL t3 10 _ h3 4 549755813888 (by decide) (by decide)) [0, 1, 2, 3, 4, 5, 6, 7] ?_; rintro t4 h4; (repeat' ((conv => whnf); first | apply And.intro | exact ⟨by kernel_rfl⟩ | apply DrawN.mk | apply CodeN.step hm rfl | exact trivial | exact rfl | (intro hh; try simp only [bs] at hh; try exact absurd hh (by decide)))); all_goals (conv => whnf); all_goals try exact ⟨by decide⟩)
  have h4 : TL t4 10 [(3, 5), (1, 100), (2, 5000), (4, 549755813888)] := h4
  (refine CallN.q (setBadM t4 (-1) 5 (by decide)) [0, 1, 2, 3, 4, 5, 6, 7] (fun _ _ => ?_); (repeat' ((conv => whnf); first | apply And.intro | exact ⟨by kernel_rfl⟩ | apply DrawN.mk | apply CodeN.step hm rfl | exact trivial | exact rfl | (intro hh; try simp only [bs] at hh; try exact absurd hh (by decide)))); all_goals (conv => whnf); all_goals try exact ⟨by decide⟩)
  (refine CallN.q (advL t4 10 _ h4 10 (by decide) (by decide)) [0, 1, 2, 3, 4, 5, 6, 7] ?_; rintro t5 h5; (repeat' ((conv => whnf); first | apply And.intro | exact ⟨by kernel_rfl⟩ | apply DrawN.mk | apply CodeN.step hm rfl | exact trivial | exact rfl | (intro hh; try simp only [bs] at hh; try exact absurd hh (by decide)))); all_goals (conv => whnf); all_goals try exact ⟨by decide⟩)
  have h5 : TL t5 10 [(1, 100), (2, 5000), (4, 549755813888)] := h5
  (refine CallN.q (nextL t5 10 _ h5) [0, 1, 2, 3, 4, 5, 6, 7] (fun _ _ => ?_); (repeat' ((conv => whnf); first | apply And.intro | exact ⟨by kernel_rfl⟩ | apply DrawN.mk | apply CodeN.step hm rfl | exact trivial | exact rfl | (intro hh; try simp only [bs] at hh; try exact absurd hh (by decide)))); all_goals (conv => whnf); all_goals try exact ⟨by decide⟩)
  (refine CallN.q (advL t5 10 _ h5 4999 (by decide) (by decide)) [0, 1, 2, 3, 4, 5, 6, 7] ?_; rintro t6 h6; (repeat' ((conv => whnf); first | apply And.intro | exact ⟨by kernel_rfl⟩ | apply DrawN.mk | apply CodeN.step hm rfl | exact trivial | exact rfl | (intro hh; try simp only [bs] at hh; try exact absurd hh (by decide)))); all_goals (conv => whnf); all_goals try exact ⟨by decide⟩)
  have h6 : TL t6 4999 [(2, 5000), (4, 549755813888)] := h6
  (refine CallN.q (advBadL t6 4999 _ h6 100 (by decide)) [0, 1, 2, 3, 4, 5, 6, 7] (fun _ _ => ?_); (repeat' ((conv => whnf); first | apply And.intro | exact ⟨by kernel_rfl⟩ | apply DrawN.mk | apply CodeN.step hm rfl | exact trivial | exact rfl | (intro hh; try simp only [bs] at hh; try exact absurd hh (by decide)))); all_goals (conv => whnf); all_goals try exact ⟨by decide⟩)
  (refine CallN.q (dueL t6 4999 _ h6 2) [0, 1, 2, 3, 4, 5, 6, 7] (fun _ _ => ?_); (repeat' ((conv => whnf); first | apply And.intro | exact ⟨by kernel_rfl⟩ | apply DrawN.mk | apply CodeN.step hm rfl | exact trivial | exact rfl | (intro hh; try simp only [bs] at hh; try exact absurd hh (by decide)))); all_goals (conv => whnf); all_goals try exact ⟨by decide⟩)
  (refine CallN.q (cancelL t6 4999 _ h6 2) [0, 1, 2, 3, 4, 5, 6, 7] ?_; rintro t7 h7; (repeat' ((conv => whnf); first | apply And.intro | exact ⟨by kernel_rfl⟩ | apply DrawN.mk | apply CodeN.step hm rfl | exact trivial | exact rfl | (intro hh; try simp only [bs] at hh; try exact absurd hh (by decide)))); all_goals (conv => whnf); all_goals try exact ⟨by decide⟩)
  have h7 : TL t7 4999 [(4, 549755813888)] := h7
  (refine CallN.q (advL t7 4999 _ h7 1099511627776 (by decide) (by decide)) [0, 1, 2, 3, 4, 5, 6, 7] ?_; rintro t8 h8; (repeat' ((conv => whnf); first | apply And.intro | exact ⟨by kernel_rfl⟩ | apply DrawN.mk | apply CodeN.step hm rfl | exact trivial | exact rfl | (intro hh; try simp only [bs] at hh; try exact absurd hh (by decide)))); all_goals (conv => whnf); all_goals try exact ⟨by decide⟩)
  have h8 : TL t8 1099511627776 [] := h8
  refine CallN.rest (intsM [3] [3] (by decide)) [8] ?_ (fun _ _ => ⟨rfl, rfl⟩) ?_
  · (repeat' ((conv => whnf) <;> first | exact rfl | exact trivial | exact Fw.Hp.like_refl _ | apply And.intro | exact Nat.zero_add _)); all_goals ((conv => whnf); try simp only [])
  intro _ _
  (repeat' ((conv => whnf); first | apply And.intro | exact ⟨by kernel_rfl⟩ | apply DrawN.mk | apply CodeN.step hm rfl | exact trivial | exact rfl | (intro hh; try simp only [bs] at hh; try exact absurd hh (by decide)))); all_goals (conv => whnf)
  refine CallN.rest (intsM [1] [1] (by decide)) [9] ?_ (fun _ _ => ⟨rfl, rfl⟩) ?_
  · (repeat' ((conv => whnf) <;> first | exact rfl | exact trivial | exact Fw.Hp.like_refl _ | apply And.intro | exact Nat.zero_add _)); all_goals ((conv => whnf); try simp only [])
  intro _ _
  (repeat' ((conv => whnf); first | apply And.intro | exact ⟨by kernel_rfl⟩ | apply DrawN.mk | apply CodeN.step hm rfl | exact trivial | exact rfl | (intro hh; try simp only [bs] at hh; try exact absurd hh (by decide)))); all_goals (conv => whnf)
  refine CallN.rest (intsM [4] [4] (by decide)) [10] ?_ (fun _ _ => ⟨rfl, rfl⟩) ?_
  · (repeat' ((conv => whnf) <;> first | exact rfl | exact trivial | exact Fw.Hp.like_refl _ | apply And.intro | exact Nat.zero_add _)); all_goals ((conv => whnf); try simp only [])
  intro _ _
  (repeat' ((conv => whnf); first | apply And.intro | exact ⟨by kernel_rfl⟩ | apply DrawN.mk | apply CodeN.step hm rfl | exact trivial | exact rfl | (intro hh; try simp only [bs] at hh; try exact absurd hh (by decide)))); all_goals (conv => whnf)
  (refine CallN.q (nowL t8 1099511627776 _ h8) [0, 1, 2, 3, 4, 5, 6, 7] (fun _ _ => ?_); (repeat' ((conv => whnf); first | apply And.intro | exact ⟨by kernel_rfl⟩ | apply DrawN.mk | apply CodeN.step hm rfl | exact trivial | exact rfl | (intro hh; try simp only [bs] at hh; try exact absurd hh (by decide)))); all_goals (conv => whnf); all_goals try exact ⟨by decide⟩)
  (refine CallN.q (lenL t8 1099511627776 _ h8) [0, 1, 2, 3, 4, 5, 6, 7] (fun _ _ => ?_); (repeat' ((conv => whnf); first | apply And.intro | exact ⟨by kernel_rfl⟩ | apply DrawN.mk | apply CodeN.step hm rfl | exact trivial | exact rfl | (intro hh; try simp only [bs] at hh; try exact absurd hh (by decide)))); all_goals (conv => whnf); all_goals try exact ⟨by decide⟩)
  (refine RetN.q () [] ?_ ?_ ?_ <;> (repeat' ((conv => whnf) <;> first | exact rfl | exact trivial | exact Fw.Hp.like_refl _ | apply And.intro | exact Nat.zero_add _)); all_goals ((conv => whnf); try simp only []))
end Go.Proofs.Ytafcenlbllmahaa.Ti
set_option linter.unusedVariables false
set_option linter.unusedSimpArgs false
namespace Go.Proofs.Ytafcenlbllmahaa.Ti
open Go Go.RowKit Fw Wh
def chTK (t : Tm) (now : Int) (L : Ones) : List Chunk := chT t ++ chK now L
structure DoesQ (y : Tm × Int × Ones) : Prop where
  h : TL y.1 y.2.1 y.2.2
theorem cut_len (L : Ones) (to : Int) (h : L.length ≤ 1048576) : ((L.take (cutK L to)).map (·.1)).length ≤ 1000000000 := by
  simp only [List.length_map, List.length_take]; omega
theorem doesM (t : Tm) (now : Int) (L : Ones) (h : TL t now L) (a id n : Int) : Meets Try.prog 11 [.ptr 0 0, .ptr 8 0, .agg [.int .i64 fun _ => a, .int .i64 fun _ => id, .int .i64 fun _ => n]] (chTK t now L) (Y := Tm × Int × Ones) DoesQ
    (fun _ => .tt) (fun y => chTK y.1 y.2.1 y.2.2) := by
  by_cases h0 : a = 0
  · subst h0
    refine Meets.intro hm (fn := Try.f11) Try.func11 rfl (by decide) (Nat.le_of_ble_eq_true rfl) (fun _ => rfl) ?_; intro S hok; (conv => whnf)
    (repeat' ((conv => whnf); first | apply And.intro | exact ⟨by kernel_rfl⟩ | apply DrawN.mk | apply CodeN.step hm rfl | exact trivial | exact rfl | (intro hh; try simp only [bs] at hh; try exact absurd hh (by decide)))); all_goals (conv => whnf)
    by_cases hv : (0 ≤ id ∧ id ≤ 1048575) ∧ (0 ≤ n ∧ n ≤ 1099511627776)
    · (refine CallN.q (setL t now L h id (n) hv.1 hv.2) [0, 1, 2, 3, 4, 5, 6, 7] ?_; rintro t1 h1; (repeat' ((conv => whnf); first | apply And.intro | exact ⟨by kernel_rfl⟩ | apply DrawN.mk | apply CodeN.step hm rfl | exact trivial | exact rfl | (intro hh; try simp only [bs] at hh; try exact absurd hh (by decide)))); all_goals (conv => whnf); all_goals try exact ⟨by decide⟩)
      (refine CallN.q (setK now L h.len id (n) hv.1 hv.2) [8] (fun _ _ => ?_); (repeat' ((conv => whnf); first | apply And.intro | exact ⟨by kernel_rfl⟩ | apply DrawN.mk | apply CodeN.step hm rfl | exact trivial | exact rfl | (intro hh; try simp only [bs] at hh; try exact absurd hh (by decide)))); all_goals (conv => whnf); all_goals try exact ⟨by decide⟩)
      (refine RetN.q (t1, now, insK (canK L id) (id, n)) [0, 1, 2, 3, 4, 5, 6, 7, 8] ?_ ?_ ?_ <;> (repeat' ((conv => whnf) <;> first | exact rfl | exact trivial | exact Fw.Hp.like_refl _ | apply And.intro | exact Nat.zero_add _)); all_goals ((conv => whnf); try simp only []))
      exact ⟨h1⟩
    · (refine CallN.q (setBadM t id (n) hv) [0, 1, 2, 3, 4, 5, 6, 7] (fun _ _ => ?_); (repeat' ((conv => whnf); first | apply And.intro | exact ⟨by kernel_rfl⟩ | apply DrawN.mk | apply CodeN.step hm rfl | exact trivial | exact rfl | (intro hh; try simp only [bs] at hh; try exact absurd hh (by decide)))); all_goals (conv => whnf); all_goals try exact ⟨by decide⟩)
      (refine CallN.q (setBadK now L id (n) hv) [8] (fun _ _ => ?_); (repeat' ((conv => whnf); first | apply And.intro | exact ⟨by kernel_rfl⟩ | apply DrawN.mk | apply CodeN.step hm rfl | exact trivial | exact rfl | (intro hh; try simp only [bs] at hh; try exact absurd hh (by decide)))); all_goals (conv => whnf); all_goals try exact ⟨by decide⟩)
      (refine RetN.q (t, now, L) [0, 1, 2, 3, 4, 5, 6, 7, 8] ?_ ?_ ?_ <;> (repeat' ((conv => whnf) <;> first | exact rfl | exact trivial | exact Fw.Hp.like_refl _ | apply And.intro | exact Nat.zero_add _)); all_goals ((conv => whnf); try simp only []))
      exact ⟨h⟩
  by_cases h1 : a = 1
  · subst h1
    refine Meets.intro hm (fn := Try.f11) Try.func11 rfl (by decide) (Nat.le_of_ble_eq_true rfl) (fun _ => rfl) ?_; intro S hok; (conv => whnf)
    (repeat' ((conv => whnf); first | apply And.intro | exact ⟨by kernel_rfl⟩ | apply DrawN.mk | apply CodeN.step hm rfl | exact trivial | exact rfl | (intro hh; try simp only [bs] at hh; try exact absurd hh (by decide)))); all_goals (conv => whnf)
    (refine CallN.q (cancelL t now L h id) [0, 1, 2, 3, 4, 5, 6, 7] ?_; rintro t1 h1; (repeat' ((conv => whnf); first | apply And.intro | exact ⟨by kernel_rfl⟩ | apply DrawN.mk | apply CodeN.step hm rfl | exact trivial | exact rfl | (intro hh; try simp only [bs] at hh; try exact absurd hh (by decide)))); all_goals (conv => whnf); all_goals try exact ⟨by decide⟩)
    (refine CallN.q (cancelK now L h.len id) [8] (fun _ _ => ?_); (repeat' ((conv => whnf); first | apply And.intro | exact ⟨by kernel_rfl⟩ | apply DrawN.mk | apply CodeN.step hm rfl | exact trivial | exact rfl | (intro hh; try simp only [bs] at hh; try exact absurd hh (by decide)))); all_goals (conv => whnf); all_goals try exact ⟨by decide⟩)
    (refine RetN.q (t1, now, canK L id) [0, 1, 2, 3, 4, 5, 6, 7, 8] ?_ ?_ ?_ <;> (repeat' ((conv => whnf) <;> first | exact rfl | exact trivial | exact Fw.Hp.like_refl _ | apply And.intro | exact Nat.zero_add _)); all_goals ((conv => whnf); try simp only []))
    · simp
    · exact ⟨h1⟩
  by_cases h2 : a = 2
  · subst h2
    refine Meets.intro hm (fn := Try.f11) Try.func11 rfl (by decide) (Nat.le_of_ble_eq_true rfl) (fun _ => rfl) ?_; intro S hok; (conv => whnf)
    (repeat' ((conv => whnf); first | apply And.intro | exact ⟨by kernel_rfl⟩ | apply DrawN.mk | apply CodeN.step hm rfl | exact trivial | exact rfl | (intro hh; try simp only [bs] at hh; try exact absurd hh (by decide)))); all_goals (conv => whnf)
    (refine CallN.q (dueL t now L h id) [0, 1, 2, 3, 4, 5, 6, 7] (fun _ _ => ?_); (repeat' ((conv => whnf); first | apply And.intro | exact ⟨by kernel_rfl⟩ | apply DrawN.mk | apply CodeN.step hm rfl | exact trivial | exact rfl | (intro hh; try simp only [bs] at hh; try exact absurd hh (by decide)))); all_goals (conv => whnf); all_goals try exact ⟨by decide⟩)
    (refine CallN.q (dueK now L h.len id) [8] (fun _ _ => ?_); (repeat' ((conv => whnf); first | apply And.intro | exact ⟨by kernel_rfl⟩ | apply DrawN.mk | apply CodeN.step hm rfl | exact trivial | exact rfl | (intro hh; try simp only [bs] at hh; try exact absurd hh (by decide)))); all_goals (conv => whnf); all_goals try exact ⟨by decide⟩)
    · (refine RetN.q (t, now, L) [0, 1, 2, 3, 4, 5, 6, 7, 8] ?_ ?_ ?_ <;> (repeat' ((conv => whnf) <;> first | exact rfl | exact trivial | exact Fw.Hp.like_refl _ | apply And.intro | exact Nat.zero_add _)); all_goals ((conv => whnf); try simp only []))
      · simp
      · exact ⟨h⟩
    · exact absurd rfl hh
  by_cases h3 : a = 3
  · subst h3
    refine Meets.intro hm (fn := Try.f11) Try.func11 rfl (by decide) (Nat.le_of_ble_eq_true rfl) (fun _ => rfl) ?_; intro S hok; (conv => whnf)
    (repeat' ((conv => whnf); first | apply And.intro | exact ⟨by kernel_rfl⟩ | apply DrawN.mk | apply CodeN.step hm rfl | exact trivial | exact rfl | (intro hh; try simp only [bs] at hh; try exact absurd hh (by decide)))); all_goals (conv => whnf)
    by_cases hv : now ≤ n ∧ n ≤ 1099511627776
    · (refine CallN.q (advL t now L h (n) hv.1 hv.2) [0, 1, 2, 3, 4, 5, 6, 7] ?_; rintro t1 h1; (repeat' ((conv => whnf); first | apply And.intro | exact ⟨by kernel_rfl⟩ | apply DrawN.mk | apply CodeN.step hm rfl | exact trivial | exact rfl | (intro hh; try simp only [bs] at hh; try exact absurd hh (by decide)))); all_goals (conv => whnf); all_goals try exact ⟨by decide⟩)
      (refine CallN.q (advKL now L h.len (n) hv.1 hv.2) [8] (fun _ _ => ?_); (repeat' ((conv => whnf); first | apply And.intro | exact ⟨by kernel_rfl⟩ | apply DrawN.mk | apply CodeN.step hm rfl | exact trivial | exact rfl | (intro hh; try simp only [bs] at hh; try exact absurd hh (by decide)))); all_goals (conv => whnf); all_goals try exact ⟨by decide⟩)
      (refine CallN.q (intsM _ _ (cut_len L (n) h.len)) [] (fun _ _ => ?_); (repeat' ((conv => whnf); first | apply And.intro | exact ⟨by kernel_rfl⟩ | apply DrawN.mk | apply CodeN.step hm rfl | exact trivial | exact rfl | (intro hh; try simp only [bs] at hh; try exact absurd hh (by decide)))); all_goals (conv => whnf); all_goals try exact ⟨by decide⟩)
      (refine RetN.q (t1, n, L.drop (cutK L (n))) [0, 1, 2, 3, 4, 5, 6, 7, 8] ?_ ?_ ?_ <;> (repeat' ((conv => whnf) <;> first | exact rfl | exact trivial | exact Fw.Hp.like_refl _ | apply And.intro | exact Nat.zero_add _)); all_goals ((conv => whnf); try simp only []))
      · simp
      · exact ⟨h1⟩
    · have hv2 : n < now ∨ 1099511627776 < n := by omega
      (refine CallN.q (advBadL t now L h (n) hv2) [0, 1, 2, 3, 4, 5, 6, 7] (fun _ _ => ?_); (repeat' ((conv => whnf); first | apply And.intro | exact ⟨by kernel_rfl⟩ | apply DrawN.mk | apply CodeN.step hm rfl | exact trivial | exact rfl | (intro hh; try simp only [bs] at hh; try exact absurd hh (by decide)))); all_goals (conv => whnf); all_goals try exact ⟨by decide⟩)
      (refine CallN.q (advBadK now L (n) hv2) [8] (fun _ _ => ?_); (repeat' ((conv => whnf); first | apply And.intro | exact ⟨by kernel_rfl⟩ | apply DrawN.mk | apply CodeN.step hm rfl | exact trivial | exact rfl | (intro hh; try simp only [bs] at hh; try exact absurd hh (by decide)))); all_goals (conv => whnf); all_goals try exact ⟨by decide⟩)
      (refine CallN.q (intsM [] [] (by decide)) [] (fun _ _ => ?_); (repeat' ((conv => whnf); first | apply And.intro | exact ⟨by kernel_rfl⟩ | apply DrawN.mk | apply CodeN.step hm rfl | exact trivial | exact rfl | (intro hh; try simp only [bs] at hh; try exact absurd hh (by decide)))); all_goals (conv => whnf); all_goals try exact ⟨by decide⟩)
      (refine RetN.q (t, now, L) [0, 1, 2, 3, 4, 5, 6, 7, 8] ?_ ?_ ?_ <;> (repeat' ((conv => whnf) <;> first | exact rfl | exact trivial | exact Fw.Hp.like_refl _ | apply And.intro | exact Nat.zero_add _)); all_goals ((conv => whnf); try simp only []))
      exact ⟨h⟩
  by_cases h4 : a = 4
  · subst h4
    refine Meets.intro hm (fn := Try.f11) Try.func11 rfl (by decide) (Nat.le_of_ble_eq_true rfl) (fun _ => rfl) ?_; intro S hok; (conv => whnf)
    (repeat' ((conv => whnf); first | apply And.intro | exact ⟨by kernel_rfl⟩ | apply DrawN.mk | apply CodeN.step hm rfl | exact trivial | exact rfl | (intro hh; try simp only [bs] at hh; try exact absurd hh (by decide)))); all_goals (conv => whnf)
    (refine CallN.q (nextL t now L h) [0, 1, 2, 3, 4, 5, 6, 7] (fun _ _ => ?_); (repeat' ((conv => whnf); first | apply And.intro | exact ⟨by kernel_rfl⟩ | apply DrawN.mk | apply CodeN.step hm rfl | exact trivial | exact rfl | (intro hh; try simp only [bs] at hh; try exact absurd hh (by decide)))); all_goals (conv => whnf); all_goals try exact ⟨by decide⟩)
    (refine CallN.q (nextK now L) [8] (fun _ _ => ?_); (repeat' ((conv => whnf); first | apply And.intro | exact ⟨by kernel_rfl⟩ | apply DrawN.mk | apply CodeN.step hm rfl | exact trivial | exact rfl | (intro hh; try simp only [bs] at hh; try exact absurd hh (by decide)))); all_goals (conv => whnf); all_goals try exact ⟨by decide⟩)
    (refine RetN.q (t, now, L) [0, 1, 2, 3, 4, 5, 6, 7, 8] ?_ ?_ ?_ <;> (repeat' ((conv => whnf) <;> first | exact rfl | exact trivial | exact Fw.Hp.like_refl _ | apply And.intro | exact Nat.zero_add _)); all_goals ((conv => whnf); try simp only []))
    · simp
    · exact ⟨h⟩
  by_cases h5 : a = 5
  · subst h5
    refine Meets.intro hm (fn := Try.f11) Try.func11 rfl (by decide) (Nat.le_of_ble_eq_true rfl) (fun _ => rfl) ?_; intro S hok; (conv => whnf)
    (repeat' ((conv => whnf); first | apply And.intro | exact ⟨by kernel_rfl⟩ | apply DrawN.mk | apply CodeN.step hm rfl | exact trivial | exact rfl | (intro hh; try simp only [bs] at hh; try exact absurd hh (by decide)))); all_goals (conv => whnf)
    · (refine RetN.q (t, now, L) [0, 1, 2, 3, 4, 5, 6, 7, 8] ?_ ?_ ?_ <;> (repeat' ((conv => whnf) <;> first | exact rfl | exact trivial | exact Fw.Hp.like_refl _ | apply And.intro | exact Nat.zero_add _)); all_goals ((conv => whnf); try simp only []))
      exact ⟨h⟩
    · by_cases hv : (0 ≤ id ∧ id ≤ 1048575) ∧ (0 ≤ IntKind.i64.wrap (now + n) ∧ IntKind.i64.wrap (now + n) ≤ 1099511627776)
      · (refine CallN.q (setL t now L h id (IntKind.i64.wrap (now + n)) hv.1 hv.2) [0, 1, 2, 3, 4, 5, 6, 7] ?_; rintro t1 h1; (repeat' ((conv => whnf); first | apply And.intro | exact ⟨by kernel_rfl⟩ | apply DrawN.mk | apply CodeN.step hm rfl | exact trivial | exact rfl | (intro hh; try simp only [bs] at hh; try exact absurd hh (by decide)))); all_goals (conv => whnf); all_goals try exact ⟨by decide⟩)
        (refine CallN.q (setK now L h.len id (IntKind.i64.wrap (now + n)) hv.1 hv.2) [8] (fun _ _ => ?_); (repeat' ((conv => whnf); first | apply And.intro | exact ⟨by kernel_rfl⟩ | apply DrawN.mk | apply CodeN.step hm rfl | exact trivial | exact rfl | (intro hh; try simp only [bs] at hh; try exact absurd hh (by decide)))); all_goals (conv => whnf); all_goals try exact ⟨by decide⟩)
        (refine RetN.q (t1, now, insK (canK L id) (id, IntKind.i64.wrap (now + n))) [0, 1, 2, 3, 4, 5, 6, 7, 8] ?_ ?_ ?_ <;> (repeat' ((conv => whnf) <;> first | exact rfl | exact trivial | exact Fw.Hp.like_refl _ | apply And.intro | exact Nat.zero_add _)); all_goals ((conv => whnf); try simp only []))
        exact ⟨h1⟩
      · (refine CallN.q (setBadM t id (IntKind.i64.wrap (now + n)) hv) [0, 1, 2, 3, 4, 5, 6, 7] (fun _ _ => ?_); (repeat' ((conv => whnf); first | apply And.intro | exact ⟨by kernel_rfl⟩ | apply DrawN.mk | apply CodeN.step hm rfl | exact trivial | exact rfl | (intro hh; try simp only [bs] at hh; try exact absurd hh (by decide)))); all_goals (conv => whnf); all_goals try exact ⟨by decide⟩)
        (refine CallN.q (setBadK now L id (IntKind.i64.wrap (now + n)) hv) [8] (fun _ _ => ?_); (repeat' ((conv => whnf); first | apply And.intro | exact ⟨by kernel_rfl⟩ | apply DrawN.mk | apply CodeN.step hm rfl | exact trivial | exact rfl | (intro hh; try simp only [bs] at hh; try exact absurd hh (by decide)))); all_goals (conv => whnf); all_goals try exact ⟨by decide⟩)
        (refine RetN.q (t, now, L) [0, 1, 2, 3, 4, 5, 6, 7, 8] ?_ ?_ ?_ <;> (repeat' ((conv => whnf) <;> first | exact rfl | exact trivial | exact Fw.Hp.like_refl _ | apply And.intro | exact Nat.zero_add _)); all_goals ((conv => whnf); try simp only []))
        exact ⟨h⟩
    · (refine RetN.q (t, now, L) [0, 1, 2, 3, 4, 5, 6, 7, 8] ?_ ?_ ?_ <;> (repeat' ((conv => whnf) <;> first | exact rfl | exact trivial | exact Fw.Hp.like_refl _ | apply And.intro | exact Nat.zero_add _)); all_goals ((conv => whnf); try simp only []))
      exact ⟨h⟩
  by_cases h6 : a = 6
  · subst h6
    refine Meets.intro hm (fn := Try.f11) Try.func11 rfl (by decide) (Nat.le_of_ble_eq_true rfl) (fun _ => rfl) ?_; intro S hok; (conv => whnf)
    (repeat' ((conv => whnf); first | apply And.intro | exact ⟨by kernel_rfl⟩ | apply DrawN.mk | apply CodeN.step hm rfl | exact trivial | exact rfl | (intro hh; try simp only [bs] at hh; try exact absurd hh (by decide)))); all_goals (conv => whnf)
    · (refine RetN.q (t, now, L) [0, 1, 2, 3, 4, 5, 6, 7, 8] ?_ ?_ ?_ <;> (repeat' ((conv => whnf) <;> first | exact rfl | exact trivial | exact Fw.Hp.like_refl _ | apply And.intro | exact Nat.zero_add _)); all_goals ((conv => whnf); try simp only []))
      exact ⟨h⟩
    · by_cases hv : now ≤ IntKind.i64.wrap (now + n) ∧ IntKind.i64.wrap (now + n) ≤ 1099511627776
      · (refine CallN.q (advL t now L h (IntKind.i64.wrap (now + n)) hv.1 hv.2) [0, 1, 2, 3, 4, 5, 6, 7] ?_; rintro t1 h1; (repeat' ((conv => whnf); first | apply And.intro | exact ⟨by kernel_rfl⟩ | apply DrawN.mk | apply CodeN.step hm rfl | exact trivial | exact rfl | (intro hh; try simp only [bs] at hh; try exact absurd hh (by decide)))); all_goals (conv => whnf); all_goals try exact ⟨by decide⟩)
        (refine CallN.q (advKL now L h.len (IntKind.i64.wrap (now + n)) hv.1 hv.2) [8] (fun _ _ => ?_); (repeat' ((conv => whnf); first | apply And.intro | exact ⟨by kernel_rfl⟩ | apply DrawN.mk | apply CodeN.step hm rfl | exact trivial | exact rfl | (intro hh; try simp only [bs] at hh; try exact absurd hh (by decide)))); all_goals (conv => whnf); all_goals try exact ⟨by decide⟩)
        (refine CallN.q (intsM _ _ (cut_len L (IntKind.i64.wrap (now + n)) h.len)) [] (fun _ _ => ?_); (repeat' ((conv => whnf); first | apply And.intro | exact ⟨by kernel_rfl⟩ | apply DrawN.mk | apply CodeN.step hm rfl | exact trivial | exact rfl | (intro hh; try simp only [bs] at hh; try exact absurd hh (by decide)))); all_goals (conv => whnf); all_goals try exact ⟨by decide⟩)
        (refine RetN.q (t1, IntKind.i64.wrap (now + n), L.drop (cutK L (IntKind.i64.wrap (now + n)))) [0, 1, 2, 3, 4, 5, 6, 7, 8] ?_ ?_ ?_ <;> (repeat' ((conv => whnf) <;> first | exact rfl | exact trivial | exact Fw.Hp.like_refl _ | apply And.intro | exact Nat.zero_add _)); all_goals ((conv => whnf); try simp only []))
        · simp
        · exact ⟨h1⟩
      · have hv2 : IntKind.i64.wrap (now + n) < now ∨ 1099511627776 < IntKind.i64.wrap (now + n) := by omega
        (refine CallN.q (advBadL t now L h (IntKind.i64.wrap (now + n)) hv2) [0, 1, 2, 3, 4, 5, 6, 7] (fun _ _ => ?_); (repeat' ((conv => whnf); first | apply And.intro | exact ⟨by kernel_rfl⟩ | apply DrawN.mk | apply CodeN.step hm rfl | exact trivial | exact rfl | (intro hh; try simp only [bs] at hh; try exact absurd hh (by decide)))); all_goals (conv => whnf); all_goals try exact ⟨by decide⟩)
        (refine CallN.q (advBadK now L (IntKind.i64.wrap (now + n)) hv2) [8] (fun _ _ => ?_); (repeat' ((conv => whnf); first | apply And.intro | exact ⟨by kernel_rfl⟩ | apply DrawN.mk | apply CodeN.step hm rfl | exact trivial | exact rfl | (intro hh; try simp only [bs] at hh; try exact absurd hh (by decide)))); all_goals (conv => whnf); all_goals try exact ⟨by decide⟩)
        (refine CallN.q (intsM [] [] (by decide)) [] (fun _ _ => ?_); (repeat' ((conv => whnf); first | apply And.intro | exact ⟨by kernel_rfl⟩ | apply DrawN.mk | apply CodeN.step hm rfl | exact trivial | exact rfl | (intro hh; try simp only [bs] at hh; try exact absurd hh (by decide)))); all_goals (conv => whnf); all_goals try exact ⟨by decide⟩)
        (refine RetN.q (t, now, L) [0, 1, 2, 3, 4, 5, 6, 7, 8] ?_ ?_ ?_ <;> (repeat' ((conv => whnf) <;> first | exact rfl | exact trivial | exact Fw.Hp.like_refl _ | apply And.intro | exact Nat.zero_add _)); all_goals ((conv => whnf); try simp only []))
        exact ⟨h⟩
    · (refine RetN.q (t, now, L) [0, 1, 2, 3, 4, 5, 6, 7, 8] ?_ ?_ ?_ <;> (repeat' ((conv => whnf) <;> first | exact rfl | exact trivial | exact Fw.Hp.like_refl _ | apply And.intro | exact Nat.zero_add _)); all_goals ((conv => whnf); try simp only []))
      exact ⟨h⟩
  refine Meets.intro hm (fn := Try.f11) Try.func11 rfl (by decide) (Nat.le_of_ble_eq_true rfl) (fun _ => rfl) ?_; intro S hok; (conv => whnf)
  (repeat' ((conv => whnf); first | apply And.intro | exact ⟨by kernel_rfl⟩ | apply DrawN.mk | apply CodeN.step hm rfl | exact trivial | exact rfl | (intro hh; try simp only [bs] at hh; try exact absurd hh (by decide)))); all_goals (conv => whnf)
  all_goals first | (exfalso; contradiction) | skip
  (refine RetN.q (t, now, L) [0, 1, 2, 3, 4, 5, 6, 7, 8] ?_ ?_ ?_ <;> (repeat' ((conv => whnf) <;> first | exact rfl | exact trivial | exact Fw.Hp.like_refl _ | apply And.intro | exact Nat.zero_add _)); all_goals ((conv => whnf); try simp only []))
  exact ⟨h⟩
end Go.Proofs.Ytafcenlbllmahaa.Ti
set_option linter.unusedVariables false
set_option linter.unusedSimpArgs false
namespace Go.Proofs.Ytafcenlbllmahaa.Ti
open Go Go.RowKit Fw Wh
theorem nilLaw (id n : Int) : Meets Try.prog 6 [.int .i64 fun _ => id, .int .i64 fun _ => n] [] (Y := Unit) (fun _ => True) (fun _ => .tt) (fun _ => []) := by
  refine Meets.intro hm (fn := Try.f6) Try.func6 rfl (by decide) (Nat.le_of_ble_eq_true rfl) (fun _ => rfl) ?_; intro S hok; (conv => whnf)
  (repeat' ((conv => whnf); first | apply And.intro | exact ⟨by kernel_rfl⟩ | apply DrawN.mk | apply CodeN.step hm rfl | exact trivial | exact rfl | (intro hh; try simp only [bs] at hh; try exact absurd hh (by decide)))); all_goals (conv => whnf)
  (refine CallN.q (dueNil id) [] (fun _ _ => ?_); (repeat' ((conv => whnf); first | apply And.intro | exact ⟨by kernel_rfl⟩ | apply DrawN.mk | apply CodeN.step hm rfl | exact trivial | exact rfl | (intro hh; try simp only [bs] at hh; try exact absurd hh (by decide)))); all_goals (conv => whnf); all_goals try exact ⟨by decide⟩)
  (refine CallN.q (nextNil) [] (fun _ _ => ?_); (repeat' ((conv => whnf); first | apply And.intro | exact ⟨by kernel_rfl⟩ | apply DrawN.mk | apply CodeN.step hm rfl | exact trivial | exact rfl | (intro hh; try simp only [bs] at hh; try exact absurd hh (by decide)))); all_goals (conv => whnf); all_goals try exact ⟨by decide⟩)
  (refine CallN.q (setNil id n) [] (fun _ _ => ?_); (repeat' ((conv => whnf); first | apply And.intro | exact ⟨by kernel_rfl⟩ | apply DrawN.mk | apply CodeN.step hm rfl | exact trivial | exact rfl | (intro hh; try simp only [bs] at hh; try exact absurd hh (by decide)))); all_goals (conv => whnf); all_goals try exact ⟨by decide⟩)
  (refine CallN.q (cancelNil id) [] (fun _ _ => ?_); (repeat' ((conv => whnf); first | apply And.intro | exact ⟨by kernel_rfl⟩ | apply DrawN.mk | apply CodeN.step hm rfl | exact trivial | exact rfl | (intro hh; try simp only [bs] at hh; try exact absurd hh (by decide)))); all_goals (conv => whnf); all_goals try exact ⟨by decide⟩)
  (refine CallN.q (advNil n) [] (fun _ _ => ?_); (repeat' ((conv => whnf); first | apply And.intro | exact ⟨by kernel_rfl⟩ | apply DrawN.mk | apply CodeN.step hm rfl | exact trivial | exact rfl | (intro hh; try simp only [bs] at hh; try exact absurd hh (by decide)))); all_goals (conv => whnf); all_goals try exact ⟨by decide⟩)
  (refine CallN.q (nowNil) [] (fun _ _ => ?_); (repeat' ((conv => whnf); first | apply And.intro | exact ⟨by kernel_rfl⟩ | apply DrawN.mk | apply CodeN.step hm rfl | exact trivial | exact rfl | (intro hh; try simp only [bs] at hh; try exact absurd hh (by decide)))); all_goals (conv => whnf); all_goals try exact ⟨by decide⟩)
  (refine CallN.q (lenNil) [] (fun _ _ => ?_); (repeat' ((conv => whnf); first | apply And.intro | exact ⟨by kernel_rfl⟩ | apply DrawN.mk | apply CodeN.step hm rfl | exact trivial | exact rfl | (intro hh; try simp only [bs] at hh; try exact absurd hh (by decide)))); all_goals (conv => whnf); all_goals try exact ⟨by decide⟩)
  (refine CallN.q (liveM) [] (fun _ _ => ?_); (repeat' ((conv => whnf); first | apply And.intro | exact ⟨by kernel_rfl⟩ | apply DrawN.mk | apply CodeN.step hm rfl | exact trivial | exact rfl | (intro hh; try simp only [bs] at hh; try exact absurd hh (by decide)))); all_goals (conv => whnf); all_goals try exact ⟨by decide⟩)
  (refine RetN.q () [] ?_ ?_ ?_ <;> (repeat' ((conv => whnf) <;> first | exact rfl | exact trivial | exact Fw.Hp.like_refl _ | apply And.intro | exact Nat.zero_add _)); all_goals ((conv => whnf); try simp only []))
abbrev OpT : Ty := .pair (.int .i64) (.pair (.int .i64) (.int .i64))
theorem scriptsLaw (now : Int) (l : List (Int × Int × Int)) : Meets Try.prog 3 [.int .i64 fun _ => now, .lst OpT fun _ => l] [] (Y := Unit) (fun _ => True) (fun _ => .tt) (fun _ => []) := by
  by_cases hn : 0 ≤ now ∧ now ≤ 1099511627776
  · refine Meets.intro hm (fn := Try.f3) Try.func3 rfl (by decide) (Nat.le_of_ble_eq_true rfl) (fun _ => rfl) ?_; intro S hok; (conv => whnf)
    (repeat' ((conv => whnf); first | apply And.intro | exact ⟨by kernel_rfl⟩ | apply DrawN.mk | apply CodeN.step hm rfl | exact trivial | exact rfl | (intro hh; try simp only [bs] at hh; try exact absurd hh (by decide)))); all_goals (conv => whnf)
    (refine CallN.q (newL now hn) [] ?_; rintro t ht; (repeat' ((conv => whnf); first | apply And.intro | exact ⟨by kernel_rfl⟩ | apply DrawN.mk | apply CodeN.step hm rfl | exact trivial | exact rfl | (intro hh; try simp only [bs] at hh; try exact absurd hh (by decide)))); all_goals (conv => whnf); all_goals try exact ⟨by decide⟩)
    (refine CallN.q (newK now hn) [] (fun _ _ => ?_); (repeat' ((conv => whnf); first | apply And.intro | exact ⟨by kernel_rfl⟩ | apply DrawN.mk | apply CodeN.step hm rfl | exact trivial | exact rfl | (intro hh; try simp only [bs] at hh; try exact absurd hh (by decide)))); all_goals (conv => whnf); all_goals try exact ⟨by decide⟩)
    · (refine CallN.q (liveM) [] (fun _ _ => ?_); (repeat' ((conv => whnf); first | apply And.intro | exact ⟨by kernel_rfl⟩ | apply DrawN.mk | apply CodeN.step hm rfl | exact trivial | exact rfl | (intro hh; try simp only [bs] at hh; try exact absurd hh (by decide)))); all_goals (conv => whnf); all_goals try exact ⟨by decide⟩)
      (refine RetN.q () [] ?_ ?_ ?_ <;> (repeat' ((conv => whnf) <;> first | exact rfl | exact trivial | exact Fw.Hp.like_refl _ | apply And.intro | exact Nat.zero_add _)); all_goals ((conv => whnf); try simp only []))
    refine LoopN.intro hm (X := Nat × Tm × Int × Ones) (fun x => x.1 ≤ l.length ∧ TL x.2.1 x.2.2.1 x.2.2.2) (fun x => l.length - x.1)
      (fun x => [(1, .lst OpT fun _ => l), (4, .ff), (5, .ptr 0 0), (7, .ptr 8 0), (9, .int .i64 fun _ => (x.1 : Int))])
      (fun x => chTK x.2.1 x.2.2.1 x.2.2.2) (0, t, now, []) [0, 1, 2, 3, 4, 5, 6, 7, 8] ?_ ⟨Nat.zero_le _, ht⟩ ?_
    · refine ⟨rfl, rfl, ?_, ?_⟩
      · (repeat' ((conv => whnf) <;> first | exact rfl | exact trivial | exact Fw.Hp.like_refl _ | apply And.intro | exact Nat.zero_add _))
      · (repeat' ((conv => whnf) <;> first | exact rfl | exact trivial | exact Fw.Hp.like_refl _ | apply And.intro | exact Nat.zero_add _))
    · rintro ⟨i, t1, n1, L1⟩ ⟨hi, h1⟩
      simp only [] at hi h1
      (repeat' ((conv => whnf); first | apply And.intro | exact ⟨by kernel_rfl⟩ | apply DrawN.mk | apply CodeN.step hm rfl | exact trivial | exact rfl | (intro hh; try simp only [bs] at hh; try exact absurd hh (by decide)))); all_goals (conv => whnf)
      · exact ⟨⟨by simp, hh⟩⟩
      · have hil : i < l.length := by have h9 : (i : Int) < l.length := hh; omega
        (refine CallN.q (doesM t1 n1 L1 h1 (l.getD i (0, 0, 0)).1 (l.getD i (0, 0, 0)).2.1 (l.getD i (0, 0, 0)).2.2) [0, 1, 2, 3, 4, 5, 6, 7, 8] ?_; rintro ⟨t2, n2, L2⟩ h2; (repeat' ((conv => whnf); first | apply And.intro | exact ⟨by kernel_rfl⟩ | apply DrawN.mk | apply CodeN.step hm rfl | exact trivial | exact rfl | (intro hh; try simp only [bs] at hh; try exact absurd hh (by decide)))); all_goals (conv => whnf); all_goals try exact ⟨by decide⟩)
        have h2 := h2.h
        simp only [] at h2
        (refine CallN.q (nowL t2 n2 L2 h2) [0, 1, 2, 3, 4, 5, 6, 7] (fun _ _ => ?_); (repeat' ((conv => whnf); first | apply And.intro | exact ⟨by kernel_rfl⟩ | apply DrawN.mk | apply CodeN.step hm rfl | exact trivial | exact rfl | (intro hh; try simp only [bs] at hh; try exact absurd hh (by decide)))); all_goals (conv => whnf); all_goals try exact ⟨by decide⟩)
        (refine CallN.q (lenL t2 n2 L2 h2) [0, 1, 2, 3, 4, 5, 6, 7] (fun _ _ => ?_); (repeat' ((conv => whnf); first | apply And.intro | exact ⟨by kernel_rfl⟩ | apply DrawN.mk | apply CodeN.step hm rfl | exact trivial | exact rfl | (intro hh; try simp only [bs] at hh; try exact absurd hh (by decide)))); all_goals (conv => whnf); all_goals try exact ⟨by decide⟩)
        · exact absurd rfl hh
        · refine ⟨(i + 1, t2, n2, L2), [0, 1, 2, 3, 4, 5, 6, 7, 8], ?_, ⟨by omega, h2⟩, by simp only []; omega⟩
          refine ⟨rfl, rfl, ?_, ?_⟩
          · (repeat' ((conv => whnf) <;> first | exact rfl | exact trivial | exact Fw.Hp.like_refl _ | apply And.intro | exact Nat.zero_add _))
          · (repeat' ((conv => whnf) <;> first | exact rfl | exact trivial | exact Fw.Hp.like_refl _ | apply And.intro | exact Nat.zero_add _)); all_goals ((conv => whnf); try simp only [])
            show IntKind.i64.wrap ((i : Int) + 1) = _
            rw [Wh.wr (by omega)]; omega
        · exact absurd rfl hh
      · (refine CallN.q (liveM) [] (fun _ _ => ?_); (repeat' ((conv => whnf); first | apply And.intro | exact ⟨by kernel_rfl⟩ | apply DrawN.mk | apply CodeN.step hm rfl | exact trivial | exact rfl | (intro hh; try simp only [bs] at hh; try exact absurd hh (by decide)))); all_goals (conv => whnf); all_goals try exact ⟨by decide⟩)
        (refine RetN.q () [] ?_ ?_ ?_ <;> (repeat' ((conv => whnf) <;> first | exact rfl | exact trivial | exact Fw.Hp.like_refl _ | apply And.intro | exact Nat.zero_add _)); all_goals ((conv => whnf); try simp only []))
  · refine Meets.intro hm (fn := Try.f3) Try.func3 rfl (by decide) (Nat.le_of_ble_eq_true rfl) (fun _ => rfl) ?_; intro S hok; (conv => whnf)
    (repeat' ((conv => whnf); first | apply And.intro | exact ⟨by kernel_rfl⟩ | apply DrawN.mk | apply CodeN.step hm rfl | exact trivial | exact rfl | (intro hh; try simp only [bs] at hh; try exact absurd hh (by decide)))); all_goals (conv => whnf)
    (refine CallN.q (newBadM now hn) [] (fun _ _ => ?_); (repeat' ((conv => whnf); first | apply And.intro | exact ⟨by kernel_rfl⟩ | apply DrawN.mk | apply CodeN.step hm rfl | exact trivial | exact rfl | (intro hh; try simp only [bs] at hh; try exact absurd hh (by decide)))); all_goals (conv => whnf); all_goals try exact ⟨by decide⟩)
    (refine CallN.q (newBadK now hn) [] (fun _ _ => ?_); (repeat' ((conv => whnf); first | apply And.intro | exact ⟨by kernel_rfl⟩ | apply DrawN.mk | apply CodeN.step hm rfl | exact trivial | exact rfl | (intro hh; try simp only [bs] at hh; try exact absurd hh (by decide)))); all_goals (conv => whnf); all_goals try exact ⟨by decide⟩)
    · (refine CallN.q (liveM) [] (fun _ _ => ?_); (repeat' ((conv => whnf); first | apply And.intro | exact ⟨by kernel_rfl⟩ | apply DrawN.mk | apply CodeN.step hm rfl | exact trivial | exact rfl | (intro hh; try simp only [bs] at hh; try exact absurd hh (by decide)))); all_goals (conv => whnf); all_goals try exact ⟨by decide⟩)
      (refine RetN.q () [] ?_ ?_ ?_ <;> (repeat' ((conv => whnf) <;> first | exact rfl | exact trivial | exact Fw.Hp.like_refl _ | apply And.intro | exact Nat.zero_add _)); all_goals ((conv => whnf); try simp only []))
    · (refine CallN.q (liveM) [] (fun _ _ => ?_); (repeat' ((conv => whnf); first | apply And.intro | exact ⟨by kernel_rfl⟩ | apply DrawN.mk | apply CodeN.step hm rfl | exact trivial | exact rfl | (intro hh; try simp only [bs] at hh; try exact absurd hh (by decide)))); all_goals (conv => whnf); all_goals try exact ⟨by decide⟩)
      (refine RetN.q () [] ?_ ?_ ?_ <;> (repeat' ((conv => whnf) <;> first | exact rfl | exact trivial | exact Fw.Hp.like_refl _ | apply And.intro | exact Nat.zero_add _)); all_goals ((conv => whnf); try simp only []))
end Go.Proofs.Ytafcenlbllmahaa.Ti
set_option linter.unusedVariables false
set_option linter.unusedSimpArgs false
namespace Go.Proofs.Ytafcenlbllmahaa.Ti
open Go Go.RowKit Fw Wh
theorem cut_drop : ∀ (L : Ones) (K : Nat) (n : Int), K ≤ L.length → (∀ e ∈ L.take K, e.2 ≤ n) → K + cutK (L.drop K) n = cutK L n
  | L, 0, n, _, _ => by simp
  | [], K + 1, n, h, _ => by simp at h
  | e :: r, K + 1, n, h, ha => by
    have h1 : e.2 ≤ n := ha e (by simp)
    have := cut_drop r K n (by simpa using h) (fun x hx => ha x (by simp [hx]))
    have hc : cutK (e :: r) n = cutK r n + 1 := by unfold cutK; rw [List.takeWhile_cons]; simp [h1]
    rw [hc, ← this, List.drop_succ_cons]; omega
theorem told_step (L : Ones) (K : Nat) (n : Int) : (L.take K).map (·.1) ++ ((L.drop K).take (cutK (L.drop K) n)).map (·.1) = (L.take (K + cutK (L.drop K) n)).map (·.1) := by
  rw [← List.map_append, List.take_add]
theorem cut_le (L : Ones) (n : Int) : cutK L n ≤ L.length := (cut_at L n).le
theorem take_step {L : Ones} {K : Nat} {n m : Int} (hnm : n ≤ m) (h : ∀ e ∈ L.take K, e.2 ≤ n) : ∀ e ∈ L.take (K + cutK (L.drop K) m), e.2 ≤ m := by
  intro e he
  rw [List.take_add, List.mem_append] at he
  rcases he with h1 | h1
  · have := h e h1; omega
  · exact (cut_at (L.drop K) m).now e h1
def chJ (a b : Tm) : List Chunk := chT a ++ [.cells TimerT [.int .i64 fun _ => b.now, .hm 9 fun _ => 0, .hp 12 fun _ => some (1, 0), .hp 13 fun _ => some (1, 0), .hp 14 fun _ => some (1, 0), .hp 15 fun _ => some (1, 0), .hm 10 fun _ => 0, .hm 11 fun _ => 0],
  .heap fun _ => hpD b.due b.dc, .heap fun _ => hpB b.far b.fc, .heap fun _ => hpB b.late b.lc, .heap fun _ => hpW b.w0, .heap fun _ => hpW b.w1, .heap fun _ => hpW b.w2, .heap fun _ => hpW b.w3]
theorem jumpsLaw (now : Int) (ids : List (Int × Int × Int)) (steps : List Int) : Meets Try.prog 4 [.int .i64 fun _ => now, .lst OpT fun _ => ids, .lst (.int .i64) fun _ => steps] [] (Y := Unit) (fun _ => True) (fun _ => .tt) (fun _ => []) := by
  by_cases hn : 0 ≤ now ∧ now ≤ 1099511627776
  rotate_left
  · refine Meets.intro hm (fn := Try.f4) Try.func4 rfl (by decide) (Nat.le_of_ble_eq_true rfl) (fun _ => rfl) ?_; intro S hok; (conv => whnf)
    (repeat' ((conv => whnf); first | apply And.intro | exact ⟨by kernel_rfl⟩ | apply DrawN.mk | apply CodeN.step hm rfl | exact trivial | exact rfl | (intro hh; try simp only [bs] at hh; try exact absurd hh (by decide)))); all_goals (conv => whnf)
    · (refine CallN.q (liveM) [] (fun _ _ => ?_); (repeat' ((conv => whnf); first | apply And.intro | exact ⟨by kernel_rfl⟩ | apply DrawN.mk | apply CodeN.step hm rfl | exact trivial | exact rfl | (intro hh; try simp only [bs] at hh; try exact absurd hh (by decide)))); all_goals (conv => whnf); all_goals try exact ⟨by decide⟩)
      (refine RetN.q () [] ?_ ?_ ?_ <;> (repeat' ((conv => whnf) <;> first | exact rfl | exact trivial | exact Fw.Hp.like_refl _ | apply And.intro | exact Nat.zero_add _)); all_goals ((conv => whnf); try simp only []))
    · (refine CallN.q (newBadM now hn) [] (fun _ _ => ?_); (repeat' ((conv => whnf); first | apply And.intro | exact ⟨by kernel_rfl⟩ | apply DrawN.mk | apply CodeN.step hm rfl | exact trivial | exact rfl | (intro hh; try simp only [bs] at hh; try exact absurd hh (by decide)))); all_goals (conv => whnf); all_goals try exact ⟨by decide⟩)
      (refine CallN.q (newBadM now hn) [] (fun _ _ => ?_); (repeat' ((conv => whnf); first | apply And.intro | exact ⟨by kernel_rfl⟩ | apply DrawN.mk | apply CodeN.step hm rfl | exact trivial | exact rfl | (intro hh; try simp only [bs] at hh; try exact absurd hh (by decide)))); all_goals (conv => whnf); all_goals try exact ⟨by decide⟩)
      (refine CallN.q (liveM) [] (fun _ _ => ?_); (repeat' ((conv => whnf); first | apply And.intro | exact ⟨by kernel_rfl⟩ | apply DrawN.mk | apply CodeN.step hm rfl | exact trivial | exact rfl | (intro hh; try simp only [bs] at hh; try exact absurd hh (by decide)))); all_goals (conv => whnf); all_goals try exact ⟨by decide⟩)
      (refine RetN.q () [] ?_ ?_ ?_ <;> (repeat' ((conv => whnf) <;> first | exact rfl | exact trivial | exact Fw.Hp.like_refl _ | apply And.intro | exact Nat.zero_add _)); all_goals ((conv => whnf); try simp only []))
    · (refine CallN.q (liveM) [] (fun _ _ => ?_); (repeat' ((conv => whnf); first | apply And.intro | exact ⟨by kernel_rfl⟩ | apply DrawN.mk | apply CodeN.step hm rfl | exact trivial | exact rfl | (intro hh; try simp only [bs] at hh; try exact absurd hh (by decide)))); all_goals (conv => whnf); all_goals try exact ⟨by decide⟩)
      (refine RetN.q () [] ?_ ?_ ?_ <;> (repeat' ((conv => whnf) <;> first | exact rfl | exact trivial | exact Fw.Hp.like_refl _ | apply And.intro | exact Nat.zero_add _)); all_goals ((conv => whnf); try simp only []))
  refine Meets.intro hm (fn := Try.f4) Try.func4 rfl (by decide) (Nat.le_of_ble_eq_true rfl) (fun _ => rfl) ?_; intro S hok; (conv => whnf)
  (repeat' ((conv => whnf); first | apply And.intro | exact ⟨by kernel_rfl⟩ | apply DrawN.mk | apply CodeN.step hm rfl | exact trivial | exact rfl | (intro hh; try simp only [bs] at hh; try exact absurd hh (by decide)))); all_goals (conv => whnf)
  · (refine CallN.q (liveM) [] (fun _ _ => ?_); (repeat' ((conv => whnf); first | apply And.intro | exact ⟨by kernel_rfl⟩ | apply DrawN.mk | apply CodeN.step hm rfl | exact trivial | exact rfl | (intro hh; try simp only [bs] at hh; try exact absurd hh (by decide)))); all_goals (conv => whnf); all_goals try exact ⟨by decide⟩)
    (refine RetN.q () [] ?_ ?_ ?_ <;> (repeat' ((conv => whnf) <;> first | exact rfl | exact trivial | exact Fw.Hp.like_refl _ | apply And.intro | exact Nat.zero_add _)); all_goals ((conv => whnf); try simp only []))
  · (refine CallN.q (newL now hn) [] ?_; rintro a ha; (repeat' ((conv => whnf); first | apply And.intro | exact ⟨by kernel_rfl⟩ | apply DrawN.mk | apply CodeN.step hm rfl | exact trivial | exact rfl | (intro hh; try simp only [bs] at hh; try exact absurd hh (by decide)))); all_goals (conv => whnf); all_goals try exact ⟨by decide⟩)
    (refine CallN.q (newL now hn) [] ?_; rintro b hb; (repeat' ((conv => whnf); first | apply And.intro | exact ⟨by kernel_rfl⟩ | apply DrawN.mk | apply CodeN.step hm rfl | exact trivial | exact rfl | (intro hh; try simp only [bs] at hh; try exact absurd hh (by decide)))); all_goals (conv => whnf); all_goals try exact ⟨by decide⟩)
    refine LoopN.intro hm (X := Nat × Tm × Tm × Ones) (fun x => x.1 ≤ ids.length ∧ TL x.2.1 now x.2.2.2 ∧ TL x.2.2.1 now x.2.2.2) (fun x => ids.length - x.1)
      (fun x => [(0, .int .i64 fun _ => now), (1, .lst OpT fun _ => ids), (2, .lst (.int .i64) fun _ => steps), (6, .ff), (7, .ptr 0 0), (9, .ptr 8 0), (11, .int .i64 fun _ => (x.1 : Int))])
      (fun x => chJ x.2.1 x.2.2.1) (0, a, b, []) [0, 1, 2, 3, 4, 5, 6, 7, 8, 9, 10, 11, 12, 13, 14, 15] ?_ ⟨Nat.zero_le _, ha, hb⟩ ?_
    · refine ⟨rfl, rfl, ?_, ?_⟩
      · (repeat' ((conv => whnf) <;> first | exact rfl | exact trivial | exact Fw.Hp.like_refl _ | apply And.intro | exact Nat.zero_add _))
      · (repeat' ((conv => whnf) <;> first | exact rfl | exact trivial | exact Fw.Hp.like_refl _ | apply And.intro | exact Nat.zero_add _))
    rintro ⟨i, a1, b1, L⟩ ⟨hi, ha1, hb1⟩
    simp only [] at hi ha1 hb1
    clear ha hb a b
    (repeat' ((conv => whnf); first | apply And.intro | exact ⟨by kernel_rfl⟩ | apply DrawN.mk | exact trivial | exact rfl | (intro hh; try simp only [bs] at hh))); all_goals (conv => whnf)
    (apply CodeN.step hm rfl; (repeat' ((conv => whnf); first | apply And.intro | exact ⟨by kernel_rfl⟩ | apply DrawN.mk | exact trivial | exact rfl | (intro hh; try simp only [bs] at hh))); all_goals (conv => whnf))
    (apply CodeN.step hm rfl; (repeat' ((conv => whnf); first | apply And.intro | exact ⟨by kernel_rfl⟩ | apply DrawN.mk | exact trivial | exact rfl | (intro hh; try simp only [bs] at hh))); all_goals (conv => whnf))
    · exact ⟨⟨by simp, hh⟩⟩
    · exact ⟨⟨by simp, hh⟩⟩
    · have hh3 : (i : Int) < ids.length := hh
      by_cases hv : (0 ≤ (ids.getD i (0, 0, 0)).2.1 ∧ (ids.getD i (0, 0, 0)).2.1 ≤ 1048575) ∧ (0 ≤ (ids.getD i (0, 0, 0)).2.2 ∧ (ids.getD i (0, 0, 0)).2.2 ≤ 1099511627776)
      · (refine CallN.q (setL a1 now L ha1 (ids.getD i (0, 0, 0)).2.1 (ids.getD i (0, 0, 0)).2.2 hv.1 hv.2) [0, 1, 2, 3, 4, 5, 6, 7] ?_; rintro a2 ha2; (repeat' ((conv => whnf); first | apply And.intro | exact ⟨by kernel_rfl⟩ | apply DrawN.mk | apply CodeN.step hm rfl | exact trivial | exact rfl | (intro hh; try simp only [bs] at hh; try exact absurd hh (by decide)))); all_goals (conv => whnf); all_goals try exact ⟨by decide⟩)
        · exact ⟨⟨by simp, hh⟩⟩
        · exact ⟨⟨by simp, hh⟩⟩
        (refine CallN.q (setL b1 now L hb1 (ids.getD i (0, 0, 0)).2.1 (ids.getD i (0, 0, 0)).2.2 hv.1 hv.2) [8, 9, 10, 11, 12, 13, 14, 15] ?_; rintro b2 hb2; (repeat' ((conv => whnf); first | apply And.intro | exact ⟨by kernel_rfl⟩ | apply DrawN.mk | apply CodeN.step hm rfl | exact trivial | exact rfl | (intro hh; try simp only [bs] at hh; try exact absurd hh (by decide)))); all_goals (conv => whnf); all_goals try exact ⟨by decide⟩)
        refine ⟨(i + 1, a2, b2, insK (canK L (ids.getD i (0, 0, 0)).2.1) ((ids.getD i (0, 0, 0)).2.1, (ids.getD i (0, 0, 0)).2.2)), [0, 1, 2, 3, 4, 5, 6, 7, 8, 9, 10, 11, 12, 13, 14, 15], ⟨rfl, rfl, ?_, ?_⟩, ⟨by omega, ha2, hb2⟩, by simp only []; omega⟩
        · (repeat' ((conv => whnf) <;> first | exact rfl | exact trivial | exact Fw.Hp.like_refl _ | apply And.intro | exact Nat.zero_add _))
        · (repeat' ((conv => whnf) <;> first | exact rfl | exact trivial | exact Fw.Hp.like_refl _ | apply And.intro | exact Nat.zero_add _)); all_goals ((conv => whnf); try simp only [])
          show IntKind.i64.wrap ((i : Int) + 1) = _
          rw [Wh.wr (by omega)]; omega
      · (refine CallN.q (setBadM a1 (ids.getD i (0, 0, 0)).2.1 (ids.getD i (0, 0, 0)).2.2 hv) [0, 1, 2, 3, 4, 5, 6, 7] (fun _ _ => ?_); (repeat' ((conv => whnf); first | apply And.intro | exact ⟨by kernel_rfl⟩ | apply DrawN.mk | apply CodeN.step hm rfl | exact trivial | exact rfl | (intro hh; try simp only [bs] at hh; try exact absurd hh (by decide)))); all_goals (conv => whnf); all_goals try exact ⟨by decide⟩)
        · exact ⟨⟨by simp, hh⟩⟩
        · exact ⟨⟨by simp, hh⟩⟩
        (refine CallN.q (setBadM b1 (ids.getD i (0, 0, 0)).2.1 (ids.getD i (0, 0, 0)).2.2 hv) [8, 9, 10, 11, 12, 13, 14, 15] (fun _ _ => ?_); (repeat' ((conv => whnf); first | apply And.intro | exact ⟨by kernel_rfl⟩ | apply DrawN.mk | apply CodeN.step hm rfl | exact trivial | exact rfl | (intro hh; try simp only [bs] at hh; try exact absurd hh (by decide)))); all_goals (conv => whnf); all_goals try exact ⟨by decide⟩)
        refine ⟨(i + 1, a1, b1, L), [0, 1, 2, 3, 4, 5, 6, 7, 8, 9, 10, 11, 12, 13, 14, 15], ⟨rfl, rfl, ?_, ?_⟩, ⟨by omega, ha1, hb1⟩, by simp only []; omega⟩
        · (repeat' ((conv => whnf) <;> first | exact rfl | exact trivial | exact Fw.Hp.like_refl _ | apply And.intro | exact Nat.zero_add _))
        · (repeat' ((conv => whnf) <;> first | exact rfl | exact trivial | exact Fw.Hp.like_refl _ | apply And.intro | exact Nat.zero_add _)); all_goals ((conv => whnf); try simp only [])
          show IntKind.i64.wrap ((i : Int) + 1) = _
          rw [Wh.wr (by omega)]; omega
    · (apply CodeN.step hm rfl; (repeat' ((conv => whnf); first | apply And.intro | exact ⟨by kernel_rfl⟩ | apply DrawN.mk | exact trivial | exact rfl | (intro hh; try simp only [bs] at hh))); all_goals (conv => whnf))
      refine CodeN.nil 3 (.int .i64) none [12] ?_
      (conv => whnf)
      (repeat' ((conv => whnf); first | apply And.intro | exact ⟨by kernel_rfl⟩ | apply DrawN.mk | apply CodeN.step hm rfl | exact trivial | exact rfl | (intro hh; try simp only [bs] at hh; try exact absurd hh (by decide)))); all_goals (conv => whnf)
      have hLl := ha1.len
      refine LoopN.intro hm (X := Nat × Tm × Int × Nat) (fun x => x.1 ≤ steps.length ∧ TL x.2.1 x.2.2.1 (L.drop x.2.2.2) ∧ now ≤ x.2.2.1 ∧ x.2.2.2 ≤ L.length ∧ ∀ e ∈ L.take x.2.2.2, e.2 ≤ x.2.2.1) (fun x => steps.length - x.1)
        (fun x => [(1, .lst OpT fun _ => ids), (2, .lst (.int .i64) fun _ => steps), (6, .ff), (7, .ptr 0 0), (9, .ptr 8 0), (12, .vec 16 1 (fun _ => 0) fun _ => ((L.take x.2.2.2).map (·.1)).length), (13, .int .i64 fun _ => x.2.2.1), (14, .int .i64 fun _ => (x.1 : Int))])
        (fun x => chJ x.2.1 b1 ++ [.vect 3 (.int .i64) fun _ => (L.take x.2.2.2).map (·.1)]) (0, a1, now, 0) [0, 1, 2, 3, 4, 5, 6, 7, 8, 9, 10, 11, 12, 13, 14, 15, 16] ?_ ⟨Nat.zero_le _, ha1, Int.le_refl _, Nat.zero_le _, by simp⟩ ?_
      · refine ⟨rfl, rfl, ?_, ?_⟩
        · (repeat' ((conv => whnf) <;> first | exact rfl | exact trivial | exact Fw.Hp.like_refl _ | apply And.intro | exact Nat.zero_add _))
        · (repeat' ((conv => whnf) <;> first | exact rfl | exact trivial | exact Fw.Hp.like_refl _ | apply And.intro | exact Nat.zero_add _))
      clear ha1 a1 hi i hh
      rintro ⟨j, a1, n, K⟩ ⟨hj, ha1, hnn, hK, hKe⟩
      simp only [] at hj ha1 hnn hK hKe
      have hml : ((L.take K).map (·.1)).length = K := by simp [hK]
      (repeat' ((conv => whnf); first | apply And.intro | exact ⟨by kernel_rfl⟩ | apply DrawN.mk | apply CodeN.step hm rfl | exact trivial | exact rfl | (intro hh; try simp only [bs] at hh; try exact absurd hh (by decide)))); all_goals (conv => whnf)
      · exact ⟨⟨by simp, hh⟩⟩
      · have hh3 : (j : Int) < steps.length := hh
        by_cases hv : n ≤ steps.getD j 0 ∧ steps.getD j 0 ≤ 1099511627776
        · (refine CallN.q (advL a1 n _ ha1 (steps.getD j 0) hv.1 hv.2) [0, 1, 2, 3, 4, 5, 6, 7] ?_; rintro a2 ha2; (repeat' ((conv => whnf); first | apply And.intro | exact ⟨by kernel_rfl⟩ | apply DrawN.mk | apply CodeN.step hm rfl | exact trivial | exact rfl | (intro hh; try simp only [bs] at hh; try exact absurd hh (by decide)))); all_goals (conv => whnf); all_goals try exact ⟨by decide⟩)
          · have hcl := cut_le (L.drop K) (steps.getD j 0)
            rw [List.length_drop] at hcl
            have hc2 : (((L.drop K).take (cutK (L.drop K) (steps.getD j 0))).map (·.1)).length = cutK (L.drop K) (steps.getD j 0) := by simp only [List.length_map, List.length_take, List.length_drop]; omega
            refine ⟨⟨rfl, ?_, ?_⟩⟩
            · show ((L.take K).map (·.1)).length + (((L.drop K).take (cutK (L.drop K) (steps.getD j 0))).map (·.1)).length ≤ _
              omega
            · show (((L.take K).map (·.1)).length + (((L.drop K).take (cutK (L.drop K) (steps.getD j 0))).map (·.1)).length) * 8 ≤ _
              omega
          have ha2 : TL a2 (steps.getD j 0) (L.drop (K + cutK (L.drop K) (steps.getD j 0))) := by rw [← List.drop_drop]; exact ha2
          (refine CallN.q (nowL a2 _ _ ha2) [0, 1, 2, 3, 4, 5, 6, 7] (fun _ _ => ?_); (repeat' ((conv => whnf); first | apply And.intro | exact ⟨by kernel_rfl⟩ | apply DrawN.mk | apply CodeN.step hm rfl | exact trivial | exact rfl | (intro hh; try simp only [bs] at hh; try exact absurd hh (by decide)))); all_goals (conv => whnf); all_goals try exact ⟨by decide⟩)
          have hcl := cut_le (L.drop K) (steps.getD j 0)
          rw [List.length_drop] at hcl
          refine ⟨(j + 1, a2, steps.getD j 0, K + cutK (L.drop K) (steps.getD j 0)), [0, 1, 2, 3, 4, 5, 6, 7, 8, 9, 10, 11, 12, 13, 14, 15, 16], ⟨rfl, rfl, ?_, ?_⟩, ⟨by omega, ha2, by simp only []; omega, by simp only []; omega, take_step hv.1 hKe⟩, by simp only []; omega⟩
          · (repeat' ((conv => whnf) <;> first | exact rfl | exact trivial | exact Fw.Hp.like_refl _ | apply And.intro | exact Nat.zero_add _)); all_goals ((conv => whnf); try simp only [])
            rw [List.take_of_length_le (Nat.le_refl _)]
            exact told_step L K _
          · (repeat' ((conv => whnf) <;> first | exact rfl | exact trivial | exact Fw.Hp.like_refl _ | apply And.intro | exact Nat.zero_add _)); all_goals ((conv => whnf); try simp only [])
            · rw [← List.length_append]
              exact congrArg List.length (told_step L K _)
            · show IntKind.i64.wrap ((j : Int) + 1) = _
              rw [Wh.wr (by omega)]; omega
        · (refine CallN.q (advBadL a1 n _ ha1 (steps.getD j 0) (by omega)) [0, 1, 2, 3, 4, 5, 6, 7] (fun _ _ => ?_); (repeat' ((conv => whnf); first | apply And.intro | exact ⟨by kernel_rfl⟩ | apply DrawN.mk | apply CodeN.step hm rfl | exact trivial | exact rfl | (intro hh; try simp only [bs] at hh; try exact absurd hh (by decide)))); all_goals (conv => whnf); all_goals try exact ⟨by decide⟩)
          · refine ⟨⟨rfl, ?_, ?_⟩⟩
            · show ((L.take K).map (·.1)).length + 0 ≤ _
              omega
            · show (((L.take K).map (·.1)).length + 0) * 8 ≤ _
              omega
          (refine CallN.q (nowL a1 _ _ ha1) [0, 1, 2, 3, 4, 5, 6, 7] (fun _ _ => ?_); (repeat' ((conv => whnf); first | apply And.intro | exact ⟨by kernel_rfl⟩ | apply DrawN.mk | apply CodeN.step hm rfl | exact trivial | exact rfl | (intro hh; try simp only [bs] at hh; try exact absurd hh (by decide)))); all_goals (conv => whnf); all_goals try exact ⟨by decide⟩)
          refine ⟨(j + 1, a1, n, K), [0, 1, 2, 3, 4, 5, 6, 7, 8, 9, 10, 11, 12, 13, 14, 15, 16], ⟨rfl, rfl, ?_, ?_⟩, ⟨by omega, ha1, hnn, hK, hKe⟩, by simp only []; omega⟩
          · (repeat' ((conv => whnf) <;> first | exact rfl | exact trivial | exact Fw.Hp.like_refl _ | apply And.intro | exact Nat.zero_add _)); all_goals ((conv => whnf); try simp only [])
            rw [List.take_of_length_le (Nat.le_refl _), List.append_nil]
          · (repeat' ((conv => whnf) <;> first | exact rfl | exact trivial | exact Fw.Hp.like_refl _ | apply And.intro | exact Nat.zero_add _)); all_goals ((conv => whnf); try simp only [])
            show IntKind.i64.wrap ((j : Int) + 1) = _
            rw [Wh.wr (by omega)]; omega
      · have hn1 := ha1.now0
        (refine CallN.q (advL a1 n _ ha1 n (Int.le_refl _) (by omega)) [0, 1, 2, 3, 4, 5, 6, 7] ?_; rintro a2 ha2; (repeat' ((conv => whnf); first | apply And.intro | exact ⟨by kernel_rfl⟩ | apply DrawN.mk | apply CodeN.step hm rfl | exact trivial | exact rfl | (intro hh; try simp only [bs] at hh; try exact absurd hh (by decide)))); all_goals (conv => whnf); all_goals try exact ⟨by decide⟩)
        · have hcl := cut_le (L.drop K) (n)
          rw [List.length_drop] at hcl
          have hc2 : (((L.drop K).take (cutK (L.drop K) (n))).map (·.1)).length = cutK (L.drop K) (n) := by simp only [List.length_map, List.length_take, List.length_drop]; omega
          refine ⟨⟨rfl, ?_, ?_⟩⟩
          · show ((L.take K).map (·.1)).length + (((L.drop K).take (cutK (L.drop K) (n))).map (·.1)).length ≤ _
            omega
          · show (((L.take K).map (·.1)).length + (((L.drop K).take (cutK (L.drop K) (n))).map (·.1)).length) * 8 ≤ _
            omega
        have ha2 : TL a2 n (L.drop (cutK L n)) := by rw [← cut_drop L K n hK hKe, ← List.drop_drop]; exact ha2
        have htold : (L.take K).map (·.1) ++ ((L.drop K).take (cutK (L.drop K) n)).map (·.1) = (L.take (cutK L n)).map (·.1) := by rw [told_step, cut_drop L K n hK hKe]
        (refine CallN.q (advL b1 now L hb1 n hnn (by omega)) [8, 9, 10, 11, 12, 13, 14, 15] ?_; rintro b2 hb2; (repeat' ((conv => whnf); first | apply And.intro | exact ⟨by kernel_rfl⟩ | apply DrawN.mk | apply CodeN.step hm rfl | exact trivial | exact rfl | (intro hh; try simp only [bs] at hh; try exact absurd hh (by decide)))); all_goals (conv => whnf); all_goals try exact ⟨by decide⟩)
        refine CallN.rest (intsM ((L.take (cutK L n)).map (·.1)) ((L.take (cutK L n)).map (·.1)) (cut_len L n hLl)) [16] ?_ (fun _ _ => ⟨rfl, rfl⟩) ?_
        · (repeat' ((conv => whnf) <;> first | exact rfl | exact trivial | exact Fw.Hp.like_refl _ | apply And.intro | exact Nat.zero_add _)); all_goals ((conv => whnf); try simp only [])
          rw [List.take_of_length_le (Nat.le_refl _), List.drop_zero, htold, ← List.length_append, htold]
          exact List.take_length
        intro _ _
        (repeat' ((conv => whnf); first | apply And.intro | exact ⟨by kernel_rfl⟩ | apply DrawN.mk | apply CodeN.step hm rfl | exact trivial | exact rfl | (intro hh; try simp only [bs] at hh; try exact absurd hh (by decide)))); all_goals (conv => whnf)
        (refine CallN.q (lenL a2 n _ ha2) [0, 1, 2, 3, 4, 5, 6, 7] (fun _ _ => ?_); (repeat' ((conv => whnf); first | apply And.intro | exact ⟨by kernel_rfl⟩ | apply DrawN.mk | apply CodeN.step hm rfl | exact trivial | exact rfl | (intro hh; try simp only [bs] at hh; try exact absurd hh (by decide)))); all_goals (conv => whnf); all_goals try exact ⟨by decide⟩)
        (refine CallN.q (lenL b2 n _ hb2) [8, 9, 10, 11, 12, 13, 14, 15] (fun _ _ => ?_); (repeat' ((conv => whnf); first | apply And.intro | exact ⟨by kernel_rfl⟩ | apply DrawN.mk | apply CodeN.step hm rfl | exact trivial | exact rfl | (intro hh; try simp only [bs] at hh; try exact absurd hh (by decide)))); all_goals (conv => whnf); all_goals try exact ⟨by decide⟩)
        all_goals first | exact absurd rfl hh | skip
        (refine CallN.q (nowL a2 n _ ha2) [0, 1, 2, 3, 4, 5, 6, 7] (fun _ _ => ?_); (repeat' ((conv => whnf); first | apply And.intro | exact ⟨by kernel_rfl⟩ | apply DrawN.mk | apply CodeN.step hm rfl | exact trivial | exact rfl | (intro hh; try simp only [bs] at hh; try exact absurd hh (by decide)))); all_goals (conv => whnf); all_goals try exact ⟨by decide⟩)
        (refine CallN.q (nowL b2 n _ hb2) [8, 9, 10, 11, 12, 13, 14, 15] (fun _ _ => ?_); (repeat' ((conv => whnf); first | apply And.intro | exact ⟨by kernel_rfl⟩ | apply DrawN.mk | apply CodeN.step hm rfl | exact trivial | exact rfl | (intro hh; try simp only [bs] at hh; try exact absurd hh (by decide)))); all_goals (conv => whnf); all_goals try exact ⟨by decide⟩)
        all_goals first | exact absurd rfl hh | skip
        generalize hC : L.drop (cutK L n) = C at *
        refine LoopN.intro hm (X := Nat) (fun x => x ≤ ids.length) (fun x => ids.length - x)
          (fun x => [(1, .lst OpT fun _ => ids), (6, .ff), (7, .ptr 0 0), (9, .ptr 8 0), (15, .int .i64 fun _ => (x : Int))])
          (fun x => chJ a2 b2) 0 [0, 1, 2, 3, 4, 5, 6, 7, 8, 9, 10, 11, 12, 13, 14, 15] ?_ (Nat.zero_le _) ?_
        · refine ⟨rfl, rfl, ?_, ?_⟩
          · (repeat' ((conv => whnf) <;> first | exact rfl | exact trivial | exact Fw.Hp.like_refl _ | apply And.intro | exact Nat.zero_add _))
          · (repeat' ((conv => whnf) <;> first | exact rfl | exact trivial | exact Fw.Hp.like_refl _ | apply And.intro | exact Nat.zero_add _))
        intro i hi
        (repeat' ((conv => whnf); first | apply And.intro | exact ⟨by kernel_rfl⟩ | apply DrawN.mk | apply CodeN.step hm rfl | exact trivial | exact rfl | (intro hh; try simp only [bs] at hh; try exact absurd hh (by decide)))); all_goals (conv => whnf)
        · exact ⟨⟨by simp, hh⟩⟩
        · have hh3 : (i : Int) < ids.length := hh
          (refine CallN.q (dueL a2 n _ ha2 (ids.getD i (0, 0, 0)).2.1) [0, 1, 2, 3, 4, 5, 6, 7] (fun _ _ => ?_); (repeat' ((conv => whnf); first | apply And.intro | exact ⟨by kernel_rfl⟩ | apply DrawN.mk | apply CodeN.step hm rfl | exact trivial | exact rfl | (intro hh; try simp only [bs] at hh; try exact absurd hh (by decide)))); all_goals (conv => whnf); all_goals try exact ⟨by decide⟩)
          · exact ⟨⟨by simp, hh3⟩⟩
          (refine CallN.q (dueL b2 n _ hb2 (ids.getD i (0, 0, 0)).2.1) [8, 9, 10, 11, 12, 13, 14, 15] (fun _ _ => ?_); (repeat' ((conv => whnf); first | apply And.intro | exact ⟨by kernel_rfl⟩ | apply DrawN.mk | apply CodeN.step hm rfl | exact trivial | exact rfl | (intro hh; try simp only [bs] at hh; try exact absurd hh (by decide)))); all_goals (conv => whnf); all_goals try exact ⟨by decide⟩)
          all_goals first | exact absurd rfl hh | skip
          refine ⟨i + 1, [0, 1, 2, 3, 4, 5, 6, 7, 8, 9, 10, 11, 12, 13, 14, 15], ⟨rfl, rfl, ?_, ?_⟩, by omega, by omega⟩
          · (repeat' ((conv => whnf) <;> first | exact rfl | exact trivial | exact Fw.Hp.like_refl _ | apply And.intro | exact Nat.zero_add _))
          · (repeat' ((conv => whnf) <;> first | exact rfl | exact trivial | exact Fw.Hp.like_refl _ | apply And.intro | exact Nat.zero_add _)); all_goals ((conv => whnf); try simp only [])
            show IntKind.i64.wrap ((i : Int) + 1) = _
            rw [Wh.wr (by omega)]; omega
        · (refine CallN.q (liveM) [] (fun _ _ => ?_); (repeat' ((conv => whnf); first | apply And.intro | exact ⟨by kernel_rfl⟩ | apply DrawN.mk | apply CodeN.step hm rfl | exact trivial | exact rfl | (intro hh; try simp only [bs] at hh; try exact absurd hh (by decide)))); all_goals (conv => whnf); all_goals try exact ⟨by decide⟩)
          (refine RetN.q () [] ?_ ?_ ?_ <;> (repeat' ((conv => whnf) <;> first | exact rfl | exact trivial | exact Fw.Hp.like_refl _ | apply And.intro | exact Nat.zero_add _)); all_goals ((conv => whnf); try simp only []))
  · (refine CallN.q (liveM) [] (fun _ _ => ?_); (repeat' ((conv => whnf); first | apply And.intro | exact ⟨by kernel_rfl⟩ | apply DrawN.mk | apply CodeN.step hm rfl | exact trivial | exact rfl | (intro hh; try simp only [bs] at hh; try exact absurd hh (by decide)))); all_goals (conv => whnf); all_goals try exact ⟨by decide⟩)
    (refine RetN.q () [] ?_ ?_ ?_ <;> (repeat' ((conv => whnf) <;> first | exact rfl | exact trivial | exact Fw.Hp.like_refl _ | apply And.intro | exact Nat.zero_add _)); all_goals ((conv => whnf); try simp only []))
end Go.Proofs.Ytafcenlbllmahaa.Ti
