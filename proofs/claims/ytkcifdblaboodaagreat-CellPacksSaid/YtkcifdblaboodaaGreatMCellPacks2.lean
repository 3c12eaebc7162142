/- The law CellPacks holds at every input that its statement lets in; part 3 of its proof. -/
import Derived.Test.YtkcifdblaboodaaGreatMCellPacks1
import Derived.Test.YtkcifdblaboodaaGreatProg
set_option linter.unusedVariables false
set_option linter.unusedSimpArgs false
namespace Go.Proofs.YtkcifdblaboodaaGreat.Fw
open Go Go.RowKit

def lookL (env : Env) : Nat → Nat → List AV
  | _, 0 => [] | k, n + 1 => look env k :: lookL env (k + 1) n
theorem lookL_ok {g : Gh} {env : Env} {vals : Array Value} (h : ER g env vals) : ∀ (n k : Nat), k + n = vals.size → RL g (lookL env k n) (vals.toList.drop k)
  | 0, k, hk => by
    have : vals.toList.drop k = [] := List.drop_eq_nil_of_le (by simp; omega)
    rw [this]; trivial
  | n + 1, k, hk => by
    have hlt : k < vals.toList.length := by simp; omega
    rw [List.drop_eq_getElem_cons hlt]
    refine ⟨?_, lookL_ok h n (k + 1) (by omega)⟩
    have := h k
    rw [Array.getD_eq_getD_getElem?] at this
    have e : vals[k]? = some (vals.toList[k]'hlt) := by rw [← Array.getElem?_toList]; exact List.getElem?_eq_getElem hlt
    rw [e] at this
    exact this

/-- A call of a function that is handed nothing of ours to turn: the chunks of φ rest while it runs. -/
theorem CallN.rest {P : Program} {f : FuncId} {args args₀ : List AV} {env : Env} {E : List Chunk} {K : AV → Env → List Chunk → Prop} {Y : Type} {Q : Y → Prop} {res : Y → AV} {out : Y → List Chunk}
    (hs : Meets P f args₀ [] Q res out) (φ : List Nat) (ha : frzT φ (argEnv 0 args) E fun aenv E1 => LeL [] (lookL aenv 0 args.length) args₀)
    (hfl : ∀ y, Q y → flatV (out y) (res y) = true ∧ flatE (out y) (out y) = true)
    (k : ∀ y, Q y → fV (mapV (renF [] (lenE E)) (res y)) fun r => fEE (merE (renF [] (lenE E)) [] (out y) E) fun E' => K r env E') : CallN P f args env E K where
  callable := hs.callable
  h := by
    intro B g tmps w vals h hr
    have hl := hr.length
    have her : ER g (argEnv 0 args) vals.toArray := argEnv_ok 0 args vals hr (fun j u hj => by simp [Array.getD_eq_getD_getElem?, hj])
    obtain ⟨g1, aenv, E1, hs1, he1, hle, hlike, hΦ1, _⟩ := frzT_ok φ h.sim her ha
    have hargs := lookL_ok he1 args.length 0 (by simpa using hl)
    have hargs : RL (g1.ren []) args₀ vals := LeL_ok _ _ _ hle (by simpa using hargs)
    refine (hs.h (g1.ren []) w vals (hs1.ren (π := []) (E' := []) trivial rfl) hargs).mono ?_
    rintro e w' ⟨y, c, g', hq, rfl, h1, h2, h3⟩
    obtain ⟨hf1, hf2⟩ := hfl y hq
    let g2 : Gh := { g' with Φ := g.Φ }
    have hact : ActLike (out y) g' g2 := ⟨Nat.le_refl _, fun _ _ => rfl, fun _ _ => rfl, fun _ _ => rfl⟩
    have hno : ∀ b, ¬ (⟨g1.ren [], [], w⟩ : Base).owns b := fun b ⟨i, hi⟩ => by simp [getE] at hi; cases hi
    have hno2 : ∀ b, ¬ (⟨g.ren [], [], w⟩ : Base).owns b := fun b ⟨i, hi⟩ => by simp [getE] at hi; cases hi
    have hbk : ∀ i, (getE (out y) i).blk g2 i = (getE (out y) i).blk g' i := fun i => Chunk.blk_at rfl rfl
    have hsim : Sim g2 (out y) w' := by
      refine ⟨h2.len, fun b o hb => h2.phi b o (h3.phi b o (hΦ1 b o hb)), fun i => ?_, fun i j b hi hj => ?_, fun i b hi => ?_⟩
      · refine flatC_sat hact ?_ (flatE_at hf2 i) (fun _ _ => rfl) (h2.sat i)
        cases hc : getE (out y) i with
        | none => exact .inr rfl
        | cells _ _ => left; simp [actB, hc]
        | vect _ _ _ => left; simp [actB, hc]
        | count k => have := flatE_at hf2 i; rw [hc] at this; cases this
        | row _ _ _ => have := flatE_at hf2 i; rw [hc] at this; cases this
        | smp _ _ _ => have := flatE_at hf2 i; rw [hc] at this; cases this
      · rw [hbk] at hi hj; exact h2.dis i j b hi hj
      · rw [hbk] at hi
        rcases h3.own i b hi with h4 | h4
        · cases hp : g2.Φ b with
          | none => rfl
          | some o => have := lt_heap (h.sim.phi b o hp); exact absurd h4 (by simp only; omega)
        · exact (hno b h4).elim
    have hext : Ext ⟨g.ren [], [], w⟩ g2 (out y) w' :=
      ⟨h3.os, h3.tape, h3.output, h3.size, fun b hb _ => h3.keep b hb (hno b), fun _ _ h => h, fun _ _ h => .inl h, fun i b hi => by
        rw [hbk] at hi
        exact (h3.own i b hi).imp id (fun h => (hno b h).elim), Nat.zero_le _, fun i hi => (by cases hi), h3.kk.trans hlike.k, fun i T' t xs hi => (by cases hi)⟩
    obtain ⟨h4, h5⟩ := h.join (π := []) (E₀ := []) rfl rfl trivial hsim hext
    have hid : ∀ v : AV, mapV (calF [] []) v = v := fun v => by
      have : calF [] [] = id := by funext v; cases v <;> rfl
      rw [this]; exact mapV_id v
    have hidE : ∀ E : List Chunk, mapE (calF [] []) E = E := fun E => by
      have : calF [] [] = id := by funext v; cases v <;> rfl
      rw [this]
      induction E with
      | nil => rfl
      | cons c r ih => simp only [mapE, ih, mapC_id]
    have hk' := k y hq
    rw [fV_eq, fEE_eq] at hk'
    rw [hidE] at h4
    refine ⟨c, _, _, env, _, rfl, ⟨fun t => ?_, h4.sim, h4.ext⟩, h5 _ _ (flatV_ok hact _ _ hf1 h1), hk'⟩
    have := h4.er t
    rw [look_mapEnv, hid] at this
    exact this
/-- A nil slice handed back as a slice of a chunk of its own. -/
theorem RetN.nil {M : List Bool} {env : Env} {E : List Chunk} {l : List AV} {Y : Type} {Q : Y → Prop} {res : Y → List AV} {out : Y → List Chunk} (T : TypeId) (t : Ty) (j : Nat)
    (h : fEE (addE E (.vect T t fun _ => [])) fun E' => fL (snL (lenE E) t.size j l) fun l' => RetN M [] E' l' Q res out) : RetN M env E l Q res out where
  h := by
    intro B g tmps w cs hM hI hr
    rw [fEE_eq, fL_eq] at h
    have hlen := hI.sim.len
    have hN := hI.new (c := .vect T t fun _ => []) (b := 0) (v := none) (l := 0) (w' := w) rfl rfl rfl (Nat.le_refl _) (fun _ _ => rfl)
      ⟨by simp [Gh.add], fun _ => rfl, fun cap hc => by simp [Gh.add] at hc⟩ (fun b hb => by simp [Chunk.blk, Gh.add] at hb)
    have hle := g.le_add 0 none 0
    have hm : ∀ v u, R g v u → R (g.add 0 none 0) v u := fun v u h => h.mono hle
    have hn : lenE E < (g.add 0 none 0).n := by rw [hlen]; exact Nat.lt_succ_self _
    have hV : (g.add 0 none 0).V (lenE E) = none := by simp [Gh.add, hlen]
    exact h.h B _ tmps w cs hM ⟨fun t => .undef _, hN.sim, hN.ext⟩ (snL_ok hn hV hm j l cs hr)
end Go.Proofs.YtkcifdblaboodaaGreat.Fw
set_option linter.unusedVariables false
set_option linter.unusedSimpArgs false
namespace Go.Proofs.YtkcifdblaboodaaGreat.Fw
open Go Go.RowKit

theorem CallN.frz {P : Program} {f : FuncId} {args : List AV} {env : Env} {E : List Chunk} {K : AV → Env → List Chunk → Prop} (i : Nat) (h : Fw.frz i env E args fun env' E' args' => CallN P f args' env' E' K) (hc : Callable P f) : CallN P f args env E K where
  callable := hc
  h := by
    intro B g tmps w vals hI hr
    obtain ⟨g', env', E', cs', h1, h2, h3⟩ := frz_ok hI hr h
    exact h3.h B g' tmps w vals h1 h2

def disB (π : List Nat) : List Nat → Bool
  | [] => true | i :: r => match inB π i with | true => false | false => disB π r
theorem disB_ok {π : List Nat} : ∀ {φ : List Nat}, disB π φ = true → ∀ i ∈ φ, i ∉ π
  | [], _, i, h => by simp at h
  | j :: r, hd, i, h => by
    simp only [disB] at hd
    split at hd
    · cases hd
    · rename_i hj
      rcases List.mem_cons.1 h with rfl | h
      · intro hm; rw [inB_iff.2 hm] at hj; cases hj
      · exact disB_ok hd i h

theorem CallN.borrow {P : Program} {f : FuncId} {args args₀ : List AV} {env : Env} {E E₀ : List Chunk} {K : AV → Env → List Chunk → Prop} {Y : Type} {Q : Y → Prop} {res : Y → AV} {out : Y → List Chunk}
    (hs : Meets P f args₀ E₀ Q res out) (φ π : List Nat) (hn : nodupB π = true) (hk : allK E₀ = true) (hd : disB π φ = true) (ha : frzT φ (argEnv 0 args) E fun aenv E1 => LeL π (lookL aenv 0 args.length) args₀) (hE : LeE π E π E₀)
    (hfl : ∀ y, Q y → flatV (out y) (res y) = true ∧ flatE (out y) (out y) = true)
    (k : ∀ y, Q y → fV (mapV (renF π (lenE E)) (res y)) fun r => fEnv (mapEnv (calF π E₀) env) fun env' => fEE (merE (renF π (lenE E)) π (out y) (mapE (calF π E₀) E)) fun E' => K r env' E') : CallN P f args env E K where
  callable := hs.callable
  h := by
    intro B g tmps w vals h hr
    have hl := hr.length
    have her : ER g (argEnv 0 args) vals.toArray := argEnv_ok 0 args vals hr (fun j u hj => by simp [Array.getD_eq_getD_getElem?, hj])
    obtain ⟨g1, aenv, E1, hs1, he1, hle, hlike, hΦ1, hΦ2, _⟩ := frzT_ok φ h.sim her ha
    have hargs := lookL_ok he1 args.length 0 (by simpa using hl)
    have hargs : RL (g1.ren π) args₀ vals := LeL_ok _ _ _ hle (by simpa using hargs)
    have hsr := h.sim.ren hE hn
    have hle1 : (g.ren π).le (g1.ren π) := ⟨Nat.le_refl _, hΦ1, fun i _ => by simp [Gh.ren, hlike.B], fun i _ => by simp [Gh.ren, hlike.V], fun i _ => by simp [Gh.ren, hlike.L], hlike.k⟩
    have hbr : ∀ c i, Chunk.blk (g1.ren π) i c = Chunk.blk (g.ren π) i c := fun c i => Chunk.blk_at (by simp [Gh.ren, hlike.B]) (by simp [Gh.ren, hlike.V])
    have hat := LeE_at π E₀ hE
    -- a block of E₀ is one of E, at a place of π
    have hof : ∀ j b, (getE E₀ j).blk (g.ren π) j = some b → ∃ i, i ∈ π ∧ (getE E i).blk g i = some b := by
      intro j b hj
      obtain ⟨i, hi, hc⟩ := (hat j).resolve_right (fun hc => by rw [hc] at hj; cases hj)
      exact ⟨i, List.mem_of_getElem? hi, LeC_blk hi _ _ hc hj⟩
    have hnoΦ : ∀ j b, (getE E₀ j).blk (g.ren π) j = some b → g1.Φ b = none := by
      intro j b hj
      obtain ⟨i, hi, hb⟩ := hof j b hj
      cases hp : g1.Φ b with
      | none => rfl
      | some o =>
        rcases hΦ2 b o hp with h1 | ⟨i', hi', h1⟩
        · rw [h.sim.dphi i b hb] at h1; cases h1
        · have := h.sim.dis i i' b hb h1
          subst this
          exact (disB_ok hd i hi' hi).elim
    have hsim1 : Sim (g1.ren π) E₀ w := by
      refine ⟨hsr.len, hs1.phi, fun i => ?_, fun i j b hi hj => ?_, fun i b hi => ?_⟩
      · exact Chunk.sat_frame (fun _ _ h => h.mono hle1) (by simp [Gh.ren, hlike.B]) (by simp [Gh.ren, hlike.V]) (by simp [Gh.ren, hlike.L]) hlike.k (fun _ _ => rfl) (hsr.sat i)
      · rw [hbr] at hi hj; exact hsr.dis i j b hi hj
      · rw [hbr] at hi; exact hnoΦ i b hi
    refine (hs.h (g1.ren π) w vals hsim1 hargs).mono ?_
    rintro e w' ⟨y, c, g', hq, rfl, h1, h2, h3⟩
    obtain ⟨hf1, hf2⟩ := hfl y hq
    let g2 : Gh := { g' with Φ := g.Φ }
    have hact : ActLike (out y) g' g2 := ⟨Nat.le_refl _, fun _ _ => rfl, fun _ _ => rfl, fun _ _ => rfl⟩
    have howns : ∀ b, (⟨g1.ren π, E₀, w⟩ : Base).owns b ↔ (⟨g.ren π, E₀, w⟩ : Base).owns b := fun b => ⟨fun ⟨i, hi⟩ => ⟨i, by rw [← hi]; exact (hbr _ _).symm⟩, fun ⟨i, hi⟩ => ⟨i, by rw [← hi]; exact (hbr _ _)⟩⟩
    have hbk : ∀ i, (getE (out y) i).blk g2 i = (getE (out y) i).blk g' i := fun i => Chunk.blk_at rfl rfl
    have hsim : Sim g2 (out y) w' := by
      refine ⟨h2.len, fun b o hb => h2.phi b o (h3.phi b o (hΦ1 b o hb)), fun i => ?_, fun i j b hi hj => ?_, fun i b hi => ?_⟩
      · refine flatC_sat hact ?_ (flatE_at hf2 i) (fun _ _ => rfl) (h2.sat i)
        cases hc : getE (out y) i with
        | none => exact .inr rfl
        | cells _ _ => left; simp [actB, hc]
        | vect _ _ _ => left; simp [actB, hc]
        | count k => have := flatE_at hf2 i; rw [hc] at this; cases this
        | row _ _ _ => have := flatE_at hf2 i; rw [hc] at this; cases this
        | smp _ _ _ => have := flatE_at hf2 i; rw [hc] at this; cases this
      · rw [hbk] at hi hj; exact h2.dis i j b hi hj
      · rw [hbk] at hi
        show g.Φ b = none
        cases hp : g.Φ b with
        | none => rfl
        | some o =>
          have h5 := hΦ1 b o hp
          rcases h3.own i b hi with h4 | h4
          · have := lt_heap (h.sim.phi b o hp); exact absurd h4 (by simp only; omega)
          · obtain ⟨j, hj⟩ := (howns b).1 h4
            rw [hnoΦ j b hj] at h5; cases h5
    have hext : Ext ⟨g.ren π, E₀, w⟩ g2 (out y) w' :=
      ⟨h3.os, h3.tape, h3.output, h3.size, fun b hb hno => h3.keep b hb (fun ho => hno ((howns b).1 ho)), fun _ _ h => h, fun _ _ h => .inl h, fun i b hi => by
        rw [hbk] at hi
        exact (h3.own i b hi).imp id (howns b).1, h3.n, fun i hi => by
          have := h3.ids i hi
          simp only [Gh.ren, hlike.B, hlike.V, hlike.L] at this ⊢
          exact this, h3.kk.trans hlike.k, h3.kin⟩
    obtain ⟨h4, h5⟩ := h.join hn hk hE hsim hext
    have hk' := k y hq
    rw [fV_eq, fEnv_eq, fEE_eq] at hk'
    exact ⟨c, _, _, _, _, rfl, h4, h5 _ _ (flatV_ok hact _ _ hf1 h1), hk'⟩
end Go.Proofs.YtkcifdblaboodaaGreat.Fw
set_option linter.unusedVariables false
set_option linter.unusedSimpArgs false
namespace Go.Proofs.YtkcifdblaboodaaGreat.Fw
open Go Go.RowKit

/-- A contract that says less. -/
theorem Meets.le {P : Program} {f : FuncId} {args : List AV} {E : List Chunk} {Y Y' : Type} {Q : Y → Prop} {res : Y → AV} {out : Y → List Chunk} {Q' : Y' → Prop} {res' : Y' → AV} {out' : Y' → List Chunk} (π : List Nat)
    (hm : Meets P f args E Q res out) (hn : nodupB π = true) (hh : headB (cellsL E) 0 π = true)
    (h : ∀ y, Q y → ∃ y', Q' y' ∧ LeV π (res y) (res' y') ∧ LeE π (out y) π (out' y')) : Meets P f args E Q' res' out' where
  callable := hm.callable
  h := by
    intro g w vals hS hr
    refine (hm.h g w vals hS hr).mono ?_
    rintro e w' ⟨y, c, g', hq, rfl, h1, h2, h3⟩
    obtain ⟨y', hq', hv, hE⟩ := h y hq
    have hI : Inv ⟨g, E, w⟩ g' [] (out y) #[] w' := ⟨fun t => .undef _, h2, h3⟩
    have hI' := hI.ren (env' := []) trivial hE hn hh
    exact ⟨y', c, g'.ren π, hq', rfl, LeV_ok _ _ _ hv h1, hI'.sim, hI'.ext⟩
end Go.Proofs.YtkcifdblaboodaaGreat.Fw
set_option linter.unusedVariables false
set_option linter.unusedSimpArgs false
namespace Go.Proofs.YtkcifdblaboodaaGreat.Fw
open Go Go.RowKit
def unrow : Chunk → Chunk
  | .row T t xs => .vect T t xs | c => c
theorem unrow_sat {g : Gh} {i : Nat} {w : World} {c : Chunk} (h : c.sat g i w) : (unrow c).sat g i w := by cases c <;> exact h
theorem unrow_blk (g : Gh) (i : Nat) (c : Chunk) : (unrow c).blk g i = c.blk g i := by cases c <;> rfl
theorem Inv.unrow {B : Base} {g : Gh} {env : Env} {E : List Chunk} {tmps : Array Value} {w : World} (h : Inv B g env E tmps w) {i : Nat} (hi : lenE B.E ≤ i) : Inv B g env (setE E i (unrow (getE E i))) tmps w := by
  have hget : ∀ j, getE (setE E i (Fw.unrow (getE E i))) j = if i = j then Fw.unrow (getE E j) else getE E j := by
    intro j
    rw [getE_set]
    by_cases hij : i = j
    · subst hij
      by_cases hl : i < lenE E
      · simp [hl]
      · have : getE E i = .none := by rw [getE_eq, List.getElem?_eq_none (by rw [← lenE_eq]; omega)]; rfl
        simp [hl, this, Fw.unrow]
    · simp [hij]
  have hb : ∀ j, (getE (setE E i (Fw.unrow (getE E i))) j).blk g j = (getE E j).blk g j := fun j => by
    rw [hget]; split
    · exact unrow_blk _ _ _
    · rfl
  refine ⟨h.er, ⟨by rw [lenE_set]; exact h.sim.len, h.sim.phi, fun j => ?_, fun j k b hj hk => h.sim.dis j k b (by rw [← hb]; exact hj) (by rw [← hb]; exact hk), fun j b hj => h.sim.dphi j b (by rw [← hb]; exact hj)⟩,
    ⟨h.ext.os, h.ext.tape, h.ext.output, h.ext.size, h.ext.keep, h.ext.phi, h.ext.phin, fun j b hj => h.ext.own j b (by rw [← hb]; exact hj), h.ext.n, h.ext.ids, h.ext.kk, fun j T' t xs hf hv => ?_⟩⟩
  · rw [hget]; split
    · exact unrow_sat (h.sim.sat j)
    · exact h.sim.sat j
  · rw [hget] at hv
    split at hv
    · have := fix_lt hf; omega
    · exact h.ext.kin j T' t xs hf hv
theorem RetN.unrow {M : List Bool} {env : Env} {E : List Chunk} {l : List AV} {Y : Type} {Q : Y → Prop} {res : Y → List AV} {out : Y → List Chunk} (i : Nat) (hM : Nat.ble M.length i = true) (h : RetN M env (setE E i (Fw.unrow (getE E i))) l Q res out) : RetN M env E l Q res out where
  h := by
    intro B g tmps w cs hB hI hr
    exact h.h B g tmps w cs hB (hI.unrow (by rw [← cellsL_len, hB]; exact Nat.le_of_ble_eq_true hM)) hr
def flat : Ty → Bool
  | .list _ => false | .pair a b => flat a && flat b | _ => true
theorem eqD_iff : ∀ (t : Ty), flat t = true → ∀ x y : t.den, (eqD t x y = true ↔ x = y)
  | .int k, _, x, y => by
    show (@BEq.beq Int _ x y = true ↔ x = y)
    exact beq_iff_eq
  | .bool, _, x, y => by
    show (@BEq.beq Bool _ x y = true ↔ x = y)
    exact beq_iff_eq
  | .str, _, x, y => by
    show (@BEq.beq (List UInt8) _ x y = true ↔ x = y)
    exact beq_iff_eq
  | .list e, h, x, y => by cases h
  | .pair a b, h, x, y => by
    have h : (flat a && flat b) = true := h
    rw [Bool.and_eq_true] at h
    show ((eqD a x.1 y.1 && eqD b x.2 y.2) = true ↔ x = y)
    rw [Bool.and_eq_true, eqD_iff a h.1, eqD_iff b h.2]
    exact Prod.ext_iff.symm
theorem eqD_no (t : Ty) (h : flat t = true) (x y : t.den) : eqD t x y = false ↔ x ≠ y := by
  rw [← Bool.not_eq_true, eqD_iff t h]
theorem take_eq_step {α : Type} {a b : List α} {i : Nat} {d : α} (hi : i < a.length) (hj : i < b.length) (h : a.take i = b.take i) (he : a.getD i d = b.getD i d) : a.take (i + 1) = b.take (i + 1) := by
  rw [List.getD_eq_getElem?_getD, List.getD_eq_getElem?_getD, List.getElem?_eq_getElem hi, List.getElem?_eq_getElem hj] at he
  rw [List.take_add_one, List.take_add_one, h, List.getElem?_eq_getElem hi, List.getElem?_eq_getElem hj]
  exact congrArg _ (congrArg _ (congrArg _ he))
/-- What a way's conditions come to. -/
theorem bs : (∀ (p : Prop) [Decidable p], (decide p = true) = p) ∧ (∀ (p : Prop) [Decidable p], (decide p = false) = ¬ p) ∧ (∀ (α : Type) [BEq α] [LawfulBEq α] (a b : α), ((a == b) = true) = (a = b)) ∧ (∀ (α : Type) [BEq α] [LawfulBEq α] (a b : α), ((a == b) = false) = ¬ a = b) ∧
    (∀ (α : Type) [BEq α] [LawfulBEq α] (a b : α), ((a != b) = true) = (a ≠ b)) ∧ (∀ (α : Type) [BEq α] [LawfulBEq α] (a b : α), ((a != b) = false) = (a = b)) ∧ (∀ b : Bool, ((!b) = true) = (b = false)) ∧ (∀ b : Bool, ((!b) = false) = (b = true)) ∧ ((!true) = false) ∧ ((!false) = true) :=
  ⟨fun _ _ => propext decide_eq_true_iff, fun _ _ => propext decide_eq_false_iff_not, fun _ _ _ _ _ => propext beq_iff_eq, fun _ _ _ _ _ => propext beq_eq_false_iff_ne, fun _ _ _ _ _ => propext bne_iff_ne, fun _ _ _ _ _ => propext bne_eq_false_iff_eq, fun _ => Bool.not_eq_true' _, fun _ => Bool.not_eq_false' _, rfl, rfl⟩
/-- A call by its contract, what is asked of the arguments shown at once. -/
theorem CallN.q {P : Program} {f : FuncId} {args args₀ : List AV} {env : Env} {E E₀ : List Chunk} {K : AV → Env → List Chunk → Prop} {Y : Type} {Q : Y → Prop} {res : Y → AV} {out : Y → List Chunk}
    (hs : Meets P f args₀ E₀ Q res out) (π : List Nat)
    (k : ∀ y, Q y → fV (mapV (renF π (lenE E)) (res y)) fun r => fEnv (mapEnv (calF π E₀) env) fun env' => fEE (merE (renF π (lenE E)) π (out y) (mapE (calF π E₀) E)) fun E' => K r env' E')
    (hn : nodupB π = true := by rfl) (hk : allK E₀ = true := by rfl)
    (ha : LeL π args args₀ := by ((repeat' ((conv => whnf) <;> first | exact rfl | exact trivial | apply And.intro | exact Nat.zero_add _)); done))
    (hE : LeE π E π E₀ := by ((repeat' ((conv => whnf) <;> first | exact rfl | exact trivial | apply And.intro | exact Nat.zero_add _)); done)) : CallN P f args env E K := CallN.intro hs π hn hk ha hE k
theorem RetN.q {M : List Bool} {env : Env} {E : List Chunk} {l : List AV} {Y : Type} {Q : Y → Prop} {res : Y → List AV} {out : Y → List Chunk} (y : Y) (π : List Nat)
    (hE : LeE π E π (out y)) (hl : LeL π l (res y)) (hq : Q y) (hn : nodupB π = true := by rfl) (hh : headB M 0 π = true := by rfl) : RetN M env E l Q res out := RetN.intro y π hn hh hE hl hq
end Go.Proofs.YtkcifdblaboodaaGreat.Fw
set_option linter.unusedVariables false
set_option linter.unusedSimpArgs false
namespace Go.Proofs.YtkcifdblaboodaaGreat.Bt
open Go Go.RowKit Fw
/-- The number that words are, the first one lowest. -/
def numOf : List Int → Nat
  | [] => 0
  | x :: r => x.toNat + 18446744073709551616 * numOf r
def wordsOf (k N : Nat) : List Int := (List.range k).map fun i => ((N / 2 ^ (64 * i) % 2 ^ 64 : Nat) : Int)
/-- Words as may be. -/
def Wd (w : List Int) : Prop := ∀ x ∈ w, 0 ≤ x ∧ x < 18446744073709551616
theorem words_len (k N : Nat) : (wordsOf k N).length = k := by simp [wordsOf]
theorem words_at {k N i : Nat} (h : i < k) : (wordsOf k N).getD i 0 = ((N / 2 ^ (64 * i) % 2 ^ 64 : Nat) : Int) := by
  simp [wordsOf, List.getD_eq_getElem?_getD, h]
theorem words_wd (k N : Nat) : Wd (wordsOf k N) := fun x hx => by
  simp only [wordsOf, List.mem_map] at hx
  obtain ⟨i, _, rfl⟩ := hx
  have := Nat.mod_lt (N / 2 ^ (64 * i)) (show 2 ^ 64 > 0 by decide)
  omega
theorem num_lt : ∀ {w : List Int}, Wd w → numOf w < 2 ^ (64 * w.length)
  | [], _ => by simp [numOf]
  | x :: r, h => by
    have h1 := h x (List.mem_cons_self ..)
    have h2 := num_lt (w := r) fun y hy => h y (List.mem_cons_of_mem _ hy)
    have e : 2 ^ (64 * (x :: r).length) = 18446744073709551616 * 2 ^ (64 * r.length) := by
      rw [List.length_cons, Nat.mul_add, Nat.pow_add, Nat.mul_comm]
    rw [e, numOf]; omega
theorem num_at : ∀ {w : List Int}, Wd w → ∀ i, i < w.length → w.getD i 0 = ((numOf w / 2 ^ (64 * i) % 2 ^ 64 : Nat) : Int)
  | [], _, i, h => by simp at h
  | x :: r, hw, i, h => by
    have h1 := hw x (List.mem_cons_self ..)
    cases i with
    | zero =>
      show x = _
      rw [numOf, Nat.mul_zero, Nat.pow_zero, Nat.div_one, show (2 : Nat) ^ 64 = 18446744073709551616 from rfl, Nat.add_mul_mod_self_left]
      omega
    | succ i =>
      have ih := num_at (w := r) (fun y hy => hw y (List.mem_cons_of_mem _ hy)) i (by simpa using h)
      have e : numOf (x :: r) / 2 ^ (64 * (i + 1)) = numOf r / 2 ^ (64 * i) := by
        rw [show 2 ^ (64 * (i + 1)) = 18446744073709551616 * 2 ^ (64 * i) by rw [Nat.mul_add, Nat.pow_add, Nat.mul_comm], ← Nat.div_div_eq_div_mul, numOf]
        congr 1
        omega
      rw [e, ← ih]; rfl
theorem getD_ext {l m : List Int} (h : l.length = m.length) (h2 : ∀ i, i < l.length → l.getD i 0 = m.getD i 0) : l = m := by
  apply List.ext_getElem h
  intro i h3 h4
  have := h2 i h3
  rwa [List.getD_eq_getElem?_getD, List.getD_eq_getElem?_getD, List.getElem?_eq_getElem h3, List.getElem?_eq_getElem h4] at this
theorem words_num {w : List Int} (h : Wd w) : wordsOf w.length (numOf w) = w :=
  getD_ext (words_len _ _) fun i hi => by
    rw [words_len] at hi
    rw [words_at hi, num_at h i hi]
theorem num_words : ∀ {k N : Nat}, N < 2 ^ (64 * k) → numOf (wordsOf k N) = N
  | 0, N, h => by simp at h; subst h; rfl
  | k + 1, N, h => by
    have e : wordsOf (k + 1) N = ((N % 2 ^ 64 : Nat) : Int) :: wordsOf k (N / 2 ^ 64) := by
      unfold wordsOf
      rw [List.range_succ_eq_map, List.map_cons, List.map_map]
      congr 1
      · simp
      · refine List.map_congr_left fun i _ => ?_
        show ((N / 2 ^ (64 * (i + 1)) % 2 ^ 64 : Nat) : Int) = _
        rw [Nat.mul_add, Nat.mul_one, Nat.add_comm, Nat.pow_add, Nat.div_div_eq_div_mul]
    have h2 : N / 2 ^ 64 < 2 ^ (64 * k) := by
      rw [Nat.div_lt_iff_lt_mul (by decide), ← Nat.pow_add]
      rwa [Nat.mul_add] at h
    rw [e, numOf, num_words h2]
    have := Nat.div_add_mod N 18446744073709551616
    show (((N % 18446744073709551616 : Nat) : Int)).toNat + 18446744073709551616 * (N / 18446744073709551616) = N
    omega
theorem words_inj {k M N : Nat} (hM : M < 2 ^ (64 * k)) (hN : N < 2 ^ (64 * k)) (h : wordsOf k M = wordsOf k N) : M = N := by
  rw [← num_words hM, ← num_words hN, h]
/-! ### Fields -/
def fld (N at_ wd : Nat) : Nat := N / 2 ^ at_ % 2 ^ wd
theorem fld_bit (N a b i : Nat) : (fld N a b).testBit i = (decide (i < b) && N.testBit (a + i)) := by
  unfold fld; rw [Nat.testBit_mod_two_pow, Nat.testBit_div_two_pow, Nat.add_comm]
theorem word_bit (N i j : Nat) : (N / 2 ^ (64 * i) % 2 ^ 64).testBit j = (decide (j < 64) && N.testBit (64 * i + j)) := fld_bit N (64 * i) 64 j
/-- A field out of two words. -/
theorem fld_words (N i low wd : Nat) (hl : low < 64) (hw : wd ≤ 64) :
    ((N / 2 ^ (64 * i) % 2 ^ 64) / 2 ^ low ||| (N / 2 ^ (64 * (i + 1)) % 2 ^ 64) * 2 ^ (64 - low) % 2 ^ 64) &&& (2 ^ wd - 1) = fld N (64 * i + low) wd := by
  apply Nat.eq_of_testBit_eq
  intro j
  rw [Nat.testBit_and, Nat.testBit_two_pow_sub_one, Nat.testBit_or, Nat.testBit_div_two_pow, word_bit, Nat.testBit_mod_two_pow, Nat.testBit_mul_two_pow, word_bit, fld_bit]
  by_cases h1 : j < wd
  · by_cases h2 : j + low < 64
    · have e1 : 64 * i + (j + low) = 64 * i + low + j := by omega
      have e2 : ¬ 64 ≤ j + low := by omega
      simp [h1, h2, e1, e2]
    · have e1 : 64 * (i + 1) + (j - (64 - low)) = 64 * i + low + j := by omega
      have e2 : 64 ≤ j + low := by omega
      have e3 : j - (64 - low) < 64 := by omega
      have e4 : j < 64 := by omega
      simp [h1, h2, e1, e2, e3, e4]
  · simp [h1]
theorem fld_word (N i low wd : Nat) (hl : low + wd ≤ 64) : ((N / 2 ^ (64 * i) % 2 ^ 64) / 2 ^ low) &&& (2 ^ wd - 1) = fld N (64 * i + low) wd := by
  apply Nat.eq_of_testBit_eq
  intro j
  rw [Nat.testBit_and, Nat.testBit_two_pow_sub_one, Nat.testBit_div_two_pow, word_bit, fld_bit]
  by_cases h1 : j < wd
  · have e1 : 64 * i + (j + low) = 64 * i + low + j := by omega
    have h2 : j + low < 64 := by omega
    simp [h1, h2, e1]
  · simp [h1]
/-- What is laid into a word, ahead of which all is lower. -/
def andn (a b : Nat) : Nat := (BitVec.ofNat 64 a &&& ~~~BitVec.ofNat 64 b).toNat
theorem andn_bit (a b i : Nat) : (andn a b).testBit i = (decide (i < 64) && a.testBit i && !b.testBit i) := by
  unfold andn
  rw [BitVec.testBit_toNat, BitVec.getLsbD_and, BitVec.getLsbD_not, BitVec.getLsbD_ofNat, BitVec.getLsbD_ofNat]
  by_cases h : i < 64 <;> simp [h]
theorem add_or {N n a : Nat} (h : N < 2 ^ a) : N + n * 2 ^ a = N ||| n * 2 ^ a := by
  rw [Nat.add_comm, Nat.or_comm, Nat.mul_comm]
  exact Nat.two_pow_add_eq_or_of_lt h n
theorem low_bit {N a i : Nat} (h : N < 2 ^ a) (hi : a ≤ i) : N.testBit i = false := Nat.testBit_lt_two_pow (Nat.lt_of_lt_of_le h (Nat.pow_le_pow_right (by decide) hi))
theorem set_low {N i low n wd : Nat} (h : N < 2 ^ (64 * i + low)) (hn : n < 2 ^ wd) (hl : low < 64) (hw : wd ≤ 64) :
    andn (N / 2 ^ (64 * i) % 2 ^ 64) ((2 ^ wd - 1) * 2 ^ low % 2 ^ 64) ||| n * 2 ^ low % 2 ^ 64 = (N + n * 2 ^ (64 * i + low)) / 2 ^ (64 * i) % 2 ^ 64 := by
  apply Nat.eq_of_testBit_eq
  intro j
  rw [Nat.testBit_or, andn_bit, word_bit, Nat.testBit_mod_two_pow, Nat.testBit_mul_two_pow, Nat.testBit_two_pow_sub_one, Nat.testBit_mod_two_pow, Nat.testBit_mul_two_pow, word_bit, add_or h, Nat.testBit_or, Nat.testBit_mul_two_pow]
  by_cases h1 : j < 64
  · by_cases h2 : low ≤ j
    · have e1 : N.testBit (64 * i + j) = false := low_bit h (by omega)
      have e2 : 64 * i + j - (64 * i + low) = j - low := by omega
      simp [h1, h2, e1, e2]
    · have e3 : ¬ (64 * i + low ≤ 64 * i + j) := by omega
      simp [h1, h2]
  · simp [h1]
theorem set_high {N i low n wd : Nat} (h : N < 2 ^ (64 * i + low)) (hn : n < 2 ^ wd) (hl : low < 64) (hw : wd ≤ 64) :
    andn (N / 2 ^ (64 * (i + 1)) % 2 ^ 64) ((2 ^ wd - 1) / 2 ^ (64 - low)) ||| n / 2 ^ (64 - low) = (N + n * 2 ^ (64 * i + low)) / 2 ^ (64 * (i + 1)) % 2 ^ 64 := by
  apply Nat.eq_of_testBit_eq
  intro j
  rw [Nat.testBit_or, andn_bit, word_bit, Nat.testBit_div_two_pow, Nat.testBit_div_two_pow, word_bit, add_or h, Nat.testBit_or, Nat.testBit_mul_two_pow]
  have e1 : N.testBit (64 * (i + 1) + j) = false := low_bit h (by omega)
  have e2 : 64 * (i + 1) + j - (64 * i + low) = j + (64 - low) := by omega
  have e3 : 64 * i + low ≤ 64 * (i + 1) + j := by omega
  by_cases h1 : j < 64
  · simp [h1, e1, e2, e3]
  · have e4 : n.testBit (j + (64 - low)) = false := low_bit hn (by omega)
    simp [h1, e4]
theorem set_other {N i low n wd j : Nat} (h : N < 2 ^ (64 * i + low)) (hn : n < 2 ^ wd) (hl : low < 64) (hj : j ≠ i) (hj2 : j ≠ i + 1 ∨ low + wd ≤ 64) (hw : wd ≤ 64) :
    (N + n * 2 ^ (64 * i + low)) / 2 ^ (64 * j) % 2 ^ 64 = N / 2 ^ (64 * j) % 2 ^ 64 := by
  apply Nat.eq_of_testBit_eq
  intro b
  rw [word_bit, word_bit, add_or h, Nat.testBit_or, Nat.testBit_mul_two_pow]
  by_cases h1 : b < 64
  · by_cases h2 : 64 * i + low ≤ 64 * j + b
    · have e4 : n.testBit (64 * j + b - (64 * i + low)) = false := low_bit hn (by omega)
      simp [e4]
    · simp [h2]
  · simp [h1]
/-! ### As numbers of the program -/
theorem wrap_nat {x : Nat} (h : x < 2 ^ 64) : IntKind.u64.wrap (x : Int) = (x : Int) := by
  simp [IntKind.wrap, IntKind.bits, IntKind.signed]; omega
theorem or_int (a b : Nat) (ha : a < 2 ^ 64) (hb : b < 2 ^ 64) : IntKind.u64.wrap (BitVec.ofInt IntKind.u64.bits (a : Int) ||| BitVec.ofInt IntKind.u64.bits (b : Int)).toNat = ((a ||| b : Nat) : Int) := by
  have e : (BitVec.ofInt IntKind.u64.bits (a : Int) ||| BitVec.ofInt IntKind.u64.bits (b : Int)).toNat = a ||| b := by
    show (BitVec.ofInt 64 (a : Int) ||| BitVec.ofInt 64 (b : Int)).toNat = a ||| b
    rw [BitVec.ofInt_natCast, BitVec.ofInt_natCast, BitVec.toNat_or, BitVec.toNat_ofNat, BitVec.toNat_ofNat, Nat.mod_eq_of_lt ha, Nat.mod_eq_of_lt hb]
  rw [e]
  have : a ||| b < 2 ^ 64 := Nat.or_lt_two_pow ha hb
  simp [IntKind.wrap, IntKind.bits, IntKind.signed]; omega
theorem and_int (a b : Nat) (ha : a < 2 ^ 64) (hb : b < 2 ^ 64) : IntKind.u64.wrap (BitVec.ofInt IntKind.u64.bits (a : Int) &&& BitVec.ofInt IntKind.u64.bits (b : Int)).toNat = ((a &&& b : Nat) : Int) := by
  have e : (BitVec.ofInt IntKind.u64.bits (a : Int) &&& BitVec.ofInt IntKind.u64.bits (b : Int)).toNat = a &&& b := by
    show (BitVec.ofInt 64 (a : Int) &&& BitVec.ofInt 64 (b : Int)).toNat = a &&& b
    rw [BitVec.ofInt_natCast, BitVec.ofInt_natCast, BitVec.toNat_and, BitVec.toNat_ofNat, BitVec.toNat_ofNat, Nat.mod_eq_of_lt ha, Nat.mod_eq_of_lt hb]
  rw [e]
  have : a &&& b < 2 ^ 64 := Nat.lt_of_le_of_lt Nat.and_le_left ha
  simp [IntKind.wrap, IntKind.bits, IntKind.signed]; omega
theorem andn_int (a b : Nat) : IntKind.u64.wrap (BitVec.ofInt IntKind.u64.bits (a : Int) &&& ~~~ BitVec.ofInt IntKind.u64.bits (b : Int)).toNat = ((andn a b : Nat) : Int) := by
  have e : (BitVec.ofInt IntKind.u64.bits (a : Int) &&& ~~~ BitVec.ofInt IntKind.u64.bits (b : Int)) = BitVec.ofNat 64 a &&& ~~~BitVec.ofNat 64 b := by
    show (BitVec.ofInt 64 (a : Int) &&& ~~~ BitVec.ofInt 64 (b : Int)) = _
    rw [BitVec.ofInt_natCast, BitVec.ofInt_natCast]
  have : (BitVec.ofNat 64 a &&& ~~~BitVec.ofNat 64 b).toNat < 2 ^ 64 := BitVec.isLt _
  rw [e]
  exact wrap_nat this
theorem shl_int (a b : Nat) (h : b ≤ 64) : IntKind.u64.wrap ((a : Int) * 2 ^ (min ((b : Int)).toNat IntKind.u64.bits)) = ((a * 2 ^ b % 2 ^ 64 : Nat) : Int) := by
  have e : min ((b : Int)).toNat IntKind.u64.bits = b := by rw [Int.toNat_natCast]; exact Nat.min_eq_left h
  rw [e]
  simp [IntKind.wrap, IntKind.bits, IntKind.signed]
theorem shr_int (a b : Nat) (h : b ≤ 64) : ((a : Int)).fdiv (2 ^ (min ((b : Int)).toNat IntKind.u64.bits)) = ((a / 2 ^ b : Nat) : Int) := by
  have e : min ((b : Int)).toNat IntKind.u64.bits = b := by rw [Int.toNat_natCast]; exact Nat.min_eq_left h
  have h2 : (2 : Int) ^ b = ((2 ^ b : Nat) : Int) := by simp
  rw [e, h2, Int.fdiv_eq_ediv_of_nonneg _ (Int.natCast_nonneg _)]
  exact (Int.natCast_ediv _ _).symm
end Go.Proofs.YtkcifdblaboodaaGreat.Bt
set_option linter.unusedVariables false
set_option linter.unusedSimpArgs false
namespace Go.Proofs.YtkcifdblaboodaaGreat.Hi
open Go Go.RowKit Fw

abbrev PolT : Ty := .pair (.int .i64) (.pair (.int .i64) (.pair (.int .i64) (.int .i64)))
abbrev Pol := Int × Int × Int × Int
abbrev HitT : Ty := .pair (.int .i64) (.int .i64)
abbrev Hit := Int × Int
abbrev VerT : Ty := .pair .bool (.pair (.int .i64) (.pair (.int .i64) (.int .i64)))
abbrev Ver := Bool × Int × Int × Int
def verAV (v : Ver) : AV := .agg [.bool fun _ => v.1, .int .i64 fun _ => v.2.1, .int .i64 fun _ => v.2.2.1, .int .i64 fun _ => v.2.2.2]
def polAV (p : Pol) : AV := .agg [.int .i64 fun _ => p.1, .int .i64 fun _ => p.2.1, .int .i64 fun _ => p.2.2.1, .int .i64 fun _ => p.2.2.2]
theorem wr {x : Int} (h : -9223372036854775808 ≤ x ∧ x ≤ 9223372036854775807) : IntKind.i64.wrap x = x := by rw [IntKind.wrap_i64]; omega

/-- May a policy be? -/
structure PolOk (p : Pol) : Prop where
  kind : 1 ≤ p.1 ∧ p.1 ≤ 4
  limit : 1 ≤ p.2.1 ∧ p.2.1 ≤ 1048576
  window : 1 ≤ p.2.2.1 ∧ p.2.2.1 ≤ 1048576
  ring : p.1 = 3 → 1 ≤ p.2.2.2 ∧ p.2.2.2 ≤ 16 ∧ p.2.2.1.tmod p.2.2.2 = 0
  plain : p.1 ≠ 3 → p.2.2.2 = 0
  exact_ : p.1 = 4 → p.2.1 ≤ 16
instance (p : Pol) : Decidable (PolOk p) :=
  if h : (1 ≤ p.1 ∧ p.1 ≤ 4) ∧ (1 ≤ p.2.1 ∧ p.2.1 ≤ 1048576) ∧ (1 ≤ p.2.2.1 ∧ p.2.2.1 ≤ 1048576) ∧ (p.1 = 3 → 1 ≤ p.2.2.2 ∧ p.2.2.2 ≤ 16 ∧ p.2.2.1.tmod p.2.2.2 = 0) ∧ (p.1 ≠ 3 → p.2.2.2 = 0) ∧ (p.1 = 4 → p.2.1 ≤ 16)
  then isTrue ⟨h.1, h.2.1, h.2.2.1, h.2.2.2.1, h.2.2.2.2.1, h.2.2.2.2.2⟩ else isFalse fun q => h ⟨q.1, q.2, q.3, q.4, q.5, q.6⟩
def weighs (w : Int) : Bool := decide (1 ≤ w) && decide (w ≤ 1048576)
/-- The ticks of a slot. -/
def slotOf (p : Pol) : Int := if p.1 = 3 then p.2.2.1.tdiv p.2.2.2 else p.2.2.1
def mayGo : Int → List Hit → Bool
  | _, [] => true
  | last, h :: r => decide (last ≤ h.1) && decide (h.1 ≤ 1099511627776) && weighs h.2 && mayGo h.1 r
def may (l : List Hit) : Bool := mayGo 0 l
/-- The sum from the back, and what is in the bucket. -/
def lev (p : Pol) (t : Int) : List Hit → Int × Int
  | [] => (0, 0)
  | h :: r => let s := (lev p t r).1 + h.2 * p.2.2.1
    (s, max (lev p t r).2 (s - p.2.1 * (t - h.1)))
def those (q : Int → Bool) : List Hit → Int
  | [] => 0
  | h :: r => (if q h.1 then h.2 else 0) + those q r
def cq (p : Pol) (t : Int) (tick : Int) : Bool :=
  if p.1 = 2 then decide (tick.tdiv (slotOf p) = t.tdiv (slotOf p))
  else if p.1 = 3 then decide (t.tdiv (slotOf p) - p.2.2.2 < tick.tdiv (slotOf p))
  else decide (t - p.2.2.1 < tick)
def counts (p : Pol) (l : List Hit) (t : Int) : Int := if p.1 = 1 then (lev p t l).2 else those (cq p t) l
def worth (p : Pol) (w : Int) : Int := if p.1 = 1 then w * p.2.2.1 else w
def lastOk (l : List Hit) (t : Int) : Bool := match l.getLast? with | none => true | some h => decide (h.1 ≤ t)
def fitsTo (p : Pol) (l : List Hit) : Nat → Bool
  | 0 => true
  | k + 1 => fitsTo p l k && decide (counts p (l.take (k + 1)) (l.getD k (0, 0)).1 ≤ worth p p.2.1)
def fits (p : Pol) (l : List Hit) (t : Int) : Bool :=
  decide (PolOk p) && may l && decide (0 ≤ t) && decide (t ≤ 1099511627776) && lastOk l t && fitsTo p l l.length
/-- How long it takes till at most so much counts. -/
def waitFrom (p : Pol) (l : List Hit) (t most : Int) : Nat → Nat → Int
  | 0, k => k
  | f + 1, k => if counts p l (t + k) ≤ most then k else waitFrom p l t most f (k + 1)
def wait (p : Pol) (l : List Hit) (t most : Int) : Int := waitFrom p l t most p.2.2.1.toNat 0
def ask (p : Pol) (l : List Hit) (t w : Int) : List Hit × Ver :=
  if fits p l t && weighs w then
    let most := worth p p.2.1
    let l' := if counts p l t + worth p w ≤ most then l ++ [(t, w)] else l
    (l', decide (counts p l t + worth p w ≤ most), (max 0 (most - counts p l' t)).tdiv (worth p 1),
      (if counts p l t + worth p w ≤ most then 0 else if p.2.1 < w then 2199023255552 else wait p l t (most - worth p w)), wait p l' t 0)
  else (l, false, 0, 0, 0)
def countsR (p : Pol) (l : List Hit) (t : Int) : Int := if fits p l t then counts p l t else 0
def neutral (p : Pol) (l : List Hit) (t : Int) : Bool := fits p l t && decide (counts p l t = 0)

/-! ### Bounds -/
/-- Hits whose ticks and weights are what they may be, none above t. -/
structure HOk (l : List Hit) (t : Int) : Prop where
  tick : ∀ h ∈ l, 0 ≤ h.1 ∧ h.1 ≤ t
  weight : ∀ h ∈ l, 1 ≤ h.2 ∧ h.2 ≤ 1048576
  len : l.length ≤ 64
theorem HOk.tail {h : Hit} {l : List Hit} {t : Int} (q : HOk (h :: l) t) : HOk l t :=
  ⟨fun x hx => q.tick x (List.mem_cons_of_mem _ hx), fun x hx => q.weight x (List.mem_cons_of_mem _ hx), by have := q.len; simp only [List.length_cons] at this; omega⟩
theorem HOk.sub {l l' : List Hit} {t : Int} (q : HOk l t) (hs : ∀ h ∈ l', h ∈ l) (hl : l'.length ≤ 64) : HOk l' t := ⟨fun x hx => q.tick x (hs x hx), fun x hx => q.weight x (hs x hx), hl⟩
theorem HOk.later {l : List Hit} {t t' : Int} (q : HOk l t) (h : t ≤ t') : HOk l t' := ⟨fun x hx => by have := q.tick x hx; omega, q.weight, q.len⟩
theorem lev_bound {p : Pol} (hp : PolOk p) {t : Int} : ∀ (l : List Hit), HOk l t → 0 ≤ (lev p t l).1 ∧ (lev p t l).1 ≤ 1099511627776 * l.length ∧ 0 ≤ (lev p t l).2 ∧ (lev p t l).2 ≤ (lev p t l).1
  | [], _ => by simp [lev]
  | h :: r, q => by
    have ih := lev_bound hp r q.tail
    have hw := q.weight h (List.mem_cons_self ..)
    have ht := q.tick h (List.mem_cons_self ..)
    have hL := hp.limit
    have hW := hp.window
    have h1 : 0 ≤ h.2 * p.2.2.1 := Int.mul_nonneg (by omega) (by omega)
    have h2 : h.2 * p.2.2.1 ≤ 1048576 * 1048576 := Int.mul_le_mul hw.2 hW.2 (by omega) (by omega)
    have h3 : 0 ≤ p.2.1 * (t - h.1) := Int.mul_nonneg (by omega) (by omega)
    simp only [lev, List.length_cons]
    omega
theorem those_bound {q : Int → Bool} {t : Int} : ∀ (l : List Hit), HOk l t → 0 ≤ those q l ∧ those q l ≤ 1048576 * l.length
  | [], _ => by simp [those]
  | h :: r, k => by
    have ih := those_bound (q := q) r k.tail
    have hw := k.weight h (List.mem_cons_self ..)
    simp only [those, List.length_cons]
    split <;> omega
theorem counts_bound {p : Pol} (hp : PolOk p) {t : Int} {l : List Hit} (q : HOk l t) : 0 ≤ counts p l t ∧ counts p l t ≤ 70368744177664 := by
  have h1 := lev_bound hp l q
  have h2 := those_bound (q := cq p t) l q
  have h3 := q.len
  unfold counts
  split <;> omega
theorem worth_bound {p : Pol} (hp : PolOk p) {w : Int} (hw : 1 ≤ w ∧ w ≤ 1048576) : 1 ≤ worth p w ∧ worth p w ≤ 1099511627776 := by
  have hW := hp.window
  unfold worth
  split
  · have h1 : 1 * 1 ≤ w * p.2.2.1 := Int.mul_le_mul hw.1 hW.1 (by omega) (by omega)
    have h2 : w * p.2.2.1 ≤ 1048576 * 1048576 := Int.mul_le_mul hw.2 hW.2 (by omega) (by omega)
    omega
  · omega
theorem slot_bound {p : Pol} (hp : PolOk p) : 1 ≤ slotOf p ∧ slotOf p ≤ 1048576 := by
  have hW := hp.window
  unfold slotOf
  split
  · rename_i h
    obtain ⟨h1, h2, h3⟩ := hp.ring h
    have h4 := Int.mul_tdiv_add_tmod p.2.2.1 p.2.2.2
    rw [h3, Int.add_zero] at h4
    have h5 : 0 ≤ p.2.2.1.tdiv p.2.2.2 := Int.tdiv_nonneg (by omega) (by omega)
    constructor
    · rcases Int.lt_or_le 0 (p.2.2.1.tdiv p.2.2.2) with h | h
      · omega
      · have : p.2.2.1.tdiv p.2.2.2 = 0 := by omega
        rw [this, Int.mul_zero] at h4; omega
    · have : 1 * p.2.2.1.tdiv p.2.2.2 ≤ p.2.2.2 * p.2.2.1.tdiv p.2.2.2 := Int.mul_le_mul_of_nonneg_right h1 h5
      omega
  · omega

/-! ### As time goes on what counts never grows -/
theorem tdiv_mono {a b s : Int} (h0 : 0 ≤ a) (h : a ≤ b) (hs : 1 ≤ s) : a.tdiv s ≤ b.tdiv s := by
  rw [Int.tdiv_eq_ediv_of_nonneg h0, Int.tdiv_eq_ediv_of_nonneg (by omega)]
  exact Int.ediv_le_ediv (by omega) h
theorem cq_anti {p : Pol} (hp : PolOk p) {t t' tick : Int} (h0 : 0 ≤ tick) (h1 : tick ≤ t) (h2 : t ≤ t') (h : cq p t' tick = true) : cq p t tick = true := by
  have hs := slot_bound hp
  have m1 := tdiv_mono (s := slotOf p) h0 h1 hs.1
  have m2 := tdiv_mono (s := slotOf p) (by omega : 0 ≤ t) h2 hs.1
  unfold cq at h ⊢
  split
  · rw [if_pos ‹_›] at h
    simp only [decide_eq_true_eq] at h ⊢; omega
  · rw [if_neg ‹_›] at h
    split
    · rw [if_pos ‹_›] at h
      simp only [decide_eq_true_eq] at h ⊢; omega
    · rw [if_neg ‹_›] at h
      simp only [decide_eq_true_eq] at h ⊢; omega
theorem counts_anti {p : Pol} (hp : PolOk p) {t t' : Int} {l : List Hit} (q : HOk l t) (h : t ≤ t') : counts p l t' ≤ counts p l t := by
  have hL := hp.limit
  unfold counts
  split
  · have key : ∀ l : List Hit, HOk l t → (lev p t' l).1 = (lev p t l).1 ∧ (lev p t' l).2 ≤ (lev p t l).2 := by
      intro l
      induction l with
      | nil => intro _; exact ⟨rfl, Int.le_refl _⟩
      | cons x r ih =>
        intro q
        obtain ⟨h1, h2⟩ := ih q.tail
        have h3 : p.2.1 * (t - x.1) ≤ p.2.1 * (t' - x.1) := Int.mul_le_mul_of_nonneg_left (by omega) (by omega)
        simp only [lev, h1]
        exact ⟨trivial, by omega⟩
    exact (key l q).2
  · have key : ∀ l : List Hit, HOk l t → those (cq p t') l ≤ those (cq p t) l := by
      intro l
      induction l with
      | nil => intro _; exact Int.le_refl _
      | cons x r ih =>
        intro q
        have h1 := ih q.tail
        have h2 := q.weight x (List.mem_cons_self ..)
        have h3 := q.tick x (List.mem_cons_self ..)
        simp only [those]
        split
        · rename_i hc
          rw [if_pos (cq_anti hp h3.1 h3.2 h hc)]; omega
        · split <;> omega
    exact key l q
/-- The least time at which at most so much counts. -/
theorem wait_spec {p : Pol} (hp : PolOk p) {l : List Hit} {t : Int} (most : Int) (q : HOk l t) :
    ∃ k : Nat, wait p l t most = k ∧ (k : Int) ≤ p.2.2.1 ∧ (∀ j : Nat, j < k → most < counts p l (t + j)) ∧ ((k : Int) < p.2.2.1 → counts p l (t + k) ≤ most) := by
  have hW := hp.window
  have key : ∀ (f k : Nat), (∀ j : Nat, j < k → most < counts p l (t + j)) → ∃ k' : Nat, waitFrom p l t most f k = k' ∧ k' ≤ k + f ∧ (∀ j : Nat, j < k' → most < counts p l (t + j)) ∧ (k' < k + f → counts p l (t + k') ≤ most) := by
    intro f
    induction f with
    | zero => intro k hk; exact ⟨k, rfl, by omega, hk, fun h => by omega⟩
    | succ f ih =>
      intro k hk
      simp only [waitFrom]
      split
      · rename_i hc; exact ⟨k, rfl, by omega, hk, fun _ => hc⟩
      · rename_i hc
        obtain ⟨k', h1, h2, h3, h4⟩ := ih (k + 1) (fun j hj => by
          by_cases e : j = k
          · subst e; omega
          · exact hk j (by omega))
        exact ⟨k', h1, by omega, h3, fun h => h4 (by omega)⟩
  obtain ⟨k, h1, h2, h3, h4⟩ := key p.2.2.1.toNat 0 (fun j hj => by omega)
  exact ⟨k, h1, by omega, h3, fun h => h4 (by omega)⟩
theorem wait_eq {p : Pol} (hp : PolOk p) {l : List Hit} {t most : Int} (q : HOk l t) {k : Int} (h0 : 0 ≤ k) (h1 : k ≤ p.2.2.1) (h2 : k = 0 ∨ most < counts p l (t + (k - 1))) (h3 : k = p.2.2.1 ∨ counts p l (t + k) ≤ most) : wait p l t most = k := by
  obtain ⟨k', e, g1, g2, g3⟩ := wait_spec hp most q
  rw [e]
  rcases Int.lt_trichotomy (k' : Int) k with h | h | h
  · have h4 := g3 (by omega)
    rcases h2 with h2 | h2
    · omega
    · have := counts_anti hp (t := t + k') (t' := t + (k - 1)) (q.later (by omega)) (by omega)
      omega
  · exact h
  · have h4 := g2 k.toNat (by omega)
    rw [Int.toNat_of_nonneg h0] at h4
    rcases h3 with h3 | h3
    · omega
    · omega
theorem wait_bound {p : Pol} (hp : PolOk p) {l : List Hit} {t : Int} (most : Int) (q : HOk l t) : 0 ≤ wait p l t most ∧ wait p l t most ≤ p.2.2.1 := by
  obtain ⟨k, e, g1, _⟩ := wait_spec hp most q
  rw [e]; omega
theorem mayGo_ok : ∀ (l : List Hit) (last : Int), mayGo last l = true → 0 ≤ last → (∀ h ∈ l, last ≤ h.1 ∧ h.1 ≤ 1099511627776 ∧ 1 ≤ h.2 ∧ h.2 ≤ 1048576) ∧ ∀ i j : Nat, i ≤ j → j < l.length → (l.getD i (0, 0)).1 ≤ (l.getD j (0, 0)).1
  | [], _, _, _ => ⟨by simp, fun i j _ h => by simp at h⟩
  | x :: r, last, h, h0 => by
    simp only [mayGo, weighs, Bool.and_eq_true, decide_eq_true_eq] at h
    obtain ⟨⟨⟨h1, h2⟩, h3, h4⟩, h5⟩ := h
    obtain ⟨g1, g2⟩ := mayGo_ok r x.1 h5 (by omega)
    refine ⟨fun y hy => ?_, fun i j hij hj => ?_⟩
    · rcases List.mem_cons.1 hy with rfl | hy
      · exact ⟨h1, h2, h3, h4⟩
      · have := g1 y hy; omega
    · cases j with
      | zero => have : i = 0 := by omega
                subst this; exact Int.le_refl _
      | succ j =>
        have hj' : j < r.length := by simpa using hj
        cases i with
        | zero =>
          have hm : r.getD j (0, 0) ∈ r := by rw [List.getD_eq_getElem?_getD, List.getElem?_eq_getElem hj']; exact List.getElem_mem hj'
          exact (g1 _ hm).1
        | succ i => exact g2 i j (by omega) hj'
end Go.Proofs.YtkcifdblaboodaaGreat.Hi
set_option linter.unusedVariables false
set_option linter.unusedSimpArgs false
namespace Go.Proofs.YtkcifdblaboodaaGreat.Hi
open Go Go.RowKit Fw

/-! ### A hit more -/
theorem lev_snoc (p : Pol) (t w : Int) (hw : 0 ≤ w * p.2.2.1) : ∀ l : List Hit, (lev p t (l ++ [(t, w)])).1 = (lev p t l).1 + w * p.2.2.1 ∧ (lev p t (l ++ [(t, w)])).2 = (lev p t l).2 + w * p.2.2.1
  | [] => by
    refine ⟨by simp [lev], ?_⟩
    show max 0 (0 + w * p.2.2.1 - p.2.1 * (t - t)) = 0 + w * p.2.2.1
    rw [Int.sub_self, Int.mul_zero]; omega
  | h :: r => by
    obtain ⟨h1, h2⟩ := lev_snoc p t w hw r
    simp only [lev, List.cons_append, h1, h2]
    omega
theorem those_app (q : Int → Bool) : ∀ a b : List Hit, those q (a ++ b) = those q a + those q b
  | [], b => by simp [those]
  | h :: r, b => by simp only [those, List.cons_append, those_app q r b]; omega
theorem cq_self {p : Pol} (hp : PolOk p) (t : Int) : cq p t t = true := by
  unfold cq
  split
  · simp
  · split
    · have := hp.ring ‹_›; simp; omega
    · have := hp.window; simp; omega
theorem counts_snoc {p : Pol} (hp : PolOk p) {t w : Int} (l : List Hit) (hw : 0 ≤ w) : counts p (l ++ [(t, w)]) t = counts p l t + worth p w := by
  have hW := hp.window
  unfold counts worth
  split
  · exact (lev_snoc p t w (Int.mul_nonneg hw (by omega)) l).2
  · rw [those_app]
    simp only [those, cq_self hp t, if_true]; omega
theorem mayGo_snoc (x : Hit) (hx : x.1 ≤ 1099511627776) (hw : weighs x.2 = true) : ∀ (l : List Hit) (last : Int), mayGo last l = true → (∀ h ∈ l, h.1 ≤ x.1) → last ≤ x.1 → mayGo last (l ++ [x]) = true
  | [], last, _, _, h => by simp [mayGo, hw, hx, h]
  | y :: r, last, h, hl, h0 => by
    simp only [mayGo, List.cons_append, Bool.and_eq_true, decide_eq_true_eq] at h ⊢
    exact ⟨h.1, mayGo_snoc x hx hw r y.1 h.2 (fun z hz => hl z (List.mem_cons_of_mem _ hz)) (hl y (List.mem_cons_self ..))⟩
theorem fitsTo_app (p : Pol) (a b : List Hit) : ∀ k, k ≤ a.length → fitsTo p (a ++ b) k = fitsTo p a k
  | 0, _ => rfl
  | k + 1, h => by
    rw [fitsTo, fitsTo, fitsTo_app p a b k (by omega), List.take_append_of_le_length h]
    have e : (a ++ b).getD k (0, 0) = a.getD k (0, 0) := by
      rw [List.getD_eq_getElem?_getD, List.getD_eq_getElem?_getD, List.getElem?_append_left (by omega)]
    rw [e]
structure Fit (p : Pol) (l : List Hit) (t : Int) : Prop where
  pol : PolOk p
  may : may l = true
  pos : 0 ≤ t
  below : t ≤ 1099511627776
  hits : HOk l t
  to : fitsTo p l l.length = true
theorem HOk.lastOk {l : List Hit} {t : Int} (q : HOk l t) : lastOk l t = true := by
  unfold Hi.lastOk
  split
  · rfl
  · rename_i h e
    exact decide_eq_true (q.tick h (List.mem_of_getLast? e)).2
theorem Fit.fits {p : Pol} {l : List Hit} {t : Int} (f : Fit p l t) : fits p l t = true := by
  simp [Hi.fits, f.pol, f.may, f.pos, f.below, f.hits.lastOk, f.to]
theorem Fit.later {p : Pol} {l : List Hit} {t t' : Int} (f : Fit p l t) (h : t ≤ t') (h2 : t' ≤ 1099511627776) : Fit p l t' :=
  ⟨f.pol, f.may, by have := f.pos; omega, h2, f.hits.later h, f.to⟩
theorem Fit.snoc {p : Pol} {l : List Hit} {t w : Int} (f : Fit p l t) (hw : 1 ≤ w ∧ w ≤ 1048576) (hl : l.length ≤ 63) (hc : counts p l t + worth p w ≤ worth p p.2.1) : Fit p (l ++ [(t, w)]) t where
  pol := f.pol
  may := mayGo_snoc (t, w) f.below (by simp [weighs, hw]) l 0 f.may (fun h hh => (f.hits.tick h hh).2) f.pos
  pos := f.pos
  below := f.below
  hits := ⟨fun x hx => by
      rcases List.mem_append.1 hx with hx | hx
      · exact f.hits.tick x hx
      · simp at hx; subst hx; exact ⟨f.pos, Int.le_refl _⟩, fun x hx => by
      rcases List.mem_append.1 hx with hx | hx
      · exact f.hits.weight x hx
      · simp at hx; subst hx; exact hw, by simp; omega⟩
  to := by
    rw [List.length_append, List.length_singleton, fitsTo, fitsTo_app p l _ _ (Nat.le_refl _), f.to, Bool.true_and]
    have e : (l ++ [(t, w)]).getD l.length (0, 0) = (t, w) := by simp [List.getD_eq_getElem?_getD]
    rw [e, List.take_of_length_le (by simp), counts_snoc f.pol l (by omega)]
    exact decide_eq_true hc

/-! ### Ask -/
theorem ask_no {p : Pol} {l : List Hit} {t w : Int} (h : (ask p l t w).2.1 = false) : (ask p l t w).1 = l := by
  unfold ask at h ⊢
  split
  · rw [if_pos ‹_›] at h
    have h := of_decide_eq_false h
    simp only [if_neg h]
  · rfl
theorem ask_yes {p : Pol} {l : List Hit} {t w : Int} (h : (ask p l t w).2.1 = true) : fits p l t = true ∧ weighs w = true ∧ counts p l t + worth p w ≤ worth p p.2.1 ∧ (ask p l t w).1 = l ++ [(t, w)] := by
  unfold ask at h ⊢
  split
  · rename_i hf
    rw [if_pos hf] at h
    have h := of_decide_eq_true h
    rw [Bool.and_eq_true] at hf
    simp only [if_pos h]
    exact ⟨hf.1, hf.2, h, trivial⟩
  · rename_i hf
    rw [if_neg hf] at h
    cases h
/-! ### In time -/
theorem lev_later (p : Pol) {t t' : Int} : ∀ l : List Hit, (lev p t' l).1 = (lev p t l).1 ∧ (lev p t' l).2 ≤ max 0 ((lev p t l).2 - p.2.1 * (t' - t))
  | [] => ⟨rfl, by show (0 : Int) ≤ max 0 (0 - p.2.1 * (t' - t)); omega⟩
  | h :: r => by
    obtain ⟨h1, h2⟩ := lev_later p (t := t) (t' := t') r
    have e : p.2.1 * (t' - h.1) = p.2.1 * (t - h.1) + p.2.1 * (t' - t) := by rw [← Int.mul_add]; congr 1; omega
    refine ⟨by simp only [lev, h1], ?_⟩
    simp only [lev, h1, e]
    omega
theorem those_none {q : Int → Bool} : ∀ l : List Hit, (∀ h ∈ l, q h.1 = false) → those q l = 0
  | [], _ => rfl
  | h :: r, k => by
    rw [those, k h (List.mem_cons_self ..), those_none r fun x hx => k x (List.mem_cons_of_mem _ hx)]; rfl
theorem those_congr {q q' : Int → Bool} : ∀ l : List Hit, (∀ h ∈ l, q h.1 = q' h.1) → those q l = those q' l
  | [], _ => rfl
  | h :: r, k => by
    rw [those, those, k h (List.mem_cons_self ..), those_congr r fun x hx => k x (List.mem_cons_of_mem _ hx)]
theorem tdiv_add {a s : Int} (b : Int) (ha : 0 ≤ a) (hb : 0 ≤ b) (hs : 1 ≤ s) : (a + s * b).tdiv s = a.tdiv s + b := by
  have hsb : 0 ≤ s * b := Int.mul_nonneg (by omega) hb
  rw [Int.tdiv_eq_ediv_of_nonneg (by omega), Int.tdiv_eq_ediv_of_nonneg ha, Int.add_mul_ediv_left _ _ (by omega)]
theorem ring_window {p : Pol} (hp : PolOk p) (h : p.1 = 3) : slotOf p * p.2.2.2 = p.2.2.1 := by
  obtain ⟨h1, h2, h3⟩ := hp.ring h
  have h4 := Int.mul_tdiv_add_tmod p.2.2.1 p.2.2.2
  rw [h3, Int.add_zero] at h4
  rw [show slotOf p = p.2.2.1.tdiv p.2.2.2 from if_pos h, Int.mul_comm]; exact h4
/-- A hit that is a window behind does not count. -/
theorem cq_old {p : Pol} (hp : PolOk p) {t tick : Int} (h0 : 0 ≤ tick) (h1 : tick + p.2.2.1 ≤ t) : cq p t tick = false := by
  have hs := slot_bound hp
  have hW := hp.window
  unfold cq
  split
  · have e : slotOf p = p.2.2.1 := if_neg (by omega)
    have h2 := tdiv_mono (s := slotOf p) (by omega : 0 ≤ tick + slotOf p * 1) (by rw [e, Int.mul_one]; exact h1) hs.1
    rw [tdiv_add 1 h0 (by omega) hs.1] at h2
    exact decide_eq_false (by omega)
  · split
    · have hr := hp.ring ‹_›
      have e := ring_window hp ‹_›
      have h2 := tdiv_mono (s := slotOf p) (by rw [e]; omega : 0 ≤ tick + slotOf p * p.2.2.2) (by rw [e]; exact h1) hs.1
      rw [tdiv_add p.2.2.2 h0 (by omega) hs.1] at h2
      exact decide_eq_false (by omega)
    · exact decide_eq_false (by omega)
/-- A window later nothing counts. -/
theorem Fit.gone {p : Pol} {l : List Hit} {t : Int} (f : Fit p l t) : counts p l (t + p.2.2.1) = 0 := by
  have hW := f.pol.window
  have hL := f.pol.limit
  unfold counts
  split
  · rename_i h1
    by_cases h0 : 0 < l.length
    · have hto := f.to
      rw [show l.length = l.length - 1 + 1 by omega, fitsTo, Bool.and_eq_true, show l.length - 1 + 1 = l.length by omega, List.take_length] at hto
      have hc := of_decide_eq_true hto.2
      have hm : l.getD (l.length - 1) (0, 0) ∈ l := by rw [List.getD_eq_getElem?_getD, List.getElem?_eq_getElem (by omega)]; exact List.getElem_mem _
      have ht := (f.hits.tick _ hm).2
      generalize (l.getD (l.length - 1) (0, 0)).1 = τ at hc ht
      rw [counts, if_pos h1, worth, if_pos h1] at hc
      have h2 := (lev_later p (t := τ) (t' := t + p.2.2.1) l).2
      have h3 := (lev_bound f.pol l (f.hits.later (by omega : t ≤ t + p.2.2.1))).2.2.1
      have h4 : p.2.1 * p.2.2.1 ≤ p.2.1 * (t + p.2.2.1 - τ) := Int.mul_le_mul_of_nonneg_left (by omega) (by omega)
      omega
    · have : l = [] := List.eq_nil_of_length_eq_zero (by omega)
      rw [this]; rfl
  · refine those_none l fun h hh => cq_old f.pol (f.hits.tick h hh).1 ?_
    have := (f.hits.tick h hh).2
    omega
theorem waitFrom_congr {p : Pol} {a b : List Hit} {t m : Int} (h : ∀ k : Nat, counts p a (t + k) = counts p b (t + k)) : ∀ f k : Nat, waitFrom p a t m f k = waitFrom p b t m f k
  | 0, k => rfl
  | f + 1, k => by rw [waitFrom, waitFrom, h k, waitFrom_congr h f (k + 1)]
theorem wait_congr {p : Pol} {a b : List Hit} {t : Int} (m : Int) (h : ∀ k : Nat, counts p a (t + k) = counts p b (t + k)) : wait p a t m = wait p b t m := waitFrom_congr h _ _
/-- Histories that tell the same, now and later. -/
theorem ask_congr {p : Pol} {a b : List Hit} {t w : Int} (hf : fits p a t = fits p b t) (h : ∀ k : Nat, counts p a (t + k) = counts p b (t + k))
    (hn : ∀ k : Nat, counts p (a ++ [(t, w)]) (t + k) = counts p (b ++ [(t, w)]) (t + k)) : (ask p a t w).2 = (ask p b t w).2 := by
  have h0 : counts p a t = counts p b t := by have := h 0; simpa using this
  have hn0 : counts p (a ++ [(t, w)]) t = counts p (b ++ [(t, w)]) t := by have := hn 0; simpa using this
  unfold ask
  rw [hf]
  split
  · simp only [h0]
    by_cases hc : counts p b t + worth p w ≤ worth p p.2.1
    · simp only [if_pos hc, decide_eq_true hc, hn0, wait_congr 0 hn]
    · simp only [if_neg hc, decide_eq_false hc, h0, wait_congr _ h]
  · rfl
end Go.Proofs.YtkcifdblaboodaaGreat.Hi
set_option linter.unusedVariables false
set_option linter.unusedSimpArgs false
namespace Go.Proofs.YtkcifdblaboodaaGreat.Ce
open Go Go.RowKit Fw Hi
abbrev CellT : Ty := .pair (.int .i64) (.pair (.int .i64) (.pair (.list (.int .i64)) (.list HitT)))
abbrev Cell := Int × Int × List Int × List Hit
def cellAV (c : Cell) : AV := .agg [.int .i64 fun _ => c.1, .int .i64 fun _ => c.2.1, .lst (.int .i64) fun _ => c.2.2.1, .lst HitT fun _ => c.2.2.2]
/-! ### The least number of ticks till at most so much counts -/
def waitG (f : Int → Int) (m : Int) : Nat → Nat → Int
  | 0, k => k
  | n + 1, k => if f k ≤ m then k else waitG f m n (k + 1)
theorem waitG_spec (f : Int → Int) (m : Int) : ∀ (n k : Nat), (∀ j : Nat, j < k → m < f j) → ∃ k' : Nat, waitG f m n k = k' ∧ k' ≤ k + n ∧ (∀ j : Nat, j < k' → m < f j) ∧ (k' < k + n → f k' ≤ m)
  | 0, k, hk => ⟨k, rfl, by omega, hk, fun h => by omega⟩
  | n + 1, k, hk => by
    simp only [waitG]
    split
    · rename_i hc; exact ⟨k, rfl, by omega, hk, fun _ => hc⟩
    · rename_i hc
      obtain ⟨k', h1, h2, h3, h4⟩ := waitG_spec f m n (k + 1) (fun j hj => by
        by_cases e : j = k
        · subst e; omega
        · exact hk j (by omega))
      exact ⟨k', h1, by omega, h3, fun h => h4 (by omega)⟩
theorem waitG_eq {f : Int → Int} {m W k : Int} (hf : ∀ a b, 0 ≤ a → a ≤ b → f b ≤ f a) (h0 : 0 ≤ k) (h1 : k ≤ W) (h2 : k = 0 ∨ m < f (k - 1)) (h3 : k = W ∨ f k ≤ m) : waitG f m W.toNat 0 = k := by
  obtain ⟨k', e, g1, g2, g3⟩ := waitG_spec f m W.toNat 0 (fun j hj => by omega)
  rw [e]
  rcases Int.lt_trichotomy (k' : Int) k with h | h | h
  · have h4 := g3 (by omega)
    rcases h2 with h2 | h2
    · omega
    · have := hf k' (k - 1) (by omega) (by omega); omega
  · exact h
  · have h4 := g2 k.toNat (by omega)
    rw [Int.toNat_of_nonneg h0] at h4
    rcases h3 with h3 | h3
    · omega
    · omega
theorem waitG_congr {f g : Int → Int} {m : Int} (h : ∀ k : Nat, f k = g k) : ∀ n k : Nat, waitG f m n k = waitG g m n k
  | 0, k => rfl
  | n + 1, k => by rw [waitG, waitG, h k, waitG_congr h n (k + 1)]
theorem waitG_bound (f : Int → Int) (m : Int) {W : Int} (hW : 0 ≤ W) : 0 ≤ waitG f m W.toNat 0 ∧ waitG f m W.toNat 0 ≤ W := by
  obtain ⟨k', e, g1, g2, g3⟩ := waitG_spec f m W.toNat 0 (fun j hj => by omega)
  rw [e]; omega
theorem waitFrom_G (p : Pol) (l : List Hit) (t m : Int) : ∀ n k : Nat, waitFrom p l t m n k = waitG (fun k => counts p l (t + k)) m n k
  | 0, k => rfl
  | n + 1, k => by rw [waitFrom, waitG, waitFrom_G p l t m n (k + 1)]
/-! ### What is kept -/
def timeB (t : Int) : Bool := decide (0 ≤ t) && decide (t ≤ 1099511627776)
def numR (p : Pol) (t : Int) : Int := t.tdiv (slotOf p)
/-- The number, of those that count at a time, that has this place in the ring. -/
def nb (p : Pol) (t : Int) (j : Nat) : Int := numR p t - (numR p t - j) % p.2.2.2
def atR (p : Pol) (c : Cell) (t : Int) : List Int := (List.range p.2.2.2.toNat).map fun j => if numR p c.1 < nb p t j then 0 else c.2.2.1.getD j 0
def sumH (l : List Hit) : Int := (l.map (·.2)).sum
def sinceE (p : Pol) (l : List Hit) (t : Int) : List Hit := l.dropWhile fun h => decide (h.1 ≤ t - p.2.2.1)
/-- What counts at a time, not below a cell's own. -/
def cnt (p : Pol) (c : Cell) (t : Int) : Int :=
  if p.1 = 1 then max 0 (c.2.1 - p.2.1 * (t - c.1))
  else if p.1 = 2 then (if t.tdiv p.2.2.1 = c.1.tdiv p.2.2.1 then c.2.1 else 0)
  else if p.1 = 3 then (atR p c t).sum
  else sumH (sinceE p c.2.2.2 t)
/-- A cell as it is at a time. -/
def moved (p : Pol) (c : Cell) (t : Int) : Cell :=
  if p.1 = 1 ∨ p.1 = 2 then (t, cnt p c t, [], [])
  else if p.1 = 3 then (t, 0, atR p c t, [])
  else (t, 0, [], sinceE p c.2.2.2 t)
/-- Hits, and a weight at a tick. -/
def addH (l : List Hit) (t w : Int) : List Hit := match l.getLast? with
  | some h => if h.1 = t then l.dropLast ++ [(t, h.2 + w)] else l ++ [(t, w)]
  | none => [(t, w)]
def added (p : Pol) (d : Cell) (w : Int) : Cell :=
  if p.1 = 1 then (d.1, d.2.1 + w * p.2.2.1, [], [])
  else if p.1 = 2 then (d.1, d.2.1 + w, [], [])
  else if p.1 = 3 then (d.1, 0, d.2.2.1.set (numR p d.1 % p.2.2.2).toNat (d.2.2.1.getD (numR p d.1 % p.2.2.2).toNat 0 + w), [])
  else (d.1, 0, [], addH d.2.2.2 d.1 w)
def mayHGo (at_ limit : Int) : Int → List Hit → Bool
  | _, [] => true
  | last, h :: r => decide (last < h.1) && decide (h.1 ≤ at_) && decide (1 ≤ h.2) && decide (h.2 ≤ limit) && mayHGo at_ limit h.1 r
def mayC (p : Pol) (c : Cell) : Bool :=
  decide (PolOk p) && timeB c.1 &&
  (if p.1 = 1 then decide (0 ≤ c.2.1) && decide (c.2.1 ≤ p.2.1 * p.2.2.1) && decide (c.2.2.1 = []) && decide (c.2.2.2 = [])
  else if p.1 = 2 then decide (0 ≤ c.2.1) && decide (c.2.1 ≤ p.2.1) && decide (c.2.2.1 = []) && decide (c.2.2.2 = [])
  else if p.1 = 3 then decide (c.2.1 = 0) && decide (c.2.2.2 = []) && (decide (c.2.2.1 = []) || decide ((c.2.2.1.length : Int) = p.2.2.2)) && c.2.2.1.all (fun x => decide (0 ≤ x) && decide (x ≤ p.2.1)) && decide (c.2.2.1.sum ≤ p.2.1) && (c.2.2.1.drop (numR p c.1 + 1).toNat).all (fun x => decide (x = 0))
  else decide (c.2.1 = 0) && decide (c.2.2.1 = []) && mayHGo c.1 p.2.1 (max (-1) (c.1 - p.2.2.1)) c.2.2.2 && decide (sumH c.2.2.2 ≤ p.2.1))
def wt (p : Pol) (d : Cell) (m : Int) : Int := waitG (fun k => cnt p d (d.1 + k)) m p.2.2.1.toNat 0
def endsC (p : Pol) (c : Cell) : Int := if mayC p c then c.1 + wt p (moved p c c.1) 0 else 0
def neutralC (p : Pol) (c : Cell) (t : Int) : Bool := mayC p c && decide (endsC p c ≤ t)
def zeroV : Ver := (false, 0, 0, 0)
def askC (p : Pol) (c : Cell) (t w : Int) : Cell × Ver :=
  if mayC p c && timeB t && weighs w then
    let d := moved p c (max t c.1)
    let n := cnt p d d.1
    let most := worth p p.2.1
    if n + worth p w ≤ most then (added p d w, true, (most - (n + worth p w)).tdiv (worth p 1), 0, wt p (added p d w) 0)
    else (d, false, (most - n).tdiv (worth p 1), (if p.2.1 < w then 2199023255552 else wt p d (most - worth p w)), wt p d 0)
  else (c, zeroV)
end Go.Proofs.YtkcifdblaboodaaGreat.Ce
set_option linter.unusedVariables false
set_option linter.unusedSimpArgs false
namespace Go.Proofs.YtkcifdblaboodaaGreat.Ce
open Go Go.RowKit Fw Hi
/-! ### What may be, kind by kind -/
theorem may_pol {p : Pol} {c : Cell} (h : mayC p c = true) : PolOk p ∧ 0 ≤ c.1 ∧ c.1 ≤ 1099511627776 := by
  simp only [mayC, timeB, Bool.and_eq_true, decide_eq_true_eq] at h
  exact ⟨h.1.1, h.1.2⟩
theorem may1 {p : Pol} {c : Cell} (k : p.1 = 1) : mayC p c = true ↔ PolOk p ∧ (0 ≤ c.1 ∧ c.1 ≤ 1099511627776) ∧ 0 ≤ c.2.1 ∧ c.2.1 ≤ p.2.1 * p.2.2.1 ∧ c.2.2.1 = [] ∧ c.2.2.2 = [] := by
  unfold mayC
  rw [if_pos k]
  simp only [timeB, Bool.and_eq_true, decide_eq_true_eq]
  constructor
  · rintro ⟨⟨h1, h2⟩, ⟨⟨h3, h4⟩, h5⟩, h6⟩; exact ⟨h1, h2, h3, h4, h5, h6⟩
  · rintro ⟨h1, h2, h3, h4, h5, h6⟩; exact ⟨⟨h1, h2⟩, ⟨⟨h3, h4⟩, h5⟩, h6⟩
theorem may2 {p : Pol} {c : Cell} (k : p.1 = 2) : mayC p c = true ↔ PolOk p ∧ (0 ≤ c.1 ∧ c.1 ≤ 1099511627776) ∧ 0 ≤ c.2.1 ∧ c.2.1 ≤ p.2.1 ∧ c.2.2.1 = [] ∧ c.2.2.2 = [] := by
  unfold mayC
  rw [if_neg (by omega), if_pos k]
  simp only [timeB, Bool.and_eq_true, decide_eq_true_eq]
  constructor
  · rintro ⟨⟨h1, h2⟩, ⟨⟨h3, h4⟩, h5⟩, h6⟩; exact ⟨h1, h2, h3, h4, h5, h6⟩
  · rintro ⟨h1, h2, h3, h4, h5, h6⟩; exact ⟨⟨h1, h2⟩, ⟨⟨h3, h4⟩, h5⟩, h6⟩
structure Ring (p : Pol) (c : Cell) : Prop where
  pol : PolOk p
  time : 0 ≤ c.1 ∧ c.1 ≤ 1099511627776
  level : c.2.1 = 0
  hits : c.2.2.2 = []
  len : c.2.2.1 = [] ∨ (c.2.2.1.length : Int) = p.2.2.2
  val : ∀ x ∈ c.2.2.1, 0 ≤ x ∧ x ≤ p.2.1
  sum : c.2.2.1.sum ≤ p.2.1
  early : ∀ j : Nat, numR p c.1 < j → c.2.2.1.getD j 0 = 0
theorem drop_zero_iff {l : List Int} {n : Int} (hn : 0 ≤ n) : (l.drop (n + 1).toNat).all (fun x => decide (x = 0)) = true ↔ ∀ j : Nat, n < j → l.getD j 0 = 0 := by
  rw [List.all_eq_true]
  constructor
  · intro h j hj
    rw [List.getD_eq_getElem?_getD]
    cases e : l[j]? with
    | none => rfl
    | some x =>
      have : x ∈ l.drop (n + 1).toNat := by
        rw [List.mem_iff_getElem?]
        exact ⟨j - (n + 1).toNat, by rw [List.getElem?_drop, ← e]; congr 1; omega⟩
      exact of_decide_eq_true (h x this)
  · intro h x hx
    obtain ⟨i, hi⟩ := List.mem_iff_getElem?.1 hx
    rw [List.getElem?_drop] at hi
    have := h ((n + 1).toNat + i) (by omega)
    rw [List.getD_eq_getElem?_getD, hi] at this
    exact decide_eq_true this
theorem numR_pos {p : Pol} (hp : PolOk p) {t : Int} (h : 0 ≤ t) : 0 ≤ numR p t := Int.tdiv_nonneg h (by have := slot_bound hp; omega)
theorem numR_mono {p : Pol} (hp : PolOk p) {a b : Int} (h0 : 0 ≤ a) (h : a ≤ b) : numR p a ≤ numR p b := tdiv_mono h0 h (slot_bound hp).1
theorem may3 {p : Pol} {c : Cell} (k : p.1 = 3) : mayC p c = true ↔ Ring p c := by
  unfold mayC
  rw [if_neg (by omega), if_neg (by omega), if_pos k]
  simp only [timeB, Bool.and_eq_true, Bool.or_eq_true, decide_eq_true_eq, List.all_eq_true]
  constructor
  · rintro ⟨⟨h1, h2⟩, ⟨⟨⟨⟨⟨h3, h4⟩, h5⟩, h6⟩, h7⟩, h8⟩⟩
    exact ⟨h1, h2, h3, h4, h5, h6, h7, (drop_zero_iff (numR_pos h1 h2.1)).1 (by rw [List.all_eq_true]; intro x hx; exact decide_eq_true (h8 x hx))⟩
  · intro h
    refine ⟨⟨h.pol, h.time⟩, ⟨⟨⟨⟨⟨h.level, h.hits⟩, h.len⟩, h.val⟩, h.sum⟩, fun x hx => ?_⟩⟩
    exact of_decide_eq_true (List.all_eq_true.1 ((drop_zero_iff (numR_pos h.pol h.time.1)).2 h.early) x hx)
structure Exact (p : Pol) (c : Cell) : Prop where
  pol : PolOk p
  time : 0 ≤ c.1 ∧ c.1 ≤ 1099511627776
  level : c.2.1 = 0
  sums : c.2.2.1 = []
  go : mayHGo c.1 p.2.1 (max (-1) (c.1 - p.2.2.1)) c.2.2.2 = true
  sum : sumH c.2.2.2 ≤ p.2.1
theorem may4 {p : Pol} {c : Cell} (k : p.1 = 4) : mayC p c = true ↔ Exact p c := by
  unfold mayC
  rw [if_neg (by omega), if_neg (by omega), if_neg (by omega)]
  simp only [timeB, Bool.and_eq_true, decide_eq_true_eq]
  constructor
  · rintro ⟨⟨h1, h2⟩, ⟨⟨⟨h3, h4⟩, h5⟩, h6⟩⟩; exact ⟨h1, h2, h3, h4, h5, h6⟩
  · intro h; exact ⟨⟨h.pol, h.time⟩, ⟨⟨⟨h.level, h.sums⟩, h.go⟩, h.sum⟩⟩
theorem kind_of {p : Pol} (hp : PolOk p) : p.1 = 1 ∨ p.1 = 2 ∨ p.1 = 3 ∨ p.1 = 4 := by have := hp.kind; omega
/-! ### Places of a ring -/
theorem nb_le {p : Pol} {t : Int} {j : Nat} (hB : 1 ≤ p.2.2.2) : nb p t j ≤ numR p t ∧ numR p t - p.2.2.2 < nb p t j ∧ ((nb p t j - j) % p.2.2.2 = 0) := by
  unfold nb
  have h1 := Int.emod_nonneg (numR p t - j) (show p.2.2.2 ≠ 0 by omega)
  have h2 := Int.emod_lt_of_pos (numR p t - j) (show 0 < p.2.2.2 by omega)
  refine ⟨by omega, by omega, ?_⟩
  have : numR p t - (numR p t - j) % p.2.2.2 - j = p.2.2.2 * ((numR p t - j) / p.2.2.2) := by
    have := Int.mul_ediv_add_emod (numR p t - j) p.2.2.2; omega
  rw [this, Int.mul_emod_right]
theorem mod_eq_of {a b B : Int} (hB : 0 < B) (h1 : a % B = 0) (h2 : b % B = 0) (h3 : -B < a - b) (h4 : a - b < B) : a = b := by
  have e1 := Int.mul_ediv_add_emod a B
  have e2 := Int.mul_ediv_add_emod b B
  rw [h1, Int.add_zero] at e1
  rw [h2, Int.add_zero] at e2
  have : a / B = b / B := by
    rcases Int.lt_trichotomy (a / B) (b / B) with h | h | h
    · have : B * (a / B + 1) ≤ B * (b / B) := Int.mul_le_mul_of_nonneg_left (by omega) (by omega)
      rw [Int.mul_add] at this; omega
    · exact h
    · have : B * (b / B + 1) ≤ B * (a / B) := Int.mul_le_mul_of_nonneg_left (by omega) (by omega)
      rw [Int.mul_add] at this; omega
  rw [← e1, ← e2, this]
theorem nb_eq {p : Pol} {t x : Int} {j : Nat} (hB : 1 ≤ p.2.2.2) (h1 : x ≤ numR p t) (h2 : numR p t - p.2.2.2 < x) (h3 : (x - j) % p.2.2.2 = 0) : x = nb p t j := by
  obtain ⟨g1, g2, g3⟩ := nb_le (p := p) (t := t) (j := j) hB
  have := mod_eq_of (by omega) h3 g3 (by omega) (by omega)
  omega
theorem nb_mono {p : Pol} {a b : Int} {j : Nat} (hB : 1 ≤ p.2.2.2) (h : numR p a ≤ numR p b) : nb p a j ≤ nb p b j := by
  obtain ⟨g1, g2, g3⟩ := nb_le (p := p) (t := a) (j := j) hB
  obtain ⟨k1, k2, k3⟩ := nb_le (p := p) (t := b) (j := j) hB
  by_cases hx : numR p b - p.2.2.2 < nb p a j
  · rw [← nb_eq hB (by omega) hx g3]; exact Int.le_refl _
  · omega
theorem nb_same {p : Pol} {a b : Int} {j : Nat} (hB : 1 ≤ p.2.2.2) (h : numR p a ≤ numR p b) (h2 : nb p b j ≤ numR p a) : nb p b j = nb p a j := by
  obtain ⟨k1, k2, k3⟩ := nb_le (p := p) (t := b) (j := j) hB
  exact nb_eq hB h2 (by omega) k3
theorem ring_B {p : Pol} (hp : PolOk p) (k : p.1 = 3) : 1 ≤ p.2.2.2 ∧ p.2.2.2 ≤ 16 := by have := hp.ring k; omega
theorem atR_len (p : Pol) (c : Cell) (t : Int) : (atR p c t).length = p.2.2.2.toNat := by simp [atR]
theorem atR_at {p : Pol} {c : Cell} {t : Int} {j : Nat} (h : j < p.2.2.2.toNat) : (atR p c t)[j]? = some (if numR p c.1 < nb p t j then 0 else c.2.2.1.getD j 0) := by
  simp [atR, h]
theorem atR_getD {p : Pol} {c : Cell} {t : Int} {j : Nat} (h : j < p.2.2.2.toNat) : (atR p c t).getD j 0 = if numR p c.1 < nb p t j then 0 else c.2.2.1.getD j 0 := by
  rw [List.getD_eq_getElem?_getD, atR_at h]; rfl
theorem sum_le {f g : Nat → Int} : ∀ l : List Nat, (∀ j ∈ l, f j ≤ g j) → (l.map f).sum ≤ (l.map g).sum
  | [], _ => Int.le_refl _
  | a :: r, h => by
    have h1 := h a (List.mem_cons_self ..)
    have h2 := sum_le r fun j hj => h j (List.mem_cons_of_mem _ hj)
    simp only [List.map_cons, List.sum_cons]; omega
theorem sum_nonneg {l : List Int} (h : ∀ x ∈ l, 0 ≤ x) : 0 ≤ l.sum := by
  induction l with
  | nil => exact Int.le_refl _
  | cons a r ih =>
    have h1 := h a (List.mem_cons_self ..)
    have h2 := ih fun x hx => h x (List.mem_cons_of_mem _ hx)
    simp only [List.sum_cons]; omega
theorem sum_mem {l : List Int} (h : ∀ x ∈ l, 0 ≤ x) {x : Int} (hx : x ∈ l) : x ≤ l.sum := by
  induction l with
  | nil => cases hx
  | cons a r ih =>
    have h1 := h a (List.mem_cons_self ..)
    have h2 := sum_nonneg fun x hx => h x (List.mem_cons_of_mem _ hx)
    simp only [List.sum_cons]
    rcases List.mem_cons.1 hx with rfl | hx
    · omega
    · have := ih (fun x hx => h x (List.mem_cons_of_mem _ hx)) hx; omega
theorem list_range (l : List Int) : l = (List.range l.length).map fun j => l.getD j 0 := by
  apply List.ext_getElem? 
  intro i
  by_cases h : i < l.length
  · rw [List.getElem?_map, List.getElem?_range h]
    simp [List.getD_eq_getElem?_getD, List.getElem?_eq_getElem h]
  · rw [List.getElem?_eq_none (by omega), List.getElem?_eq_none (by simp; omega)]
theorem Ring.nonneg {p : Pol} {c : Cell} (h : Ring p c) (j : Nat) : 0 ≤ c.2.2.1.getD j 0 ∧ c.2.2.1.getD j 0 ≤ p.2.1 := by
  have hL := h.pol.limit
  rw [List.getD_eq_getElem?_getD]
  cases e : c.2.2.1[j]? with
  | none => simp; omega
  | some x => exact h.val x (List.mem_of_getElem? e)
theorem Ring.range {p : Pol} {c : Cell} (h : Ring p c) : c.2.2.1.sum = ((List.range p.2.2.2.toNat).map fun j => c.2.2.1.getD j 0).sum := by
  rcases h.len with e | e
  · rw [e]
    have : ∀ l : List Nat, (l.map fun j => ([] : List Int).getD j 0).sum = 0 := fun l => by induction l <;> simp_all
    rw [this]; rfl
  · have : c.2.2.1.length = p.2.2.2.toNat := by omega
    conv => lhs; rw [list_range c.2.2.1, this]
/-! ### Hits -/
theorem sumH_cons (h : Hit) (l : List Hit) : sumH (h :: l) = h.2 + sumH l := rfl
theorem sumH_append (a b : List Hit) : sumH (a ++ b) = sumH a + sumH b := by simp [sumH]
theorem mayH_mem {a L : Int} : ∀ (l : List Hit) (last : Int), mayHGo a L last l = true → ∀ h ∈ l, last < h.1 ∧ h.1 ≤ a ∧ 1 ≤ h.2 ∧ h.2 ≤ L
  | [], _, _, h, hh => by cases hh
  | x :: r, last, hm, h, hh => by
    simp only [mayHGo, Bool.and_eq_true, decide_eq_true_eq] at hm
    rcases List.mem_cons.1 hh with rfl | hh
    · exact ⟨hm.1.1.1.1, hm.1.1.1.2, hm.1.1.2, hm.1.2⟩
    · have := mayH_mem r x.1 hm.2 h hh
      exact ⟨by omega, this.2⟩
theorem mayH_weak {a a' L last last' : Int} : ∀ (l : List Hit), mayHGo a L last l = true → a ≤ a' → (∀ h, l.head? = some h → last' < h.1) → mayHGo a' L last' l = true
  | [], _, _, _ => rfl
  | x :: r, hm, ha, hl => by
    simp only [mayHGo, Bool.and_eq_true, decide_eq_true_eq] at hm ⊢
    refine ⟨⟨⟨⟨hl x rfl, by omega⟩, hm.1.1.2⟩, hm.1.2⟩, mayH_weak r hm.2 ha fun h hh => ?_⟩
    cases r with
    | nil => cases hh
    | cons y s =>
      cases hh
      exact (mayH_mem _ _ hm.2 _ (List.mem_cons_self ..)).1
theorem mayH_drop {a L : Int} (q : Hit → Bool) : ∀ (l : List Hit) (last : Int), mayHGo a L last l = true → mayHGo a L last (l.dropWhile q) = true
  | [], _, _ => rfl
  | x :: r, last, hm => by
    rw [List.dropWhile_cons]
    split
    · have hm2 := hm
      simp only [mayHGo, Bool.and_eq_true, decide_eq_true_eq] at hm
      exact mayH_weak _ (mayH_drop q r x.1 hm.2) (Int.le_refl _) fun h hh => by
        have := mayH_mem _ _ (mayH_drop q r x.1 hm.2) h (List.mem_of_mem_head? hh)
        omega
    · exact hm
theorem since_head {p : Pol} {l : List Hit} {t : Int} {h : Hit} (hh : (sinceE p l t).head? = some h) : t - p.2.2.1 < h.1 := by
  unfold sinceE at hh
  have := List.head?_dropWhile_not (fun h : Hit => decide (h.1 ≤ t - p.2.2.1)) l
  rw [hh] at this
  simpa using this
theorem since_since {p : Pol} {t t' : Int} (h : t ≤ t') : ∀ l : List Hit, sinceE p (sinceE p l t) t' = sinceE p l t'
  | [] => rfl
  | x :: r => by
    have ih := since_since (p := p) h r
    unfold sinceE at ih ⊢
    rw [List.dropWhile_cons]
    split
    · rename_i hx
      simp only [decide_eq_true_eq] at hx
      rw [ih]
      conv => rhs; rw [List.dropWhile_cons, if_pos (by simp; omega)]
    · rfl
theorem since_sum_le {p : Pol} {t : Int} : ∀ l : List Hit, (∀ h ∈ l, 0 ≤ h.2) → sumH (sinceE p l t) ≤ sumH l
  | [], _ => Int.le_refl _
  | x :: r, hw => by
    have h1 := hw x (List.mem_cons_self ..)
    have h2 := since_sum_le (p := p) (t := t) r fun h hh => hw h (List.mem_cons_of_mem _ hh)
    unfold sinceE at h2 ⊢
    rw [List.dropWhile_cons, sumH_cons]
    split
    · omega
    · rw [sumH_cons]; omega
/-! ### What counts never grows -/
theorem cnt_anti {p : Pol} {c : Cell} (hm : mayC p c = true) {a b : Int} (h1 : c.1 ≤ a) (h2 : a ≤ b) : cnt p c b ≤ cnt p c a := by
  obtain ⟨hp, h0, _⟩ := may_pol hm
  have hL := hp.limit
  have hW := hp.window
  unfold cnt
  rcases kind_of hp with k | k | k | k
  · simp only [if_pos k]
    have : p.2.1 * (a - c.1) ≤ p.2.1 * (b - c.1) := Int.mul_le_mul_of_nonneg_left (by omega) (by omega)
    omega
  · simp only [if_neg (show ¬ p.1 = 1 by omega), if_pos k]
    obtain ⟨_, _, g, _⟩ := (may2 k).1 hm
    have m1 := tdiv_mono (s := p.2.2.1) h0 h1 hW.1
    have m2 := tdiv_mono (s := p.2.2.1) (by omega : 0 ≤ a) h2 hW.1
    split
    · rw [if_pos (by omega)]; exact Int.le_refl _
    · split <;> omega
  · simp only [if_neg (show ¬ p.1 = 1 by omega), if_neg (show ¬ p.1 = 2 by omega), if_pos k]
    have hr := (may3 k).1 hm
    have hB := ring_B hp k
    refine sum_le _ fun j hj => ?_
    have hn := (hr.nonneg j).1
    have := nb_mono (p := p) (j := j) hB.1 (numR_mono hp (by omega : 0 ≤ a) h2)
    split
    · split <;> omega
    · rw [if_neg (by omega)]; exact Int.le_refl _
  · simp only [if_neg (show ¬ p.1 = 1 by omega), if_neg (show ¬ p.1 = 2 by omega), if_neg (show ¬ p.1 = 3 by omega)]
    have he := (may4 k).1 hm
    rw [← since_since (p := p) h2 c.2.2.2]
    refine since_sum_le _ fun h hh => ?_
    have := mayH_mem _ _ (mayH_drop _ _ _ he.go) h hh
    omega
theorem cnt_nonneg {p : Pol} {c : Cell} (hm : mayC p c = true) (t : Int) : 0 ≤ cnt p c t := by
  obtain ⟨hp, h0, _⟩ := may_pol hm
  unfold cnt
  rcases kind_of hp with k | k | k | k
  · rw [if_pos k]; omega
  · rw [if_neg (by omega), if_pos k]
    have := ((may2 k).1 hm).2.2.1
    split <;> omega
  · rw [if_neg (by omega), if_neg (by omega), if_pos k]
    have hr := (may3 k).1 hm
    refine sum_nonneg fun x hx => ?_
    simp only [atR, List.mem_map] at hx
    obtain ⟨j, _, rfl⟩ := hx
    have := (hr.nonneg j).1
    split <;> omega
  · rw [if_neg (by omega), if_neg (by omega), if_neg (by omega)]
    have he := (may4 k).1 hm
    refine sum_nonneg fun x hx => ?_
    obtain ⟨h, hh, rfl⟩ := List.mem_map.1 hx
    have := mayH_mem _ _ (mayH_drop _ _ _ he.go) h hh
    omega
theorem wt_eq {p : Pol} {d : Cell} (hm : mayC p d = true) {m k : Int} (h0 : 0 ≤ k) (h1 : k ≤ p.2.2.1) (h2 : k = 0 ∨ m < cnt p d (d.1 + (k - 1))) (h3 : k = p.2.2.1 ∨ cnt p d (d.1 + k) ≤ m) : wt p d m = k :=
  waitG_eq (f := fun k => cnt p d (d.1 + k)) (fun a b ha hb => cnt_anti hm (by omega) (by omega)) h0 h1 h2 h3
theorem wt_bound {p : Pol} {d : Cell} (hp : PolOk p) (m : Int) : 0 ≤ wt p d m ∧ wt p d m ≤ p.2.2.1 := waitG_bound _ _ (by have := hp.window; omega)
/-! ### A cell as it is later -/
theorem moved_at (p : Pol) (c : Cell) (t : Int) : (moved p c t).1 = t := by unfold moved; split <;> first | rfl | (split <;> rfl)
theorem moved_cnt {p : Pol} {c : Cell} (hm : mayC p c = true) {t t' : Int} (h1 : c.1 ≤ t) (h2 : t ≤ t') : cnt p (moved p c t) t' = cnt p c t' := by
  obtain ⟨hp, h0, _⟩ := may_pol hm
  have hL := hp.limit
  have hW := hp.window
  rcases kind_of hp with k | k | k | k
  · unfold moved
    rw [if_pos (.inl k)]
    unfold cnt
    simp only [if_pos k]
    have e : p.2.1 * (t' - c.1) = p.2.1 * (t' - t) + p.2.1 * (t - c.1) := by rw [← Int.mul_add]; congr 1; omega
    have : 0 ≤ p.2.1 * (t' - t) := Int.mul_nonneg (by omega) (by omega)
    omega
  · unfold moved
    rw [if_pos (.inr k)]
    unfold cnt
    simp only [if_neg (show ¬ p.1 = 1 by omega), if_pos k]
    have m1 := tdiv_mono (s := p.2.2.1) h0 h1 hW.1
    have m2 := tdiv_mono (s := p.2.2.1) (by omega : 0 ≤ t) h2 hW.1
    by_cases e : t'.tdiv p.2.2.1 = c.1.tdiv p.2.2.1
    · rw [if_pos (by omega), if_pos (by omega), if_pos e]
    · rw [if_neg e]
      by_cases e2 : t'.tdiv p.2.2.1 = t.tdiv p.2.2.1
      · rw [if_pos e2, if_neg (by omega)]
      · rw [if_neg e2]
  · unfold moved
    rw [if_neg (by omega), if_pos k]
    unfold cnt
    simp only [if_neg (show ¬ p.1 = 1 by omega), if_neg (show ¬ p.1 = 2 by omega), if_pos k]
    have hB := ring_B hp k
    have n1 := numR_mono hp h0 h1
    have n2 := numR_mono hp (by omega : 0 ≤ t) h2
    congr 1
    unfold atR
    apply List.map_congr_left
    intro j hj
    have hj : j < p.2.2.2.toNat := List.mem_range.1 hj
    show (if numR p t < nb p t' j then 0 else (atR p c t).getD j 0) = _
    rw [atR_getD hj]
    by_cases g : numR p t < nb p t' j
    · rw [if_pos g, if_pos (by omega)]
    · rw [if_neg g, ← nb_same hB.1 n2 (by omega)]
  · unfold moved
    rw [if_neg (by omega), if_neg (by omega)]
    unfold cnt
    simp only [if_neg (show ¬ p.1 = 1 by omega), if_neg (show ¬ p.1 = 2 by omega), if_neg (show ¬ p.1 = 3 by omega)]
    rw [since_since h2]
theorem moved_may {p : Pol} {c : Cell} (hm : mayC p c = true) {t : Int} (h1 : c.1 ≤ t) (h2 : t ≤ 1099511627776) : mayC p (moved p c t) = true := by
  obtain ⟨hp, h0, _⟩ := may_pol hm
  have hL := hp.limit
  have hW := hp.window
  have hc := cnt_anti hm (Int.le_refl _) h1
  have hn := cnt_nonneg hm t
  rcases kind_of hp with k | k | k | k
  · have g := (may1 k).1 hm
    have e : cnt p c c.1 = c.2.1 := by
      unfold cnt
      rw [if_pos k, Int.sub_self, Int.mul_zero]; omega
    unfold moved
    rw [if_pos (.inl k)]
    exact (may1 k).2 ⟨hp, ⟨by simp only []; omega, h2⟩, hn, by simp only []; omega, rfl, rfl⟩
  · have g := (may2 k).1 hm
    have e : cnt p c c.1 = c.2.1 := by
      unfold cnt
      rw [if_neg (by omega), if_pos k, if_pos rfl]
    unfold moved
    rw [if_pos (.inr k)]
    exact (may2 k).2 ⟨hp, ⟨by simp only []; omega, h2⟩, hn, by simp only []; omega, rfl, rfl⟩
  · have g := (may3 k).1 hm
    have hB := ring_B hp k
    unfold moved
    rw [if_neg (by omega), if_pos k]
    refine (may3 k).2 ⟨hp, ⟨by simp only []; omega, h2⟩, rfl, rfl, .inr (by rw [atR_len]; omega), fun x hx => ?_, ?_, fun j hj => ?_⟩
    · simp only [atR, List.mem_map] at hx
      obtain ⟨j, _, rfl⟩ := hx
      have := g.nonneg j
      split <;> omega
    · refine Int.le_trans ?_ g.sum
      rw [g.range]
      refine sum_le _ fun j hj => ?_
      have := (g.nonneg j).1
      split <;> omega
    · by_cases hj2 : j < p.2.2.2.toNat
      · show (atR p c t).getD j 0 = 0
        rw [atR_getD hj2]
        have hj : numR p t < j := hj
        have := numR_mono hp h0 h1
        rw [g.early j (by omega)]; split <;> rfl
      · show (atR p c t).getD j 0 = 0
        rw [List.getD_eq_getElem?_getD, List.getElem?_eq_none (by rw [atR_len]; omega)]; rfl
  · have g := (may4 k).1 hm
    unfold moved
    rw [if_neg (by omega), if_neg (by omega)]
    have hd := mayH_drop (fun h => decide (h.1 ≤ t - p.2.2.1)) _ _ g.go
    refine (may4 k).2 ⟨hp, ⟨by simp only []; omega, h2⟩, rfl, rfl, ?_, ?_⟩
    · refine mayH_weak _ hd h1 fun h hh => ?_
      have h3 := since_head hh
      have h4 := mayH_mem _ _ hd h (List.mem_of_mem_head? hh)
      simp only []; omega
    · refine Int.le_trans (since_sum_le _ fun h hh => ?_) g.sum
      have := mayH_mem _ _ g.go h hh
      omega
end Go.Proofs.YtkcifdblaboodaaGreat.Ce
set_option linter.unusedVariables false
set_option linter.unusedSimpArgs false
namespace Go.Proofs.YtkcifdblaboodaaGreat.Ce
open Go Go.RowKit Fw Hi
def own (p : Pol) (d : Cell) : Int := if p.1 = 1 ∨ p.1 = 2 then d.2.1 else if p.1 = 3 then d.2.2.1.sum else sumH d.2.2.2
theorem since_own {p : Pol} {d : Cell} (g : Exact p d) : sinceE p d.2.2.2 d.1 = d.2.2.2 := by
  unfold sinceE
  cases e : d.2.2.2 with
  | nil => rfl
  | cons h r =>
    rw [List.dropWhile_cons, if_neg]
    have := mayH_mem _ _ g.go h (by rw [e]; exact List.mem_cons_self ..)
    simp; omega
theorem cnt_own {p : Pol} {d : Cell} (hm : mayC p d = true) : cnt p d d.1 = own p d := by
  obtain ⟨hp, h0, _⟩ := may_pol hm
  unfold cnt own
  rcases kind_of hp with k | k | k | k
  · rw [if_pos k, if_pos (.inl k), Int.sub_self, Int.mul_zero]
    have := ((may1 k).1 hm).2.2.1
    omega
  · rw [if_neg (by omega), if_pos k, if_pos rfl, if_pos (.inr k)]
  · rw [if_neg (by omega), if_neg (by omega), if_pos k, if_neg (by omega), if_pos k]
    have g := (may3 k).1 hm
    have hB := ring_B hp k
    rw [g.range]
    unfold atR
    congr 1
    apply List.map_congr_left
    intro j hj
    have := (nb_le (p := p) (t := d.1) (j := j) hB.1).1
    rw [if_neg (by omega)]
  · rw [if_neg (by omega), if_neg (by omega), if_neg (by omega), if_neg (by omega), if_neg (by omega)]
    rw [since_own ((may4 k).1 hm)]
/-- A ring's sums are all there. -/
def Full (p : Pol) (d : Cell) : Prop := p.1 = 3 → d.2.2.1.length = p.2.2.2.toNat
theorem moved_full (p : Pol) (c : Cell) (t : Int) : Full p (moved p c t) := fun k => by
  unfold moved
  rw [if_neg (by omega), if_pos k]
  exact atR_len p c t
theorem sum_set {l : List Int} {i : Nat} {x : Int} (h : i < l.length) : (l.set i x).sum = l.sum - l.getD i 0 + x := by
  induction l generalizing i with
  | nil => simp at h
  | cons a r ih =>
    cases i with
    | zero => simp; omega
    | succ i =>
      have := ih (i := i) (by simpa using h)
      simp only [List.set_cons_succ, List.sum_cons, List.getD_cons_succ, this]; omega
theorem addH_sum (l : List Hit) (t w : Int) : sumH (addH l t w) = sumH l + w := by
  unfold addH
  cases e : l.getLast? with
  | none =>
    have : l = [] := List.getLast?_eq_none_iff.1 e
    subst this; simp [sumH]
  | some h =>
    obtain ⟨hne, hl⟩ : ∃ hne, l.getLast hne = h := by
      have : l ≠ [] := fun h2 => by rw [h2] at e; simp at e
      exact ⟨this, by rw [List.getLast?_eq_some_getLast this] at e; exact Option.some.inj e⟩
    simp only []
    split
    · conv => rhs; rw [← List.dropLast_concat_getLast hne, hl, sumH_append]
      rw [sumH_append]; simp [sumH]; omega
    · rw [sumH_append]; simp [sumH]
theorem mayH_snoc {a L last t w : Int} : ∀ (l : List Hit), mayHGo a L last l = true → (∀ h ∈ l, h.1 < t) → last < t → t ≤ a → 1 ≤ w → w ≤ L → mayHGo a L last (l ++ [(t, w)]) = true
  | [], _, _, h1, h2, h3, h4 => by simp [mayHGo, h1, h2, h3, h4]
  | x :: r, hm, hl, h1, h2, h3, h4 => by
    simp only [mayHGo, List.cons_append, Bool.and_eq_true, decide_eq_true_eq] at hm ⊢
    exact ⟨hm.1, mayH_snoc r hm.2 (fun h hh => hl h (List.mem_cons_of_mem _ hh)) (hl x (List.mem_cons_self ..)) h2 h3 h4⟩
theorem mayH_chain {a L : Int} : ∀ (l : List Hit) (last : Int) (x : Hit), mayHGo a L last (l ++ [x]) = true → mayHGo a L last l = true ∧ (∀ h ∈ l, h.1 < x.1) ∧ last < x.1 ∧ x.1 ≤ a ∧ 1 ≤ x.2 ∧ x.2 ≤ L
  | [], last, x, h => by
    simp only [mayHGo, List.nil_append, Bool.and_eq_true, decide_eq_true_eq] at h
    exact ⟨rfl, fun y hy => by simp at hy, h.1.1.1.1, h.1.1.1.2, h.1.1.2, h.1.2⟩
  | y :: r, last, x, h => by
    simp only [mayHGo, List.cons_append, Bool.and_eq_true, decide_eq_true_eq] at h ⊢
    obtain ⟨h1, h2, h3, h4⟩ := mayH_chain r y.1 x h.2
    exact ⟨⟨h.1, h1⟩, fun z hz => by rcases List.mem_cons.1 hz with rfl | hz; exact h3; exact h2 z hz, by omega, h4⟩
theorem addH_may {a L last t w : Int} {l : List Hit} (hm : mayHGo a L last l = true) (hl : ∀ h ∈ l, h.1 ≤ t) (h1 : last < t) (h2 : t ≤ a) (h3 : 1 ≤ w) (h4 : sumH l + w ≤ L) : mayHGo a L last (addH l t w) = true := by
  have hpos : ∀ l' : List Hit, (∀ h ∈ l', h ∈ l) → 0 ≤ sumH l' := fun l' hs => sum_nonneg fun x hx => by
    obtain ⟨h, hh, rfl⟩ := List.mem_map.1 hx
    have := mayH_mem _ _ hm h (hs h hh); omega
  unfold addH
  cases e : l.getLast? with
  | none =>
    have := hpos l (fun _ h => h)
    have : l = [] := List.getLast?_eq_none_iff.1 e
    subst this
    simp [mayHGo, h1, h2, h3]; omega
  | some h =>
    have hne : l ≠ [] := fun h2 => by rw [h2] at e; simp at e
    have hlast : l.getLast hne = h := by rw [List.getLast?_eq_some_getLast hne] at e; exact Option.some.inj e
    have hsp : l = l.dropLast ++ [h] := by rw [← hlast]; exact (List.dropLast_concat_getLast hne).symm
    have hm2 := hm
    rw [hsp] at hm2
    obtain ⟨g1, g2, g3, g4, g5, g6⟩ := mayH_chain _ _ _ hm2
    have hs : sumH l = sumH l.dropLast + h.2 := by
      have := congrArg sumH hsp
      rw [sumH_append] at this; simpa [sumH] using this
    have hd := hpos l.dropLast fun x hx => by rw [hsp]; exact List.mem_append_left _ hx
    simp only []
    split
    · rename_i ht
      exact mayH_snoc _ g1 (by rw [← ht]; exact g2) h1 h2 (by omega) (by omega)
    · rename_i ht
      refine mayH_snoc _ hm (fun x hx => ?_) h1 h2 h3 (by have := hpos l (fun _ h => h); omega)
      rw [hsp] at hx
      have hle := hl h (by rw [hsp]; simp)
      rcases List.mem_append.1 hx with hx | hx
      · have := g2 x hx; omega
      · rw [List.mem_singleton.1 hx]; omega
theorem added_at (p : Pol) (d : Cell) (w : Int) : (added p d w).1 = d.1 := by unfold added; split <;> first | rfl | (split <;> first | rfl | (split <;> rfl))
theorem place_lt {p : Pol} (hB : 1 ≤ p.2.2.2) (n : Int) : (n % p.2.2.2).toNat < p.2.2.2.toNat := by
  have h1 := Int.emod_nonneg n (show p.2.2.2 ≠ 0 by omega)
  have h2 := Int.emod_lt_of_pos n (show 0 < p.2.2.2 by omega)
  omega
theorem added_own {p : Pol} {d : Cell} (hm : mayC p d = true) (hf : Full p d) (w : Int) : own p (added p d w) = own p d + worth p w := by
  obtain ⟨hp, h0, _⟩ := may_pol hm
  unfold own added worth
  rcases kind_of hp with k | k | k | k
  · simp [k]
  · simp [k]
  · have hB := ring_B hp k
    simp only [k]
    show (d.2.2.1.set _ _).sum = d.2.2.1.sum + w
    rw [sum_set (by rw [hf k]; exact place_lt hB.1 _)]; omega
  · simp only [k]
    exact addH_sum _ _ _
theorem added_may {p : Pol} {d : Cell} (hm : mayC p d = true) (hf : Full p d) {w : Int} (hw : 1 ≤ w) (hc : own p d + worth p w ≤ worth p p.2.1) : mayC p (added p d w) = true := by
  obtain ⟨hp, h0, h00⟩ := may_pol hm
  have hL := hp.limit
  have hW := hp.window
  have ho := added_own hm hf w
  rw [← ho] at hc
  rcases kind_of hp with k | k | k | k
  · have g := (may1 k).1 hm
    unfold own worth added at hc
    unfold added
    simp only [k, true_or, if_true] at hc ⊢
    have : 0 ≤ w * p.2.2.1 := Int.mul_nonneg (by omega) (by omega)
    exact (may1 k).2 ⟨hp, ⟨h0, h00⟩, by simp only []; omega, hc, rfl, rfl⟩
  · have g := (may2 k).1 hm
    unfold own worth added at hc
    unfold added
    simp only [if_neg (show ¬ p.1 = 1 by omega), if_pos k, if_pos (show p.1 = 1 ∨ p.1 = 2 from .inr k)] at hc ⊢
    exact (may2 k).2 ⟨hp, ⟨h0, h00⟩, by simp only []; omega, hc, rfl, rfl⟩
  · have g := (may3 k).1 hm
    have hB := ring_B hp k
    have hi := place_lt hB.1 (numR p d.1)
    unfold own worth added at hc
    unfold added
    simp only [if_neg (show ¬ p.1 = 1 by omega), if_neg (show ¬ p.1 = 2 by omega), if_pos k, if_neg (show ¬ (p.1 = 1 ∨ p.1 = 2) by omega)] at hc ⊢
    have hnn : ∀ x ∈ d.2.2.1.set (numR p d.1 % p.2.2.2).toNat (d.2.2.1.getD (numR p d.1 % p.2.2.2).toNat 0 + w), 0 ≤ x := fun x hx => by
      rcases List.mem_or_eq_of_mem_set hx with hx | rfl
      · exact (g.val x hx).1
      · have := (g.nonneg (numR p d.1 % p.2.2.2).toNat).1; omega
    refine (may3 k).2 ⟨hp, ⟨h0, h00⟩, rfl, rfl, .inr (by simp only [List.length_set, hf k]; omega), fun x hx => ⟨hnn x hx, Int.le_trans (sum_mem hnn hx) hc⟩, hc, fun j hj => ?_⟩
    show (d.2.2.1.set _ _).getD j 0 = 0
    have hj : numR p d.1 < j := hj
    have hle : (numR p d.1 % p.2.2.2) ≤ numR p d.1 := by
      have h1 := numR_pos hp h0
      have h2 := Int.emod_nonneg (numR p d.1) (show p.2.2.2 ≠ 0 by omega)
      have h3 := Int.mul_ediv_add_emod (numR p d.1) p.2.2.2
      have h4 : 0 ≤ p.2.2.2 * (numR p d.1 / p.2.2.2) := Int.mul_nonneg (by omega) (Int.ediv_nonneg h1 (by omega))
      omega
    have hne : (numR p d.1 % p.2.2.2).toNat ≠ j := fun e => by
      have h2 := Int.emod_nonneg (numR p d.1) (show p.2.2.2 ≠ 0 by omega)
      have h5 : ((numR p d.1 % p.2.2.2).toNat : Int) = j := by rw [e]
      rw [Int.toNat_of_nonneg h2] at h5
      rw [h5] at hle
      exact absurd hj (by omega)
    rw [List.getD_eq_getElem?_getD, List.getElem?_set_ne hne, ← List.getD_eq_getElem?_getD]
    exact g.early j hj
  · have g := (may4 k).1 hm
    have hs : sumH d.2.2.2 + w ≤ p.2.1 := by
      have : own p (added p d w) = own p d + w := by rw [ho]; simp [worth, k]
      rw [this] at hc
      simpa [own, worth, k] using hc
    unfold added
    simp only [if_neg (show ¬ p.1 = 1 by omega), if_neg (show ¬ p.1 = 2 by omega), if_neg (show ¬ p.1 = 3 by omega)]
    refine (may4 k).2 ⟨hp, ⟨h0, h00⟩, rfl, rfl, addH_may g.go (fun h hh => (mayH_mem _ _ g.go h hh).2.1) (by omega) (Int.le_refl _) hw hs, ?_⟩
    show sumH (addH _ _ _) ≤ _
    rw [addH_sum]; exact hs
/-! ### How long it takes -/
def up (a b : Int) : Int := a / b + min (a % b) 1
theorem up_spec {a b : Int} (ha : 0 ≤ a) (hb : 0 < b) : 0 ≤ up a b ∧ a ≤ b * up a b ∧ (0 < up a b → b * (up a b - 1) < a) := by
  have h1 := Int.mul_ediv_add_emod a b
  have h2 := Int.emod_nonneg a (show b ≠ 0 by omega)
  have h3 := Int.emod_lt_of_pos a hb
  have h4 := Int.ediv_nonneg ha (show 0 ≤ b by omega)
  unfold up
  by_cases e : a % b = 0
  · rw [e, Int.min_eq_left (by omega), Int.add_zero, Int.mul_sub, Int.mul_one]
    exact ⟨h4, by omega, fun _ => by omega⟩
  · rw [Int.min_eq_right (by omega), Int.mul_add, Int.mul_one, Int.add_sub_cancel]
    exact ⟨by omega, by omega, fun _ => by omega⟩
theorem wt1 {p : Pol} {d : Cell} (hm : mayC p d = true) (k : p.1 = 1) {m : Int} (h0 : 0 ≤ m) : wt p d m = up (max 0 (d.2.1 - m)) p.2.1 := by
  obtain ⟨hp, _, _⟩ := may_pol hm
  have hL := hp.limit
  have hW := hp.window
  have g := (may1 k).1 hm
  obtain ⟨u1, u2, u3⟩ := up_spec (a := max 0 (d.2.1 - m)) (b := p.2.1) (by omega) (by omega)
  have hc : ∀ x, cnt p d (d.1 + x) = max 0 (d.2.1 - p.2.1 * x) := fun x => by
    unfold cnt
    rw [if_pos k, show d.1 + x - d.1 = x by omega]
  generalize hu : up (max 0 (d.2.1 - m)) p.2.1 = u at u1 u2 u3 ⊢
  refine wt_eq hm u1 ?_ ?_ (.inr ?_)
  · rcases Int.lt_or_le 0 u with h | h
    · have := u3 h
      have h2 : p.2.1 * (u - 1) < p.2.1 * p.2.2.1 := by omega
      have := Int.lt_of_mul_lt_mul_left h2 (by omega)
      omega
    · omega
  · rcases Int.lt_or_le 0 u with h | h
    · right
      have := u3 h
      have h4 : 0 ≤ p.2.1 * (u - 1) := Int.mul_nonneg (by omega) (by omega)
      rw [hc]; omega
    · left; omega
  · rw [hc]; omega
theorem tdiv_block {t W : Int} (h0 : 0 ≤ t) (hW : 1 ≤ W) : t.tdiv W * W ≤ t ∧ t < t.tdiv W * W + W ∧ t.tmod W = t - t.tdiv W * W := by
  have h1 := Int.mul_tdiv_add_tmod t W
  have h2 := Int.tmod_nonneg W h0
  have h3 := Int.tmod_lt_of_pos t (show 0 < W by omega)
  rw [Int.mul_comm] at h1
  omega
theorem tdiv_is {t W q : Int} (h0 : 0 ≤ t) (hW : 1 ≤ W) (h1 : q * W ≤ t) (h2 : t < q * W + W) : t.tdiv W = q := by
  rw [Int.tdiv_eq_ediv_of_nonneg h0]
  have h3 := Int.mul_ediv_add_emod t W
  have h4 := Int.emod_nonneg t (show W ≠ 0 by omega)
  have h5 := Int.emod_lt_of_pos t (show 0 < W by omega)
  rw [Int.mul_comm] at h3
  rcases Int.lt_trichotomy (t / W) q with h | h | h
  · have : (t / W + 1) * W ≤ q * W := Int.mul_le_mul_of_nonneg_right (by omega) (by omega)
    rw [Int.add_mul] at this; omega
  · exact h
  · have : (q + 1) * W ≤ t / W * W := Int.mul_le_mul_of_nonneg_right (by omega) (by omega)
    rw [Int.add_mul] at this; omega
theorem wt2 {p : Pol} {d : Cell} (hm : mayC p d = true) (k : p.1 = 2) {m : Int} (h0 : 0 ≤ m) : wt p d m = if d.2.1 ≤ m then 0 else p.2.2.1 - d.1.tmod p.2.2.1 := by
  obtain ⟨hp, ht, _⟩ := may_pol hm
  have hW := hp.window
  obtain ⟨b1, b2, b3⟩ := tdiv_block ht hW.1
  have hc : ∀ x, cnt p d (d.1 + x) = if (d.1 + x).tdiv p.2.2.1 = d.1.tdiv p.2.2.1 then d.2.1 else 0 := fun x => by
    unfold cnt
    rw [if_neg (by omega), if_pos k]
  split
  · rename_i h
    refine wt_eq hm (Int.le_refl _) (by omega) (.inl rfl) (.inr ?_)
    rw [hc, if_pos (by rw [Int.add_zero])]; exact h
  · rename_i h
    refine wt_eq hm (by omega) (by omega) (.inr ?_) (.inr ?_)
    · rw [hc, if_pos (tdiv_is (by omega) hW.1 (by omega) (by omega))]; omega
    · rw [hc, tdiv_is (q := d.1.tdiv p.2.2.1 + 1) (by omega) hW.1 (by rw [Int.add_mul]; omega) (by rw [Int.add_mul]; omega), if_neg (by omega)]
      exact h0
end Go.Proofs.YtkcifdblaboodaaGreat.Ce
set_option linter.unusedVariables false
set_option linter.unusedSimpArgs false
namespace Go.Proofs.YtkcifdblaboodaaGreat.Ce
open Go Go.RowKit Fw Hi
theorem numR_window {p : Pol} (hp : PolOk p) (k : p.1 = 3) {t : Int} (h : 0 ≤ t) : numR p (t + p.2.2.1) = numR p t + p.2.2.2 := by
  have hB := ring_B hp k
  rw [← ring_window hp k]
  exact tdiv_add _ h (by omega) (slot_bound hp).1
theorem dropWhile_nil {q : Hit → Bool} : ∀ {l : List Hit}, (∀ x ∈ l, q x = true) → l.dropWhile q = []
  | [], _ => rfl
  | x :: r, h => by rw [List.dropWhile_cons, if_pos (h x (List.mem_cons_self ..)), dropWhile_nil fun y hy => h y (List.mem_cons_of_mem _ hy)]
theorem cnt_gone {p : Pol} {d : Cell} (hm : mayC p d = true) {t : Int} (h : d.1 + p.2.2.1 ≤ t) : cnt p d t = 0 := by
  obtain ⟨hp, h0, _⟩ := may_pol hm
  have hL := hp.limit
  have hW := hp.window
  unfold cnt
  rcases kind_of hp with k | k | k | k
  · rw [if_pos k]
    have g := (may1 k).1 hm
    have : p.2.1 * p.2.2.1 ≤ p.2.1 * (t - d.1) := Int.mul_le_mul_of_nonneg_left (by omega) (by omega)
    omega
  · rw [if_neg (by omega), if_pos k, if_neg]
    have h1 := tdiv_mono (s := p.2.2.1) (by omega : 0 ≤ d.1 + p.2.2.1) h hW.1
    have h2 := tdiv_add (a := d.1) (s := p.2.2.1) 1 h0 (by omega) hW.1
    rw [Int.mul_one] at h2
    omega
  · rw [if_neg (by omega), if_neg (by omega), if_pos k]
    have hB := ring_B hp k
    have h1 := numR_mono hp (by omega : 0 ≤ d.1 + p.2.2.1) h
    rw [numR_window hp k h0] at h1
    unfold atR
    have : ∀ l : List Nat, (l.map fun j => if numR p d.1 < nb p t j then (0 : Int) else d.2.2.1.getD j 0).sum = 0 := fun l => by
      induction l with
      | nil => rfl
      | cons j r ih =>
        have := (nb_le (p := p) (t := t) (j := j) hB.1).2.1
        simp only [List.map_cons, List.sum_cons, ih]
        rw [if_pos (by omega)]; rfl
    exact this _
  · rw [if_neg (by omega), if_neg (by omega), if_neg (by omega)]
    have g := (may4 k).1 hm
    have : sinceE p d.2.2.2 t = [] := by
      unfold sinceE
      refine dropWhile_nil ?_
      intro x hx
      have := mayH_mem _ _ g.go x hx
      exact decide_eq_true (by omega)
    rw [this]; rfl
theorem wt_le {p : Pol} {d : Cell} (hm : mayC p d = true) {m : Int} (h0 : 0 ≤ m) {k : Int} (hk : 0 ≤ k) : wt p d m ≤ k ↔ cnt p d (d.1 + k) ≤ m := by
  obtain ⟨hp, _, _⟩ := may_pol hm
  have hW := hp.window
  obtain ⟨k', e, g1, g2, g3⟩ := waitG_spec (fun k => cnt p d (d.1 + k)) m p.2.2.1.toNat 0 (fun j hj => by omega)
  have e : wt p d m = k' := e
  rw [e]
  constructor
  · intro h
    have h1 : cnt p d (d.1 + k') ≤ m := by
      by_cases hk' : (k' : Int) < p.2.2.1
      · exact g3 (by omega)
      · rw [cnt_gone hm (by omega)]; exact h0
    exact Int.le_trans (cnt_anti hm (by omega) (by omega)) h1
  · intro h
    rcases Int.lt_or_le k k' with h2 | h2
    · have := g2 k.toNat (by omega)
      simp only [Int.toNat_of_nonneg hk] at this
      omega
    · exact h2
theorem own_le {p : Pol} {d : Cell} (hm : mayC p d = true) : 0 ≤ own p d ∧ own p d ≤ worth p p.2.1 := by
  obtain ⟨hp, _, _⟩ := may_pol hm
  refine ⟨by rw [← cnt_own hm]; exact cnt_nonneg hm _, ?_⟩
  unfold own worth
  rcases kind_of hp with k | k | k | k
  · simp only [k, true_or, if_true]; exact ((may1 k).1 hm).2.2.2.1
  · simp only [if_neg (show ¬ p.1 = 1 by omega), if_pos (show p.1 = 1 ∨ p.1 = 2 from .inr k)]; exact ((may2 k).1 hm).2.2.2.1
  · simp only [if_neg (show ¬ p.1 = 1 by omega), if_neg (show ¬ (p.1 = 1 ∨ p.1 = 2) by omega), if_pos k]; exact ((may3 k).1 hm).sum
  · simp only [if_neg (show ¬ p.1 = 1 by omega), if_neg (show ¬ (p.1 = 1 ∨ p.1 = 2) by omega), if_neg (show ¬ p.1 = 3 by omega)]; exact ((may4 k).1 hm).sum
/-- It is neutral just when nothing counts. -/
theorem neutral_iff {p : Pol} {c : Cell} (hm : mayC p c = true) {t : Int} (ht : c.1 ≤ t) : neutralC p c t = true ↔ cnt p c t = 0 := by
  have hn := cnt_nonneg hm t
  obtain ⟨hp, h0, h00⟩ := may_pol hm
  have hmm := moved_may hm (Int.le_refl _) h00
  unfold neutralC endsC
  rw [hm, Bool.true_and, if_pos rfl, decide_eq_true_eq]
  have h1 := wt_le hmm (m := 0) (Int.le_refl _) (k := t - c.1) (by omega)
  rw [moved_at, moved_cnt hm (Int.le_refl _) (by omega), show c.1 + (t - c.1) = t by omega] at h1
  omega
/-! ### The history -/
structure Rel (p : Pol) (c : Cell) (h : List Hit) : Prop where
  may : mayC p c = true
  fit : Fit p h c.1
  k12 : p.1 = 1 ∨ p.1 = 2 → c.2.1 = counts p h c.1
  k3 : p.1 = 3 → ∀ j : Nat, j < p.2.2.2.toNat → c.2.2.1.getD j 0 = those (fun tick => decide (numR p tick = nb p c.1 j)) h
  k4 : p.1 = 4 → ∀ T, c.1 - p.2.2.1 ≤ T → sumH (c.2.2.2.dropWhile fun x => decide (x.1 ≤ T)) = those (fun tick => decide (T < tick)) h
theorem lev_exact (p : Pol) {t t' : Int} (hD : 0 ≤ p.2.1 * (t' - t)) : ∀ l : List Hit, (lev p t' l).1 = (lev p t l).1 ∧ (lev p t' l).2 = max 0 ((lev p t l).2 - p.2.1 * (t' - t)) ∧ 0 ≤ (lev p t l).2
  | [] => ⟨rfl, by show (0 : Int) = max 0 (0 - p.2.1 * (t' - t)); omega, Int.le_refl _⟩
  | h :: r => by
    obtain ⟨h1, h2, h3⟩ := lev_exact p hD r
    have e : p.2.1 * (t' - h.1) = p.2.1 * (t - h.1) + p.2.1 * (t' - t) := by rw [← Int.mul_add]; congr 1; omega
    simp only [lev, h1, h2, e]
    exact ⟨trivial, by omega, by omega⟩
theorem sum_one {v : Int} {j0 : Nat} : ∀ n : Nat, ((List.range n).map fun j => if j = j0 then v else 0).sum = if j0 < n then v else 0
  | 0 => rfl
  | n + 1 => by
    rw [List.range_succ, List.map_append, List.sum_append, sum_one n]
    simp only [List.map_cons, List.map_nil, List.sum_cons, List.sum_nil]
    by_cases h : n = j0
    · subst h; simp
    · rw [if_neg h]
      by_cases h2 : j0 < n
      · rw [if_pos h2, if_pos (by omega)]; omega
      · rw [if_neg h2, if_neg (by omega)]; omega
theorem nb_iff {p : Pol} {t x : Int} {j : Nat} (hB : 1 ≤ p.2.2.2) (hj : j < p.2.2.2.toNat) (h1 : x ≤ numR p t) (h2 : numR p t - p.2.2.2 < x) : x = nb p t j ↔ j = (x % p.2.2.2).toNat := by
  have h3 := Int.emod_nonneg x (show p.2.2.2 ≠ 0 by omega)
  have h4 := Int.emod_lt_of_pos x (show 0 < p.2.2.2 by omega)
  constructor
  · intro e
    have := (nb_le (p := p) (t := t) (j := j) hB).2.2
    rw [← e] at this
    have h5 : x % p.2.2.2 = (j : Int) % p.2.2.2 := Int.emod_eq_emod_iff_emod_sub_eq_zero.2 this
    rw [Int.emod_eq_of_lt (a := (j : Int)) (b := p.2.2.2) (by omega) (by omega)] at h5
    omega
  · intro e
    refine nb_eq hB h1 h2 ?_
    have h6 : (j : Int) = x % p.2.2.2 := by omega
    rw [h6]
    exact Int.emod_eq_emod_iff_emod_sub_eq_zero.1 (by rw [Int.emod_emod_of_dvd _ (Int.dvd_refl _)])
theorem ring_those {p : Pol} (hB : 1 ≤ p.2.2.2) {t : Int} : ∀ l : List Hit, (∀ h ∈ l, numR p h.1 ≤ numR p t) →
    ((List.range p.2.2.2.toNat).map fun j => those (fun tick => decide (numR p tick = nb p t j)) l).sum = those (fun tick => decide (numR p t - p.2.2.2 < numR p tick)) l
  | [], _ => by
    have : ∀ l : List Nat, (l.map fun j => those (fun tick => decide (numR p tick = nb p t j)) []).sum = 0 := fun l => by
      induction l with
      | nil => rfl
      | cons a r ih => rw [List.map_cons, List.sum_cons, ih]; rfl
    exact this _
  | h :: r, hl => by
    have ih := ring_those hB r fun x hx => hl x (List.mem_cons_of_mem _ hx)
    have hle := hl h (List.mem_cons_self ..)
    simp only [those]
    rw [← ih]
    have hsum : ∀ (f g : Nat → Int) (l : List Nat), (l.map fun j => f j + g j).sum = (l.map f).sum + (l.map g).sum := fun f g l => by
      induction l with
      | nil => rfl
      | cons a r ih => simp only [List.map_cons, List.sum_cons, ih]; omega
    rw [hsum]
    congr 1
    by_cases hw : numR p t - p.2.2.2 < numR p h.1
    · rw [if_pos (decide_eq_true hw)]
      have : ∀ j ∈ List.range p.2.2.2.toNat, (if decide (numR p h.1 = nb p t j) = true then h.2 else 0) = if j = (numR p h.1 % p.2.2.2).toNat then h.2 else 0 := fun j hj => by
        have := nb_iff (t := t) (x := numR p h.1) hB (List.mem_range.1 hj) hle hw
        simp only [decide_eq_true_eq, this]
      rw [List.map_congr_left this, sum_one, if_pos (place_lt hB _)]
    · rw [if_neg (by simpa using hw)]
      have : ∀ j ∈ List.range p.2.2.2.toNat, (if decide (numR p h.1 = nb p t j) = true then h.2 else 0) = if j = p.2.2.2.toNat then (0 : Int) else 0 := fun j hj => by
        have := (nb_le (p := p) (t := t) (j := j) hB).2.1
        rw [if_neg (by simp; omega)]; simp
      rw [List.map_congr_left this, sum_one]; simp
/-- Places of a ring at a later time. -/
theorem Rel.place {p : Pol} {c : Cell} {h : List Hit} (r : Rel p c h) (k : p.1 = 3) {t : Int} (ht : c.1 ≤ t) {j : Nat} (hj : j < p.2.2.2.toNat) :
    (if numR p c.1 < nb p t j then 0 else c.2.2.1.getD j 0) = those (fun tick => decide (numR p tick = nb p t j)) h := by
  have hp := r.fit.pol
  have hB := ring_B hp k
  have n1 := numR_mono hp r.fit.pos ht
  split
  · refine (those_none h fun x hx => decide_eq_false fun e => ?_).symm
    have := r.fit.hits.tick x hx
    have := numR_mono hp this.1 this.2
    omega
  · rw [r.k3 k j hj, nb_same hB.1 n1 (by omega)]
theorem Rel.cnt {p : Pol} {c : Cell} {h : List Hit} (r : Rel p c h) {t : Int} (ht : c.1 ≤ t) : cnt p c t = counts p h t := by
  have hp := r.fit.pol
  have hL := hp.limit
  have hW := hp.window
  unfold Ce.cnt
  rcases kind_of hp with k | k | k | k
  · rw [if_pos k, r.k12 (.inl k)]
    unfold counts
    simp only [if_pos k]
    rw [(lev_exact p (t := c.1) (t' := t) (Int.mul_nonneg (by omega) (by omega)) h).2.1]
  · rw [if_neg (by omega), if_pos k, r.k12 (.inr k)]
    unfold counts
    simp only [if_neg (show ¬ p.1 = 1 by omega)]
    have hs : slotOf p = p.2.2.1 := by unfold slotOf; rw [if_neg (by omega)]
    have m := tdiv_mono (s := p.2.2.1) r.fit.pos ht hW.1
    split
    · rename_i e
      refine those_congr h fun x hx => ?_
      unfold cq
      rw [if_pos k, if_pos k, hs, e]
    · rename_i e
      refine (those_none h fun x hx => ?_).symm
      have hx2 := r.fit.hits.tick x hx
      have := tdiv_mono (s := p.2.2.1) hx2.1 hx2.2 hW.1
      unfold cq
      rw [if_pos k, hs]
      exact decide_eq_false (by omega)
  · rw [if_neg (by omega), if_neg (by omega), if_pos k]
    have hB := ring_B hp k
    unfold counts
    rw [if_neg (by omega)]
    have e : atR p c t = (List.range p.2.2.2.toNat).map fun j => those (fun tick => decide (numR p tick = nb p t j)) h := by
      unfold atR
      exact List.map_congr_left fun j hj => r.place k ht (List.mem_range.1 hj)
    rw [e, ring_those hB.1 h fun x hx => ?_]
    · refine those_congr h fun x hx => ?_
      unfold cq
      rw [if_neg (by omega), if_pos k]; rfl
    · have hx2 := r.fit.hits.tick x hx
      exact numR_mono hp hx2.1 (by omega)
  · rw [if_neg (by omega), if_neg (by omega), if_neg (by omega)]
    unfold counts
    rw [if_neg (by omega)]
    have := r.k4 k (t - p.2.2.1) (by omega)
    unfold sinceE
    rw [this]
    refine those_congr h fun x hx => ?_
    unfold cq
    rw [if_neg (by omega), if_neg (by omega)]
theorem Rel.moved {p : Pol} {c : Cell} {h : List Hit} (r : Rel p c h) {t : Int} (ht : c.1 ≤ t) (ht2 : t ≤ 1099511627776) : Rel p (moved p c t) h := by
  have hp := r.fit.pol
  refine ⟨moved_may r.may ht ht2, by rw [moved_at]; exact r.fit.later ht ht2, fun k => ?_, fun k j hj => ?_, fun k T hT => ?_⟩
  · rw [moved_at, ← r.cnt ht]
    unfold Ce.moved
    rw [if_pos k]
  · rw [moved_at]
    unfold Ce.moved
    rw [if_neg (by omega), if_pos k]
    show (atR p c t).getD j 0 = _
    rw [atR_getD hj]
    exact r.place k ht hj
  · rw [moved_at] at hT
    unfold Ce.moved
    rw [if_neg (by omega), if_neg (by omega), ← r.k4 k T (by omega)]
    have := since_since (p := p) (t := t) (t' := T + p.2.2.1) (by omega) c.2.2.2
    unfold sinceE at this
    rw [show T + p.2.2.1 - p.2.2.1 = T by omega] at this
    show sumH (List.dropWhile _ (sinceE p c.2.2.2 t)) = _
    unfold sinceE
    rw [this]
theorem dropWhile_snoc {q : Hit → Bool} {b : Hit} (hb : q b = false) : ∀ l : List Hit, (l ++ [b]).dropWhile q = l.dropWhile q ++ [b]
  | [] => by simp [List.dropWhile_cons, hb]
  | x :: r => by
    rw [List.cons_append, List.dropWhile_cons, List.dropWhile_cons]
    split
    · exact dropWhile_snoc hb r
    · rfl
theorem addH_drop {l : List Hit} {t w T : Int} (hl : ∀ h ∈ l, h.1 ≤ t) : sumH ((addH l t w).dropWhile fun x => decide (x.1 ≤ T)) = sumH (l.dropWhile fun x => decide (x.1 ≤ T)) + if T < t then w else 0 := by
  by_cases hT : T < t
  · rw [if_pos hT]
    unfold addH
    cases e : l.getLast? with
    | none =>
      have : l = [] := List.getLast?_eq_none_iff.1 e
      subst this
      rw [List.dropWhile_cons, if_neg (by simp; omega)]; simp [sumH]
    | some h =>
      have hne : l ≠ [] := fun h2 => by rw [h2] at e; simp at e
      have hlast : l.getLast hne = h := by rw [List.getLast?_eq_some_getLast hne] at e; exact Option.some.inj e
      simp only []
      split
      · rename_i ht
        have hb : (decide (h.1 ≤ T)) = false := decide_eq_false (by omega)
        conv => rhs; rw [← List.dropLast_concat_getLast hne, hlast, dropWhile_snoc (q := fun x => decide (x.1 ≤ T)) (b := h) hb, sumH_append]
        rw [dropWhile_snoc (q := fun x => decide (x.1 ≤ T)) (b := (t, h.2 + w)) (decide_eq_false (by simp only []; omega)), sumH_append]
        simp [sumH]; omega
      · rw [dropWhile_snoc (q := fun x => decide (x.1 ≤ T)) (b := (t, w)) (decide_eq_false (by simp only []; omega)), sumH_append]
        simp [sumH]
  · rw [if_neg hT]
    have h1 : (addH l t w).dropWhile (fun x => decide (x.1 ≤ T)) = [] := by
      refine dropWhile_nil ?_
      intro x hx
      refine decide_eq_true ?_
      have : x.1 ≤ t := by
        unfold addH at hx
        split at hx
        · split at hx
          · rcases List.mem_append.1 hx with hx | hx
            · exact hl x (List.dropLast_subset _ hx)
            · rw [List.mem_singleton.1 hx]; exact Int.le_refl _
          · rcases List.mem_append.1 hx with hx | hx
            · exact hl x hx
            · rw [List.mem_singleton.1 hx]; exact Int.le_refl _
        · rw [List.mem_singleton.1 hx]; exact Int.le_refl _
      omega
    have h2 : l.dropWhile (fun x => decide (x.1 ≤ T)) = [] := by
      refine dropWhile_nil ?_
      intro x hx
      have := hl x hx
      exact decide_eq_true (by omega)
    rw [h1, h2]; rfl
theorem Rel.added {p : Pol} {d : Cell} {h : List Hit} (r : Rel p d h) (hf : Full p d) {w : Int} (hw : 1 ≤ w ∧ w ≤ 1048576) (hl : h.length ≤ 63) (hc : counts p h d.1 + worth p w ≤ worth p p.2.1) : Rel p (added p d w) (h ++ [(d.1, w)]) := by
  have hp := r.fit.pol
  have hown : own p d = counts p h d.1 := by rw [← cnt_own r.may, r.cnt (Int.le_refl _)]
  refine ⟨added_may r.may hf hw.1 (by rw [hown]; exact hc), by rw [added_at]; exact r.fit.snoc hw hl hc, fun k => ?_, fun k j hj => ?_, fun k T hT => ?_⟩
  · rw [added_at, counts_snoc hp h (by omega), ← r.k12 k]
    unfold Ce.added worth
    rcases k with k | k
    · simp [k]
    · simp [k]
  · rw [added_at, those_app, ← r.k3 k j hj]
    have hB := ring_B hp k
    unfold Ce.added
    simp only [if_neg (show ¬ p.1 = 1 by omega), if_neg (show ¬ p.1 = 2 by omega), if_pos k]
    have hnb := nb_iff (t := d.1) (x := numR p d.1) hB.1 hj (Int.le_refl _) (by omega)
    simp only [those, decide_eq_true_eq, hnb, Int.add_zero]
    by_cases e : j = (numR p d.1 % p.2.2.2).toNat
    · rw [if_pos e, ← e, List.getD_eq_getElem?_getD, List.getElem?_set_self (by rw [hf k]; exact hj)]; rfl
    · rw [if_neg e, List.getD_eq_getElem?_getD, List.getElem?_set_ne (fun h => e h.symm), ← List.getD_eq_getElem?_getD]; omega
  · rw [added_at] at hT
    rw [those_app, ← r.k4 k T hT]
    have g := (may4 k).1 r.may
    unfold Ce.added
    simp only [if_neg (show ¬ p.1 = 1 by omega), if_neg (show ¬ p.1 = 2 by omega), if_neg (show ¬ p.1 = 3 by omega)]
    rw [addH_drop fun x hx => (mayH_mem _ _ g.go x hx).2.1]
    simp [those]
/-- What is told is the same, and so it is later. -/
theorem ask_same {p : Pol} {c : Cell} {h : List Hit} (r : Rel p c h) {t w : Int} (ht : c.1 ≤ t) (ht2 : t ≤ 1099511627776) (hw : weighs w = true) (hl : h.length ≤ 63) :
    (askC p c t w).2 = (Hi.ask p h t w).2 ∧ Rel p (askC p c t w).1 (Hi.ask p h t w).1 ∧ (askC p c t w).1.1 = t := by
  have hp := r.fit.pol
  have hw2 : 1 ≤ w ∧ w ≤ 1048576 := by simpa [weighs] using hw
  have h0 := r.fit.pos
  have htb : timeB t = true := by simp [timeB]; omega
  have rm := r.moved ht ht2
  have ham := moved_at p c t
  have hfull := moved_full p c t
  have hf := (rm.fit).fits
  rw [ham] at hf
  have hn : Ce.cnt p (moved p c t) t = counts p h t := by rw [rm.cnt (by rw [ham]; exact Int.le_refl _)]
  have hown : own p (moved p c t) = counts p h t := by rw [← cnt_own rm.may, ham, hn]
  have hole := own_le rm.may
  rw [hown] at hole
  have hwt : ∀ {d : Cell} {l : List Hit}, Rel p d l → d.1 = t → ∀ m, wt p d m = Hi.wait p l t m := fun {d l} rd hd m => by
    unfold wt Hi.wait
    rw [waitFrom_G]
    exact waitG_congr (fun k => by rw [rd.cnt (by omega), hd]) _ _
  unfold askC Hi.ask
  rw [r.may, htb, hw, hf]
  simp only [Bool.and_self, if_true]
  rw [Int.max_eq_left ht, ham, hn]
  by_cases hc : counts p h t + worth p w ≤ worth p p.2.1
  · have ra := rm.added hfull hw2 hl (by rw [ham]; exact hc)
    rw [ham] at ra
    rw [if_pos hc, if_pos hc, if_pos hc, decide_eq_true hc, counts_snoc hp h (by omega), hwt ra (by rw [added_at, ham]), Int.max_eq_right (by omega)]
    exact ⟨rfl, ra, by rw [added_at, ham]⟩
  · rw [if_neg hc, if_neg hc, if_neg hc, decide_eq_false hc, hwt rm ham, hwt rm ham, Int.max_eq_right (by omega)]
    exact ⟨rfl, rm, ham⟩
theorem neutral_same {p : Pol} {c : Cell} {h : List Hit} (r : Rel p c h) {t : Int} (ht : c.1 ≤ t) (ht2 : t ≤ 1099511627776) : neutralC p c t = Hi.neutral p h t := by
  rw [Bool.eq_iff_iff, neutral_iff r.may ht, r.cnt ht]
  unfold Hi.neutral
  rw [(r.fit.later ht ht2).fits]; simp
theorem Rel.nil {p : Pol} (hp : PolOk p) : Rel p (0, 0, [], []) [] := by
  have hL := hp.limit
  have hW := hp.window
  have hLW : 0 ≤ p.2.1 * p.2.2.1 := Int.mul_nonneg (by omega) (by omega)
  refine ⟨?_, ⟨hp, rfl, Int.le_refl _, by omega, ⟨by simp, by simp, by simp⟩, rfl⟩, fun k => ?_, fun k j hj => rfl, fun k T hT => rfl⟩
  · rcases kind_of hp with k | k | k | k
    · exact (may1 k).2 ⟨hp, by simp, by simp, hLW, rfl, rfl⟩
    · exact (may2 k).2 ⟨hp, by simp, by simp, by simp only []; omega, rfl, rfl⟩
    · exact (may3 k).2 ⟨hp, by simp, rfl, rfl, .inl rfl, by simp, by simp; omega, fun j _ => rfl⟩
    · exact (may4 k).2 ⟨hp, by simp, rfl, rfl, rfl, by simp [sumH]; omega⟩
  · unfold counts
    split <;> rfl
end Go.Proofs.YtkcifdblaboodaaGreat.Ce
set_option linter.unusedVariables false
set_option linter.unusedSimpArgs false
namespace Go.Proofs.YtkcifdblaboodaaGreat.Po
open Go Go.RowKit Fw Hi
theorem hm : Tryz.prog.follows .mixedOrders = true := by kernel_rfl
theorem withinM (n m : Int) : Meets Tryz.prog 101 [.int .i64 fun _ => n, .int .i64 fun _ => m] [] (Y := Unit) (fun _ => True) (fun _ => .bool fun _ => decide (1 ≤ n ∧ n ≤ m)) (fun _ => []) := by
  refine Meets.intro hm (fn := Tryz.f101) Tryz.func101 rfl (by decide) (Nat.le_of_ble_eq_true rfl) (fun _ => rfl) ?_; intro S hok; (conv => whnf)
  (repeat' ((conv => whnf); first | apply And.intro | exact ⟨by kernel_rfl⟩ | apply DrawN.mk | apply CodeN.step hm rfl | exact trivial | exact rfl | (intro hh; try simp only [bs] at hh))); all_goals (conv => whnf)
  · (refine RetN.q () [] ?_ ?_ ?_ <;> (repeat' ((conv => whnf) <;> first | exact rfl | exact trivial | apply And.intro | exact Nat.zero_add _)); all_goals ((conv => whnf); try simp only []))
    simp [hh]
  · (refine RetN.q () [] ?_ ?_ ?_ <;> (repeat' ((conv => whnf) <;> first | exact rfl | exact trivial | apply And.intro | exact Nat.zero_add _)); all_goals ((conv => whnf); try simp only []))
    simp [hh]
theorem weighsM (n : Int) : Meets Tryz.prog 79 [.int .i64 fun _ => n] [] (Y := Unit) (fun _ => True) (fun _ => .bool fun _ => weighs n) (fun _ => []) := by
  refine Meets.intro hm (fn := Tryz.f79) Tryz.func79 rfl (by decide) (Nat.le_of_ble_eq_true rfl) (fun _ => rfl) ?_; intro S hok; (conv => whnf)
  (repeat' ((conv => whnf); first | apply And.intro | exact ⟨by kernel_rfl⟩ | apply DrawN.mk | apply CodeN.step hm rfl | exact trivial | exact rfl | (intro hh; try simp only [bs] at hh))); all_goals (conv => whnf)
  (refine CallN.q (withinM n 1048576) [] (fun y hy => ?_); (repeat' ((conv => whnf); first | apply And.intro | exact ⟨by kernel_rfl⟩ | apply DrawN.mk | apply CodeN.step hm rfl | exact trivial | exact rfl | (intro hh; try simp only [bs] at hh))); all_goals (conv => whnf))
  (refine RetN.q () [] ?_ ?_ ?_ <;> (repeat' ((conv => whnf) <;> first | exact rfl | exact trivial | apply And.intro | exact Nat.zero_add _)); all_goals ((conv => whnf); try simp only []))
  simp [weighs]
def rulesAV (i : Nat) : AV := .agg [.fnil, .fnil, .fn (.func 113) [] [], .fn (.func 112) [] [], .fn (.func 113) [] [], .fn (.func 112) [] [],
  .fn (.func 114) [] [], .fn (.func 115) [] [], .fn (.func 116) [] [.ptr i 0], .fn (.func 112) [] []]
def plainC : Chunk := .cells 102 [.fn (.func 113) [] []]
theorem rulesM : Meets Tryz.prog 102 [] [] (Y := Unit) (fun _ => True) (fun _ => rulesAV 0) (fun _ => [plainC]) := by
  refine Meets.intro hm (fn := Tryz.f102) Tryz.func102 rfl (by decide) (Nat.le_of_ble_eq_true rfl) (fun _ => rfl) ?_; intro S hok; (conv => whnf)
  (repeat' ((conv => whnf); first | apply And.intro | exact ⟨by kernel_rfl⟩ | apply DrawN.mk | apply CodeN.step hm rfl | exact trivial | exact rfl | (intro hh; try simp only [bs] at hh))); all_goals (conv => whnf)
  (refine RetN.q () [1] ?_ ?_ ?_ <;> (repeat' ((conv => whnf) <;> first | exact rfl | exact trivial | apply And.intro | exact Nat.zero_add _)); all_goals ((conv => whnf); try simp only []))
theorem oneM (p : Pol) : Meets Tryz.prog 112 [polAV p] [] (Y := Unit) (fun _ => True) (fun _ => .int .i64 fun _ => 1) (fun _ => []) := by
  refine Meets.intro hm (fn := Tryz.f112) Tryz.func112 rfl (by decide) (Nat.le_of_ble_eq_true rfl) (fun _ => rfl) ?_; intro S hok; (conv => whnf)
  (repeat' ((conv => whnf); first | apply And.intro | exact ⟨by kernel_rfl⟩ | apply DrawN.mk | apply CodeN.step hm rfl | exact trivial | exact rfl | (intro hh; try simp only [bs] at hh))); all_goals (conv => whnf)
  (refine RetN.q () [] ?_ ?_ ?_ <;> (repeat' ((conv => whnf) <;> first | exact rfl | exact trivial | apply And.intro | exact Nat.zero_add _)); all_goals ((conv => whnf); try simp only []))
theorem plainM (p : Pol) : Meets Tryz.prog 113 [polAV p] [] (Y := Unit) (fun _ => True) (fun _ => .bool fun _ => decide (p.2.2.2 = 0)) (fun _ => []) := by
  refine Meets.intro hm (fn := Tryz.f113) Tryz.func113 rfl (by decide) (Nat.le_of_ble_eq_true rfl) (fun _ => rfl) ?_; intro S hok; (conv => whnf)
  (repeat' ((conv => whnf); first | apply And.intro | exact ⟨by kernel_rfl⟩ | apply DrawN.mk | apply CodeN.step hm rfl | exact trivial | exact rfl | (intro hh; try simp only [bs] at hh))); all_goals (conv => whnf)
  (refine RetN.q () [] ?_ ?_ ?_ <;> (repeat' ((conv => whnf) <;> first | exact rfl | exact trivial | apply And.intro | exact Nat.zero_add _)); all_goals ((conv => whnf); try simp only []))
theorem ringM (p : Pol) : Meets Tryz.prog 114 [polAV p] [] (Y := Unit) (fun _ => True) (fun _ => .bool fun _ => decide ((1 ≤ p.2.2.2 ∧ p.2.2.2 ≤ 16) ∧ p.2.2.1.tmod p.2.2.2 = 0)) (fun _ => []) := by
  refine Meets.intro hm (fn := Tryz.f114) Tryz.func114 rfl (by decide) (Nat.le_of_ble_eq_true rfl) (fun _ => rfl) ?_; intro S hok; (conv => whnf)
  (repeat' ((conv => whnf); first | apply And.intro | exact ⟨by kernel_rfl⟩ | apply DrawN.mk | apply CodeN.step hm rfl | exact trivial | exact rfl | (intro hh; try simp only [bs] at hh))); all_goals (conv => whnf)
  (refine CallN.q (withinM p.2.2.2 16) [] (fun y hy => ?_); (repeat' ((conv => whnf); first | apply And.intro | exact ⟨by kernel_rfl⟩ | apply DrawN.mk | apply CodeN.step hm rfl | exact trivial | exact rfl | (intro hh; try simp only [bs] at hh))); all_goals (conv => whnf))
  · refine Ob.mk ?_
    show p.2.2.2 ≠ 0
    omega
  · (refine RetN.q () [] ?_ ?_ ?_ <;> (repeat' ((conv => whnf) <;> first | exact rfl | exact trivial | apply And.intro | exact Nat.zero_add _)); all_goals ((conv => whnf); try simp only []))
    rw [Bool.eq_iff_iff]; simp [hh]
  · (refine RetN.q () [] ?_ ?_ ?_ <;> (repeat' ((conv => whnf) <;> first | exact rfl | exact trivial | apply And.intro | exact Nat.zero_add _)); all_goals ((conv => whnf); try simp only []))
    simp [hh]
theorem bucketsM (p : Pol) : Meets Tryz.prog 115 [polAV p] [] (Y := Unit) (fun _ => True) (fun _ => .int .i64 fun _ => p.2.2.2) (fun _ => []) := by
  refine Meets.intro hm (fn := Tryz.f115) Tryz.func115 rfl (by decide) (Nat.le_of_ble_eq_true rfl) (fun _ => rfl) ?_; intro S hok; (conv => whnf)
  (repeat' ((conv => whnf); first | apply And.intro | exact ⟨by kernel_rfl⟩ | apply DrawN.mk | apply CodeN.step hm rfl | exact trivial | exact rfl | (intro hh; try simp only [bs] at hh))); all_goals (conv => whnf)
  (refine RetN.q () [] ?_ ?_ ?_ <;> (repeat' ((conv => whnf) <;> first | exact rfl | exact trivial | apply And.intro | exact Nat.zero_add _)); all_goals ((conv => whnf); try simp only []))
theorem exactM (p : Pol) : Meets Tryz.prog 116 [polAV p, .ptr 0 0] [plainC] (Y := Unit) (fun _ => True) (fun _ => .bool fun _ => decide (p.2.2.2 = 0 ∧ p.2.1 ≤ 16)) (fun _ => [plainC]) := by
  refine Meets.intro hm (fn := Tryz.f116) Tryz.func116 rfl (by decide) (Nat.le_of_ble_eq_true rfl) (fun _ => rfl) ?_; intro S hok; (conv => whnf)
  (repeat' ((conv => whnf); first | apply And.intro | exact ⟨by kernel_rfl⟩ | apply DrawN.mk | apply CodeN.step hm rfl | exact trivial | exact rfl | (intro hh; try simp only [bs] at hh))); all_goals (conv => whnf)
  (refine CallN.q (plainM p) [] (fun y hy => ?_); (repeat' ((conv => whnf); first | apply And.intro | exact ⟨by kernel_rfl⟩ | apply DrawN.mk | apply CodeN.step hm rfl | exact trivial | exact rfl | (intro hh; try simp only [bs] at hh))); all_goals (conv => whnf))
  · (refine RetN.q () [0] ?_ ?_ ?_ <;> (repeat' ((conv => whnf) <;> first | exact rfl | exact trivial | apply And.intro | exact Nat.zero_add _)); all_goals ((conv => whnf); try simp only []))
    simp [hh]
  · (refine RetN.q () [0] ?_ ?_ ?_ <;> (repeat' ((conv => whnf) <;> first | exact rfl | exact trivial | apply And.intro | exact Nat.zero_add _)); all_goals ((conv => whnf); try simp only []))
    simp [hh]
theorem polOk_iff (k L W B : Int) : PolOk (k, L, W, B) ↔ (1 ≤ k ∧ k ≤ 4) ∧ (1 ≤ L ∧ L ≤ 1048576) ∧ (1 ≤ W ∧ W ≤ 1048576) ∧ (k = 3 → 1 ≤ B ∧ B ≤ 16 ∧ W.tmod B = 0) ∧ (k ≠ 3 → B = 0) ∧ (k = 4 → L ≤ 16) :=
  ⟨fun q => ⟨q.1, q.2, q.3, q.4, q.5, q.6⟩, fun h => ⟨h.1, h.2.1, h.2.2.1, h.2.2.2.1, h.2.2.2.2.1, h.2.2.2.2.2⟩⟩
theorem checkM (p : Pol) : Meets Tryz.prog 76 [polAV p] [] (Y := Unit) (fun _ => True) (fun _ => .int .i64 fun _ => if PolOk p then 0 else 1) (fun _ => []) := by
  by_cases hk : 1 ≤ p.1 ∧ p.1 ≤ 4
  · obtain ⟨k, L, W, B⟩ := p
    simp only [] at hk
    obtain rfl | rfl | rfl | rfl : k = 1 ∨ k = 2 ∨ k = 3 ∨ k = 4 := by omega
    · refine Meets.intro hm (fn := Tryz.f76) Tryz.func76 rfl (by decide) (Nat.le_of_ble_eq_true rfl) (fun _ => rfl) ?_; intro S hok; (conv => whnf)
      (repeat' ((conv => whnf); first | apply And.intro | exact ⟨by kernel_rfl⟩ | apply DrawN.mk | apply CodeN.step hm rfl | exact trivial | exact rfl | (intro hh; try simp only [bs] at hh))); all_goals (conv => whnf)
      (refine CallN.q (withinM 1 4) [] (fun _ _ => ?_); (repeat' ((conv => whnf); first | apply And.intro | exact ⟨by kernel_rfl⟩ | apply DrawN.mk | apply CodeN.step hm rfl | exact trivial | exact rfl | (intro hh; try simp only [bs] at hh; try exact absurd hh (by decide)))); all_goals (conv => whnf); all_goals try exact ⟨by decide⟩)
      (refine CallN.q (withinM L 1048576) [] (fun _ _ => ?_); (repeat' ((conv => whnf); first | apply And.intro | exact ⟨by kernel_rfl⟩ | apply DrawN.mk | apply CodeN.step hm rfl | exact trivial | exact rfl | (intro hh; try simp only [bs] at hh; try exact absurd hh (by decide)))); all_goals (conv => whnf); all_goals try exact ⟨by decide⟩)
      · (refine CallN.q (withinM W 1048576) [] (fun _ _ => ?_); (repeat' ((conv => whnf); first | apply And.intro | exact ⟨by kernel_rfl⟩ | apply DrawN.mk | apply CodeN.step hm rfl | exact trivial | exact rfl | (intro hh; try simp only [bs] at hh; try exact absurd hh (by decide)))); all_goals (conv => whnf); all_goals try exact ⟨by decide⟩)
        · (refine CallN.q rulesM [] (fun _ _ => ?_); (repeat' ((conv => whnf); first | apply And.intro | exact ⟨by kernel_rfl⟩ | apply DrawN.mk | apply CodeN.step hm rfl | exact trivial | exact rfl | (intro hh; try simp only [bs] at hh; try exact absurd hh (by decide)))); all_goals (conv => whnf); all_goals try exact ⟨by decide⟩)
          · exact Ob.mk (by simp only []; omega)
          (refine CallN.q (plainM (1, L, W, B)) [] (fun _ _ => ?_); (repeat' ((conv => whnf); first | apply And.intro | exact ⟨by kernel_rfl⟩ | apply DrawN.mk | apply CodeN.step hm rfl | exact trivial | exact rfl | (intro hh; try simp only [bs] at hh; try exact absurd hh (by decide)))); all_goals (conv => whnf); all_goals try exact ⟨by decide⟩)
          · (refine RetN.q () [] ?_ ?_ ?_ <;> (repeat' ((conv => whnf) <;> first | exact rfl | exact trivial | apply And.intro | exact Nat.zero_add _)); all_goals ((conv => whnf); try simp only []))
            rw [if_neg]
            rw [polOk_iff]; omega
          · (refine RetN.q () [] ?_ ?_ ?_ <;> (repeat' ((conv => whnf) <;> first | exact rfl | exact trivial | apply And.intro | exact Nat.zero_add _)); all_goals ((conv => whnf); try simp only []))
            rw [if_pos]
            rw [polOk_iff]; omega
        · (refine RetN.q () [] ?_ ?_ ?_ <;> (repeat' ((conv => whnf) <;> first | exact rfl | exact trivial | apply And.intro | exact Nat.zero_add _)); all_goals ((conv => whnf); try simp only []))
          rw [if_neg (fun h => hh h.window)]
      · (refine RetN.q () [] ?_ ?_ ?_ <;> (repeat' ((conv => whnf) <;> first | exact rfl | exact trivial | apply And.intro | exact Nat.zero_add _)); all_goals ((conv => whnf); try simp only []))
        rw [if_neg (fun h => hh h.limit)]
    · refine Meets.intro hm (fn := Tryz.f76) Tryz.func76 rfl (by decide) (Nat.le_of_ble_eq_true rfl) (fun _ => rfl) ?_; intro S hok; (conv => whnf)
      (repeat' ((conv => whnf); first | apply And.intro | exact ⟨by kernel_rfl⟩ | apply DrawN.mk | apply CodeN.step hm rfl | exact trivial | exact rfl | (intro hh; try simp only [bs] at hh))); all_goals (conv => whnf)
      (refine CallN.q (withinM 2 4) [] (fun _ _ => ?_); (repeat' ((conv => whnf); first | apply And.intro | exact ⟨by kernel_rfl⟩ | apply DrawN.mk | apply CodeN.step hm rfl | exact trivial | exact rfl | (intro hh; try simp only [bs] at hh; try exact absurd hh (by decide)))); all_goals (conv => whnf); all_goals try exact ⟨by decide⟩)
      (refine CallN.q (withinM L 1048576) [] (fun _ _ => ?_); (repeat' ((conv => whnf); first | apply And.intro | exact ⟨by kernel_rfl⟩ | apply DrawN.mk | apply CodeN.step hm rfl | exact trivial | exact rfl | (intro hh; try simp only [bs] at hh; try exact absurd hh (by decide)))); all_goals (conv => whnf); all_goals try exact ⟨by decide⟩)
      · (refine CallN.q (withinM W 1048576) [] (fun _ _ => ?_); (repeat' ((conv => whnf); first | apply And.intro | exact ⟨by kernel_rfl⟩ | apply DrawN.mk | apply CodeN.step hm rfl | exact trivial | exact rfl | (intro hh; try simp only [bs] at hh; try exact absurd hh (by decide)))); all_goals (conv => whnf); all_goals try exact ⟨by decide⟩)
        · (refine CallN.q rulesM [] (fun _ _ => ?_); (repeat' ((conv => whnf); first | apply And.intro | exact ⟨by kernel_rfl⟩ | apply DrawN.mk | apply CodeN.step hm rfl | exact trivial | exact rfl | (intro hh; try simp only [bs] at hh; try exact absurd hh (by decide)))); all_goals (conv => whnf); all_goals try exact ⟨by decide⟩)
          · exact Ob.mk (by simp only []; omega)
          (refine CallN.q (plainM (2, L, W, B)) [] (fun _ _ => ?_); (repeat' ((conv => whnf); first | apply And.intro | exact ⟨by kernel_rfl⟩ | apply DrawN.mk | apply CodeN.step hm rfl | exact trivial | exact rfl | (intro hh; try simp only [bs] at hh; try exact absurd hh (by decide)))); all_goals (conv => whnf); all_goals try exact ⟨by decide⟩)
          · (refine RetN.q () [] ?_ ?_ ?_ <;> (repeat' ((conv => whnf) <;> first | exact rfl | exact trivial | apply And.intro | exact Nat.zero_add _)); all_goals ((conv => whnf); try simp only []))
            rw [if_neg]
            rw [polOk_iff]; omega
          · (refine RetN.q () [] ?_ ?_ ?_ <;> (repeat' ((conv => whnf) <;> first | exact rfl | exact trivial | apply And.intro | exact Nat.zero_add _)); all_goals ((conv => whnf); try simp only []))
            rw [if_pos]
            rw [polOk_iff]; omega
        · (refine RetN.q () [] ?_ ?_ ?_ <;> (repeat' ((conv => whnf) <;> first | exact rfl | exact trivial | apply And.intro | exact Nat.zero_add _)); all_goals ((conv => whnf); try simp only []))
          rw [if_neg (fun h => hh h.window)]
      · (refine RetN.q () [] ?_ ?_ ?_ <;> (repeat' ((conv => whnf) <;> first | exact rfl | exact trivial | apply And.intro | exact Nat.zero_add _)); all_goals ((conv => whnf); try simp only []))
        rw [if_neg (fun h => hh h.limit)]
    · refine Meets.intro hm (fn := Tryz.f76) Tryz.func76 rfl (by decide) (Nat.le_of_ble_eq_true rfl) (fun _ => rfl) ?_; intro S hok; (conv => whnf)
      (repeat' ((conv => whnf); first | apply And.intro | exact ⟨by kernel_rfl⟩ | apply DrawN.mk | apply CodeN.step hm rfl | exact trivial | exact rfl | (intro hh; try simp only [bs] at hh))); all_goals (conv => whnf)
      (refine CallN.q (withinM 3 4) [] (fun _ _ => ?_); (repeat' ((conv => whnf); first | apply And.intro | exact ⟨by kernel_rfl⟩ | apply DrawN.mk | apply CodeN.step hm rfl | exact trivial | exact rfl | (intro hh; try simp only [bs] at hh; try exact absurd hh (by decide)))); all_goals (conv => whnf); all_goals try exact ⟨by decide⟩)
      (refine CallN.q (withinM L 1048576) [] (fun _ _ => ?_); (repeat' ((conv => whnf); first | apply And.intro | exact ⟨by kernel_rfl⟩ | apply DrawN.mk | apply CodeN.step hm rfl | exact trivial | exact rfl | (intro hh; try simp only [bs] at hh; try exact absurd hh (by decide)))); all_goals (conv => whnf); all_goals try exact ⟨by decide⟩)
      · (refine CallN.q (withinM W 1048576) [] (fun _ _ => ?_); (repeat' ((conv => whnf); first | apply And.intro | exact ⟨by kernel_rfl⟩ | apply DrawN.mk | apply CodeN.step hm rfl | exact trivial | exact rfl | (intro hh; try simp only [bs] at hh; try exact absurd hh (by decide)))); all_goals (conv => whnf); all_goals try exact ⟨by decide⟩)
        · (refine CallN.q rulesM [] (fun _ _ => ?_); (repeat' ((conv => whnf); first | apply And.intro | exact ⟨by kernel_rfl⟩ | apply DrawN.mk | apply CodeN.step hm rfl | exact trivial | exact rfl | (intro hh; try simp only [bs] at hh; try exact absurd hh (by decide)))); all_goals (conv => whnf); all_goals try exact ⟨by decide⟩)
          · exact Ob.mk (by simp only []; omega)
          (refine CallN.q (ringM (3, L, W, B)) [] (fun _ _ => ?_); (repeat' ((conv => whnf); first | apply And.intro | exact ⟨by kernel_rfl⟩ | apply DrawN.mk | apply CodeN.step hm rfl | exact trivial | exact rfl | (intro hh; try simp only [bs] at hh; try exact absurd hh (by decide)))); all_goals (conv => whnf); all_goals try exact ⟨by decide⟩)
          · (refine RetN.q () [] ?_ ?_ ?_ <;> (repeat' ((conv => whnf) <;> first | exact rfl | exact trivial | apply And.intro | exact Nat.zero_add _)); all_goals ((conv => whnf); try simp only []))
            rw [if_neg]
            rw [polOk_iff]; omega
          · (refine RetN.q () [] ?_ ?_ ?_ <;> (repeat' ((conv => whnf) <;> first | exact rfl | exact trivial | apply And.intro | exact Nat.zero_add _)); all_goals ((conv => whnf); try simp only []))
            rw [if_pos]
            rw [polOk_iff]; omega
        · (refine RetN.q () [] ?_ ?_ ?_ <;> (repeat' ((conv => whnf) <;> first | exact rfl | exact trivial | apply And.intro | exact Nat.zero_add _)); all_goals ((conv => whnf); try simp only []))
          rw [if_neg (fun h => hh h.window)]
      · (refine RetN.q () [] ?_ ?_ ?_ <;> (repeat' ((conv => whnf) <;> first | exact rfl | exact trivial | apply And.intro | exact Nat.zero_add _)); all_goals ((conv => whnf); try simp only []))
        rw [if_neg (fun h => hh h.limit)]
    · refine Meets.intro hm (fn := Tryz.f76) Tryz.func76 rfl (by decide) (Nat.le_of_ble_eq_true rfl) (fun _ => rfl) ?_; intro S hok; (conv => whnf)
      (repeat' ((conv => whnf); first | apply And.intro | exact ⟨by kernel_rfl⟩ | apply DrawN.mk | apply CodeN.step hm rfl | exact trivial | exact rfl | (intro hh; try simp only [bs] at hh))); all_goals (conv => whnf)
      (refine CallN.q (withinM 4 4) [] (fun _ _ => ?_); (repeat' ((conv => whnf); first | apply And.intro | exact ⟨by kernel_rfl⟩ | apply DrawN.mk | apply CodeN.step hm rfl | exact trivial | exact rfl | (intro hh; try simp only [bs] at hh; try exact absurd hh (by decide)))); all_goals (conv => whnf); all_goals try exact ⟨by decide⟩)
      (refine CallN.q (withinM L 1048576) [] (fun _ _ => ?_); (repeat' ((conv => whnf); first | apply And.intro | exact ⟨by kernel_rfl⟩ | apply DrawN.mk | apply CodeN.step hm rfl | exact trivial | exact rfl | (intro hh; try simp only [bs] at hh; try exact absurd hh (by decide)))); all_goals (conv => whnf); all_goals try exact ⟨by decide⟩)
      · (refine CallN.q (withinM W 1048576) [] (fun _ _ => ?_); (repeat' ((conv => whnf); first | apply And.intro | exact ⟨by kernel_rfl⟩ | apply DrawN.mk | apply CodeN.step hm rfl | exact trivial | exact rfl | (intro hh; try simp only [bs] at hh; try exact absurd hh (by decide)))); all_goals (conv => whnf); all_goals try exact ⟨by decide⟩)
        · (refine CallN.q rulesM [] (fun _ _ => ?_); (repeat' ((conv => whnf); first | apply And.intro | exact ⟨by kernel_rfl⟩ | apply DrawN.mk | apply CodeN.step hm rfl | exact trivial | exact rfl | (intro hh; try simp only [bs] at hh; try exact absurd hh (by decide)))); all_goals (conv => whnf); all_goals try exact ⟨by decide⟩)
          · exact Ob.mk (by simp only []; omega)
          (refine CallN.q (exactM (4, L, W, B)) [1] (fun _ _ => ?_); (repeat' ((conv => whnf); first | apply And.intro | exact ⟨by kernel_rfl⟩ | apply DrawN.mk | apply CodeN.step hm rfl | exact trivial | exact rfl | (intro hh; try simp only [bs] at hh; try exact absurd hh (by decide)))); all_goals (conv => whnf); all_goals try exact ⟨by decide⟩)
          · (refine RetN.q () [] ?_ ?_ ?_ <;> (repeat' ((conv => whnf) <;> first | exact rfl | exact trivial | apply And.intro | exact Nat.zero_add _)); all_goals ((conv => whnf); try simp only []))
            rw [if_neg]
            rw [polOk_iff]; omega
          · (refine RetN.q () [] ?_ ?_ ?_ <;> (repeat' ((conv => whnf) <;> first | exact rfl | exact trivial | apply And.intro | exact Nat.zero_add _)); all_goals ((conv => whnf); try simp only []))
            rw [if_pos]
            rw [polOk_iff]; omega
        · (refine RetN.q () [] ?_ ?_ ?_ <;> (repeat' ((conv => whnf) <;> first | exact rfl | exact trivial | apply And.intro | exact Nat.zero_add _)); all_goals ((conv => whnf); try simp only []))
          rw [if_neg (fun h => hh h.window)]
      · (refine RetN.q () [] ?_ ?_ ?_ <;> (repeat' ((conv => whnf) <;> first | exact rfl | exact trivial | apply And.intro | exact Nat.zero_add _)); all_goals ((conv => whnf); try simp only []))
        rw [if_neg (fun h => hh h.limit)]
  · refine Meets.intro hm (fn := Tryz.f76) Tryz.func76 rfl (by decide) (Nat.le_of_ble_eq_true rfl) (fun _ => rfl) ?_; intro S hok; (conv => whnf)
    (repeat' ((conv => whnf); first | apply And.intro | exact ⟨by kernel_rfl⟩ | apply DrawN.mk | apply CodeN.step hm rfl | exact trivial | exact rfl | (intro hh; try simp only [bs] at hh))); all_goals (conv => whnf)
    (refine CallN.q (withinM p.1 4) [] (fun y hy => ?_); (repeat' ((conv => whnf); first | apply And.intro | exact ⟨by kernel_rfl⟩ | apply DrawN.mk | apply CodeN.step hm rfl | exact trivial | exact rfl | (intro hh; try simp only [bs] at hh))); all_goals (conv => whnf))
    · exact (hk hh).elim
    · (refine RetN.q () [] ?_ ?_ ?_ <;> (repeat' ((conv => whnf) <;> first | exact rfl | exact trivial | apply And.intro | exact Nat.zero_add _)); all_goals ((conv => whnf); try simp only []))
      rw [if_neg (fun h => hk h.kind)]
end Go.Proofs.YtkcifdblaboodaaGreat.Po
set_option linter.unusedVariables false
set_option linter.unusedSimpArgs false
namespace Go.Proofs.YtkcifdblaboodaaGreat.Po
open Go Go.RowKit Fw Hi
theorem slotM (p : Pol) : Meets Tryz.prog 107 [polAV p] [] (Y := Unit) (fun _ => True) (fun _ => .int .i64 fun _ => if PolOk p then slotOf p else 0) (fun _ => []) := by
  by_cases hp : PolOk p
  · obtain ⟨k, L, W, B⟩ := p
    have hk := hp.kind
    have hW := hp.window
    simp only [] at hk hW
    obtain rfl | rfl | rfl | rfl : k = 1 ∨ k = 2 ∨ k = 3 ∨ k = 4 := by omega
    · refine Meets.intro hm (fn := Tryz.f107) Tryz.func107 rfl (by decide) (Nat.le_of_ble_eq_true rfl) (fun _ => rfl) ?_; intro S hok; (conv => whnf)
      (repeat' ((conv => whnf); first | apply And.intro | exact ⟨by kernel_rfl⟩ | apply DrawN.mk | apply CodeN.step hm rfl | exact trivial | exact rfl | (intro hh; try simp only [bs] at hh))); all_goals (conv => whnf)
      refine CallN.intro (checkM (1, L, W, B)) [] rfl rfl ?_ ?_ ?_
      · (repeat' ((conv => whnf) <;> first | exact rfl | exact trivial | apply And.intro | exact Nat.zero_add _))
      · (repeat' ((conv => whnf) <;> first | exact rfl | exact trivial | apply And.intro | exact Nat.zero_add _))
      intro y hy
      rw [if_pos hp]
      (repeat' ((conv => whnf); first | apply And.intro | exact ⟨by kernel_rfl⟩ | apply DrawN.mk | apply CodeN.step hm rfl | exact trivial | exact rfl | (intro hh; try simp only [bs] at hh; try exact absurd hh (by decide)))); all_goals (conv => whnf)
      (refine CallN.q rulesM [] (fun _ _ => ?_); (repeat' ((conv => whnf); first | apply And.intro | exact ⟨by kernel_rfl⟩ | apply DrawN.mk | apply CodeN.step hm rfl | exact trivial | exact rfl | (intro hh; try simp only [bs] at hh; try exact absurd hh (by decide)))); all_goals (conv => whnf); all_goals try exact ⟨by decide⟩)
      · exact Ob.mk (by simp only []; omega)
      (refine CallN.q (oneM (1, L, W, B)) [] (fun _ _ => ?_); (repeat' ((conv => whnf); first | apply And.intro | exact ⟨by kernel_rfl⟩ | apply DrawN.mk | apply CodeN.step hm rfl | exact trivial | exact rfl | (intro hh; try simp only [bs] at hh; try exact absurd hh (by decide)))); all_goals (conv => whnf); all_goals try exact ⟨by decide⟩)
      all_goals first | (refine Ob.mk ?_; show (B : Int) ≠ 0; have := hp.ring rfl; simp only [] at this; omega) | skip
      (refine RetN.q () [] ?_ ?_ ?_ <;> (repeat' ((conv => whnf) <;> first | exact rfl | exact trivial | apply And.intro | exact Nat.zero_add _)); all_goals ((conv => whnf); try simp only []))
      rw [if_pos hp]
      simp only [slotOf]
      rw [if_neg (by omega)]; rw [Int.tdiv_one]; exact wr (by omega)
    · refine Meets.intro hm (fn := Tryz.f107) Tryz.func107 rfl (by decide) (Nat.le_of_ble_eq_true rfl) (fun _ => rfl) ?_; intro S hok; (conv => whnf)
      (repeat' ((conv => whnf); first | apply And.intro | exact ⟨by kernel_rfl⟩ | apply DrawN.mk | apply CodeN.step hm rfl | exact trivial | exact rfl | (intro hh; try simp only [bs] at hh))); all_goals (conv => whnf)
      refine CallN.intro (checkM (2, L, W, B)) [] rfl rfl ?_ ?_ ?_
      · (repeat' ((conv => whnf) <;> first | exact rfl | exact trivial | apply And.intro | exact Nat.zero_add _))
      · (repeat' ((conv => whnf) <;> first | exact rfl | exact trivial | apply And.intro | exact Nat.zero_add _))
      intro y hy
      rw [if_pos hp]
      (repeat' ((conv => whnf); first | apply And.intro | exact ⟨by kernel_rfl⟩ | apply DrawN.mk | apply CodeN.step hm rfl | exact trivial | exact rfl | (intro hh; try simp only [bs] at hh; try exact absurd hh (by decide)))); all_goals (conv => whnf)
      (refine CallN.q rulesM [] (fun _ _ => ?_); (repeat' ((conv => whnf); first | apply And.intro | exact ⟨by kernel_rfl⟩ | apply DrawN.mk | apply CodeN.step hm rfl | exact trivial | exact rfl | (intro hh; try simp only [bs] at hh; try exact absurd hh (by decide)))); all_goals (conv => whnf); all_goals try exact ⟨by decide⟩)
      · exact Ob.mk (by simp only []; omega)
      (refine CallN.q (oneM (2, L, W, B)) [] (fun _ _ => ?_); (repeat' ((conv => whnf); first | apply And.intro | exact ⟨by kernel_rfl⟩ | apply DrawN.mk | apply CodeN.step hm rfl | exact trivial | exact rfl | (intro hh; try simp only [bs] at hh; try exact absurd hh (by decide)))); all_goals (conv => whnf); all_goals try exact ⟨by decide⟩)
      all_goals first | (refine Ob.mk ?_; show (B : Int) ≠ 0; have := hp.ring rfl; simp only [] at this; omega) | skip
      (refine RetN.q () [] ?_ ?_ ?_ <;> (repeat' ((conv => whnf) <;> first | exact rfl | exact trivial | apply And.intro | exact Nat.zero_add _)); all_goals ((conv => whnf); try simp only []))
      rw [if_pos hp]
      simp only [slotOf]
      rw [if_neg (by omega)]; rw [Int.tdiv_one]; exact wr (by omega)
    · refine Meets.intro hm (fn := Tryz.f107) Tryz.func107 rfl (by decide) (Nat.le_of_ble_eq_true rfl) (fun _ => rfl) ?_; intro S hok; (conv => whnf)
      (repeat' ((conv => whnf); first | apply And.intro | exact ⟨by kernel_rfl⟩ | apply DrawN.mk | apply CodeN.step hm rfl | exact trivial | exact rfl | (intro hh; try simp only [bs] at hh))); all_goals (conv => whnf)
      refine CallN.intro (checkM (3, L, W, B)) [] rfl rfl ?_ ?_ ?_
      · (repeat' ((conv => whnf) <;> first | exact rfl | exact trivial | apply And.intro | exact Nat.zero_add _))
      · (repeat' ((conv => whnf) <;> first | exact rfl | exact trivial | apply And.intro | exact Nat.zero_add _))
      intro y hy
      rw [if_pos hp]
      (repeat' ((conv => whnf); first | apply And.intro | exact ⟨by kernel_rfl⟩ | apply DrawN.mk | apply CodeN.step hm rfl | exact trivial | exact rfl | (intro hh; try simp only [bs] at hh; try exact absurd hh (by decide)))); all_goals (conv => whnf)
      (refine CallN.q rulesM [] (fun _ _ => ?_); (repeat' ((conv => whnf); first | apply And.intro | exact ⟨by kernel_rfl⟩ | apply DrawN.mk | apply CodeN.step hm rfl | exact trivial | exact rfl | (intro hh; try simp only [bs] at hh; try exact absurd hh (by decide)))); all_goals (conv => whnf); all_goals try exact ⟨by decide⟩)
      · exact Ob.mk (by simp only []; omega)
      (refine CallN.q (bucketsM (3, L, W, B)) [] (fun _ _ => ?_); (repeat' ((conv => whnf); first | apply And.intro | exact ⟨by kernel_rfl⟩ | apply DrawN.mk | apply CodeN.step hm rfl | exact trivial | exact rfl | (intro hh; try simp only [bs] at hh; try exact absurd hh (by decide)))); all_goals (conv => whnf); all_goals try exact ⟨by decide⟩)
      all_goals first | (refine Ob.mk ?_; show (B : Int) ≠ 0; have := hp.ring rfl; simp only [] at this; omega) | skip
      (refine RetN.q () [] ?_ ?_ ?_ <;> (repeat' ((conv => whnf) <;> first | exact rfl | exact trivial | apply And.intro | exact Nat.zero_add _)); all_goals ((conv => whnf); try simp only []))
      rw [if_pos hp]
      simp only [slotOf]
      have h1 := slot_bound hp; simp only [slotOf] at h1; simp only [if_true] at h1 ⊢; exact wr (by omega)
    · refine Meets.intro hm (fn := Tryz.f107) Tryz.func107 rfl (by decide) (Nat.le_of_ble_eq_true rfl) (fun _ => rfl) ?_; intro S hok; (conv => whnf)
      (repeat' ((conv => whnf); first | apply And.intro | exact ⟨by kernel_rfl⟩ | apply DrawN.mk | apply CodeN.step hm rfl | exact trivial | exact rfl | (intro hh; try simp only [bs] at hh))); all_goals (conv => whnf)
      refine CallN.intro (checkM (4, L, W, B)) [] rfl rfl ?_ ?_ ?_
      · (repeat' ((conv => whnf) <;> first | exact rfl | exact trivial | apply And.intro | exact Nat.zero_add _))
      · (repeat' ((conv => whnf) <;> first | exact rfl | exact trivial | apply And.intro | exact Nat.zero_add _))
      intro y hy
      rw [if_pos hp]
      (repeat' ((conv => whnf); first | apply And.intro | exact ⟨by kernel_rfl⟩ | apply DrawN.mk | apply CodeN.step hm rfl | exact trivial | exact rfl | (intro hh; try simp only [bs] at hh; try exact absurd hh (by decide)))); all_goals (conv => whnf)
      (refine CallN.q rulesM [] (fun _ _ => ?_); (repeat' ((conv => whnf); first | apply And.intro | exact ⟨by kernel_rfl⟩ | apply DrawN.mk | apply CodeN.step hm rfl | exact trivial | exact rfl | (intro hh; try simp only [bs] at hh; try exact absurd hh (by decide)))); all_goals (conv => whnf); all_goals try exact ⟨by decide⟩)
      · exact Ob.mk (by simp only []; omega)
      (refine CallN.q (oneM (4, L, W, B)) [] (fun _ _ => ?_); (repeat' ((conv => whnf); first | apply And.intro | exact ⟨by kernel_rfl⟩ | apply DrawN.mk | apply CodeN.step hm rfl | exact trivial | exact rfl | (intro hh; try simp only [bs] at hh; try exact absurd hh (by decide)))); all_goals (conv => whnf); all_goals try exact ⟨by decide⟩)
      all_goals first | (refine Ob.mk ?_; show (B : Int) ≠ 0; have := hp.ring rfl; simp only [] at this; omega) | skip
      (refine RetN.q () [] ?_ ?_ ?_ <;> (repeat' ((conv => whnf) <;> first | exact rfl | exact trivial | apply And.intro | exact Nat.zero_add _)); all_goals ((conv => whnf); try simp only []))
      rw [if_pos hp]
      simp only [slotOf]
      rw [if_neg (by omega)]; rw [Int.tdiv_one]; exact wr (by omega)
  · refine Meets.intro hm (fn := Tryz.f107) Tryz.func107 rfl (by decide) (Nat.le_of_ble_eq_true rfl) (fun _ => rfl) ?_; intro S hok; (conv => whnf)
    (repeat' ((conv => whnf); first | apply And.intro | exact ⟨by kernel_rfl⟩ | apply DrawN.mk | apply CodeN.step hm rfl | exact trivial | exact rfl | (intro hh; try simp only [bs] at hh))); all_goals (conv => whnf)
    refine CallN.intro (checkM p) [] rfl rfl ?_ ?_ ?_
    · (repeat' ((conv => whnf) <;> first | exact rfl | exact trivial | apply And.intro | exact Nat.zero_add _))
    · (repeat' ((conv => whnf) <;> first | exact rfl | exact trivial | apply And.intro | exact Nat.zero_add _))
    intro y hy
    rw [if_neg hp]
    (repeat' ((conv => whnf); first | apply And.intro | exact ⟨by kernel_rfl⟩ | apply DrawN.mk | apply CodeN.step hm rfl | exact trivial | exact rfl | (intro hh; try simp only [bs] at hh; try exact absurd hh (by decide)))); all_goals (conv => whnf)
    (refine RetN.q () [] ?_ ?_ ?_ <;> (repeat' ((conv => whnf) <;> first | exact rfl | exact trivial | apply And.intro | exact Nat.zero_add _)); all_goals ((conv => whnf); try simp only []))
    rw [if_neg hp]
theorem rcheckM (p : Pol) : Meets Tryz.prog 64 [polAV p] [] (Y := Unit) (fun _ => True) (fun _ => .int .i64 fun _ => if PolOk p then 0 else 1) (fun _ => []) := by
  obtain ⟨k, L, W, B⟩ := p
  refine Meets.intro hm (fn := Tryz.f64) Tryz.func64 rfl (by decide) (Nat.le_of_ble_eq_true rfl) (fun _ => rfl) ?_; intro S hok; (conv => whnf)
  (repeat' ((conv => whnf); first | apply And.intro | exact ⟨by kernel_rfl⟩ | apply DrawN.mk | apply CodeN.step hm rfl | exact trivial | exact rfl | (intro hh; try simp only [bs] at hh))); all_goals (conv => whnf)
  all_goals first
    | (exfalso; omega)
    | (refine Ob.mk ?_; show (B : Int) ≠ 0; omega)
    | ((refine RetN.q () [] ?_ ?_ ?_ <;> (repeat' ((conv => whnf) <;> first | exact rfl | exact trivial | apply And.intro | exact Nat.zero_add _)); all_goals ((conv => whnf); try simp only [])); rw [if_pos (by rw [polOk_iff]; omega)])
    | ((refine RetN.q () [] ?_ ?_ ?_ <;> (repeat' ((conv => whnf) <;> first | exact rfl | exact trivial | apply And.intro | exact Nat.zero_add _)); all_goals ((conv => whnf); try simp only [])); rw [if_neg (by rw [polOk_iff]; omega)])
theorem rweighsM (n : Int) : Meets Tryz.prog 54 [.int .i64 fun _ => n] [] (Y := Unit) (fun _ => True) (fun _ => .bool fun _ => weighs n) (fun _ => []) := by
  refine Meets.intro hm (fn := Tryz.f54) Tryz.func54 rfl (by decide) (Nat.le_of_ble_eq_true rfl) (fun _ => rfl) ?_; intro S hok; (conv => whnf)
  (repeat' ((conv => whnf); first | apply And.intro | exact ⟨by kernel_rfl⟩ | apply DrawN.mk | apply CodeN.step hm rfl | exact trivial | exact rfl | (intro hh; try simp only [bs] at hh))); all_goals (conv => whnf)
  · (refine RetN.q () [] ?_ ?_ ?_ <;> (repeat' ((conv => whnf) <;> first | exact rfl | exact trivial | apply And.intro | exact Nat.zero_add _)); all_goals ((conv => whnf); try simp only []))
    simp [weighs, hh]
  · (refine RetN.q () [] ?_ ?_ ?_ <;> (repeat' ((conv => whnf) <;> first | exact rfl | exact trivial | apply And.intro | exact Nat.zero_add _)); all_goals ((conv => whnf); try simp only []))
    simp [weighs, hh]
end Go.Proofs.YtkcifdblaboodaaGreat.Po
set_option linter.unusedVariables false
set_option linter.unusedSimpArgs false
namespace Go.Proofs.YtkcifdblaboodaaGreat.Ce
open Go Go.RowKit Fw Hi Po
theorem wru {x : Int} (h : 0 ≤ x ∧ x < 18446744073709551616) : IntKind.u64.wrap x = x := by simp [IntKind.wrap, IntKind.bits, IntKind.signed]; omega
theorem partsM (n : Int) (hn : 0 ≤ n ∧ n < 18446744073709551616) : Meets Tryz.prog 117 [.int .u64 fun _ => n] [] (Y := Unit) (fun _ => True) (fun _ => .tup [.int .u64 fun _ => n / 4294967296, .int .u64 fun _ => n % 4294967296]) (fun _ => []) := by
  refine Meets.intro hm (fn := Tryz.f117) Tryz.func117 rfl (by decide) (Nat.le_of_ble_eq_true rfl) (fun _ => rfl) ?_; intro S hok; (conv => whnf)
  (repeat' ((conv => whnf); first | apply And.intro | exact ⟨by kernel_rfl⟩ | apply DrawN.mk | apply CodeN.step hm rfl | exact trivial | exact rfl | (intro hh; try simp only [bs] at hh))); all_goals (conv => whnf)
  · exact Ob.mk (by decide)
  · (refine RetN.q () [] ?_ ?_ ?_ <;> (repeat' ((conv => whnf) <;> first | exact rfl | exact trivial | apply And.intro | exact Nat.zero_add _)); all_goals ((conv => whnf); try simp only []))
    · rw [Int.fdiv_eq_ediv_of_nonneg _ (by decide)]; rfl
    · have h32 : ∀ x : Int, IntKind.u32.wrap x = x % 4294967296 := fun x => by simp [IntKind.wrap, IntKind.bits, IntKind.signed]
      rw [h32, wru (by omega)]
theorem addM (a b : Int) (ha : 0 ≤ a ∧ 0 ≤ b ∧ a + b ≤ 9223372036854775807) : Meets Tryz.prog 118 [.int .u64 fun _ => a, .int .u64 fun _ => b, .int .u64 fun _ => 9223372036854775807] [] (Y := Unit) (fun _ => True) (fun _ => .int .u64 fun _ => a + b) (fun _ => []) := by
  refine Meets.intro hm (fn := Tryz.f118) Tryz.func118 rfl (by decide) (Nat.le_of_ble_eq_true rfl) (fun _ => rfl) ?_; intro S hok; (conv => whnf)
  (repeat' ((conv => whnf); first | apply And.intro | exact ⟨by kernel_rfl⟩ | apply DrawN.mk | apply CodeN.step hm rfl | exact trivial | exact rfl | (intro hh; try simp only [bs] at hh))); all_goals (conv => whnf)
  · exfalso; rw [wru (by omega)] at hh; omega
  · (refine RetN.q () [] ?_ ?_ ?_ <;> (repeat' ((conv => whnf) <;> first | exact rfl | exact trivial | apply And.intro | exact Nat.zero_add _)); all_goals ((conv => whnf); try simp only []))
    rw [wru (by omega), if_neg (by omega)]
theorem mulM (a b : Int) (ha : 0 ≤ a ∧ a ≤ 1099511627776) (hb : 0 ≤ b ∧ b ≤ 1048576) : Meets Tryz.prog 103 [.int .u64 fun _ => a, .int .u64 fun _ => b, .int .u64 fun _ => 9223372036854775807] [] (Y := Unit) (fun _ => True) (fun _ => .int .u64 fun _ => a * b) (fun _ => []) := by
  refine Meets.intro hm (fn := Tryz.f103) Tryz.func103 rfl (by decide) (Nat.le_of_ble_eq_true rfl) (fun _ => rfl) ?_; intro S hok; (conv => whnf)
  (repeat' ((conv => whnf); first | apply And.intro | exact ⟨by kernel_rfl⟩ | apply DrawN.mk | apply CodeN.step hm rfl | exact trivial | exact rfl | (intro hh; try simp only [bs] at hh))); all_goals (conv => whnf)
  have e4 : b / 4294967296 = 0 := by omega
  have e5 : b % 4294967296 = b := by omega
  have h1 : 0 ≤ a / 4294967296 ∧ a / 4294967296 ≤ 256 := by omega
  have h2 : 0 ≤ a % 4294967296 ∧ a % 4294967296 < 4294967296 := by omega
  have hq : a = 4294967296 * (a / 4294967296) + a % 4294967296 := by omega
  have h3 : 0 ≤ a / 4294967296 * b ∧ a / 4294967296 * b ≤ 256 * 1048576 := ⟨Int.mul_nonneg h1.1 hb.1, Int.mul_le_mul h1.2 hb.2 hb.1 (by omega)⟩
  have h4 : 0 ≤ a % 4294967296 * b ∧ a % 4294967296 * b ≤ 4294967296 * 1048576 := ⟨Int.mul_nonneg h2.1 hb.1, Int.mul_le_mul (by omega) hb.2 hb.1 (by omega)⟩
  have h5 : a * b = 4294967296 * (a / 4294967296 * b) + a % 4294967296 * b := by
    conv => lhs; rw [hq]
    rw [Int.add_mul, Int.mul_assoc]
  have ec : IntKind.u64.wrap (IntKind.u64.wrap (a / 4294967296 * (b % 4294967296)) + IntKind.u64.wrap (a % 4294967296 * (b / 4294967296))) = a / 4294967296 * b := by
    have w1 := wru (x := a / 4294967296 * b) (by omega)
    rw [e4, e5, Int.mul_zero, w1, wru (x := 0) (by omega), Int.add_zero, w1]
  have e32 : (2 : Int) ^ min (Int.toNat 32) IntKind.u64.bits = 4294967296 := by decide
  (refine CallN.q (partsM a (by omega)) [] (fun _ _ => ?_); (repeat' ((conv => whnf); first | apply And.intro | exact ⟨by kernel_rfl⟩ | apply DrawN.mk | apply CodeN.step hm rfl | exact trivial | exact rfl | (intro hh; try simp only [bs] at hh; try exact absurd hh (by decide)))); all_goals (conv => whnf); all_goals try exact ⟨by decide⟩)
  (refine CallN.q (partsM b (by omega)) [] (fun _ _ => ?_); (repeat' ((conv => whnf); first | apply And.intro | exact ⟨by kernel_rfl⟩ | apply DrawN.mk | apply CodeN.step hm rfl | exact trivial | exact rfl | (intro hh; try simp only [bs] at hh; try exact absurd hh (by decide)))); all_goals (conv => whnf); all_goals try exact ⟨by decide⟩)
  all_goals first
    | (exfalso; omega)
    | (exfalso; rw [ec, e32, Int.fdiv_eq_ediv_of_nonneg _ (by decide)] at hh; omega)
    | skip
  all_goals
    refine CallN.q (addM (4294967296 * (a / 4294967296 * b)) (a % 4294967296 * b) (by omega)) [] ?_ rfl rfl ?_ trivial
    rotate_left
    · (repeat' ((conv => whnf) <;> first | exact rfl | exact trivial | apply And.intro | exact Nat.zero_add _))
      · show IntKind.u64.wrap (IntKind.u64.wrap (IntKind.u64.wrap (a / 4294967296 * (b % 4294967296)) + IntKind.u64.wrap (a % 4294967296 * (b / 4294967296))) * (2 : Int) ^ min (Int.toNat 32) IntKind.u64.bits) = _
        rw [ec, e32, wru (by omega), Int.mul_comm]
      · show IntKind.u64.wrap (a % 4294967296 * (b % 4294967296)) = _
        rw [e5, wru (by omega)]
    intro _ _
    (repeat' ((conv => whnf); first | apply And.intro | exact ⟨by kernel_rfl⟩ | apply DrawN.mk | apply CodeN.step hm rfl | exact trivial | exact rfl | (intro hh; try simp only [bs] at hh; try exact absurd hh (by decide)))); all_goals (conv => whnf)
    (refine RetN.q () [] ?_ ?_ ?_ <;> (repeat' ((conv => whnf) <;> first | exact rfl | exact trivial | apply And.intro | exact Nat.zero_add _)); all_goals ((conv => whnf); try simp only []))
    exact h5.symm
theorem subM (a b : Int) (ha : 0 ≤ a ∧ a < 18446744073709551616) (hb : 0 ≤ b ∧ b < 18446744073709551616) : Meets Tryz.prog 105 [.int .u64 fun _ => a, .int .u64 fun _ => b] [] (Y := Unit) (fun _ => True) (fun _ => .int .u64 fun _ => max 0 (a - b)) (fun _ => []) := by
  refine Meets.intro hm (fn := Tryz.f105) Tryz.func105 rfl (by decide) (Nat.le_of_ble_eq_true rfl) (fun _ => rfl) ?_; intro S hok; (conv => whnf)
  (repeat' ((conv => whnf); first | apply And.intro | exact ⟨by kernel_rfl⟩ | apply DrawN.mk | apply CodeN.step hm rfl | exact trivial | exact rfl | (intro hh; try simp only [bs] at hh))); all_goals (conv => whnf)
  (refine RetN.q () [] ?_ ?_ ?_ <;> (repeat' ((conv => whnf) <;> first | exact rfl | exact trivial | apply And.intro | exact Nat.zero_add _)); all_goals ((conv => whnf); try simp only []))
  have : IntKind.u64.wrap (a - if b < a then b else a) = _ := wru (by split <;> omega)
  rw [this]
  split <;> omega
theorem upM (a b : Int) (ha : 0 ≤ a ∧ a < 9223372036854775808) (hb : 1 ≤ b ∧ b < 18446744073709551616) : Meets Tryz.prog 106 [.int .u64 fun _ => a, .int .u64 fun _ => b] [] (Y := Unit) (fun _ => True) (fun _ => .int .u64 fun _ => up a b) (fun _ => []) := by
  refine Meets.intro hm (fn := Tryz.f106) Tryz.func106 rfl (by decide) (Nat.le_of_ble_eq_true rfl) (fun _ => rfl) ?_; intro S hok; (conv => whnf)
  (repeat' ((conv => whnf); first | apply And.intro | exact ⟨by kernel_rfl⟩ | apply DrawN.mk | apply CodeN.step hm rfl | exact trivial | exact rfl | (intro hh; try simp only [bs] at hh))); all_goals (conv => whnf)
  · exfalso; omega
  · exact Ob.mk hh
  · exact Ob.mk hh
  · (refine RetN.q () [] ?_ ?_ ?_ <;> (repeat' ((conv => whnf) <;> first | exact rfl | exact trivial | apply And.intro | exact Nat.zero_add _)); all_goals ((conv => whnf); try simp only []))
    have h1 : 0 ≤ a / b ∧ a / b ≤ a := ⟨Int.ediv_nonneg ha.1 (by omega), Int.ediv_le_self b ha.1⟩
    have h2 := Int.emod_nonneg a (show b ≠ 0 by omega)
    show IntKind.u64.wrap (IntKind.u64.wrap (a.tdiv b) + if 1 < a.tmod b then 1 else a.tmod b) = up a b
    rw [Int.tdiv_eq_ediv_of_nonneg ha.1, Int.tmod_eq_emod_of_nonneg ha.1, wru (x := a / b) (by omega)]
    unfold up
    have e : (if 1 < a % b then 1 else a % b) = min (a % b) 1 := by split <;> omega
    rw [e, wru (by omega)]
end Go.Proofs.YtkcifdblaboodaaGreat.Ce
set_option linter.unusedVariables false
set_option linter.unusedSimpArgs false
namespace Go.Proofs.YtkcifdblaboodaaGreat.Ce
open Go Go.RowKit Fw Hi Po
theorem check_ok {p : Pol} (hp : PolOk p) : Meets Tryz.prog 76 [polAV p] [] (Y := Unit) (fun _ => True) (fun _ => .int .i64 fun _ => 0) (fun _ => []) := by
  have := checkM p; rw [if_pos hp] at this; exact this
theorem check_no {p : Pol} (hp : ¬ PolOk p) : Meets Tryz.prog 76 [polAV p] [] (Y := Unit) (fun _ => True) (fun _ => .int .i64 fun _ => 1) (fun _ => []) := by
  have := checkM p; rw [if_neg hp] at this; exact this
theorem gtimeM (t : Int) : Meets Tryz.prog 77 [.int .i64 fun _ => t] [] (Y := Unit) (fun _ => True) (fun _ => .bool fun _ => timeB t) (fun _ => []) := by
  refine Meets.intro hm (fn := Tryz.f77) Tryz.func77 rfl (by decide) (Nat.le_of_ble_eq_true rfl) (fun _ => rfl) ?_; intro S hok; (conv => whnf)
  (repeat' ((conv => whnf); first | apply And.intro | exact ⟨by kernel_rfl⟩ | apply DrawN.mk | apply CodeN.step hm rfl | exact trivial | exact rfl | (intro hh; try simp only [bs] at hh))); all_goals (conv => whnf)
  all_goals
    (refine RetN.q () [] ?_ ?_ ?_ <;> (repeat' ((conv => whnf) <;> first | exact rfl | exact trivial | apply And.intro | exact Nat.zero_add _)); all_goals ((conv => whnf); try simp only []))
    simp [timeB, *]
theorem ftimeM (t : Int) : Meets Tryz.prog 83 [.int .i64 fun _ => t] [] (Y := Unit) (fun _ => True) (fun _ => .bool fun _ => timeB t) (fun _ => []) := by
  refine Meets.intro hm (fn := Tryz.f83) Tryz.func83 rfl (by decide) (Nat.le_of_ble_eq_true rfl) (fun _ => rfl) ?_; intro S hok; (conv => whnf)
  (repeat' ((conv => whnf); first | apply And.intro | exact ⟨by kernel_rfl⟩ | apply DrawN.mk | apply CodeN.step hm rfl | exact trivial | exact rfl | (intro hh; try simp only [bs] at hh))); all_goals (conv => whnf)
  all_goals
    (refine RetN.q () [] ?_ ?_ ?_ <;> (repeat' ((conv => whnf) <;> first | exact rfl | exact trivial | apply And.intro | exact Nat.zero_add _)); all_goals ((conv => whnf); try simp only []))
    simp [timeB, *]
theorem rtimeM (t : Int) : Meets Tryz.prog 86 [.int .i64 fun _ => t] [] (Y := Unit) (fun _ => True) (fun _ => .bool fun _ => timeB t) (fun _ => []) := by
  refine Meets.intro hm (fn := Tryz.f86) Tryz.func86 rfl (by decide) (Nat.le_of_ble_eq_true rfl) (fun _ => rfl) ?_; intro S hok; (conv => whnf)
  (repeat' ((conv => whnf); first | apply And.intro | exact ⟨by kernel_rfl⟩ | apply DrawN.mk | apply CodeN.step hm rfl | exact trivial | exact rfl | (intro hh; try simp only [bs] at hh))); all_goals (conv => whnf)
  all_goals
    (refine RetN.q () [] ?_ ?_ ?_ <;> (repeat' ((conv => whnf) <;> first | exact rfl | exact trivial | apply And.intro | exact Nat.zero_add _)); all_goals ((conv => whnf); try simp only []))
    simp [timeB, *]
theorem etimeM (t : Int) : Meets Tryz.prog 92 [.int .i64 fun _ => t] [] (Y := Unit) (fun _ => True) (fun _ => .bool fun _ => timeB t) (fun _ => []) := by
  refine Meets.intro hm (fn := Tryz.f92) Tryz.func92 rfl (by decide) (Nat.le_of_ble_eq_true rfl) (fun _ => rfl) ?_; intro S hok; (conv => whnf)
  (repeat' ((conv => whnf); first | apply And.intro | exact ⟨by kernel_rfl⟩ | apply DrawN.mk | apply CodeN.step hm rfl | exact trivial | exact rfl | (intro hh; try simp only [bs] at hh))); all_goals (conv => whnf)
  all_goals
    (refine RetN.q () [] ?_ ?_ ?_ <;> (repeat' ((conv => whnf) <;> first | exact rfl | exact trivial | apply And.intro | exact Nat.zero_add _)); all_goals ((conv => whnf); try simp only []))
    simp [timeB, *]
theorem gofM (p : Pol) (w : Int) (hp : PolOk p) (hw : 0 ≤ w ∧ w ≤ 1048576) : Meets Tryz.prog 78 [polAV p, .int .i64 fun _ => w] [] (Y := Unit) (fun _ => True) (fun _ => .int .u64 fun _ => w * p.2.2.1) (fun _ => []) := by
  have hW := hp.window
  have h1 : 0 ≤ w * p.2.2.1 ∧ w * p.2.2.1 ≤ 1048576 * 1048576 := ⟨Int.mul_nonneg (by omega) (by omega), Int.mul_le_mul hw.2 hW.2 (by omega) (by omega)⟩
  have w1 := wru (x := w) (by omega)
  have w2 := wru (x := p.2.2.1) (by omega)
  refine Meets.intro hm (fn := Tryz.f78) Tryz.func78 rfl (by decide) (Nat.le_of_ble_eq_true rfl) (fun _ => rfl) ?_; intro S hok; (conv => whnf)
  (repeat' ((conv => whnf); first | apply And.intro | exact ⟨by kernel_rfl⟩ | apply DrawN.mk | apply CodeN.step hm rfl | exact trivial | exact rfl | (intro hh; try simp only [bs] at hh))); all_goals (conv => whnf)
  refine CallN.q (mulM w p.2.2.1 (by omega) (by omega)) [] (fun _ _ => ?_) rfl rfl ?_ trivial
  rotate_left
  · (repeat' ((conv => whnf) <;> first | exact rfl | exact trivial | apply And.intro | exact Nat.zero_add _))
    · exact w1
    · exact w2
  (repeat' ((conv => whnf); first | apply And.intro | exact ⟨by kernel_rfl⟩ | apply DrawN.mk | apply CodeN.step hm rfl | exact trivial | exact rfl | (intro hh; try simp only [bs] at hh; try exact absurd hh (by decide)))); all_goals (conv => whnf)
  (refine RetN.q () [] ?_ ?_ ?_ <;> (repeat' ((conv => whnf) <;> first | exact rfl | exact trivial | apply And.intro | exact Nat.zero_add _)); all_goals ((conv => whnf); try simp only []))
theorem goutM (p : Pol) (t : Int) (hp : PolOk p) (ht : 0 ≤ t ∧ t ≤ 1099511627776) : Meets Tryz.prog 104 [polAV p, .int .i64 fun _ => t] [] (Y := Unit) (fun _ => True) (fun _ => .int .u64 fun _ => t * p.2.1) (fun _ => []) := by
  have hL := hp.limit
  have h1 : 0 ≤ t * p.2.1 ∧ t * p.2.1 ≤ 1099511627776 * 1048576 := ⟨Int.mul_nonneg (by omega) (by omega), Int.mul_le_mul ht.2 hL.2 (by omega) (by omega)⟩
  have w1 := wru (x := t) (by omega)
  have w2 := wru (x := p.2.1) (by omega)
  refine Meets.intro hm (fn := Tryz.f104) Tryz.func104 rfl (by decide) (Nat.le_of_ble_eq_true rfl) (fun _ => rfl) ?_; intro S hok; (conv => whnf)
  (repeat' ((conv => whnf); first | apply And.intro | exact ⟨by kernel_rfl⟩ | apply DrawN.mk | apply CodeN.step hm rfl | exact trivial | exact rfl | (intro hh; try simp only [bs] at hh))); all_goals (conv => whnf)
  refine CallN.q (mulM t p.2.1 (by omega) (by omega)) [] (fun _ _ => ?_) rfl rfl ?_ trivial
  rotate_left
  · (repeat' ((conv => whnf) <;> first | exact rfl | exact trivial | apply And.intro | exact Nat.zero_add _))
    · exact w1
    · exact w2
  (repeat' ((conv => whnf); first | apply And.intro | exact ⟨by kernel_rfl⟩ | apply DrawN.mk | apply CodeN.step hm rfl | exact trivial | exact rfl | (intro hh; try simp only [bs] at hh; try exact absurd hh (by decide)))); all_goals (conv => whnf)
  (refine RetN.q () [] ?_ ?_ ?_ <;> (repeat' ((conv => whnf) <;> first | exact rfl | exact trivial | apply And.intro | exact Nat.zero_add _)); all_goals ((conv => whnf); try simp only []))
theorem gaboveM (a b : Int) (ha : 0 ≤ a ∧ a < 18446744073709551616) (hb : 0 ≤ b ∧ b < 18446744073709551616) : Meets Tryz.prog 81 [.int .u64 fun _ => a, .int .u64 fun _ => b] [] (Y := Unit) (fun _ => True) (fun _ => .int .u64 fun _ => max 0 (a - b)) (fun _ => []) := by
  refine Meets.intro hm (fn := Tryz.f81) Tryz.func81 rfl (by decide) (Nat.le_of_ble_eq_true rfl) (fun _ => rfl) ?_; intro S hok; (conv => whnf)
  (repeat' ((conv => whnf); first | apply And.intro | exact ⟨by kernel_rfl⟩ | apply DrawN.mk | apply CodeN.step hm rfl | exact trivial | exact rfl | (intro hh; try simp only [bs] at hh))); all_goals (conv => whnf)
  refine CallN.q (subM a b ha hb) [] (fun _ _ => ?_) rfl rfl ?_ trivial
  rotate_left
  · (repeat' ((conv => whnf) <;> first | exact rfl | exact trivial | apply And.intro | exact Nat.zero_add _))
  (repeat' ((conv => whnf); first | apply And.intro | exact ⟨by kernel_rfl⟩ | apply DrawN.mk | apply CodeN.step hm rfl | exact trivial | exact rfl | (intro hh; try simp only [bs] at hh; try exact absurd hh (by decide)))); all_goals (conv => whnf)
  (refine RetN.q () [] ?_ ?_ ?_ <;> (repeat' ((conv => whnf) <;> first | exact rfl | exact trivial | apply And.intro | exact Nat.zero_add _)); all_goals ((conv => whnf); try simp only []))
theorem gticksM (p : Pol) (a : Int) (hp : PolOk p) (ha : 0 ≤ a ∧ a ≤ 4611686018427387904) : Meets Tryz.prog 82 [.int .u64 fun _ => a, polAV p] [] (Y := Unit) (fun _ => True) (fun _ => .int .i64 fun _ => up a p.2.1) (fun _ => []) := by
  have hL := hp.limit
  have hu : 0 ≤ up a p.2.1 ∧ up a p.2.1 ≤ 4611686018427387905 := by
    have h1 : 0 ≤ a / p.2.1 ∧ a / p.2.1 ≤ a := ⟨Int.ediv_nonneg ha.1 (by omega), Int.ediv_le_self _ ha.1⟩
    have h2 := Int.emod_nonneg a (show p.2.1 ≠ 0 by omega)
    unfold up; omega
  refine Meets.intro hm (fn := Tryz.f82) Tryz.func82 rfl (by decide) (Nat.le_of_ble_eq_true rfl) (fun _ => rfl) ?_; intro S hok; (conv => whnf)
  (repeat' ((conv => whnf); first | apply And.intro | exact ⟨by kernel_rfl⟩ | apply DrawN.mk | apply CodeN.step hm rfl | exact trivial | exact rfl | (intro hh; try simp only [bs] at hh))); all_goals (conv => whnf)
  refine CallN.q (upM a p.2.1 (by omega) (by omega)) [] (fun _ _ => ?_) rfl rfl ?_ trivial
  rotate_left
  · (repeat' ((conv => whnf) <;> first | exact rfl | exact trivial | apply And.intro | exact Nat.zero_add _))
    exact wru (x := p.2.1) (by omega)
  (repeat' ((conv => whnf); first | apply And.intro | exact ⟨by kernel_rfl⟩ | apply DrawN.mk | apply CodeN.step hm rfl | exact trivial | exact rfl | (intro hh; try simp only [bs] at hh; try exact absurd hh (by decide)))); all_goals (conv => whnf)
  (refine RetN.q () [] ?_ ?_ ?_ <;> (repeat' ((conv => whnf) <;> first | exact rfl | exact trivial | apply And.intro | exact Nat.zero_add _)); all_goals ((conv => whnf); try simp only []))
  exact wr (by omega)
theorem gmayM (p : Pol) (c : Cell) (k : p.1 = 1) (hc : -9223372036854775808 ≤ c.2.1 ∧ c.2.1 ≤ 9223372036854775807) : Meets Tryz.prog 41 [polAV p, cellAV c] [] (Y := Unit) (fun _ => True) (fun _ => .bool fun _ => mayC p c) (fun _ => []) := by
  refine Meets.intro hm (fn := Tryz.f41) Tryz.func41 rfl (by decide) (Nat.le_of_ble_eq_true rfl) (fun _ => rfl) ?_; intro S hok; (conv => whnf)
  (repeat' ((conv => whnf); first | apply And.intro | exact ⟨by kernel_rfl⟩ | apply DrawN.mk | apply CodeN.step hm rfl | exact trivial | exact rfl | (intro hh; try simp only [bs] at hh))); all_goals (conv => whnf)
  by_cases hp : PolOk p
  · have hL := hp.limit
    have hW := hp.window
    have he := may1 (p := p) (c := c) k
    have hLW : 0 ≤ p.2.1 * p.2.2.1 ∧ p.2.1 * p.2.2.1 ≤ 1048576 * 1048576 := ⟨Int.mul_nonneg (by omega) (by omega), Int.mul_le_mul hL.2 hW.2 (by omega) (by omega)⟩
    have hno : ∀ q : Bool, (mayC p c = true → q = true) → (q = true → mayC p c = true) → q = mayC p c := fun q h1 h2 => by rw [Bool.eq_iff_iff]; exact ⟨h2, h1⟩
    have htb : timeB c.1 = true ↔ 0 ≤ c.1 ∧ c.1 ≤ 1099511627776 := by simp [timeB]
    (refine CallN.q (check_ok hp) [] (fun _ _ => ?_); (repeat' ((conv => whnf); first | apply And.intro | exact ⟨by kernel_rfl⟩ | apply DrawN.mk | apply CodeN.step hm rfl | exact trivial | exact rfl | (intro hh; try simp only [bs] at hh; try exact absurd hh (by decide)))); all_goals (conv => whnf); all_goals try exact ⟨by decide⟩)
    all_goals try
      (refine CallN.q (gtimeM c.1) [] (fun _ _ => ?_); (repeat' ((conv => whnf); first | apply And.intro | exact ⟨by kernel_rfl⟩ | apply DrawN.mk | apply CodeN.step hm rfl | exact trivial | exact rfl | (intro hh; try simp only [bs] at hh; try exact absurd hh (by decide)))); all_goals (conv => whnf); all_goals try exact ⟨by decide⟩)
    all_goals try
      (refine CallN.q (gofM p p.2.1 hp (by omega)) [] (fun _ _ => ?_); (repeat' ((conv => whnf); first | apply And.intro | exact ⟨by kernel_rfl⟩ | apply DrawN.mk | apply CodeN.step hm rfl | exact trivial | exact rfl | (intro hh; try simp only [bs] at hh; try exact absurd hh (by decide)))); all_goals (conv => whnf); all_goals try exact ⟨by decide⟩)
    all_goals
      (refine RetN.q () [] ?_ ?_ ?_ <;> (repeat' ((conv => whnf) <;> first | exact rfl | exact trivial | apply And.intro | exact Nat.zero_add _)); all_goals ((conv => whnf); try simp only []))
      first
        | (rw [← Bool.not_eq_true, he]
           rintro ⟨_, h1, h2, h3, h4, h5⟩
           rw [← htb] at h1
           first | omega | (rw [h1] at hh; cases hh) | (rw [wru (by omega)] at hh; omega) | (rw [h4] at hh; exact hh rfl))
        | (rw [Bool.eq_iff_iff, he, beq_iff_eq]
           have hw := wru (x := c.2.1) (by omega)
           have ht := htb.1 (by assumption)
           constructor
           · intro h
             exact ⟨hp, ht, by omega, by omega, List.length_eq_zero_iff.1 (by omega), List.length_eq_zero_iff.1 (by omega)⟩
           · rintro ⟨_, _, _, _, _, h⟩
             rw [h]; rfl)
        | skip
  · have hf : mayC p c = false := by unfold mayC; rw [decide_eq_false hp]; rfl
    (refine CallN.q (check_no hp) [] (fun _ _ => ?_); (repeat' ((conv => whnf); first | apply And.intro | exact ⟨by kernel_rfl⟩ | apply DrawN.mk | apply CodeN.step hm rfl | exact trivial | exact rfl | (intro hh; try simp only [bs] at hh; try exact absurd hh (by decide)))); all_goals (conv => whnf); all_goals try exact ⟨by decide⟩)
    (refine RetN.q () [] ?_ ?_ ?_ <;> (repeat' ((conv => whnf) <;> first | exact rfl | exact trivial | apply And.intro | exact Nat.zero_add _)); all_goals ((conv => whnf); try simp only []))
    exact hf
theorem ask_bad {p : Pol} {c : Cell} {t w : Int} (h : ¬ (mayC p c = true ∧ timeB t = true ∧ weighs w = true)) : askC p c t w = (c, zeroV) := by
  unfold askC
  rw [if_neg]
  simpa [and_assoc] using h
theorem ask_ok {p : Pol} {c : Cell} {t w : Int} (h1 : mayC p c = true) (h2 : timeB t = true) (h3 : weighs w = true) : askC p c t w = if own p (moved p c (max t c.1)) + worth p w ≤ worth p p.2.1 then (added p (moved p c (max t c.1)) w, true, (worth p p.2.1 - (own p (moved p c (max t c.1)) + worth p w)).tdiv (worth p 1), 0, wt p (added p (moved p c (max t c.1)) w) 0)
    else (moved p c (max t c.1), false, (worth p p.2.1 - own p (moved p c (max t c.1))).tdiv (worth p 1), (if p.2.1 < w then 2199023255552 else wt p (moved p c (max t c.1)) (worth p p.2.1 - worth p w)), wt p (moved p c (max t c.1)) 0) := by
  have ht : 0 ≤ t ∧ t ≤ 1099511627776 := by simpa [timeB] using h2
  have hc := may_pol h1
  have hm := moved_may h1 (t := max t c.1) (by omega) (by omega)
  unfold askC
  rw [h1, h2, h3]
  simp only [Bool.and_self, if_true]
  rw [cnt_own hm]
theorem ask1 {p : Pol} {c : Cell} {t w : Int} (k : p.1 = 1) (h1 : mayC p c = true) (h2 : timeB t = true) (h3 : weighs w = true) :
    askC p c t w = if cnt p c (max t c.1) + w * p.2.2.1 ≤ p.2.1 * p.2.2.1 then ((max t c.1, cnt p c (max t c.1) + w * p.2.2.1, [], []), true, (p.2.1 * p.2.2.1 - (cnt p c (max t c.1) + w * p.2.2.1)).tdiv p.2.2.1, 0, up (cnt p c (max t c.1) + w * p.2.2.1) p.2.1)
    else ((max t c.1, cnt p c (max t c.1), [], []), false, (p.2.1 * p.2.2.1 - cnt p c (max t c.1)).tdiv p.2.2.1, (if p.2.1 < w then 2199023255552 else up (cnt p c (max t c.1) + w * p.2.2.1 - p.2.1 * p.2.2.1) p.2.1), up (cnt p c (max t c.1)) p.2.1) := by
  have ht : 0 ≤ t ∧ t ≤ 1099511627776 := by simpa [timeB] using h2
  have hw : 1 ≤ w ∧ w ≤ 1048576 := by simpa [weighs] using h3
  obtain ⟨hp, hc⟩ := may_pol h1
  have hL := hp.limit
  have hW := hp.window
  have hm := moved_may h1 (t := max t c.1) (by omega) (by omega)
  have hn := cnt_nonneg h1 (max t c.1)
  have em : moved p c (max t c.1) = (max t c.1, cnt p c (max t c.1), [], []) := by unfold moved; rw [if_pos (.inl k)]
  have ewt : ∀ w, worth p w = w * p.2.2.1 := fun w => by unfold worth; rw [if_pos k]
  have eo : own p (moved p c (max t c.1)) = cnt p c (max t c.1) := by rw [em]; unfold own; rw [if_pos (.inl k)]
  have hww : 0 ≤ w * p.2.2.1 := Int.mul_nonneg (by omega) (by omega)
  rw [ask_ok h1 h2 h3, eo, ewt, ewt, ewt, Int.one_mul]
  generalize max t c.1 = T at *
  by_cases hc : cnt p c T + w * p.2.2.1 ≤ p.2.1 * p.2.2.1
  · rw [if_pos hc, if_pos hc]
    have ha := added_may hm (moved_full p c _) hw.1 (by rw [eo, ewt, ewt]; exact hc)
    rw [wt1 ha k (Int.le_refl _)]
    have ea : added p (moved p c (T)) w = (T, cnt p c (T) + w * p.2.2.1, [], []) := by rw [em]; unfold added; rw [if_pos k]
    have e0 : max 0 (cnt p c T + w * p.2.2.1) = cnt p c T + w * p.2.2.1 := by omega
    simp only [ea, Int.sub_zero, e0]
  · rw [if_neg hc, if_neg hc, wt1 hm k (Int.le_refl _), em, Int.sub_zero, Int.max_eq_right hn]
    by_cases hlt : p.2.1 < w
    · rw [if_pos hlt, if_pos hlt]
    · rw [if_neg hlt, if_neg hlt, ← em]
      have : 0 ≤ (p.2.1 - w) * p.2.2.1 := Int.mul_nonneg (by omega) (by omega)
      rw [Int.sub_mul] at this
      rw [wt1 hm k this, em]
      have e : max 0 (cnt p c (T) - (p.2.1 * p.2.2.1 - w * p.2.2.1)) = cnt p c (T) + w * p.2.2.1 - p.2.1 * p.2.2.1 := by omega
      simp only [e]
theorem glevelM (p : Pol) (c : Cell) (t : Int) (k : p.1 = 1) (hv : mayC p c = true) (ht : c.1 ≤ t ∧ t ≤ 1099511627776) : Meets Tryz.prog 80 [polAV p, cellAV c, .int .i64 fun _ => t] [] (Y := Unit) (fun _ => True) (fun _ => .int .u64 fun _ => cnt p c t) (fun _ => []) := by
  obtain ⟨hp, hc⟩ := may_pol hv
  have hL := hp.limit
  have hW := hp.window
  have g := (may1 k).1 hv
  have hLW : p.2.1 * p.2.2.1 ≤ 1048576 * 1048576 := Int.mul_le_mul hL.2 hW.2 (by omega) (by omega)
  have h1 : 0 ≤ (t - c.1) * p.2.1 ∧ (t - c.1) * p.2.1 ≤ 1099511627776 * 1048576 := ⟨Int.mul_nonneg (by omega) (by omega), Int.mul_le_mul (by omega) hL.2 (by omega) (by omega)⟩
  have hcnt : cnt p c t = max 0 (c.2.1 - (t - c.1) * p.2.1) := by unfold cnt; rw [if_pos k, Int.mul_comm]
  rw [hcnt]
  refine Meets.intro hm (fn := Tryz.f80) Tryz.func80 rfl (by decide) (Nat.le_of_ble_eq_true rfl) (fun _ => rfl) ?_; intro S hok; (conv => whnf)
  (repeat' ((conv => whnf); first | apply And.intro | exact ⟨by kernel_rfl⟩ | apply DrawN.mk | apply CodeN.step hm rfl | exact trivial | exact rfl | (intro hh; try simp only [bs] at hh))); all_goals (conv => whnf)
  refine CallN.q (goutM p (t - c.1) hp (by omega)) [] (fun _ _ => ?_) rfl rfl ?_ trivial
  rotate_left
  · (repeat' ((conv => whnf) <;> first | exact rfl | exact trivial | apply And.intro | exact Nat.zero_add _))
    have e : (if IntKind.i64.wrap (t - c.1) > 0 then IntKind.i64.wrap (t - c.1) else 0) = t - c.1 := by
      rw [wr (x := t - c.1) (by omega)]
      split <;> omega
    exact e
  (repeat' ((conv => whnf); first | apply And.intro | exact ⟨by kernel_rfl⟩ | apply DrawN.mk | apply CodeN.step hm rfl | exact trivial | exact rfl | (intro hh; try simp only [bs] at hh; try exact absurd hh (by decide)))); all_goals (conv => whnf)
  refine CallN.q (gaboveM c.2.1 ((t - c.1) * p.2.1) (by omega) (by omega)) [] (fun _ _ => ?_) rfl rfl ?_ trivial
  rotate_left
  · (repeat' ((conv => whnf) <;> first | exact rfl | exact trivial | apply And.intro | exact Nat.zero_add _))
    exact wru (x := c.2.1) (by omega)
  (repeat' ((conv => whnf); first | apply And.intro | exact ⟨by kernel_rfl⟩ | apply DrawN.mk | apply CodeN.step hm rfl | exact trivial | exact rfl | (intro hh; try simp only [bs] at hh; try exact absurd hh (by decide)))); all_goals (conv => whnf)
  (refine RetN.q () [] ?_ ?_ ?_ <;> (repeat' ((conv => whnf) <;> first | exact rfl | exact trivial | apply And.intro | exact Nat.zero_add _)); all_goals ((conv => whnf); try simp only []))
theorem zeroV_def : zeroV = (false, 0, 0, 0) := rfl
theorem gaskM (p : Pol) (c : Cell) (t w : Int) (k : p.1 = 1) (hc : -9223372036854775808 ≤ c.2.1 ∧ c.2.1 ≤ 9223372036854775807) : Meets Tryz.prog 42 [polAV p, cellAV c, .int .i64 fun _ => t, .int .i64 fun _ => w] [] (Y := Unit) (fun _ => True) (fun _ => .tup [cellAV (askC p c t w).1, verAV (askC p c t w).2]) (fun _ => []) := by
  by_cases hv : mayC p c = true ∧ timeB t = true ∧ weighs w = true
  · obtain ⟨h1, h2, h3⟩ := hv
    have M1 := gmayM p c k hc
    have M2 := gtimeM t
    have M3 := weighsM w
    rw [h1] at M1
    rw [h2] at M2
    rw [h3] at M3
    have ht : 0 ≤ t ∧ t ≤ 1099511627776 := by simpa [timeB] using h2
    have hw : 1 ≤ w ∧ w ≤ 1048576 := by simpa [weighs] using h3
    obtain ⟨hp, hct⟩ := may_pol h1
    have hL := hp.limit
    have hW := hp.window
    have hmx : (if c.1 > t then c.1 else t) = max t c.1 := by split <;> omega
    have hn := cnt_nonneg h1 (max t c.1)
    have hn2 : cnt p c (max t c.1) ≤ p.2.1 * p.2.2.1 := by
      have := own_le (moved_may h1 (t := max t c.1) (by omega) (by omega))
      unfold moved own worth at this
      simpa only [if_pos k, if_pos (show p.1 = 1 ∨ p.1 = 2 from .inl k)] using this.2
    have hLW : p.2.1 * p.2.2.1 ≤ 1048576 * 1048576 := Int.mul_le_mul hL.2 hW.2 (by omega) (by omega)
    have hww : 0 ≤ w * p.2.2.1 ∧ w * p.2.2.1 ≤ 1048576 * 1048576 := ⟨Int.mul_nonneg (by omega) (by omega), Int.mul_le_mul hw.2 hW.2 (by omega) (by omega)⟩
    have ha := ask1 k h1 h2 h3
    refine Meets.intro hm (fn := Tryz.f42) Tryz.func42 rfl (by decide) (Nat.le_of_ble_eq_true rfl) (fun _ => rfl) ?_; intro S hok; (conv => whnf)
    (repeat' ((conv => whnf); first | apply And.intro | exact ⟨by kernel_rfl⟩ | apply DrawN.mk | apply CodeN.step hm rfl | exact trivial | exact rfl | (intro hh; try simp only [bs] at hh))); all_goals (conv => whnf)
    (refine CallN.q M1 [] (fun _ _ => ?_); (repeat' ((conv => whnf); first | apply And.intro | exact ⟨by kernel_rfl⟩ | apply DrawN.mk | apply CodeN.step hm rfl | exact trivial | exact rfl | (intro hh; try simp only [bs] at hh; try exact absurd hh (by decide)))); all_goals (conv => whnf); all_goals try exact ⟨by decide⟩)
    (refine CallN.q M2 [] (fun _ _ => ?_); (repeat' ((conv => whnf); first | apply And.intro | exact ⟨by kernel_rfl⟩ | apply DrawN.mk | apply CodeN.step hm rfl | exact trivial | exact rfl | (intro hh; try simp only [bs] at hh; try exact absurd hh (by decide)))); all_goals (conv => whnf); all_goals try exact ⟨by decide⟩)
    (refine CallN.q M3 [] (fun _ _ => ?_); (repeat' ((conv => whnf); first | apply And.intro | exact ⟨by kernel_rfl⟩ | apply DrawN.mk | apply CodeN.step hm rfl | exact trivial | exact rfl | (intro hh; try simp only [bs] at hh; try exact absurd hh (by decide)))); all_goals (conv => whnf); all_goals try exact ⟨by decide⟩)
    refine CallN.q (glevelM p c (max t c.1) k h1 (by omega)) [] (fun _ _ => ?_) rfl rfl ?_ trivial
    rotate_left
    · (repeat' ((conv => whnf) <;> first | exact rfl | exact trivial | apply And.intro | exact Nat.zero_add _))
      exact hmx
    (repeat' ((conv => whnf); first | apply And.intro | exact ⟨by kernel_rfl⟩ | apply DrawN.mk | apply CodeN.step hm rfl | exact trivial | exact rfl | (intro hh; try simp only [bs] at hh; try exact absurd hh (by decide)))); all_goals (conv => whnf)
    generalize hT : max t c.1 = T at *
    generalize hn0 : cnt p c T = n at *
    have e1 := wru (x := n + w * p.2.2.1) (by omega)
    have hdiv : ∀ x : Int, 0 ≤ x → x ≤ 1099511627776 → IntKind.i64.wrap ((IntKind.i64.wrap (IntKind.u64.wrap x)).tdiv p.2.2.1) = x.tdiv p.2.2.1 := fun x h1 h2 => by
      have h3 : 0 ≤ x.tdiv p.2.2.1 := Int.tdiv_nonneg h1 (by omega)
      have h4 : x.tdiv p.2.2.1 ≤ x := by rw [Int.tdiv_eq_ediv_of_nonneg h1]; exact Int.ediv_le_self _ h1
      rw [wru (x := x) (by omega), wr (x := x) (by omega), wr (x := x.tdiv p.2.2.1) (by omega)]
    have hmin : (p.2.1 - w) * p.2.2.1 = p.2.1 * p.2.2.1 - w * p.2.2.1 := Int.sub_mul ..
    (refine CallN.q (gofM p p.2.1 hp (by omega)) [] (fun _ _ => ?_); (repeat' ((conv => whnf); first | apply And.intro | exact ⟨by kernel_rfl⟩ | apply DrawN.mk | apply CodeN.step hm rfl | exact trivial | exact rfl | (intro hh; try simp only [bs] at hh; try exact absurd hh (by decide)))); all_goals (conv => whnf); all_goals try exact ⟨by decide⟩)
    (refine CallN.q (gofM p w hp (by omega)) [] (fun _ _ => ?_); (repeat' ((conv => whnf); first | apply And.intro | exact ⟨by kernel_rfl⟩ | apply DrawN.mk | apply CodeN.step hm rfl | exact trivial | exact rfl | (intro hh; try simp only [bs] at hh; try exact absurd hh (by decide)))); all_goals (conv => whnf); all_goals try exact ⟨by decide⟩)
    all_goals try exact Ob.mk (by simp only []; omega)
    · have hcc : n + w * p.2.2.1 ≤ p.2.1 * p.2.2.1 := by rw [← e1]; assumption
      rw [if_pos hcc] at ha
      refine CallN.q (gticksM p (n + w * p.2.2.1) hp (by omega)) [] (fun _ _ => ?_) rfl rfl ?_ trivial
      rotate_left
      · (repeat' ((conv => whnf) <;> first | exact rfl | exact trivial | apply And.intro | exact Nat.zero_add _))
        exact e1
      (repeat' ((conv => whnf); first | apply And.intro | exact ⟨by kernel_rfl⟩ | apply DrawN.mk | apply CodeN.step hm rfl | exact trivial | exact rfl | (intro hh; try simp only [bs] at hh; try exact absurd hh (by decide)))); all_goals (conv => whnf)
      (refine RetN.q () [] ?_ ?_ ?_ <;> (repeat' ((conv => whnf) <;> first | exact rfl | exact trivial | apply And.intro | exact Nat.zero_add _)); all_goals ((conv => whnf); try simp only []))
      all_goals
        rw [ha]
        first | done | exact hmx | rfl | (rw [e1]; exact wr (by omega)) | (rw [e1]; exact hdiv _ (by omega) (by omega)) | skip
    · have hcc : ¬ n + w * p.2.2.1 ≤ p.2.1 * p.2.2.1 := by rw [← e1]; assumption
      rw [if_neg hcc, if_pos (by assumption)] at ha
      refine CallN.q (gticksM p n hp (by omega)) [] (fun _ _ => ?_)
      (repeat' ((conv => whnf); first | apply And.intro | exact ⟨by kernel_rfl⟩ | apply DrawN.mk | apply CodeN.step hm rfl | exact trivial | exact rfl | (intro hh; try simp only [bs] at hh; try exact absurd hh (by decide)))); all_goals (conv => whnf)
      (refine RetN.q () [] ?_ ?_ ?_ <;> (repeat' ((conv => whnf) <;> first | exact rfl | exact trivial | apply And.intro | exact Nat.zero_add _)); all_goals ((conv => whnf); try simp only []))
      all_goals
        rw [ha]
        first | done | exact hmx | rfl | exact wr (by omega) | exact hdiv _ (by omega) (by omega) | skip
    · have hcc : ¬ n + w * p.2.2.1 ≤ p.2.1 * p.2.2.1 := by rw [← e1]; assumption
      rw [if_neg hcc, if_neg (by assumption)] at ha
      have hlw : 0 ≤ (p.2.1 - w) * p.2.2.1 := Int.mul_nonneg (by omega) (by omega)
      refine CallN.q (gaboveM (n + w * p.2.2.1) (p.2.1 * p.2.2.1) (by omega) (by omega)) [] (fun _ _ => ?_) rfl rfl ?_ trivial
      rotate_left
      · (repeat' ((conv => whnf) <;> first | exact rfl | exact trivial | apply And.intro | exact Nat.zero_add _))
        exact e1
      (repeat' ((conv => whnf); first | apply And.intro | exact ⟨by kernel_rfl⟩ | apply DrawN.mk | apply CodeN.step hm rfl | exact trivial | exact rfl | (intro hh; try simp only [bs] at hh; try exact absurd hh (by decide)))); all_goals (conv => whnf)
      have em : max 0 (n + w * p.2.2.1 - p.2.1 * p.2.2.1) = n + w * p.2.2.1 - p.2.1 * p.2.2.1 := by omega
      refine CallN.q (gticksM p (n + w * p.2.2.1 - p.2.1 * p.2.2.1) hp (by omega)) [] (fun _ _ => ?_) rfl rfl ?_ trivial
      rotate_left
      · (repeat' ((conv => whnf) <;> first | exact rfl | exact trivial | apply And.intro | exact Nat.zero_add _))
        exact em
      (repeat' ((conv => whnf); first | apply And.intro | exact ⟨by kernel_rfl⟩ | apply DrawN.mk | apply CodeN.step hm rfl | exact trivial | exact rfl | (intro hh; try simp only [bs] at hh; try exact absurd hh (by decide)))); all_goals (conv => whnf)
      · exact Ob.mk (by simp only []; omega)
      · refine CallN.q (gticksM p n hp (by omega)) [] (fun _ _ => ?_)
        (repeat' ((conv => whnf); first | apply And.intro | exact ⟨by kernel_rfl⟩ | apply DrawN.mk | apply CodeN.step hm rfl | exact trivial | exact rfl | (intro hh; try simp only [bs] at hh; try exact absurd hh (by decide)))); all_goals (conv => whnf)
        (refine RetN.q () [] ?_ ?_ ?_ <;> (repeat' ((conv => whnf) <;> first | exact rfl | exact trivial | apply And.intro | exact Nat.zero_add _)); all_goals ((conv => whnf); try simp only []))
        all_goals
          rw [ha]
          first | done | exact hmx | rfl | exact wr (by omega) | exact hdiv _ (by omega) (by omega) | skip
  · rw [ask_bad hv]
    refine Meets.intro hm (fn := Tryz.f42) Tryz.func42 rfl (by decide) (Nat.le_of_ble_eq_true rfl) (fun _ => rfl) ?_; intro S hok; (conv => whnf)
    (repeat' ((conv => whnf); first | apply And.intro | exact ⟨by kernel_rfl⟩ | apply DrawN.mk | apply CodeN.step hm rfl | exact trivial | exact rfl | (intro hh; try simp only [bs] at hh))); all_goals (conv => whnf)
    (refine CallN.q (gmayM p c k hc) [] (fun _ _ => ?_); (repeat' ((conv => whnf); first | apply And.intro | exact ⟨by kernel_rfl⟩ | apply DrawN.mk | apply CodeN.step hm rfl | exact trivial | exact rfl | (intro hh; try simp only [bs] at hh; try exact absurd hh (by decide)))); all_goals (conv => whnf); all_goals try exact ⟨by decide⟩)
    all_goals try
      (refine CallN.q (gtimeM t) [] (fun _ _ => ?_); (repeat' ((conv => whnf); first | apply And.intro | exact ⟨by kernel_rfl⟩ | apply DrawN.mk | apply CodeN.step hm rfl | exact trivial | exact rfl | (intro hh; try simp only [bs] at hh; try exact absurd hh (by decide)))); all_goals (conv => whnf); all_goals try exact ⟨by decide⟩)
    all_goals try
      (refine CallN.q (weighsM w) [] (fun _ _ => ?_); (repeat' ((conv => whnf); first | apply And.intro | exact ⟨by kernel_rfl⟩ | apply DrawN.mk | apply CodeN.step hm rfl | exact trivial | exact rfl | (intro hh; try simp only [bs] at hh; try exact absurd hh (by decide)))); all_goals (conv => whnf); all_goals try exact ⟨by decide⟩)
    all_goals first
      | (exfalso; exact hv ⟨by assumption, by assumption, by assumption⟩)
      | (refine RetN.q () [] ?_ ?_ ?_ <;> (repeat' ((conv => whnf) <;> first | exact rfl | exact trivial | apply And.intro | exact Nat.zero_add _)); all_goals ((conv => whnf); try simp only []))
theorem gendsM (p : Pol) (c : Cell) (k : p.1 = 1) (hc : -9223372036854775808 ≤ c.2.1 ∧ c.2.1 ≤ 9223372036854775807) : Meets Tryz.prog 43 [polAV p, cellAV c] [] (Y := Unit) (fun _ => True) (fun _ => .int .i64 fun _ => endsC p c) (fun _ => []) := by
  refine Meets.intro hm (fn := Tryz.f43) Tryz.func43 rfl (by decide) (Nat.le_of_ble_eq_true rfl) (fun _ => rfl) ?_; intro S hok; (conv => whnf)
  (repeat' ((conv => whnf); first | apply And.intro | exact ⟨by kernel_rfl⟩ | apply DrawN.mk | apply CodeN.step hm rfl | exact trivial | exact rfl | (intro hh; try simp only [bs] at hh))); all_goals (conv => whnf)
  (refine CallN.q (gmayM p c k hc) [] (fun _ _ => ?_); (repeat' ((conv => whnf); first | apply And.intro | exact ⟨by kernel_rfl⟩ | apply DrawN.mk | apply CodeN.step hm rfl | exact trivial | exact rfl | (intro hh; try simp only [bs] at hh; try exact absurd hh (by decide)))); all_goals (conv => whnf); all_goals try exact ⟨by decide⟩)
  · (refine RetN.q () [] ?_ ?_ ?_ <;> (repeat' ((conv => whnf) <;> first | exact rfl | exact trivial | apply And.intro | exact Nat.zero_add _)); all_goals ((conv => whnf); try simp only []))
    unfold endsC
    rw [if_neg (by simp [*])]
  · have h1 : mayC p c = true := by assumption
    obtain ⟨hp, hct⟩ := may_pol h1
    have hL := hp.limit
    have hW := hp.window
    have g := (may1 k).1 h1
    have hLW : p.2.1 * p.2.2.1 ≤ 1048576 * 1048576 := Int.mul_le_mul hL.2 hW.2 (by omega) (by omega)
    have hmm := moved_may h1 (Int.le_refl _) hct.2
    have he : endsC p c = c.1 + up c.2.1 p.2.1 := by
      unfold endsC
      rw [if_pos h1, wt1 hmm k (Int.le_refl _)]
      have : (moved p c c.1).2.1 = c.2.1 := by
        unfold moved
        rw [if_pos (.inl k)]
        show cnt p c c.1 = _
        rw [cnt_own h1]; unfold own; rw [if_pos (.inl k)]
      rw [this, Int.sub_zero, Int.max_eq_right g.2.2.1]
    have hu := (up_spec (a := c.2.1) (b := p.2.1) g.2.2.1 (by omega))
    have hu2 : up c.2.1 p.2.1 ≤ c.2.1 := by
      rcases Int.lt_or_le 0 (up c.2.1 p.2.1) with h | h
      · have := hu.2.2 h
        have h2 : 1 * (up c.2.1 p.2.1 - 1) ≤ p.2.1 * (up c.2.1 p.2.1 - 1) := Int.mul_le_mul_of_nonneg_right (by omega) (by omega)
        omega
      · omega
    rw [he]
    refine CallN.q (gticksM p c.2.1 hp (by omega)) [] (fun _ _ => ?_) rfl rfl ?_ trivial
    rotate_left
    · (repeat' ((conv => whnf) <;> first | exact rfl | exact trivial | apply And.intro | exact Nat.zero_add _))
      exact wru (x := c.2.1) (by omega)
    (repeat' ((conv => whnf); first | apply And.intro | exact ⟨by kernel_rfl⟩ | apply DrawN.mk | apply CodeN.step hm rfl | exact trivial | exact rfl | (intro hh; try simp only [bs] at hh; try exact absurd hh (by decide)))); all_goals (conv => whnf)
    (refine RetN.q () [] ?_ ?_ ?_ <;> (repeat' ((conv => whnf) <;> first | exact rfl | exact trivial | apply And.intro | exact Nat.zero_add _)); all_goals ((conv => whnf); try simp only []))
    exact wr (by omega)
end Go.Proofs.YtkcifdblaboodaaGreat.Ce
set_option linter.unusedVariables false
set_option linter.unusedSimpArgs false
namespace Go.Proofs.YtkcifdblaboodaaGreat.Ce
open Go Go.RowKit Fw Hi Po
theorem ask2 {p : Pol} {c : Cell} {t w : Int} (k : p.1 = 2) (h1 : mayC p c = true) (h2 : timeB t = true) (h3 : weighs w = true) :
    askC p c t w = if cnt p c (max t c.1) + w ≤ p.2.1 then ((max t c.1, cnt p c (max t c.1) + w, [], []), true, p.2.1 - (cnt p c (max t c.1) + w), 0, p.2.2.1 - (max t c.1).tmod p.2.2.1)
    else ((max t c.1, cnt p c (max t c.1), [], []), false, p.2.1 - cnt p c (max t c.1), (if p.2.1 < w then 2199023255552 else p.2.2.1 - (max t c.1).tmod p.2.2.1), if 0 < cnt p c (max t c.1) then p.2.2.1 - (max t c.1).tmod p.2.2.1 else 0) := by
  have ht : 0 ≤ t ∧ t ≤ 1099511627776 := by simpa [timeB] using h2
  have hw : 1 ≤ w ∧ w ≤ 1048576 := by simpa [weighs] using h3
  obtain ⟨hp, hc⟩ := may_pol h1
  have hL := hp.limit
  have hW := hp.window
  have hm := moved_may h1 (t := max t c.1) (by omega) (by omega)
  have hn := cnt_nonneg h1 (max t c.1)
  have em : moved p c (max t c.1) = (max t c.1, cnt p c (max t c.1), [], []) := by unfold moved; rw [if_pos (.inr k)]
  have ewt : ∀ w, worth p w = w := fun w => by unfold worth; rw [if_neg (by omega)]
  have eo : own p (moved p c (max t c.1)) = cnt p c (max t c.1) := by rw [em]; unfold own; rw [if_pos (.inr k)]
  rw [ask_ok h1 h2 h3, eo, ewt, ewt, ewt, Int.tdiv_one, Int.tdiv_one]
  generalize max t c.1 = T at *
  by_cases hc : cnt p c T + w ≤ p.2.1
  · rw [if_pos hc, if_pos hc]
    have ha := added_may hm (moved_full p c _) hw.1 (by rw [eo, ewt, ewt]; exact hc)
    rw [wt2 ha k (Int.le_refl _)]
    have ea : added p (moved p c T) w = (T, cnt p c T + w, [], []) := by rw [em]; unfold added; rw [if_neg (by omega), if_pos k]
    simp only [ea]
    rw [if_neg (by omega)]
  · rw [if_neg hc, if_neg hc, wt2 hm k (Int.le_refl _), em]
    simp only []
    by_cases hlt : p.2.1 < w
    · rw [if_pos hlt, if_pos hlt]
      by_cases h0 : cnt p c T ≤ 0
      · rw [if_pos h0, if_neg (by omega)]
      · rw [if_neg h0, if_pos (by omega)]
    · rw [if_neg hlt, if_neg hlt, ← em, wt2 hm k (by omega), em]
      simp only []
      rw [if_neg (show ¬ cnt p c T ≤ p.2.1 - w by omega)]
      by_cases h0 : cnt p c T ≤ 0
      · rw [if_pos h0, if_neg (by omega)]
      · rw [if_neg h0, if_pos (by omega)]
theorem fofM (p : Pol) (t : Int) (hp : PolOk p) (ht : 0 ≤ t ∧ t ≤ 4398046511104) : Meets Tryz.prog 85 [polAV p, .int .i64 fun _ => t] [] (Y := Unit) (fun _ => True) (fun _ => .agg [.int .i64 fun _ => t - t.tmod p.2.2.1, .int .i64 fun _ => t - t.tmod p.2.2.1 + p.2.2.1]) (fun _ => []) := by
  have hW := hp.window
  obtain ⟨b1, b2, b3⟩ := tdiv_block ht.1 hW.1
  have h0 : 0 ≤ t.tdiv p.2.2.1 * p.2.2.1 := Int.mul_nonneg (Int.tdiv_nonneg ht.1 (by omega)) (by omega)
  have e1 := wr (x := t - t.tmod p.2.2.1) (by omega)
  have e2 := wr (x := t - t.tmod p.2.2.1 + p.2.2.1) (by omega)
  refine Meets.intro hm (fn := Tryz.f85) Tryz.func85 rfl (by decide) (Nat.le_of_ble_eq_true rfl) (fun _ => rfl) ?_; intro S hok; (conv => whnf)
  (repeat' ((conv => whnf); first | apply And.intro | exact ⟨by kernel_rfl⟩ | apply DrawN.mk | apply CodeN.step hm rfl | exact trivial | exact rfl | (intro hh; try simp only [bs] at hh))); all_goals (conv => whnf)
  · exact Ob.mk (by simp only []; omega)
  · (refine RetN.q () [] ?_ ?_ ?_ <;> (repeat' ((conv => whnf) <;> first | exact rfl | exact trivial | apply And.intro | exact Nat.zero_add _)); all_goals ((conv => whnf); try simp only []))
    all_goals rw [e1]
    exact e2
theorem fmayM (p : Pol) (c : Cell) (k : p.1 = 2) : Meets Tryz.prog 44 [polAV p, cellAV c] [] (Y := Unit) (fun _ => True) (fun _ => .bool fun _ => mayC p c) (fun _ => []) := by
  by_cases hp : PolOk p
  · have hL := hp.limit
    have hW := hp.window
    have he := may2 (p := p) (c := c) k
    have htb : timeB c.1 = true ↔ 0 ≤ c.1 ∧ c.1 ≤ 1099511627776 := by simp [timeB]
    refine Meets.intro hm (fn := Tryz.f44) Tryz.func44 rfl (by decide) (Nat.le_of_ble_eq_true rfl) (fun _ => rfl) ?_; intro S hok; (conv => whnf)
    (repeat' ((conv => whnf); first | apply And.intro | exact ⟨by kernel_rfl⟩ | apply DrawN.mk | apply CodeN.step hm rfl | exact trivial | exact rfl | (intro hh; try simp only [bs] at hh))); all_goals (conv => whnf)
    (refine CallN.q (check_ok hp) [] (fun _ _ => ?_); (repeat' ((conv => whnf); first | apply And.intro | exact ⟨by kernel_rfl⟩ | apply DrawN.mk | apply CodeN.step hm rfl | exact trivial | exact rfl | (intro hh; try simp only [bs] at hh; try exact absurd hh (by decide)))); all_goals (conv => whnf); all_goals try exact ⟨by decide⟩)
    all_goals try
      (refine CallN.q (ftimeM c.1) [] (fun _ _ => ?_); (repeat' ((conv => whnf); first | apply And.intro | exact ⟨by kernel_rfl⟩ | apply DrawN.mk | apply CodeN.step hm rfl | exact trivial | exact rfl | (intro hh; try simp only [bs] at hh; try exact absurd hh (by decide)))); all_goals (conv => whnf); all_goals try exact ⟨by decide⟩)
    all_goals
      (refine RetN.q () [] ?_ ?_ ?_ <;> (repeat' ((conv => whnf) <;> first | exact rfl | exact trivial | apply And.intro | exact Nat.zero_add _)); all_goals ((conv => whnf); try simp only []))
      first
        | (rw [← Bool.not_eq_true, he]
           rintro ⟨_, h1, h2, h3, h4, h5⟩
           rw [← htb] at h1
           first | omega | (rw [h1] at hh; cases hh) | (rw [h4] at hh; exact hh rfl))
        | (rw [Bool.eq_iff_iff, he, beq_iff_eq]
           have ht := htb.1 (by assumption)
           constructor
           · intro h
             exact ⟨hp, ht, by omega, by omega, List.length_eq_zero_iff.1 (by omega), List.length_eq_zero_iff.1 (by omega)⟩
           · rintro ⟨_, _, _, _, _, h⟩
             rw [h]; rfl)
        | skip
  · have hf : mayC p c = false := by unfold mayC; rw [decide_eq_false hp]; rfl
    refine Meets.intro hm (fn := Tryz.f44) Tryz.func44 rfl (by decide) (Nat.le_of_ble_eq_true rfl) (fun _ => rfl) ?_; intro S hok; (conv => whnf)
    (repeat' ((conv => whnf); first | apply And.intro | exact ⟨by kernel_rfl⟩ | apply DrawN.mk | apply CodeN.step hm rfl | exact trivial | exact rfl | (intro hh; try simp only [bs] at hh))); all_goals (conv => whnf)
    (refine CallN.q (check_no hp) [] (fun _ _ => ?_); (repeat' ((conv => whnf); first | apply And.intro | exact ⟨by kernel_rfl⟩ | apply DrawN.mk | apply CodeN.step hm rfl | exact trivial | exact rfl | (intro hh; try simp only [bs] at hh; try exact absurd hh (by decide)))); all_goals (conv => whnf); all_goals try exact ⟨by decide⟩)
    (refine RetN.q () [] ?_ ?_ ?_ <;> (repeat' ((conv => whnf) <;> first | exact rfl | exact trivial | apply And.intro | exact Nat.zero_add _)); all_goals ((conv => whnf); try simp only []))
    exact hf
theorem ftotalM (p : Pol) (c : Cell) (t : Int) (k : p.1 = 2) (hv : mayC p c = true) (ht : 0 ≤ t ∧ t ≤ 1099511627776) : Meets Tryz.prog 84 [polAV p, cellAV c, .int .i64 fun _ => t] [] (Y := Unit) (fun _ => True) (fun _ => .int .i64 fun _ => cnt p c (max t c.1)) (fun _ => []) := by
  obtain ⟨hp, hct⟩ := may_pol hv
  have hW := hp.window
  have M1 := fmayM p c k
  have M2 := ftimeM t
  rw [hv] at M1
  rw [show timeB t = true by simp [timeB]; omega] at M2
  have hmx : (if c.1 > t then c.1 else t) = max t c.1 := by split <;> omega
  have hcnt : cnt p c (max t c.1) = if (max t c.1).tdiv p.2.2.1 = c.1.tdiv p.2.2.1 then c.2.1 else 0 := by unfold cnt; rw [if_neg (by omega), if_pos k]
  obtain ⟨b1, b2, b3⟩ := tdiv_block (t := max t c.1) (by omega) hW.1
  obtain ⟨b4, b5, b6⟩ := tdiv_block (t := c.1) (by omega) hW.1
  rw [hcnt]
  generalize max t c.1 = T at *
  refine Meets.intro hm (fn := Tryz.f84) Tryz.func84 rfl (by decide) (Nat.le_of_ble_eq_true rfl) (fun _ => rfl) ?_; intro S hok; (conv => whnf)
  (repeat' ((conv => whnf); first | apply And.intro | exact ⟨by kernel_rfl⟩ | apply DrawN.mk | apply CodeN.step hm rfl | exact trivial | exact rfl | (intro hh; try simp only [bs] at hh))); all_goals (conv => whnf)
  (refine CallN.q M1 [] (fun _ _ => ?_); (repeat' ((conv => whnf); first | apply And.intro | exact ⟨by kernel_rfl⟩ | apply DrawN.mk | apply CodeN.step hm rfl | exact trivial | exact rfl | (intro hh; try simp only [bs] at hh; try exact absurd hh (by decide)))); all_goals (conv => whnf); all_goals try exact ⟨by decide⟩)
  (refine CallN.q M2 [] (fun _ _ => ?_); (repeat' ((conv => whnf); first | apply And.intro | exact ⟨by kernel_rfl⟩ | apply DrawN.mk | apply CodeN.step hm rfl | exact trivial | exact rfl | (intro hh; try simp only [bs] at hh; try exact absurd hh (by decide)))); all_goals (conv => whnf); all_goals try exact ⟨by decide⟩)
  refine CallN.q (fofM p T hp (by omega)) [] (fun _ _ => ?_) rfl rfl ?_ trivial
  rotate_left
  · (repeat' ((conv => whnf) <;> first | exact rfl | exact trivial | apply And.intro | exact Nat.zero_add _))
    exact hmx
  (repeat' ((conv => whnf); first | apply And.intro | exact ⟨by kernel_rfl⟩ | apply DrawN.mk | apply CodeN.step hm rfl | exact trivial | exact rfl | (intro hh; try simp only [bs] at hh; try exact absurd hh (by decide)))); all_goals (conv => whnf)
  (refine CallN.q (fofM p c.1 hp (by omega)) [] (fun _ _ => ?_); (repeat' ((conv => whnf); first | apply And.intro | exact ⟨by kernel_rfl⟩ | apply DrawN.mk | apply CodeN.step hm rfl | exact trivial | exact rfl | (intro hh; try simp only [bs] at hh; try exact absurd hh (by decide)))); all_goals (conv => whnf); all_goals try exact ⟨by decide⟩)
  · have hne := (eqD_no (.pair (.int .i64) (.int .i64)) rfl _ _).1 hh
    (refine RetN.q () [] ?_ ?_ ?_ <;> (repeat' ((conv => whnf) <;> first | exact rfl | exact trivial | apply And.intro | exact Nat.zero_add _)); all_goals ((conv => whnf); try simp only []))
    rw [if_neg]
    intro e
    rw [e] at b3
    refine hne (Prod.ext ?_ ?_)
    · show T - T.tmod p.2.2.1 = c.1 - c.1.tmod p.2.2.1
      omega
    · show T - T.tmod p.2.2.1 + p.2.2.1 = c.1 - c.1.tmod p.2.2.1 + p.2.2.1
      omega
  · have heq := congrArg Prod.fst ((eqD_iff (.pair (.int .i64) (.int .i64)) rfl _ _).1 hh)
    have heq : T - T.tmod p.2.2.1 = c.1 - c.1.tmod p.2.2.1 := heq
    (refine RetN.q () [] ?_ ?_ ?_ <;> (repeat' ((conv => whnf) <;> first | exact rfl | exact trivial | apply And.intro | exact Nat.zero_add _)); all_goals ((conv => whnf); try simp only []))
    rw [if_pos]
    exact Int.eq_of_mul_eq_mul_right (show p.2.2.1 ≠ 0 by omega) (by omega)
theorem faskM (p : Pol) (c : Cell) (t w : Int) (k : p.1 = 2) : Meets Tryz.prog 45 [polAV p, cellAV c, .int .i64 fun _ => t, .int .i64 fun _ => w] [] (Y := Unit) (fun _ => True) (fun _ => .tup [cellAV (askC p c t w).1, verAV (askC p c t w).2]) (fun _ => []) := by
  by_cases hv : mayC p c = true ∧ timeB t = true ∧ weighs w = true
  · obtain ⟨h1, h2, h3⟩ := hv
    have M1 := fmayM p c k
    have M2 := ftimeM t
    have M3 := weighsM w
    rw [h1] at M1
    rw [h2] at M2
    rw [h3] at M3
    have ht : 0 ≤ t ∧ t ≤ 1099511627776 := by simpa [timeB] using h2
    have hw : 1 ≤ w ∧ w ≤ 1048576 := by simpa [weighs] using h3
    obtain ⟨hp, hct⟩ := may_pol h1
    have hL := hp.limit
    have hW := hp.window
    have hmx : (if c.1 > t then c.1 else t) = max t c.1 := by split <;> omega
    have M4 := ftotalM p c (max t c.1) k h1 (by omega)
    rw [show max (max t c.1) c.1 = max t c.1 by omega] at M4
    have hn := cnt_nonneg h1 (max t c.1)
    have hn2 : cnt p c (max t c.1) ≤ p.2.1 := by
      have := own_le (moved_may h1 (t := max t c.1) (by omega) (by omega))
      unfold moved own worth at this
      simpa only [if_neg (show ¬ p.1 = 1 by omega), if_pos (show p.1 = 1 ∨ p.1 = 2 from .inr k)] using this.2
    have ha := ask2 k h1 h2 h3
    generalize hT : max t c.1 = T at *
    generalize hn0 : cnt p c T = n at *
    obtain ⟨b1, b2, b3⟩ := tdiv_block (t := T) (by omega) hW.1
    have enx : IntKind.i64.wrap (T - T.tmod p.2.2.1 + p.2.2.1 - T) = p.2.2.1 - T.tmod p.2.2.1 := by rw [wr (by omega)]; omega
    have enw := wr (x := n + w) (by omega)
    refine Meets.intro hm (fn := Tryz.f45) Tryz.func45 rfl (by decide) (Nat.le_of_ble_eq_true rfl) (fun _ => rfl) ?_; intro S hok; (conv => whnf)
    (repeat' ((conv => whnf); first | apply And.intro | exact ⟨by kernel_rfl⟩ | apply DrawN.mk | apply CodeN.step hm rfl | exact trivial | exact rfl | (intro hh; try simp only [bs] at hh))); all_goals (conv => whnf)
    (refine CallN.q M1 [] (fun _ _ => ?_); (repeat' ((conv => whnf); first | apply And.intro | exact ⟨by kernel_rfl⟩ | apply DrawN.mk | apply CodeN.step hm rfl | exact trivial | exact rfl | (intro hh; try simp only [bs] at hh; try exact absurd hh (by decide)))); all_goals (conv => whnf); all_goals try exact ⟨by decide⟩)
    (refine CallN.q M2 [] (fun _ _ => ?_); (repeat' ((conv => whnf); first | apply And.intro | exact ⟨by kernel_rfl⟩ | apply DrawN.mk | apply CodeN.step hm rfl | exact trivial | exact rfl | (intro hh; try simp only [bs] at hh; try exact absurd hh (by decide)))); all_goals (conv => whnf); all_goals try exact ⟨by decide⟩)
    (refine CallN.q M3 [] (fun _ _ => ?_); (repeat' ((conv => whnf); first | apply And.intro | exact ⟨by kernel_rfl⟩ | apply DrawN.mk | apply CodeN.step hm rfl | exact trivial | exact rfl | (intro hh; try simp only [bs] at hh; try exact absurd hh (by decide)))); all_goals (conv => whnf); all_goals try exact ⟨by decide⟩)
    refine CallN.q M4 [] (fun _ _ => ?_) rfl rfl ?_ trivial
    rotate_left
    · (repeat' ((conv => whnf) <;> first | exact rfl | exact trivial | apply And.intro | exact Nat.zero_add _))
      exact hmx
    (repeat' ((conv => whnf); first | apply And.intro | exact ⟨by kernel_rfl⟩ | apply DrawN.mk | apply CodeN.step hm rfl | exact trivial | exact rfl | (intro hh; try simp only [bs] at hh; try exact absurd hh (by decide)))); all_goals (conv => whnf)
    refine CallN.q (fofM p T hp (by omega)) [] (fun _ _ => ?_) rfl rfl ?_ trivial
    rotate_left
    · (repeat' ((conv => whnf) <;> first | exact rfl | exact trivial | apply And.intro | exact Nat.zero_add _))
      exact hmx
    (repeat' ((conv => whnf); first | apply And.intro | exact ⟨by kernel_rfl⟩ | apply DrawN.mk | apply CodeN.step hm rfl | exact trivial | exact rfl | (intro hh; try simp only [bs] at hh; try exact absurd hh (by decide)))); all_goals (conv => whnf)
    all_goals try (exfalso; rw [enw] at hh; omega)
    all_goals first
      | rw [if_pos (show n + w ≤ p.2.1 by rw [← enw]; assumption)] at ha
      | (rw [if_neg (show ¬ n + w ≤ p.2.1 by rw [← enw]; assumption)] at ha
         first | rw [if_pos (show p.2.1 < w by assumption)] at ha | rw [if_neg (show ¬ p.2.1 < w by assumption)] at ha
         first | rw [if_pos (show 0 < n by assumption)] at ha | rw [if_neg (show ¬ 0 < n by assumption)] at ha)
    all_goals
      (refine RetN.q () [] ?_ ?_ ?_ <;> (repeat' ((conv => whnf) <;> first | exact rfl | exact trivial | apply And.intro | exact Nat.zero_add _)); all_goals ((conv => whnf); try simp only []))
      all_goals
        rw [ha]
        first | done | exact hmx | exact enw | (simp only [hmx]; exact enx) | exact wr (by omega) | (rw [enw]; exact wr (by omega)) | rfl | skip
  · rw [ask_bad hv]
    refine Meets.intro hm (fn := Tryz.f45) Tryz.func45 rfl (by decide) (Nat.le_of_ble_eq_true rfl) (fun _ => rfl) ?_; intro S hok; (conv => whnf)
    (repeat' ((conv => whnf); first | apply And.intro | exact ⟨by kernel_rfl⟩ | apply DrawN.mk | apply CodeN.step hm rfl | exact trivial | exact rfl | (intro hh; try simp only [bs] at hh))); all_goals (conv => whnf)
    (refine CallN.q (fmayM p c k) [] (fun _ _ => ?_); (repeat' ((conv => whnf); first | apply And.intro | exact ⟨by kernel_rfl⟩ | apply DrawN.mk | apply CodeN.step hm rfl | exact trivial | exact rfl | (intro hh; try simp only [bs] at hh; try exact absurd hh (by decide)))); all_goals (conv => whnf); all_goals try exact ⟨by decide⟩)
    all_goals try
      (refine CallN.q (ftimeM t) [] (fun _ _ => ?_); (repeat' ((conv => whnf); first | apply And.intro | exact ⟨by kernel_rfl⟩ | apply DrawN.mk | apply CodeN.step hm rfl | exact trivial | exact rfl | (intro hh; try simp only [bs] at hh; try exact absurd hh (by decide)))); all_goals (conv => whnf); all_goals try exact ⟨by decide⟩)
    all_goals try
      (refine CallN.q (weighsM w) [] (fun _ _ => ?_); (repeat' ((conv => whnf); first | apply And.intro | exact ⟨by kernel_rfl⟩ | apply DrawN.mk | apply CodeN.step hm rfl | exact trivial | exact rfl | (intro hh; try simp only [bs] at hh; try exact absurd hh (by decide)))); all_goals (conv => whnf); all_goals try exact ⟨by decide⟩)
    all_goals first
      | (exfalso; exact hv ⟨by assumption, by assumption, by assumption⟩)
      | (refine RetN.q () [] ?_ ?_ ?_ <;> (repeat' ((conv => whnf) <;> first | exact rfl | exact trivial | apply And.intro | exact Nat.zero_add _)); all_goals ((conv => whnf); try simp only []))
theorem fendsM (p : Pol) (c : Cell) (k : p.1 = 2) : Meets Tryz.prog 46 [polAV p, cellAV c] [] (Y := Unit) (fun _ => True) (fun _ => .int .i64 fun _ => endsC p c) (fun _ => []) := by
  refine Meets.intro hm (fn := Tryz.f46) Tryz.func46 rfl (by decide) (Nat.le_of_ble_eq_true rfl) (fun _ => rfl) ?_; intro S hok; (conv => whnf)
  (repeat' ((conv => whnf); first | apply And.intro | exact ⟨by kernel_rfl⟩ | apply DrawN.mk | apply CodeN.step hm rfl | exact trivial | exact rfl | (intro hh; try simp only [bs] at hh))); all_goals (conv => whnf)
  (refine CallN.q (fmayM p c k) [] (fun _ _ => ?_); (repeat' ((conv => whnf); first | apply And.intro | exact ⟨by kernel_rfl⟩ | apply DrawN.mk | apply CodeN.step hm rfl | exact trivial | exact rfl | (intro hh; try simp only [bs] at hh; try exact absurd hh (by decide)))); all_goals (conv => whnf); all_goals try exact ⟨by decide⟩)
  · (refine RetN.q () [] ?_ ?_ ?_ <;> (repeat' ((conv => whnf) <;> first | exact rfl | exact trivial | apply And.intro | exact Nat.zero_add _)); all_goals ((conv => whnf); try simp only []))
    unfold endsC
    rw [if_neg (by simp [*])]
  all_goals
    have h1 : mayC p c = true := by assumption
    obtain ⟨hp, hct⟩ := may_pol h1
    have hW := hp.window
    have g := (may2 k).1 h1
    have hmm := moved_may h1 (Int.le_refl _) hct.2
    obtain ⟨b1, b2, b3⟩ := tdiv_block (t := c.1) (by omega) hW.1
    have he : endsC p c = c.1 + if c.2.1 ≤ 0 then 0 else p.2.2.1 - c.1.tmod p.2.2.1 := by
      unfold endsC
      rw [if_pos h1, wt2 hmm k (Int.le_refl _), moved_at]
      have : (moved p c c.1).2.1 = c.2.1 := by
        unfold moved
        rw [if_pos (.inr k)]
        show cnt p c c.1 = _
        rw [cnt_own h1]; unfold own; rw [if_pos (.inr k)]
      rw [this]
    rw [he]
  · (refine RetN.q () [] ?_ ?_ ?_ <;> (repeat' ((conv => whnf) <;> first | exact rfl | exact trivial | apply And.intro | exact Nat.zero_add _)); all_goals ((conv => whnf); try simp only []))
    rw [if_pos (by omega)]; omega
  · refine CallN.q (fofM p c.1 hp (by omega)) [] (fun _ _ => ?_)
    (repeat' ((conv => whnf); first | apply And.intro | exact ⟨by kernel_rfl⟩ | apply DrawN.mk | apply CodeN.step hm rfl | exact trivial | exact rfl | (intro hh; try simp only [bs] at hh; try exact absurd hh (by decide)))); all_goals (conv => whnf)
    (refine RetN.q () [] ?_ ?_ ?_ <;> (repeat' ((conv => whnf) <;> first | exact rfl | exact trivial | apply And.intro | exact Nat.zero_add _)); all_goals ((conv => whnf); try simp only []))
    rw [if_neg (by omega)]; omega
end Go.Proofs.YtkcifdblaboodaaGreat.Ce
set_option linter.unusedVariables false
set_option linter.unusedSimpArgs false
namespace Go.Proofs.YtkcifdblaboodaaGreat.Ce
open Go Go.RowKit Fw Hi Po
/-- The sum of numbers, if each is from 0 to the most. -/
def sumQ (l : List Int) (most : Int) : Int × Bool := if l.all (fun x => decide (0 ≤ x) && decide (x ≤ most)) then (l.sum, true) else (0, false)
theorem sum_take {l : List Int} {i : Nat} (h : i < l.length) : (l.take (i + 1)).sum = (l.take i).sum + l.getD i 0 := by
  rw [List.take_add_one, List.getElem?_eq_getElem h, List.sum_append, List.getD_eq_getElem?_getD, List.getElem?_eq_getElem h]; simp
theorem sum_bound {l : List Int} {m : Int} (h : ∀ x ∈ l, 0 ≤ x ∧ x ≤ m) (hm : 0 ≤ m) : 0 ≤ l.sum ∧ l.sum ≤ m * l.length := by
  induction l with
  | nil => simp
  | cons a r ih =>
    have h1 := h a (List.mem_cons_self ..)
    have h2 := ih fun x hx => h x (List.mem_cons_of_mem _ hx)
    simp only [List.sum_cons, List.length_cons, Int.natCast_add, Int.mul_add]
    omega
theorem sumQ_no {l : List Int} {most : Int} {i : Nat} (hi : i < l.length) (h : l.getD i 0 < 0 ∨ most < l.getD i 0) : sumQ l most = (0, false) := by
  unfold sumQ
  rw [if_neg]
  intro ha
  rw [List.all_eq_true] at ha
  have := ha (l.getD i 0) (by rw [List.getD_eq_getElem?_getD, List.getElem?_eq_getElem hi]; exact List.getElem_mem _)
  simp only [Bool.and_eq_true, decide_eq_true_eq] at this
  omega
theorem rsumM (l : List Int) (most : Int) (hl : l.length ≤ 1000) (hmost : 0 ≤ most ∧ most ≤ 1048576) : Meets Tryz.prog 87 [.lst (.int .i64) fun _ => l, .int .i64 fun _ => most] [] (Y := Unit) (fun _ => True) (fun _ => .tup [.int .i64 fun _ => (sumQ l most).1, .bool fun _ => (sumQ l most).2]) (fun _ => []) := by
  refine Meets.intro hm (fn := Tryz.f87) Tryz.func87 rfl (by decide) (Nat.le_of_ble_eq_true rfl) (fun _ => rfl) ?_; intro S hok; (conv => whnf)
  (repeat' ((conv => whnf); first | apply And.intro | exact ⟨by kernel_rfl⟩ | apply DrawN.mk | apply CodeN.step hm rfl | exact trivial | exact rfl | (intro hh; try simp only [bs] at hh))); all_goals (conv => whnf)
  refine LoopN.intro hm (X := Nat) (fun i => i ≤ l.length ∧ ∀ x ∈ l.take i, 0 ≤ x ∧ x ≤ most) (fun i => l.length - i)
    (fun i => [(11, .int .i64 fun _ => (i : Int)), (10, .int .i64 fun _ => (l.length : Int)), (9, .lst (.int .i64) fun _ => l), (6, .int .i64 fun _ => (l.take i).sum), (5, .ff), (4, .int .i64 fun _ => 0), (1, .int .i64 fun _ => most)]) (fun _ => []) 0 [] ⟨rfl, rfl, ?_, ?_⟩ ⟨Nat.zero_le _, by simp⟩ (fun i hi => ?_)
  · (repeat' ((conv => whnf) <;> first | exact rfl | exact trivial | apply And.intro | exact Nat.zero_add _))
  · (repeat' ((conv => whnf) <;> first | exact rfl | exact trivial | apply And.intro | exact Nat.zero_add _))
  obtain ⟨hi, ha⟩ := hi
  have hb := sum_bound ha hmost.1
  have hlt : (l.take i).length ≤ 1000 := by rw [List.length_take]; omega
  have hbb : most * ((l.take i).length : Int) ≤ 1048576 * 1000 := Int.mul_le_mul hmost.2 (by omega) (by omega) (by omega)
  (repeat' ((conv => whnf); first | apply And.intro | exact ⟨by kernel_rfl⟩ | apply DrawN.mk | apply CodeN.step hm rfl | exact trivial | exact rfl | (intro hh; try simp only [bs] at hh))); all_goals (conv => whnf)
  all_goals first
    | exact Ob.mk (by simp only []; omega)
    | (have h1 : l.getD i 0 < 0 := hh
       (refine RetN.q () [] ?_ ?_ ?_ <;> (repeat' ((conv => whnf) <;> first | exact rfl | exact trivial | apply And.intro | exact Nat.zero_add _)); all_goals ((conv => whnf); try simp only []))
       all_goals rw [sumQ_no (i := i) (by omega) (.inl h1)])
    | (have h1 : most < l.getD i 0 := hh
       (refine RetN.q () [] ?_ ?_ ?_ <;> (repeat' ((conv => whnf) <;> first | exact rfl | exact trivial | apply And.intro | exact Nat.zero_add _)); all_goals ((conv => whnf); try simp only []))
       all_goals rw [sumQ_no (i := i) (by omega) (.inr h1)])
    | (have hi2 : i < l.length := by omega
       have h1 : ¬ l.getD i 0 < 0 := by assumption
       have h2 : ¬ most < l.getD i 0 := by assumption
       refine ⟨i + 1, [], ⟨rfl, rfl, ?_, ?_⟩, ⟨by omega, fun x hx => ?_⟩, by omega⟩
       · (repeat' ((conv => whnf) <;> first | exact rfl | exact trivial | apply And.intro | exact Nat.zero_add _))
       · (repeat' ((conv => whnf) <;> first | exact rfl | exact trivial | apply And.intro | exact Nat.zero_add _)); all_goals ((conv => whnf); try simp only [])
         · exact wr (by omega)
         · have : IntKind.i64.wrap ((l.take i).sum + l.getD i 0) = (l.take (i + 1)).sum := by rw [sum_take hi2, wr (by omega)]
           exact this
       · rw [List.take_add_one, List.getElem?_eq_getElem hi2] at hx
         rcases List.mem_append.1 hx with hx | hx
         · exact ha x hx
         · have : x = l.getD i 0 := by rw [List.getD_eq_getElem?_getD, List.getElem?_eq_getElem hi2]; simpa using hx
           omega)
    | (have e : i = l.length := by omega
       rw [e, List.take_length] at ha
       have hq : sumQ l most = (l.sum, true) := by
         unfold sumQ
         rw [if_pos]
         rw [List.all_eq_true]; intro x hx
         have := ha x hx
         simp; omega
       (refine RetN.q () [] ?_ ?_ ?_ <;> (repeat' ((conv => whnf) <;> first | exact rfl | exact trivial | apply And.intro | exact Nat.zero_add _)); all_goals ((conv => whnf); try simp only []))
       all_goals rw [hq]
       rw [e, List.take_length])
theorem rnumM (p : Pol) (t : Int) (hp : PolOk p) (k : p.1 = 3) (ht : 0 ≤ t ∧ t ≤ 4398046511104) : Meets Tryz.prog 88 [polAV p, .int .i64 fun _ => t] [] (Y := Unit) (fun _ => True) (fun _ => .int .i64 fun _ => numR p t) (fun _ => []) := by
  have hs := slot_bound hp
  have hb : 0 ≤ numR p t ∧ numR p t ≤ t := ⟨numR_pos hp ht.1, by unfold numR; rw [Int.tdiv_eq_ediv_of_nonneg ht.1]; exact Int.ediv_le_self _ ht.1⟩
  have hso : slotOf p = p.2.2.1.tdiv p.2.2.2 := by unfold slotOf; rw [if_pos k]
  have M := slotM p
  rw [if_pos hp] at M
  refine Meets.intro hm (fn := Tryz.f88) Tryz.func88 rfl (by decide) (Nat.le_of_ble_eq_true rfl) (fun _ => rfl) ?_; intro S hok; (conv => whnf)
  (repeat' ((conv => whnf); first | apply And.intro | exact ⟨by kernel_rfl⟩ | apply DrawN.mk | apply CodeN.step hm rfl | exact trivial | exact rfl | (intro hh; try simp only [bs] at hh))); all_goals (conv => whnf)
  (refine CallN.q M [] (fun _ _ => ?_); (repeat' ((conv => whnf); first | apply And.intro | exact ⟨by kernel_rfl⟩ | apply DrawN.mk | apply CodeN.step hm rfl | exact trivial | exact rfl | (intro hh; try simp only [bs] at hh; try exact absurd hh (by decide)))); all_goals (conv => whnf); all_goals try exact ⟨by decide⟩)
  · exact Ob.mk (by simp only []; omega)
  · (refine RetN.q () [] ?_ ?_ ?_ <;> (repeat' ((conv => whnf) <;> first | exact rfl | exact trivial | apply And.intro | exact Nat.zero_add _)); all_goals ((conv => whnf); try simp only []))
    exact wr (by have := hb; unfold numR at this; omega)
theorem sum_zero {l : List Int} (h : ∀ x ∈ l, 0 ≤ x) : l.sum = 0 ↔ l.all (fun x => decide (x = 0)) = true := by
  rw [List.all_eq_true]
  constructor
  · intro hs x hx
    have := sum_mem h hx
    have := h x hx
    exact decide_eq_true (by omega)
  · intro ha
    induction l with
    | nil => rfl
    | cons a r ih =>
      have h1 := ha a (List.mem_cons_self ..)
      have h2 := ih (fun x hx => h x (List.mem_cons_of_mem _ hx)) fun x hx => ha x (List.mem_cons_of_mem _ hx)
      simp at h1
      rw [List.sum_cons, h1, h2]; rfl
theorem may_sumQ {p : Pol} {c : Cell} (hp : PolOk p) (k : p.1 = 3) (ht : timeB c.1 = true) (h0 : c.2.1 = 0) (hh : c.2.2.2 = []) (hl : c.2.2.1 = [] ∨ (c.2.2.1.length : Int) = p.2.2.2) :
    mayC p c = ((sumQ c.2.2.1 p.2.1).2 && decide ((sumQ c.2.2.1 p.2.1).1 ≤ p.2.1) && decide ((sumQ c.2.2.1 p.2.1).1 = (sumQ (c.2.2.1.take (min c.2.2.1.length (numR p c.1 + 1).toNat)) p.2.1).1)) := by
  have e : mayC p c = (c.2.2.1.all (fun x => decide (0 ≤ x) && decide (x ≤ p.2.1)) && decide (c.2.2.1.sum ≤ p.2.1) && (c.2.2.1.drop (numR p c.1 + 1).toNat).all (fun x => decide (x = 0))) := by
    unfold mayC
    rw [decide_eq_true hp, ht, if_neg (by omega), if_neg (by omega), if_pos k, decide_eq_true h0, decide_eq_true hh]
    have : (decide (c.2.2.1 = []) || decide ((c.2.2.1.length : Int) = p.2.2.2)) = true := by
      rw [Bool.or_eq_true, decide_eq_true_eq, decide_eq_true_eq]; exact hl
    rw [this]; simp only [Bool.true_and]
  rw [e]
  by_cases ha : c.2.2.1.all (fun x => decide (0 ≤ x) && decide (x ≤ p.2.1)) = true
  · have hn : ∀ x ∈ c.2.2.1, 0 ≤ x := fun x hx => by have := List.all_eq_true.1 ha x hx; simp at this; exact this.1
    have ha2 : (c.2.2.1.take (min c.2.2.1.length (numR p c.1 + 1).toNat)).all (fun x => decide (0 ≤ x) && decide (x ≤ p.2.1)) = true := by
      rw [List.all_eq_true]; intro x hx
      exact List.all_eq_true.1 ha x (List.mem_of_mem_take hx)
    have hs : c.2.2.1.sum = (c.2.2.1.take (min c.2.2.1.length (numR p c.1 + 1).toNat)).sum + (c.2.2.1.drop (numR p c.1 + 1).toNat).sum := by
      by_cases hm : (numR p c.1 + 1).toNat ≤ c.2.2.1.length
      · rw [Nat.min_eq_right hm, ← List.sum_append, List.take_append_drop]
      · rw [Nat.min_eq_left (by omega), List.take_length, List.drop_eq_nil_of_le (by omega)]; simp
    have hz := sum_zero (l := c.2.2.1.drop (numR p c.1 + 1).toNat) fun x hx => hn x (List.mem_of_mem_drop hx)
    have h1 : sumQ c.2.2.1 p.2.1 = (c.2.2.1.sum, true) := if_pos ha
    have h2 : sumQ (c.2.2.1.take (min c.2.2.1.length (numR p c.1 + 1).toNat)) p.2.1 = ((c.2.2.1.take (min c.2.2.1.length (numR p c.1 + 1).toNat)).sum, true) := if_pos ha2
    simp only [ha, h1, h2, Bool.true_and]
    congr 1
    refine Bool.eq_iff_iff.2 (hz.symm.trans (Iff.trans ?_ decide_eq_true_iff.symm))
    show _ ↔ c.2.2.1.sum = (c.2.2.1.take (min c.2.2.1.length (numR p c.1 + 1).toNat)).sum
    omega
  · have h1 : sumQ c.2.2.1 p.2.1 = (0, false) := if_neg ha
    rw [h1, Bool.eq_false_iff.2 ha]; rfl
theorem may_no3 {p : Pol} {c : Cell} (k : p.1 = 3) (h : ¬ (timeB c.1 = true ∧ c.2.1 = 0 ∧ (c.2.2.2.length : Int) = 0 ∧ ((c.2.2.1.length : Int) = 0 ∨ (c.2.2.1.length : Int) = p.2.2.2))) : mayC p c = false := by
  rw [← Bool.not_eq_true, may3 k]
  intro g
  exact h ⟨by simp [timeB]; exact g.time, g.level, by rw [g.hits]; rfl, g.len.imp (fun e => by rw [e]; rfl) id⟩
theorem numR_le {p : Pol} (hp : PolOk p) {t : Int} (h : 0 ≤ t) : numR p t ≤ t := by
  unfold numR; rw [Int.tdiv_eq_ediv_of_nonneg h]; exact Int.ediv_le_self _ h
theorem rmayM (p : Pol) (c : Cell) (k : p.1 = 3) : Meets Tryz.prog 47 [polAV p, cellAV c] [] (Y := Unit) (fun _ => True) (fun _ => .bool fun _ => mayC p c) (fun _ => []) := by
  by_cases hp : PolOk p
  · have hL := hp.limit
    have hB := ring_B hp k
    have htb : timeB c.1 = true ↔ 0 ≤ c.1 ∧ c.1 ≤ 1099511627776 := by simp [timeB]
    refine Meets.intro hm (fn := Tryz.f47) Tryz.func47 rfl (by decide) (Nat.le_of_ble_eq_true rfl) (fun _ => rfl) ?_; intro S hok; (conv => whnf)
    (repeat' ((conv => whnf); first | apply And.intro | exact ⟨by kernel_rfl⟩ | apply DrawN.mk | apply CodeN.step hm rfl | exact trivial | exact rfl | (intro hh; try simp only [bs] at hh))); all_goals (conv => whnf)
    (refine CallN.q (check_ok hp) [] (fun _ _ => ?_); (repeat' ((conv => whnf); first | apply And.intro | exact ⟨by kernel_rfl⟩ | apply DrawN.mk | apply CodeN.step hm rfl | exact trivial | exact rfl | (intro hh; try simp only [bs] at hh; try exact absurd hh (by decide)))); all_goals (conv => whnf); all_goals try exact ⟨by decide⟩)
    all_goals try
      (refine CallN.q (rtimeM c.1) [] (fun _ _ => ?_); (repeat' ((conv => whnf); first | apply And.intro | exact ⟨by kernel_rfl⟩ | apply DrawN.mk | apply CodeN.step hm rfl | exact trivial | exact rfl | (intro hh; try simp only [bs] at hh; try exact absurd hh (by decide)))); all_goals (conv => whnf); all_goals try exact ⟨by decide⟩)
    all_goals first
      | (exfalso; omega)
      | ((refine RetN.q () [] ?_ ?_ ?_ <;> (repeat' ((conv => whnf) <;> first | exact rfl | exact trivial | apply And.intro | exact Nat.zero_add _)); all_goals ((conv => whnf); try simp only []))
         have hf := may_no3 (p := p) (c := c) k (by
           rintro ⟨h1, h2, h3, h4⟩
           first
             | omega
             | (rw [h1] at hh; cases hh))
         first | exact hf | exact hf.symm)
      | skip
    all_goals
      have ht : timeB c.1 = true := by assumption
      have hhl : c.2.2.2 = [] := List.length_eq_zero_iff.1 (by omega)
      have hln : c.2.2.1 = [] ∨ (c.2.2.1.length : Int) = p.2.2.2 := by first | exact .inl (List.length_eq_zero_iff.1 (by omega)) | exact .inr (by omega)
      have hl16 : c.2.2.1.length ≤ 16 := by rcases hln with h | h; (rw [h]; exact Nat.zero_le _); omega
      have hmq := may_sumQ hp k ht (by assumption) hhl hln
      have ht2 := htb.1 ht
      have hN := numR_pos hp ht2.1
      (refine CallN.q (rsumM c.2.2.1 p.2.1 (by omega) (by omega)) [] (fun _ _ => ?_); (repeat' ((conv => whnf); first | apply And.intro | exact ⟨by kernel_rfl⟩ | apply DrawN.mk | apply CodeN.step hm rfl | exact trivial | exact rfl | (intro hh; try simp only [bs] at hh; try exact absurd hh (by decide)))); all_goals (conv => whnf); all_goals try exact ⟨by decide⟩)
      (refine CallN.q (rnumM p c.1 hp k (by omega)) [] (fun _ _ => ?_); (repeat' ((conv => whnf); first | apply And.intro | exact ⟨by kernel_rfl⟩ | apply DrawN.mk | apply CodeN.step hm rfl | exact trivial | exact rfl | (intro hh; try simp only [bs] at hh; try exact absurd hh (by decide)))); all_goals (conv => whnf); all_goals try exact ⟨by decide⟩)
    all_goals
      have ew : IntKind.i64.wrap (numR p c.1 + 1) = numR p c.1 + 1 := wr (by have := numR_le hp ht2.1; omega)
      have hmin : (if numR p c.1 + 1 < (c.2.2.1.length : Int) then numR p c.1 + 1 else (c.2.2.1.length : Int)) = (min c.2.2.1.length (numR p c.1 + 1).toNat : Nat) := by split <;> omega
      simp only [ew, hmin, Int.toNat_natCast, show Int.toNat 0 = 0 from rfl, List.drop_zero]
      first
        | (refine Ob.mk ?_; omega)
        | (refine CallN.q (rsumM (c.2.2.1.take (min c.2.2.1.length (numR p c.1 + 1).toNat)) p.2.1 (by rw [List.length_take]; omega) (by omega)) [] (fun _ _ => ?_) rfl rfl ?_ trivial
           rotate_left
           · exact ⟨rfl, rfl, trivial⟩
           (repeat' ((conv => whnf); first | apply And.intro | exact ⟨by kernel_rfl⟩ | apply DrawN.mk | apply CodeN.step hm rfl | exact trivial | exact rfl | (intro hh; try simp only [bs] at hh; try exact absurd hh (by decide)))); all_goals (conv => whnf)
           all_goals
             (refine RetN.q () [] ?_ ?_ ?_ <;> (repeat' ((conv => whnf) <;> first | exact rfl | exact trivial | apply And.intro | exact Nat.zero_add _)); all_goals ((conv => whnf); try simp only [])))
    all_goals
      rw [hmq]
      clear hmq
      first
        | (simp [*]; done)
        | (refine Bool.eq_iff_iff.2 ?_
           simp [*])
  · have hf : mayC p c = false := by unfold mayC; rw [decide_eq_false hp]; rfl
    refine Meets.intro hm (fn := Tryz.f47) Tryz.func47 rfl (by decide) (Nat.le_of_ble_eq_true rfl) (fun _ => rfl) ?_; intro S hok; (conv => whnf)
    (repeat' ((conv => whnf); first | apply And.intro | exact ⟨by kernel_rfl⟩ | apply DrawN.mk | apply CodeN.step hm rfl | exact trivial | exact rfl | (intro hh; try simp only [bs] at hh))); all_goals (conv => whnf)
    (refine CallN.q (check_no hp) [] (fun _ _ => ?_); (repeat' ((conv => whnf); first | apply And.intro | exact ⟨by kernel_rfl⟩ | apply DrawN.mk | apply CodeN.step hm rfl | exact trivial | exact rfl | (intro hh; try simp only [bs] at hh; try exact absurd hh (by decide)))); all_goals (conv => whnf); all_goals try exact ⟨by decide⟩)
    (refine RetN.q () [] ?_ ?_ ?_ <;> (repeat' ((conv => whnf) <;> first | exact rfl | exact trivial | apply And.intro | exact Nat.zero_add _)); all_goals ((conv => whnf); try simp only []))
    exact hf
theorem rints {g g' : Gh} : ∀ {cs : List AV} {us : List Value}, (∀ c ∈ cs, ∃ k n, c = .int k n) → RL g cs us → RL g' cs us
  | [], [], _, _ => trivial
  | [], _ :: _, _, h => h.elim
  | _ :: _, [], _, h => h.elim
  | c :: r, u :: us, hc, h => by
    obtain ⟨k, n, rfl⟩ := hc c (List.mem_cons_self ..)
    refine ⟨by rw [h.1.int_iff]; exact .int _ _, rints (fun c hm => hc c (List.mem_cons_of_mem _ hm)) h.2⟩
/-- The places of the buckets that go between two times. -/
def gonePl (p : Pol) (a b : Int) : List Int := (List.range (min (numR p b - numR p a) p.2.2.2).toNat).map fun k : Nat => (numR p a + 1 + (k : Int)) % p.2.2.2
theorem gone_len (p : Pol) (a b : Int) : (gonePl p a b).length = (min (numR p b - numR p a) p.2.2.2).toNat := by simp [gonePl]
theorem gone_at {p : Pol} {a b : Int} {k : Nat} (h : k < (min (numR p b - numR p a) p.2.2.2).toNat) : (gonePl p a b)[k]? = some ((numR p a + 1 + (k : Int)) % p.2.2.2) := by simp [gonePl, h]
theorem rgoneM (p : Pol) (a b : Int) : Meets Tryz.prog 108 [polAV p, .int .i64 fun _ => a, .int .i64 fun _ => b] [] (Y := Unit) (fun _ => True) (fun _ => .fn (.func 119) [] [.ptr 0 0, .ptr 1 0, .ptr 2 0])
    (fun _ => [.cells 23 [.int .i64 fun _ => p.1, .int .i64 fun _ => p.2.1, .int .i64 fun _ => p.2.2.1, .int .i64 fun _ => p.2.2.2], .cells 3 [.int .i64 fun _ => a], .cells 3 [.int .i64 fun _ => b]]) := by
  refine Meets.intro hm (fn := Tryz.f108) Tryz.func108 rfl (by decide) (Nat.le_of_ble_eq_true rfl) (fun _ => rfl) ?_; intro S hok; (conv => whnf)
  (repeat' ((conv => whnf); first | apply And.intro | exact ⟨by kernel_rfl⟩ | apply DrawN.mk | apply CodeN.step hm rfl | exact trivial | exact rfl | (intro hh; try simp only [bs] at hh))); all_goals (conv => whnf)
  (refine RetN.q () [0, 1, 2] ?_ ?_ ?_ <;> (repeat' ((conv => whnf) <;> first | exact rfl | exact trivial | apply And.intro | exact Nat.zero_add _)); all_goals ((conv => whnf); try simp only []))
theorem rgoneIt (p : Pol) (a b : Int) (hp : PolOk p) (k3 : p.1 = 3) (ha : 0 ≤ a ∧ a ≤ 4398046511104) (hb : 0 ≤ b ∧ b ≤ 4398046511104) : ItMeets Tryz.prog 119 [.cptr [.int .i64 fun _ => p.1, .int .i64 fun _ => p.2.1, .int .i64 fun _ => p.2.2.1, .int .i64 fun _ => p.2.2.2] 0, .cptr [.int .i64 fun _ => a] 0, .cptr [.int .i64 fun _ => b] 0] (fun x : Int => [.int .i64 fun _ => x]) (gonePl p a b) := by
  refine ItMeets.intro hm (fn := Tryz.f119) Tryz.func119 rfl (by decide) (Nat.le_of_ble_eq_true rfl) (fun x g g' us h => ?_) ?_
  · exact rints (by simp) h
  · intro S ll hyi
    have hB := ring_B hp k3
    have na := numR_pos hp ha.1
    have nb := numR_pos hp hb.1
    have la := numR_le hp ha.1
    have lb := numR_le hp hb.1
    have ew : IntKind.i64.wrap (numR p a + 1) = numR p a + 1 := wr (by omega)
    (repeat' ((conv => whnf); first | apply And.intro | exact ⟨by kernel_rfl⟩ | apply DrawN.mk | apply CodeN.step hm rfl | exact trivial | exact rfl | (intro hh; try simp only [bs] at hh))); all_goals (conv => whnf)
    (refine CallN.q (rnumM p a hp k3 ha) [] (fun _ _ => ?_); (repeat' ((conv => whnf); first | apply And.intro | exact ⟨by kernel_rfl⟩ | apply DrawN.mk | apply CodeN.step hm rfl | exact trivial | exact rfl | (intro hh; try simp only [bs] at hh; try exact absurd hh (by decide)))); all_goals (conv => whnf); all_goals try exact ⟨by decide⟩)
    (refine CallN.q (rnumM p b hp k3 hb) [] (fun _ _ => ?_); (repeat' ((conv => whnf); first | apply And.intro | exact ⟨by kernel_rfl⟩ | apply DrawN.mk | apply CodeN.step hm rfl | exact trivial | exact rfl | (intro hh; try simp only [bs] at hh; try exact absurd hh (by decide)))); all_goals (conv => whnf); all_goals try exact ⟨by decide⟩)
    refine LoopN.intro hm (X := Nat) (fun k => k ≤ (gonePl p a b).length) (fun k => (gonePl p a b).length - k)
      (fun k => [(7, .int .i64 fun _ => numR p a + 1 + k), (6, .int .i64 fun _ => numR p b), (5, .int .i64 fun _ => numR p a + 1), (1, .cptr [.int .i64 fun _ => p.1, .int .i64 fun _ => p.2.1, .int .i64 fun _ => p.2.2.1, .int .i64 fun _ => p.2.2.2] 0), (0, .fn (.yield ll) [] [])]) (fun k => [.count fun _ => k]) 0 [0] ⟨rfl, rfl, ?_, ?_⟩ (Nat.zero_le _) (fun k hk => ?_)
    · (repeat' ((conv => whnf) <;> first | exact rfl | exact trivial | apply And.intro | exact Nat.zero_add _))
    · (repeat' ((conv => whnf) <;> first | exact rfl | exact trivial | apply And.intro | exact Nat.zero_add _)); all_goals ((conv => whnf); try simp only [])
      · rw [ew]; simp
      · exact ew
      all_goals first | (split <;> first | exact ⟨trivial, trivial⟩ | (rename_i h _; exact (h rfl).elim)) | skip
    · have hlen := gone_len p a b
      have e1 : IntKind.i64.wrap (numR p a + 1 + p.2.2.2) = numR p a + 1 + p.2.2.2 := wr (by omega)
      (repeat' ((conv => whnf); first | apply And.intro | exact ⟨by kernel_rfl⟩ | apply DrawN.mk | apply CodeN.step hm rfl | exact trivial | exact rfl | (intro hh; try simp only [bs] at hh))); all_goals (conv => whnf)
      all_goals try rw [e1] at hh
      · (refine Ob.mk ?_; (try simp only [Ty.dflt, Nat.zero_add, Nat.add_zero, Int.toNat_natCast, Int.toNat_zero, Int.toNat_one, List.length_take, List.length_drop, List.length_append, List.length_replicate, List.length_cons, List.length_nil, List.length_set, List.length_map, true_and, and_true]); omega)
      · have hk1 : k < (min (numR p b - numR p a) p.2.2.2).toNat := by omega
        have e2 : (numR p a + 1 + (k : Int)) % p.2.2.2 = (numR p a + 1 + k).tmod p.2.2.2 := (Int.tmod_eq_emod_of_nonneg (by omega)).symm
        refine hyi k ((numR p a + 1 + (k : Int)) % p.2.2.2) [(7, .int .i64 fun _ => numR p a + 1 + k), (6, .int .i64 fun _ => numR p b), (5, .int .i64 fun _ => numR p a + 1), (1, .cptr [.int .i64 fun _ => p.1, .int .i64 fun _ => p.2.1, .int .i64 fun _ => p.2.2.1, .int .i64 fun _ => p.2.2.2] 0), (0, .fn (.yield ll) [] [])] (gone_at hk1) ?_ ⟨rfl, rfl, ?_, ?_⟩ ?_ ?_
        · rw [e2]
          (repeat' ((conv => whnf) <;> first | exact rfl | exact trivial | apply And.intro | exact Nat.zero_add _)); all_goals ((conv => whnf); try simp only [])
        · (repeat' ((conv => whnf) <;> first | exact rfl | exact trivial | apply And.intro | exact Nat.zero_add _)); all_goals ((conv => whnf); try simp only [])
        · (repeat' ((conv => whnf) <;> first | exact rfl | exact trivial | apply And.intro | exact Nat.zero_add _)); all_goals ((conv => whnf); try simp only [])
          all_goals first | (split <;> first | exact ⟨trivial, trivial⟩ | (rename_i h _; exact (h rfl).elim)) | skip
        · (repeat' ((conv => whnf); first | apply And.intro | exact ⟨by kernel_rfl⟩ | apply DrawN.mk | apply CodeN.step hm rfl | exact trivial | exact rfl | (intro hh; try simp only [bs] at hh))); all_goals (conv => whnf)
          refine ⟨k + 1, [0], ⟨rfl, rfl, ?_, ?_⟩, by omega, by omega⟩
          · (repeat' ((conv => whnf) <;> first | exact rfl | exact trivial | apply And.intro | exact Nat.zero_add _)); all_goals ((conv => whnf); try simp only [])
          · (repeat' ((conv => whnf) <;> first | exact rfl | exact trivial | apply And.intro | exact Nat.zero_add _)); all_goals ((conv => whnf); try simp only [])
            · rw [wr (by omega)]; omega
            all_goals first | (split <;> first | exact ⟨trivial, trivial⟩ | (rename_i h _; exact (h rfl).elim)) | skip
        · (repeat' ((conv => whnf); first | apply And.intro | exact ⟨by kernel_rfl⟩ | apply DrawN.mk | apply CodeN.step hm rfl | exact trivial | exact rfl | (intro hh; try simp only [bs] at hh))); all_goals (conv => whnf)
          exact ⟨_, ⟨rfl, trivial⟩, .inr rfl⟩
      all_goals
        have e : k = (gonePl p a b).length := by omega
        exact ⟨k, ⟨rfl, trivial⟩, .inl e⟩
/-- The numbers, and 0 at the places. -/
def zer (l : List Int) (pl : List Int) : List Int := pl.foldl (fun l x => l.set x.toNat 0) l
theorem zer_len (pl : List Int) : ∀ l : List Int, (zer l pl).length = l.length := by
  induction pl with
  | nil => intro l; rfl
  | cons a r ih => intro l; show (zer (l.set a.toNat 0) r).length = _; rw [ih, List.length_set]
theorem zer_snoc (l pl : List Int) (x : Int) : zer l (pl ++ [x]) = (zer l pl).set x.toNat 0 := by simp [zer, List.foldl_append]
theorem zer_at (pl : List Int) : ∀ (l : List Int) (j : Nat), (zer l pl).getD j 0 = if j ∈ pl.map Int.toNat then 0 else l.getD j 0 := by
  induction pl with
  | nil => intro l j; simp [zer]
  | cons a r ih =>
    intro l j
    show (zer (l.set a.toNat 0) r).getD j 0 = _
    rw [ih]
    simp only [List.map_cons, List.mem_cons]
    by_cases h1 : j ∈ r.map Int.toNat
    · rw [if_pos h1, if_pos (.inr h1)]
    · rw [if_neg h1]
      by_cases h2 : j = a.toNat
      · rw [if_pos (.inl h2), h2, List.getD_eq_getElem?_getD]
        by_cases h3 : a.toNat < l.length
        · rw [List.getElem?_set_self h3]; rfl
        · rw [List.getElem?_eq_none (by rw [List.length_set]; omega)]; rfl
      · rw [if_neg (by simp [h1, h2]), List.getD_eq_getElem?_getD, List.getElem?_set_ne (fun h => h2 h.symm), ← List.getD_eq_getElem?_getD]
theorem gone_mem {p : Pol} {a b : Int} (hp : PolOk p) (k : p.1 = 3) (ha : 0 ≤ a) (hab : a ≤ b) {j : Nat} (hj : j < p.2.2.2.toNat) : j ∈ (gonePl p a b).map Int.toNat ↔ numR p a < nb p b j := by
  have hB := ring_B hp k
  have hN := numR_mono hp ha hab
  have h0 := numR_pos hp ha
  obtain ⟨g1, g2, g3⟩ := nb_le (p := p) (t := b) (j := j) hB.1
  constructor
  · intro h
    simp only [gonePl, List.map_map, List.mem_map, List.mem_range, Function.comp] at h
    obtain ⟨i, hi, e⟩ := h
    have h1 := Int.emod_nonneg (numR p a + 1 + (i : Int)) (show p.2.2.2 ≠ 0 by omega)
    have hx : (numR p a + 1 + (i : Int) - j) % p.2.2.2 = 0 := by
      have : (j : Int) = (numR p a + 1 + (i : Int)) % p.2.2.2 := by omega
      rw [this]
      exact Int.emod_eq_emod_iff_emod_sub_eq_zero.1 (by rw [Int.emod_emod_of_dvd _ (Int.dvd_refl _)])
    by_cases hw : numR p b - p.2.2.2 < numR p a + 1 + (i : Int)
    · have := nb_eq (t := b) hB.1 (by omega) hw hx; omega
    · omega
  · intro h
    have h1 := Int.emod_nonneg (nb p b j - numR p a - 1) (show p.2.2.2 ≠ 0 by omega)
    have h2 := Int.emod_lt_of_pos (nb p b j - numR p a - 1) (show 0 < p.2.2.2 by omega)
    have h3 : (nb p b j - numR p a - 1) % p.2.2.2 ≤ nb p b j - numR p a - 1 := by
      have h4 := Int.mul_ediv_add_emod (nb p b j - numR p a - 1) p.2.2.2
      have h5 : 0 ≤ p.2.2.2 * ((nb p b j - numR p a - 1) / p.2.2.2) := Int.mul_nonneg (by omega) (Int.ediv_nonneg (by omega) (by omega))
      omega
    simp only [gonePl, List.map_map, List.mem_map, List.mem_range, Function.comp]
    refine ⟨((nb p b j - numR p a - 1) % p.2.2.2).toNat, by omega, ?_⟩
    rw [Int.toNat_of_nonneg h1]
    have h6 : (numR p a + 1 + (nb p b j - numR p a - 1) % p.2.2.2) % p.2.2.2 = (j : Int) % p.2.2.2 := by
      rw [Int.add_emod, Int.emod_emod_of_dvd _ (Int.dvd_refl _), ← Int.add_emod, show numR p a + 1 + (nb p b j - numR p a - 1) = nb p b j by omega]
      exact Int.emod_eq_emod_iff_emod_sub_eq_zero.2 g3
    rw [h6, Int.emod_eq_of_lt (by omega) (by omega)]; rfl
theorem list_getD {l m : List Int} (h : l.length = m.length) (h2 : ∀ j, j < l.length → l.getD j 0 = m.getD j 0) : l = m := by
  apply List.ext_getElem h
  intro i h3 h4
  have := h2 i h3
  rwa [List.getD_eq_getElem?_getD, List.getD_eq_getElem?_getD, List.getElem?_eq_getElem h3, List.getElem?_eq_getElem h4] at this
theorem zer_atR {p : Pol} {c : Cell} (g : Ring p c) (k : p.1 = 3) {t : Int} (ht : c.1 ≤ t) {l : List Int} (hl : l.length = p.2.2.2.toNat) (h : ∀ j, j < l.length → l.getD j 0 = c.2.2.1.getD j 0) : zer l (gonePl p c.1 t) = atR p c t := by
  refine list_getD (by rw [zer_len, hl, atR_len]) fun j hj => ?_
  rw [zer_len] at hj
  rw [zer_at, atR_getD (by omega), h j hj]
  by_cases hg : numR p c.1 < nb p t j
  · rw [if_pos hg, if_pos ((gone_mem g.pol k g.time.1 ht (by omega)).2 hg)]
  · rw [if_neg hg, if_neg fun hh => hg ((gone_mem g.pol k g.time.1 ht (by omega)).1 hh)]
theorem ratM (p : Pol) (c : Cell) (t : Int) (k : p.1 = 3) (g : Ring p c) (ht : c.1 ≤ t ∧ t ≤ 4398046511104) : Meets Tryz.prog 89 [polAV p, cellAV c, .int .i64 fun _ => t] [] (Y := Unit) (fun _ => True)
    (fun _ => .agg [.int .i64 fun _ => t, .int .i64 fun _ => 0, .vec 0 1 (fun _ => 0) (fun _ => p.2.2.2.toNat), .snil]) (fun _ => [.vect 3 (.int .i64) fun _ => atR p c t]) := by
  have hp := g.pol
  have hB := ring_B hp k
  have hct := g.time
  refine Meets.intro hm (fn := Tryz.f89) Tryz.func89 rfl (by decide) (Nat.le_of_ble_eq_true rfl) (fun _ => rfl) ?_; intro S hok; (conv => whnf)
  (repeat' ((conv => whnf); first | apply And.intro | exact ⟨by kernel_rfl⟩ | apply DrawN.mk | apply CodeN.step hm rfl | exact trivial | exact rfl | (intro hh; try simp only [bs] at hh))); all_goals (conv => whnf)
  · exact Ob.mk (by refine ⟨by simp only []; omega, Int.le_refl _, by simp only []; omega, ?_⟩; show (8 : Int) * p.2.2.2 ≤ 281474976710656; omega)
  (refine CallN.q (rgoneM p c.1 t) [] (fun _ _ => ?_); (repeat' ((conv => whnf); first | apply And.intro | exact ⟨by kernel_rfl⟩ | apply DrawN.mk | apply CodeN.step hm rfl | exact trivial | exact rfl | (intro hh; try simp only [bs] at hh; try exact absurd hh (by decide)))); all_goals (conv => whnf); all_goals try exact ⟨by decide⟩)
  refine CodeN.range hm hok [0, 1, 5, 6, 7] ?_
  (conv => whnf)
  have hct2 : 0 ≤ t := by omega
  have hl0 : (repF (fun _ => List.replicate p.2.2.2.toNat (0 : Int)) (fun _ => 0) (fun _ => min c.2.2.1.length p.2.2.2.toNat) (fun _ => c.2.2.1.take p.2.2.2.toNat) ()).length = p.2.2.2.toNat := by
    simp only [repF, List.length_append, List.length_take, List.length_drop, List.length_replicate]; omega
  have hg0 : ∀ j, j < (repF (fun _ => List.replicate p.2.2.2.toNat (0 : Int)) (fun _ => 0) (fun _ => min c.2.2.1.length p.2.2.2.toNat) (fun _ => c.2.2.1.take p.2.2.2.toNat) ()).length → (repF (fun _ => List.replicate p.2.2.2.toNat (0 : Int)) (fun _ => 0) (fun _ => min c.2.2.1.length p.2.2.2.toNat) (fun _ => c.2.2.1.take p.2.2.2.toNat) ()).getD j 0 = c.2.2.1.getD j 0 := by
    intro j hj
    rcases g.len with e | e
    · rw [e]
      simp only [repF, List.take_zero, List.nil_append, List.take_nil, List.length_nil, Nat.zero_min, Nat.add_zero, List.drop_zero]
      rw [List.getD_eq_getElem?_getD, List.getElem?_replicate]
      split <;> rfl
    · have e : c.2.2.1.length = p.2.2.2.toNat := by omega
      simp only [repF, List.take_zero, List.nil_append, e, Nat.min_self, Nat.zero_add]
      rw [List.drop_eq_nil_of_le (by simp), List.append_nil, ← e, List.take_length]
  generalize repF (fun _ => List.replicate p.2.2.2.toNat (0 : Int)) (fun _ => 0) (fun _ => min c.2.2.1.length p.2.2.2.toNat) (fun _ => c.2.2.1.take p.2.2.2.toNat) = l0 at *
  refine RangeQ.intro (rgoneIt p c.1 t hp k (by omega) (by omega)) _ (X := List Int) (fun k x => x = zer (l0 ()) ((gonePl p c.1 t).take k)) (fun _ _ => False)
    (fun x => [.none, .none, .cells 27 [.int .i64 fun _ => 0, .int .i64 fun _ => 0, .snil, .snil], .vect 3 (.int .i64) fun _ => x, .cells 24 [.vec 3 1 (fun _ => 0) fun _ => p.2.2.2.toNat], .none, .none, .none]) (l0 ()) rfl ?_ (fun _ => rfl) ?_ ?_ (fun _ => rfl) ⟨rfl, rfl⟩ (by simp [zer]) ?_ ?_ ?_
  · (repeat' ((conv => whnf) <;> first | exact rfl | exact trivial | apply And.intro | exact Nat.zero_add _)); all_goals ((conv => whnf); try simp only [])
  · intro p hp; simp at hp; subst hp; decide
  · (repeat' ((conv => whnf) <;> first | exact rfl | exact trivial | apply And.intro | exact Nat.zero_add _))
  · intro S1 S2 i x y hy hx
    have hlen := gone_len p c.1 t
    have hi := (List.getElem?_eq_some_iff.1 hy).1
    rw [gone_at (by omega)] at hy
    have hy := Option.some.inj hy
    have h1 := Int.emod_nonneg (numR p c.1 + 1 + (i : Int)) (show p.2.2.2 ≠ 0 by omega)
    have h2 := Int.emod_lt_of_pos (numR p c.1 + 1 + (i : Int)) (show 0 < p.2.2.2 by omega)
    have hxl : x.length = p.2.2.2.toNat := by rw [hx, zer_len, hl0]
    have hs : zer (l0 ()) ((gonePl p c.1 t).take (i + 1)) = x.set y.toNat 0 := by
      rw [List.take_add_one, List.getElem?_eq_getElem hi, Option.toList_some, zer_snoc, ← hx]
      have := gone_at (p := p) (a := c.1) (b := t) (k := i) (by omega)
      rw [List.getElem?_eq_getElem hi] at this
      rw [Option.some.inj this, hy]
    rw [hy] at h1 h2
    (repeat' ((conv => whnf); first | apply And.intro | exact ⟨by kernel_rfl⟩ | apply DrawN.mk | apply CodeN.step hm rfl | exact trivial | exact rfl | (intro hh; try simp only [bs] at hh))); all_goals (conv => whnf)
    · (refine Ob.mk ?_; (try simp only [Ty.dflt, Nat.zero_add, Nat.add_zero, Int.toNat_natCast, Int.toNat_zero, Int.toNat_one, List.length_take, List.length_drop, List.length_append, List.length_replicate, List.length_cons, List.length_nil, List.length_set, List.length_map, true_and, and_true]); omega)
    refine ⟨_, [0, 1, 2, 3, 4, 5, 6, 7], rfl, rfl, ?_, hs.symm⟩
    (repeat' ((conv => whnf) <;> first | exact rfl | exact trivial | apply And.intro | exact Nat.zero_add _)); all_goals ((conv => whnf); try simp only [])
    all_goals simp only [Nat.zero_add]
  · intro x hx
    rw [List.take_length] at hx
    have he := zer_atR g k ht.1 hl0 hg0
    refine ⟨rfl, ?_⟩
    (repeat' ((conv => whnf); first | apply And.intro | exact ⟨by kernel_rfl⟩ | apply DrawN.mk | apply CodeN.step hm rfl | exact trivial | exact rfl | (intro hh; try simp only [bs] at hh))); all_goals (conv => whnf)
    (refine RetN.q () [3] ?_ ?_ ?_ <;> (repeat' ((conv => whnf) <;> first | exact rfl | exact trivial | apply And.intro | exact Nat.zero_add _)); all_goals ((conv => whnf); try simp only []))
    rw [hx, he]
  · intro e x h; exact h.elim
end Go.Proofs.YtkcifdblaboodaaGreat.Ce
set_option linter.unusedVariables false
set_option linter.unusedSimpArgs false
namespace Go.Proofs.YtkcifdblaboodaaGreat.Ce
open Go Go.RowKit Fw Hi Po
theorem rtotalM (c : Cell) (hv : ∀ x ∈ c.2.2.1, 0 ≤ x ∧ x ≤ 1048576) (hl : c.2.2.1.length ≤ 16) : Meets Tryz.prog 90 [cellAV c] [] (Y := Unit) (fun _ => True) (fun _ => .int .i64 fun _ => c.2.2.1.sum) (fun _ => []) := by
  have hq : sumQ c.2.2.1 1048576 = (c.2.2.1.sum, true) := by
    unfold sumQ
    rw [if_pos]
    rw [List.all_eq_true]; intro x hx
    have := hv x hx
    simp; omega
  have M := rsumM c.2.2.1 1048576 (by omega) (by omega)
  rw [hq] at M
  refine Meets.intro hm (fn := Tryz.f90) Tryz.func90 rfl (by decide) (Nat.le_of_ble_eq_true rfl) (fun _ => rfl) ?_; intro S hok; (conv => whnf)
  (repeat' ((conv => whnf); first | apply And.intro | exact ⟨by kernel_rfl⟩ | apply DrawN.mk | apply CodeN.step hm rfl | exact trivial | exact rfl | (intro hh; try simp only [bs] at hh))); all_goals (conv => whnf)
  (refine CallN.q M [] (fun _ _ => ?_); (repeat' ((conv => whnf); first | apply And.intro | exact ⟨by kernel_rfl⟩ | apply DrawN.mk | apply CodeN.step hm rfl | exact trivial | exact rfl | (intro hh; try simp only [bs] at hh; try exact absurd hh (by decide)))); all_goals (conv => whnf); all_goals try exact ⟨by decide⟩)
  (refine RetN.q () [] ?_ ?_ ?_ <;> (repeat' ((conv => whnf) <;> first | exact rfl | exact trivial | apply And.intro | exact Nat.zero_add _)); all_goals ((conv => whnf); try simp only []))
theorem cloneI (xs : List Int) (hl : xs.length ≤ 100000) : Meets Tryz.prog 109 [.lst (.int .i64) fun _ => xs] [] (Y := Unit) (fun _ => True)
    (fun _ => .lst (.int .i64) fun _ => xs) (fun _ => []) := by
  refine Meets.intro hm (fn := Tryz.f109) Tryz.func109 rfl (by decide) (Nat.le_of_ble_eq_true rfl) (fun _ => rfl) ?_; intro S hok; (conv => whnf)
  (repeat' ((conv => whnf); first | apply And.intro | exact ⟨by kernel_rfl⟩ | apply DrawN.mk | apply CodeN.step hm rfl | exact trivial | exact rfl | (intro hh; try simp only [bs] at hh))); all_goals (conv => whnf)
  · (refine RetN.q () [] ?_ ?_ ?_ <;> (repeat' ((conv => whnf) <;> first | exact rfl | exact trivial | apply And.intro | exact Nat.zero_add _)); all_goals ((conv => whnf); try simp only []))
    exact (‹_ = true → xs = []› hh)
  · refine ⟨⟨rfl, ?_, ?_⟩⟩
    · show 0 + xs.length ≤ _
      omega
    · show (0 + xs.length) * 8 ≤ _
      omega
  · (refine RetN.frz 0 ?_; (conv => whnf))
    (refine RetN.q () [] ?_ ?_ ?_ <;> (repeat' ((conv => whnf) <;> first | exact rfl | exact trivial | apply And.intro | exact Nat.zero_add _)); all_goals ((conv => whnf); try simp only []))
    simp
def wN (p : Pol) (d : Cell) (i : Nat) : Int := (zer d.2.2.1 ((gonePl p d.1 (d.1 + p.2.2.1)).take i)).sum
theorem gone_take {p : Pol} {a b b' : Int} {i : Nat} (h : (min (numR p b - numR p a) p.2.2.2).toNat = min i (min (numR p b' - numR p a) p.2.2.2).toNat) : gonePl p a b = (gonePl p a b').take i := by
  unfold gonePl
  rw [← List.map_take, List.take_range, h]
theorem wN_len {p : Pol} {d : Cell} (k : p.1 = 3) (g : Ring p d) : (gonePl p d.1 (d.1 + p.2.2.1)).length = p.2.2.2.toNat := by
  have hB := ring_B g.pol k
  rw [gone_len, numR_window g.pol k g.time.1]; omega
theorem wN_cnt {p : Pol} {d : Cell} (k : p.1 = 3) (g : Ring p d) (hl : d.2.2.1.length = p.2.2.2.toNat) {t : Int} (ht : d.1 ≤ t) {i : Nat} (hi : numR p t = numR p d.1 + i) : cnt p d t = wN p d i := by
  have hB := ring_B g.pol k
  unfold cnt wN
  rw [if_neg (by omega), if_neg (by omega), if_pos k, ← zer_atR g k ht hl (fun j _ => rfl)]
  rw [gone_take (b := t) (b' := d.1 + p.2.2.1) (i := i)]
  rw [numR_window g.pol k g.time.1, hi]; omega
theorem wN_zero (p : Pol) (d : Cell) : wN p d 0 = d.2.2.1.sum := rfl
theorem gone_apart {p : Pol} {a b : Int} {i : Nat} {y : Int} (hB : 1 ≤ p.2.2.2) (hy : (gonePl p a b)[i]? = some y) : 0 ≤ y ∧ y < p.2.2.2 ∧ y.toNat ∉ ((gonePl p a b).take i).map Int.toNat := by
  have hi := (List.getElem?_eq_some_iff.1 hy).1
  rw [gone_len] at hi
  rw [gone_at hi] at hy
  have hy := Option.some.inj hy
  have h1 := Int.emod_nonneg (numR p a + 1 + (i : Int)) (show p.2.2.2 ≠ 0 by omega)
  have h2 := Int.emod_lt_of_pos (numR p a + 1 + (i : Int)) (show 0 < p.2.2.2 by omega)
  refine ⟨by omega, by omega, fun hm => ?_⟩
  obtain ⟨z, hz, e⟩ := List.mem_map.1 hm
  obtain ⟨j, hj⟩ := List.mem_iff_getElem?.1 hz
  have hjl := (List.getElem?_eq_some_iff.1 hj).1
  rw [List.length_take, gone_len] at hjl
  rw [List.getElem?_take, if_pos (by omega), gone_at (by omega)] at hj
  have hj := Option.some.inj hj
  have h3 := Int.emod_nonneg (numR p a + 1 + (j : Int)) (show p.2.2.2 ≠ 0 by omega)
  have h5 : (numR p a + 1 + (i : Int)) % p.2.2.2 = (numR p a + 1 + (j : Int)) % p.2.2.2 := by omega
  have h6 := Int.emod_eq_emod_iff_emod_sub_eq_zero.1 h5
  have h7 := mod_eq_of (a := (i : Int) - j) (b := 0) (B := p.2.2.2) (by omega) (by rw [← h6]; congr 1; omega) (by simp) (by omega) (by omega)
  omega
theorem wN_step {p : Pol} {d : Cell} (k : p.1 = 3) (g : Ring p d) (hl : d.2.2.1.length = p.2.2.2.toNat) {i : Nat} {y : Int} (hy : (gonePl p d.1 (d.1 + p.2.2.1))[i]? = some y) : wN p d (i + 1) = wN p d i - d.2.2.1.getD y.toNat 0 := by
  have hB := ring_B g.pol k
  obtain ⟨h1, h2, h3⟩ := gone_apart hB.1 hy
  unfold wN
  have hi := (List.getElem?_eq_some_iff.1 hy).1
  rw [List.take_add_one, hy, Option.toList_some, zer_snoc, sum_set (by rw [zer_len]; omega), zer_at, if_neg h3]; omega
theorem wN_bound {p : Pol} {d : Cell} (g : Ring p d) (i : Nat) : 0 ≤ wN p d i ∧ wN p d i ≤ p.2.1 * (d.2.2.1.length : Int) := by
  have hL := g.pol.limit
  have h : ∀ x ∈ zer d.2.2.1 ((gonePl p d.1 (d.1 + p.2.2.1)).take i), 0 ≤ x ∧ x ≤ p.2.1 := fun x hx => by
    obtain ⟨j, hj⟩ := List.mem_iff_getElem?.1 hx
    have e : x = (zer d.2.2.1 ((gonePl p d.1 (d.1 + p.2.2.1)).take i)).getD j 0 := by rw [List.getD_eq_getElem?_getD, hj]; rfl
    rw [e, zer_at]
    split
    · omega
    · exact g.nonneg j
  have := sum_bound h (by omega)
  rw [zer_len] at this
  exact this
theorem rwait_0 {p : Pol} {d : Cell} {m : Int} (k : p.1 = 3) (hm0 : 0 ≤ m) (hm : mayC p d = true) (hl : d.2.2.1.length = p.2.2.2.toNat) (h : wN p d 0 ≤ m) : wt p d m = 0 := by
  have g := (may3 k).1 hm
  have hW := g.pol.window
  refine wt_eq hm (Int.le_refl _) (by omega) (.inl rfl) (.inr ?_)
  rw [wN_cnt k g hl (i := 0) (by omega) (by simp)]; exact h
theorem rwait_at {p : Pol} {d : Cell} {m : Int} (k : p.1 = 3) (hm : mayC p d = true) (hl : d.2.2.1.length = p.2.2.2.toNat) {i : Nat} (hi : i < p.2.2.2.toNat) (h1 : m < wN p d i) (h2 : wN p d (i + 1) ≤ m) : wt p d m = (numR p d.1 + 1 + i) * slotOf p - d.1 := by
  have g := (may3 k).1 hm
  have hp := g.pol
  have hW := hp.window
  have hB := ring_B hp k
  have hs := slot_bound hp
  have ht := g.time
  have hw := ring_window hp k
  obtain ⟨b1, b2, b3⟩ := tdiv_block ht.1 hs.1
  have hn : numR p d.1 = d.1.tdiv (slotOf p) := rfl
  rw [← hn] at b1 b2
  have e1 : (numR p d.1 + 1 + (i : Int)) * slotOf p = numR p d.1 * slotOf p + slotOf p + i * slotOf p := by rw [Int.add_mul, Int.add_mul, Int.one_mul]
  have h0i : 0 ≤ (i : Int) * slotOf p := Int.mul_nonneg (by omega) (by omega)
  have hiB : ((i : Int) + 1) * slotOf p ≤ p.2.2.2 * slotOf p := Int.mul_le_mul_of_nonneg_right (by omega) (by omega)
  rw [Int.add_mul, Int.one_mul] at hiB
  have q1 : numR p (d.1 + ((numR p d.1 + 1 + (i : Int)) * slotOf p - d.1 - 1)) = numR p d.1 + i := by
    have e3 : (numR p d.1 + (i : Int)) * slotOf p = numR p d.1 * slotOf p + i * slotOf p := Int.add_mul ..
    refine tdiv_is (by omega) hs.1 ?_ ?_ <;> omega
  have q2 : numR p (d.1 + ((numR p d.1 + 1 + (i : Int)) * slotOf p - d.1)) = numR p d.1 + (i + 1 : Nat) := by
    have e2 : (numR p d.1 + ((i + 1 : Nat) : Int)) * slotOf p = numR p d.1 * slotOf p + slotOf p + i * slotOf p := by
      rw [← e1]; congr 1; omega
    refine tdiv_is (by omega) hs.1 ?_ ?_
    · rw [e2]; omega
    · rw [e2]; omega
  refine wt_eq hm (by omega) ?_ (.inr ?_) (.inr ?_)
  · have : p.2.2.2 * slotOf p = p.2.2.1 := by rw [← hw]; exact Int.mul_comm _ _
    omega
  · rw [wN_cnt k g hl (by omega) q1]; exact h1
  · rw [wN_cnt k g hl (by omega) q2]; exact h2
theorem rwait_end {p : Pol} {d : Cell} (k : p.1 = 3) (hm : mayC p d = true) (hl : d.2.2.1.length = p.2.2.2.toNat) : wN p d p.2.2.2.toNat = 0 := by
  have g := (may3 k).1 hm
  have hB := ring_B g.pol k
  have hW := g.pol.window
  rw [← wN_cnt k g hl (t := d.1 + p.2.2.1) (by omega) (by rw [numR_window g.pol k g.time.1]; omega)]
  exact cnt_gone hm (Int.le_refl _)
set_option maxRecDepth 4000 in
theorem rwaitM (p : Pol) (d : Cell) (m : Int) (k : p.1 = 3) (hm0 : 0 ≤ m) (hmy : mayC p d = true) (hl : d.2.2.1.length = p.2.2.2.toNat) : Meets Tryz.prog 91 [polAV p, cellAV d, .int .i64 fun _ => m] [] (Y := Unit) (fun _ => True) (fun _ => .int .i64 fun _ => wt p d m) (fun _ => []) := by
  have g := (may3 k).1 hmy
  have hp := g.pol
  have hB := ring_B hp k
  have hct := g.time
  have hL := hp.limit
  have hW := hp.window
  have hs := slot_bound hp
  have hn1 := numR_pos hp hct.1
  have hn2 := numR_le hp hct.1
  have hn3 : 0 ≤ numR p d.1 * slotOf p ∧ numR p d.1 * slotOf p ≤ 1099511627776 * 1048576 := ⟨Int.mul_nonneg hn1 (by omega), Int.mul_le_mul (by omega) hs.2 (by omega) (by omega)⟩
  have hn4 : (numR p d.1 + 1) * slotOf p = numR p d.1 * slotOf p + slotOf p := by rw [Int.add_mul, Int.one_mul]
  have M := slotM p
  rw [if_pos hp] at M
  refine Meets.intro hm (fn := Tryz.f91) Tryz.func91 rfl (by decide) (Nat.le_of_ble_eq_true rfl) (fun _ => rfl) ?_; intro S hok; (conv => whnf)
  (repeat' ((conv => whnf); first | apply And.intro | exact ⟨by kernel_rfl⟩ | apply DrawN.mk | apply CodeN.step hm rfl | exact trivial | exact rfl | (intro hh; try simp only [bs] at hh))); all_goals (conv => whnf)
  (refine CallN.q (rtotalM d (fun x hx => ⟨(g.val x hx).1, Int.le_trans (g.val x hx).2 hL.2⟩) (by omega)) [] (fun _ _ => ?_); (repeat' ((conv => whnf); first | apply And.intro | exact ⟨by kernel_rfl⟩ | apply DrawN.mk | apply CodeN.step hm rfl | exact trivial | exact rfl | (intro hh; try simp only [bs] at hh; try exact absurd hh (by decide)))); all_goals (conv => whnf); all_goals try exact ⟨by decide⟩)
  all_goals try
    (refine CallN.q (rnumM p d.1 hp k (by omega)) [] (fun _ _ => ?_); (repeat' ((conv => whnf); first | apply And.intro | exact ⟨by kernel_rfl⟩ | apply DrawN.mk | apply CodeN.step hm rfl | exact trivial | exact rfl | (intro hh; try simp only [bs] at hh; try exact absurd hh (by decide)))); all_goals (conv => whnf); all_goals try exact ⟨by decide⟩)
  all_goals try
    (refine CallN.q M [] (fun _ _ => ?_); (repeat' ((conv => whnf); first | apply And.intro | exact ⟨by kernel_rfl⟩ | apply DrawN.mk | apply CodeN.step hm rfl | exact trivial | exact rfl | (intro hh; try simp only [bs] at hh; try exact absurd hh (by decide)))); all_goals (conv => whnf); all_goals try exact ⟨by decide⟩)
  all_goals try
    (refine CallN.q (rnumM p d.1 hp k (by omega)) [] (fun _ _ => ?_); (repeat' ((conv => whnf); first | apply And.intro | exact ⟨by kernel_rfl⟩ | apply DrawN.mk | apply CodeN.step hm rfl | exact trivial | exact rfl | (intro hh; try simp only [bs] at hh; try exact absurd hh (by decide)))); all_goals (conv => whnf); all_goals try exact ⟨by decide⟩)
  all_goals try
    (refine CallN.q M [] (fun _ _ => ?_); (repeat' ((conv => whnf); first | apply And.intro | exact ⟨by kernel_rfl⟩ | apply DrawN.mk | apply CodeN.step hm rfl | exact trivial | exact rfl | (intro hh; try simp only [bs] at hh; try exact absurd hh (by decide)))); all_goals (conv => whnf); all_goals try exact ⟨by decide⟩)
  all_goals
    (refine CallN.q (cloneI d.2.2.1 (by omega)) [] (fun _ _ => ?_); (repeat' ((conv => whnf); first | apply And.intro | exact ⟨by kernel_rfl⟩ | apply DrawN.mk | apply CodeN.step hm rfl | exact trivial | exact rfl | (intro hh; try simp only [bs] at hh; try exact absurd hh (by decide)))); all_goals (conv => whnf); all_goals try exact ⟨by decide⟩)
  all_goals
    have eW : IntKind.i64.wrap (d.1 + p.2.2.1) = d.1 + p.2.2.1 := wr (by omega)
    simp only [eW]
    (refine CallN.q (rgoneM p d.1 (d.1 + p.2.2.1)) [] (fun _ _ => ?_); (repeat' ((conv => whnf); first | apply And.intro | exact ⟨by kernel_rfl⟩ | apply DrawN.mk | apply CodeN.step hm rfl | exact trivial | exact rfl | (intro hh; try simp only [bs] at hh; try exact absurd hh (by decide)))); all_goals (conv => whnf); all_goals try exact ⟨by decide⟩)
    refine CodeN.range hm hok [0, 1, 2, 6, 7, 8, 9] ?_
    (conv => whnf)
    refine RangeQ.intro (rgoneIt p d.1 (d.1 + p.2.2.1) hp k (by omega) (by omega)) _ (X := Int × Int × Int) (fun i x => x = (0, wN p d i, (numR p d.1 + 1 + (i : Int)) * slotOf p) ∧ (i = 0 ∨ m < wN p d i)) (fun e x => e = .ret ∧ x.1 = wt p d m ∨ e = .exit 0 ∧ wt p d m = 0)
      (fun x => [.none, .none, .none, .cells 3 [.int .i64 fun _ => x.1], .cells 3 [.int .i64 fun _ => x.2.1], .cells 3 [.int .i64 fun _ => x.2.2], .none, .none, .none, .none]) (0, d.2.2.1.sum, IntKind.i64.wrap (IntKind.i64.wrap (numR p d.1 + 1) * slotOf p)) rfl ?_ (fun _ => rfl) ?_ ?_ (fun _ => rfl) ⟨rfl, rfl⟩ ?_ ?_ ?_ ?_
    · (repeat' ((conv => whnf) <;> first | exact rfl | exact trivial | apply And.intro | exact Nat.zero_add _)); all_goals ((conv => whnf); try simp only [])
    · intro p hp; simp at hp; subst hp; decide
    · (repeat' ((conv => whnf) <;> first | exact rfl | exact trivial | apply And.intro | exact Nat.zero_add _))
    · refine ⟨?_, .inl rfl⟩
      rw [wr (x := numR p d.1 + 1) (by omega), wr (x := (numR p d.1 + 1) * slotOf p) (by omega)]
      simp [wN_zero]
    · intro S1 S2 i x y hy hx
      obtain ⟨hx, hlo⟩ := hx
      obtain ⟨hy1, hy2, hy3⟩ := gone_apart hB.1 hy
      have hst := wN_step k g hl hy
      have hb1 := wN_bound g i
      have hb2 := wN_bound g (i + 1)
      have hi := (List.getElem?_eq_some_iff.1 hy).1
      rw [wN_len k g] at hi
      have hb3 : p.2.1 * (d.2.2.1.length : Int) ≤ 1048576 * 16 := Int.mul_le_mul hL.2 (by omega) (by omega) (by omega)
      have en : IntKind.i64.wrap (x.2.1 - d.2.2.1.getD y.toNat 0) = wN p d (i + 1) := by
        rw [hst, hx]
        exact wr (by simp only []; omega)
      have ewn : x.2.1 = wN p d i := by rw [hx]
      have enx : x.2.2 = (numR p d.1 + 1 + (i : Int)) * slotOf p := by rw [hx]
      have e1 : (numR p d.1 + 1 + (i : Int)) * slotOf p = numR p d.1 * slotOf p + slotOf p + i * slotOf p := by rw [Int.add_mul, Int.add_mul, Int.one_mul]
      have e2 : (numR p d.1 + 1 + ((i + 1 : Nat) : Int)) * slotOf p = (numR p d.1 + 1 + (i : Int)) * slotOf p + slotOf p := by
        rw [show numR p d.1 + 1 + ((i + 1 : Nat) : Int) = numR p d.1 + 1 + (i : Int) + 1 by omega, Int.add_mul _ 1, Int.one_mul]
      have h0i : 0 ≤ (i : Int) * slotOf p ∧ (i : Int) * slotOf p ≤ 16 * 1048576 := ⟨Int.mul_nonneg (by omega) (by omega), Int.mul_le_mul (by omega) hs.2 (by omega) (by omega)⟩
      (repeat' ((conv => whnf); first | apply And.intro | exact ⟨by kernel_rfl⟩ | apply DrawN.mk | apply CodeN.step hm rfl | exact trivial | exact rfl | (intro hh; try simp only [bs] at hh))); all_goals (conv => whnf)
      · have h0 : i = 0 := by omega
        subst h0
        refine ⟨x, [0, 1, 2, 3, 4, 5, 6, 7, 8, 9], rfl, rfl, ?_, .inr ⟨rfl, rwait_0 k hm0 hmy hl (by omega)⟩⟩
        (repeat' ((conv => whnf) <;> first | exact rfl | exact trivial | apply And.intro | exact Nat.zero_add _)); all_goals ((conv => whnf); try simp only [])
      · refine Ob.mk ?_
        simp only []; omega
      · have hh2 : wN p d (i + 1) ≤ m := by rw [← en]; exact hh
        refine ⟨((numR p d.1 + 1 + (i : Int)) * slotOf p - d.1, wN p d (i + 1), x.2.2), [0, 1, 2, 3, 4, 5, 6, 7, 8, 9], rfl, rfl, ?_, .inl ⟨rfl, (rwait_at k hmy hl hi (by omega) hh2).symm⟩⟩
        (repeat' ((conv => whnf) <;> first | exact rfl | exact trivial | apply And.intro | exact Nat.zero_add _)); all_goals ((conv => whnf); try simp only [])
        · rw [enx]
          exact wr (by omega)
        · exact en
      · have hh2 : ¬ wN p d (i + 1) ≤ m := by rw [← en]; exact hh
        (refine CallN.q M [] (fun _ _ => ?_); (repeat' ((conv => whnf); first | apply And.intro | exact ⟨by kernel_rfl⟩ | apply DrawN.mk | apply CodeN.step hm rfl | exact trivial | exact rfl | (intro hh; try simp only [bs] at hh; try exact absurd hh (by decide)))); all_goals (conv => whnf); all_goals try exact ⟨by decide⟩)
        refine ⟨(0, wN p d (i + 1), (numR p d.1 + 1 + ((i + 1 : Nat) : Int)) * slotOf p), [0, 1, 2, 3, 4, 5, 6, 7, 8, 9], rfl, rfl, ?_, rfl, .inr (by omega)⟩
        (repeat' ((conv => whnf) <;> first | exact rfl | exact trivial | apply And.intro | exact Nat.zero_add _)); all_goals ((conv => whnf); try simp only [])
        · rw [hx]
        · exact en
        · rw [enx, e2]
          exact wr (by omega)
    · intro x hx
      exfalso
      rw [wN_len k g, rwait_end k hmy hl] at hx
      omega
    · intro e x h hne
      refine ⟨rfl, ?_⟩
      rcases h with ⟨rfl, h⟩ | ⟨rfl, h⟩
      · (repeat' ((conv => whnf); first | apply And.intro | exact ⟨by kernel_rfl⟩ | apply DrawN.mk | apply CodeN.step hm rfl | exact trivial | exact rfl | (intro hh; try simp only [bs] at hh))); all_goals (conv => whnf)
        (refine RetN.q () [] ?_ ?_ ?_ <;> (repeat' ((conv => whnf) <;> first | exact rfl | exact trivial | apply And.intro | exact Nat.zero_add _)); all_goals ((conv => whnf); try simp only []))
        exact h
      · (repeat' ((conv => whnf); first | apply And.intro | exact ⟨by kernel_rfl⟩ | apply DrawN.mk | apply CodeN.step hm rfl | exact trivial | exact rfl | (intro hh; try simp only [bs] at hh))); all_goals (conv => whnf)
        (refine RetN.q () [] ?_ ?_ ?_ <;> (repeat' ((conv => whnf) <;> first | exact rfl | exact trivial | apply And.intro | exact Nat.zero_add _)); all_goals ((conv => whnf); try simp only []))
        exact h.symm
theorem ask3 {p : Pol} {c : Cell} {t w : Int} (k : p.1 = 3) (h1 : mayC p c = true) (h2 : timeB t = true) (h3 : weighs w = true) :
    askC p c t w = if (atR p c (max t c.1)).sum + w ≤ p.2.1 then (added p (moved p c (max t c.1)) w, true, p.2.1 - ((atR p c (max t c.1)).sum + w), 0, wt p (added p (moved p c (max t c.1)) w) 0)
    else (moved p c (max t c.1), false, p.2.1 - (atR p c (max t c.1)).sum, (if p.2.1 < w then 2199023255552 else wt p (moved p c (max t c.1)) (p.2.1 - w)), wt p (moved p c (max t c.1)) 0) := by
  have em : own p (moved p c (max t c.1)) = (atR p c (max t c.1)).sum := by unfold own moved; simp only [if_neg (show ¬ (p.1 = 1 ∨ p.1 = 2) by omega), if_pos k]
  have ewt : ∀ w, worth p w = w := fun w => by unfold worth; rw [if_neg (by omega)]
  rw [ask_ok h1 h2 h3, em, ewt, ewt, ewt, Int.tdiv_one, Int.tdiv_one]
theorem raskM (p : Pol) (c : Cell) (t w : Int) (k : p.1 = 3) : Meets Tryz.prog 48 [polAV p, cellAV c, .int .i64 fun _ => t, .int .i64 fun _ => w] [] (Y := Unit) (fun _ => True) (fun _ => .tup [cellAV (askC p c t w).1, verAV (askC p c t w).2]) (fun _ => []) := by
  by_cases hv : mayC p c = true ∧ timeB t = true ∧ weighs w = true
  · obtain ⟨h1, h2, h3⟩ := hv
    have M1 := rmayM p c k
    have M2 := rtimeM t
    have M3 := weighsM w
    rw [h1] at M1
    rw [h2] at M2
    rw [h3] at M3
    have ht : 0 ≤ t ∧ t ≤ 1099511627776 := by simpa [timeB] using h2
    have hw : 1 ≤ w ∧ w ≤ 1048576 := by simpa [weighs] using h3
    have g := (may3 k).1 h1
    have hp := g.pol
    have hct := g.time
    have hL := hp.limit
    have hW := hp.window
    have hmx : (if c.1 > t then c.1 else t) = max t c.1 := by split <;> omega
    have ha := ask3 k h1 h2 h3
    have hmm := moved_may h1 (t := max t c.1) (by omega) (by omega)
    have hmf := moved_full p c (max t c.1)
    refine Meets.intro hm (fn := Tryz.f48) Tryz.func48 rfl (by decide) (Nat.le_of_ble_eq_true rfl) (fun _ => rfl) ?_; intro S hok; (conv => whnf)
    (repeat' ((conv => whnf); first | apply And.intro | exact ⟨by kernel_rfl⟩ | apply DrawN.mk | apply CodeN.step hm rfl | exact trivial | exact rfl | (intro hh; try simp only [bs] at hh))); all_goals (conv => whnf)
    (refine CallN.q M1 [] (fun _ _ => ?_); (repeat' ((conv => whnf); first | apply And.intro | exact ⟨by kernel_rfl⟩ | apply DrawN.mk | apply CodeN.step hm rfl | exact trivial | exact rfl | (intro hh; try simp only [bs] at hh; try exact absurd hh (by decide)))); all_goals (conv => whnf); all_goals try exact ⟨by decide⟩)
    (refine CallN.q M2 [] (fun _ _ => ?_); (repeat' ((conv => whnf); first | apply And.intro | exact ⟨by kernel_rfl⟩ | apply DrawN.mk | apply CodeN.step hm rfl | exact trivial | exact rfl | (intro hh; try simp only [bs] at hh; try exact absurd hh (by decide)))); all_goals (conv => whnf); all_goals try exact ⟨by decide⟩)
    (refine CallN.q M3 [] (fun _ _ => ?_); (repeat' ((conv => whnf); first | apply And.intro | exact ⟨by kernel_rfl⟩ | apply DrawN.mk | apply CodeN.step hm rfl | exact trivial | exact rfl | (intro hh; try simp only [bs] at hh; try exact absurd hh (by decide)))); all_goals (conv => whnf); all_goals try exact ⟨by decide⟩)
    have M4 := ratM p c (max t c.1) k g (by omega)
    refine CallN.q M4 [] (fun _ _ => ?_) rfl rfl ?_ trivial
    rotate_left
    · (repeat' ((conv => whnf) <;> first | exact rfl | exact trivial | apply And.intro | exact Nat.zero_add _))
      exact hmx
    have hlen : (atR p c (max t c.1)).length = p.2.2.2.toNat := atR_len ..
    have hB := ring_B hp k
    have g2 := (may3 k).1 hmm
    have em : moved p c (max t c.1) = (max t c.1, 0, atR p c (max t c.1), []) := by unfold moved; rw [if_neg (by omega), if_pos k]
    rw [em] at g2 hmm ha
    have hT : 0 ≤ max t c.1 ∧ max t c.1 ≤ 1099511627776 := by omega
    clear hmf em hmx M1 M2 M3 M4
    generalize max t c.1 = T at *
    generalize atR p c T = l at *
    have hv : ∀ x ∈ l, 0 ≤ x ∧ x ≤ 1048576 := fun x hx => ⟨(g2.val x hx).1, Int.le_trans (g2.val x hx).2 hL.2⟩
    have M5 := rtotalM (T, 0, l, []) hv (by simp only []; omega)
    have hsm := sum_bound hv (by omega)
    (repeat' ((conv => whnf); first | apply And.intro | exact ⟨by kernel_rfl⟩ | apply DrawN.mk | apply CodeN.step hm rfl | exact trivial | exact rfl | (intro hh; try simp only [bs] at hh; try exact absurd hh (by decide)))); all_goals (conv => whnf)
    refine CallN.rest M5 [4] ?_ (fun _ _ => ⟨rfl, rfl⟩) ?_
    · (repeat' ((conv => whnf) <;> first | exact rfl | exact trivial | apply And.intro | exact Nat.zero_add _)); all_goals ((conv => whnf); try simp only [])
      rw [List.drop_zero, ← hlen, List.take_length]
    intro y hy
    have enw : IntKind.i64.wrap (l.sum + w) = l.sum + w := wr (by omega)
    (repeat' ((conv => whnf); first | apply And.intro | exact ⟨by kernel_rfl⟩ | apply DrawN.mk | apply CodeN.step hm rfl | exact trivial | exact rfl | (intro hh; try simp only [bs] at hh; try exact absurd hh (by decide)))); all_goals (conv => whnf)
    · have hle : l.sum + w ≤ p.2.1 := by rw [← enw]; exact hh
      rw [if_pos hle] at ha
      have hnp := numR_pos hp hT.1
      have htm : (numR p T).tmod p.2.2.2 = numR p T % p.2.2.2 := Int.tmod_eq_emod_of_nonneg hnp
      have hpl := place_lt hB.1 (numR p T)
      have hem1 := Int.emod_nonneg (numR p T) (show p.2.2.2 ≠ 0 by omega)
      have hgl := g2.nonneg (numR p T % p.2.2.2).toNat
      have hgw : IntKind.i64.wrap (l.getD (numR p T % p.2.2.2).toNat 0 + w) = l.getD (numR p T % p.2.2.2).toNat 0 + w := wr (by simp only [] at hgl; omega)
      have hadd : added p (T, 0, l, []) w = (T, 0, l.set (numR p T % p.2.2.2).toNat (l.getD (numR p T % p.2.2.2).toNat 0 + w), []) := by
        unfold added; simp only [if_neg (show ¬ p.1 = 1 by omega), if_neg (show ¬ p.1 = 2 by omega), if_pos k]
      have ham := added_may hmm (fun _ => hlen) hw.1 (by
        unfold own worth; simp only [if_neg (show ¬ p.1 = 1 by omega), if_neg (show ¬ (p.1 = 1 ∨ p.1 = 2) by omega), if_pos k]; exact hle)
      rw [hadd] at ha ham
      have hsm2 : (l.set (numR p T % p.2.2.2).toNat (l.getD (numR p T % p.2.2.2).toNat 0 + w)).sum = l.sum + w := by
        rw [sum_set (by omega)]; omega
      have g3 := (may3 k).1 ham
      have hlen3 : (l.set (numR p T % p.2.2.2).toNat (l.getD (numR p T % p.2.2.2).toNat 0 + w)).length = p.2.2.2.toNat := by rw [List.length_set]; exact hlen
      have M6 := rtotalM (T, 0, l.set (numR p T % p.2.2.2).toNat (l.getD (numR p T % p.2.2.2).toNat 0 + w), []) (fun x hx => ⟨(g3.val x hx).1, Int.le_trans (g3.val x hx).2 hL.2⟩) (by simp only []; omega)
      have M7 := rwaitM p _ 0 k (Int.le_refl _) ham hlen3
      have hset : l.set (0 + ((numR p T).tmod p.2.2.2).toNat) (IntKind.i64.wrap (l.getD (0 + ((numR p T).tmod p.2.2.2).toNat) 0 + w)) = l.set (numR p T % p.2.2.2).toNat (l.getD (numR p T % p.2.2.2).toNat 0 + w) := by
        rw [Nat.zero_add, htm, hgw]
      generalize l.set (numR p T % p.2.2.2).toNat (l.getD (numR p T % p.2.2.2).toNat 0 + w) = l' at *
      (refine CallN.q (rnumM p T hp k (by omega)) [] (fun _ _ => ?_); (repeat' ((conv => whnf); first | apply And.intro | exact ⟨by kernel_rfl⟩ | apply DrawN.mk | apply CodeN.step hm rfl | exact trivial | exact rfl | (intro hh; try simp only [bs] at hh; try exact absurd hh (by decide)))); all_goals (conv => whnf); all_goals try exact ⟨by decide⟩)
      · exact Ob.mk (by simp only []; omega)
      · exact Ob.mk (by simp only [htm]; omega)
      · exact Ob.mk (by simp only [htm]; omega)
      refine CallN.rest M6 [4] ?_ (fun _ _ => ⟨rfl, rfl⟩) ?_
      · (repeat' ((conv => whnf) <;> first | exact rfl | exact trivial | apply And.intro | exact Nat.zero_add _)); all_goals ((conv => whnf); try simp only [])
        rw [List.drop_zero]
        refine Eq.trans ?_ (List.take_of_length_le (Nat.le_of_eq hlen3))
        exact congrArg _ hset
      intro y hy
      (repeat' ((conv => whnf); first | apply And.intro | exact ⟨by kernel_rfl⟩ | apply DrawN.mk | apply CodeN.step hm rfl | exact trivial | exact rfl | (intro hh; try simp only [bs] at hh; try exact absurd hh (by decide)))); all_goals (conv => whnf)
      refine CallN.rest M7 [4] ?_ (fun _ _ => ⟨rfl, rfl⟩) ?_
      · (repeat' ((conv => whnf) <;> first | exact rfl | exact trivial | apply And.intro | exact Nat.zero_add _)); all_goals ((conv => whnf); try simp only [])
        rw [List.drop_zero]
        refine Eq.trans ?_ (List.take_of_length_le (Nat.le_of_eq hlen3))
        exact congrArg _ hset
      intro y hy
      (repeat' ((conv => whnf); first | apply And.intro | exact ⟨by kernel_rfl⟩ | apply DrawN.mk | apply CodeN.step hm rfl | exact trivial | exact rfl | (intro hh; try simp only [bs] at hh; try exact absurd hh (by decide)))); all_goals (conv => whnf)
      (refine RetN.frz 4 ?_; (conv => whnf))
      (refine RetN.q () [] ?_ ?_ ?_ <;> (repeat' ((conv => whnf) <;> first | exact rfl | exact trivial | apply And.intro | exact Nat.zero_add _)); all_goals ((conv => whnf); try simp only []))
      all_goals rw [ha]
      · rw [List.drop_zero]
        refine Eq.trans ?_ (List.take_of_length_le (Nat.le_of_eq hlen3))
        exact congrArg _ hset
      · rw [hsm2]
        exact wr (by omega)
    all_goals
      have hgt : ¬ l.sum + w ≤ p.2.1 := by rw [← enw]; assumption
      rw [if_neg hgt] at ha
    · rw [if_pos hh] at ha
      refine CallN.rest M5 [4] ?_ (fun _ _ => ⟨rfl, rfl⟩) ?_
      · (repeat' ((conv => whnf) <;> first | exact rfl | exact trivial | apply And.intro | exact Nat.zero_add _)); all_goals ((conv => whnf); try simp only [])
        rw [List.drop_zero, ← hlen, List.take_length]
      intro y hy
      (repeat' ((conv => whnf); first | apply And.intro | exact ⟨by kernel_rfl⟩ | apply DrawN.mk | apply CodeN.step hm rfl | exact trivial | exact rfl | (intro hh; try simp only [bs] at hh; try exact absurd hh (by decide)))); all_goals (conv => whnf)
      refine CallN.rest (rwaitM p (T, 0, l, []) 0 k (Int.le_refl _) hmm hlen) [4] ?_ (fun _ _ => ⟨rfl, rfl⟩) ?_
      · (repeat' ((conv => whnf) <;> first | exact rfl | exact trivial | apply And.intro | exact Nat.zero_add _)); all_goals ((conv => whnf); try simp only [])
        rw [List.drop_zero, ← hlen, List.take_length]
      intro y hy
      (repeat' ((conv => whnf); first | apply And.intro | exact ⟨by kernel_rfl⟩ | apply DrawN.mk | apply CodeN.step hm rfl | exact trivial | exact rfl | (intro hh; try simp only [bs] at hh; try exact absurd hh (by decide)))); all_goals (conv => whnf)
      (refine RetN.frz 4 ?_; (conv => whnf))
      (refine RetN.q () [] ?_ ?_ ?_ <;> (repeat' ((conv => whnf) <;> first | exact rfl | exact trivial | apply And.intro | exact Nat.zero_add _)); all_goals ((conv => whnf); try simp only []))
      all_goals rw [ha]
      · rw [List.drop_zero]
        exact List.take_of_length_le (Nat.le_of_eq hlen)
      · exact wr (by omega)
    · rw [if_neg hh] at ha
      have ew2 : IntKind.i64.wrap (p.2.1 - w) = p.2.1 - w := wr (by omega)
      refine CallN.rest (rwaitM p (T, 0, l, []) (p.2.1 - w) k (by omega) hmm hlen) [4] ?_ (fun _ _ => ⟨rfl, rfl⟩) ?_
      · (repeat' ((conv => whnf) <;> first | exact rfl | exact trivial | apply And.intro | exact Nat.zero_add _)); all_goals ((conv => whnf); try simp only [])
        · rw [List.drop_zero, ← hlen, List.take_length]
        · exact ew2
      intro y hy
      (repeat' ((conv => whnf); first | apply And.intro | exact ⟨by kernel_rfl⟩ | apply DrawN.mk | apply CodeN.step hm rfl | exact trivial | exact rfl | (intro hh; try simp only [bs] at hh; try exact absurd hh (by decide)))); all_goals (conv => whnf)
      refine CallN.rest M5 [4] ?_ (fun _ _ => ⟨rfl, rfl⟩) ?_
      · (repeat' ((conv => whnf) <;> first | exact rfl | exact trivial | apply And.intro | exact Nat.zero_add _)); all_goals ((conv => whnf); try simp only [])
        rw [List.drop_zero, ← hlen, List.take_length]
      intro y hy
      (repeat' ((conv => whnf); first | apply And.intro | exact ⟨by kernel_rfl⟩ | apply DrawN.mk | apply CodeN.step hm rfl | exact trivial | exact rfl | (intro hh; try simp only [bs] at hh; try exact absurd hh (by decide)))); all_goals (conv => whnf)
      refine CallN.rest (rwaitM p (T, 0, l, []) 0 k (Int.le_refl _) hmm hlen) [4] ?_ (fun _ _ => ⟨rfl, rfl⟩) ?_
      · (repeat' ((conv => whnf) <;> first | exact rfl | exact trivial | apply And.intro | exact Nat.zero_add _)); all_goals ((conv => whnf); try simp only [])
        rw [List.drop_zero, ← hlen, List.take_length]
      intro y hy
      (repeat' ((conv => whnf); first | apply And.intro | exact ⟨by kernel_rfl⟩ | apply DrawN.mk | apply CodeN.step hm rfl | exact trivial | exact rfl | (intro hh; try simp only [bs] at hh; try exact absurd hh (by decide)))); all_goals (conv => whnf)
      (refine RetN.frz 4 ?_; (conv => whnf))
      (refine RetN.q () [] ?_ ?_ ?_ <;> (repeat' ((conv => whnf) <;> first | exact rfl | exact trivial | apply And.intro | exact Nat.zero_add _)); all_goals ((conv => whnf); try simp only []))
      all_goals rw [ha]
      · rw [List.drop_zero]
        exact List.take_of_length_le (Nat.le_of_eq hlen)
      · exact wr (by omega)
  · rw [ask_bad hv]
    refine Meets.intro hm (fn := Tryz.f48) Tryz.func48 rfl (by decide) (Nat.le_of_ble_eq_true rfl) (fun _ => rfl) ?_; intro S hok; (conv => whnf)
    (repeat' ((conv => whnf); first | apply And.intro | exact ⟨by kernel_rfl⟩ | apply DrawN.mk | apply CodeN.step hm rfl | exact trivial | exact rfl | (intro hh; try simp only [bs] at hh))); all_goals (conv => whnf)
    (refine CallN.q (rmayM p c k) [] (fun _ _ => ?_); (repeat' ((conv => whnf); first | apply And.intro | exact ⟨by kernel_rfl⟩ | apply DrawN.mk | apply CodeN.step hm rfl | exact trivial | exact rfl | (intro hh; try simp only [bs] at hh; try exact absurd hh (by decide)))); all_goals (conv => whnf); all_goals try exact ⟨by decide⟩)
    all_goals try
      (refine CallN.q (rtimeM t) [] (fun _ _ => ?_); (repeat' ((conv => whnf); first | apply And.intro | exact ⟨by kernel_rfl⟩ | apply DrawN.mk | apply CodeN.step hm rfl | exact trivial | exact rfl | (intro hh; try simp only [bs] at hh; try exact absurd hh (by decide)))); all_goals (conv => whnf); all_goals try exact ⟨by decide⟩)
    all_goals try
      (refine CallN.q (weighsM w) [] (fun _ _ => ?_); (repeat' ((conv => whnf); first | apply And.intro | exact ⟨by kernel_rfl⟩ | apply DrawN.mk | apply CodeN.step hm rfl | exact trivial | exact rfl | (intro hh; try simp only [bs] at hh; try exact absurd hh (by decide)))); all_goals (conv => whnf); all_goals try exact ⟨by decide⟩)
    all_goals first
      | (exfalso; exact hv ⟨by assumption, by assumption, by assumption⟩)
      | (refine RetN.q () [] ?_ ?_ ?_ <;> (repeat' ((conv => whnf) <;> first | exact rfl | exact trivial | apply And.intro | exact Nat.zero_add _)); all_goals ((conv => whnf); try simp only []))
theorem rendsM (p : Pol) (c : Cell) (k : p.1 = 3) : Meets Tryz.prog 49 [polAV p, cellAV c] [] (Y := Unit) (fun _ => True) (fun _ => .int .i64 fun _ => endsC p c) (fun _ => []) := by
  refine Meets.intro hm (fn := Tryz.f49) Tryz.func49 rfl (by decide) (Nat.le_of_ble_eq_true rfl) (fun _ => rfl) ?_; intro S hok; (conv => whnf)
  (repeat' ((conv => whnf); first | apply And.intro | exact ⟨by kernel_rfl⟩ | apply DrawN.mk | apply CodeN.step hm rfl | exact trivial | exact rfl | (intro hh; try simp only [bs] at hh))); all_goals (conv => whnf)
  (refine CallN.q (rmayM p c k) [] (fun _ _ => ?_); (repeat' ((conv => whnf); first | apply And.intro | exact ⟨by kernel_rfl⟩ | apply DrawN.mk | apply CodeN.step hm rfl | exact trivial | exact rfl | (intro hh; try simp only [bs] at hh; try exact absurd hh (by decide)))); all_goals (conv => whnf); all_goals try exact ⟨by decide⟩)
  · (refine RetN.q () [] ?_ ?_ ?_ <;> (repeat' ((conv => whnf) <;> first | exact rfl | exact trivial | apply And.intro | exact Nat.zero_add _)); all_goals ((conv => whnf); try simp only []))
    unfold endsC
    rw [if_neg (by simp [*])]
  have h1 : mayC p c = true := by assumption
  have g := (may3 k).1 h1
  have hp := g.pol
  have hct := g.time
  have hW := hp.window
  have hB := ring_B hp k
  have hmm := moved_may h1 (Int.le_refl _) hct.2
  have hlen : (atR p c c.1).length = p.2.2.2.toNat := atR_len ..
  have em : moved p c c.1 = (c.1, 0, atR p c c.1, []) := by unfold moved; rw [if_neg (by omega), if_pos k]
  have he : endsC p c = c.1 + wt p (c.1, 0, atR p c c.1, []) 0 := by unfold endsC; rw [if_pos h1, em]
  rw [em] at hmm
  rw [he]
  have hwb := wt_bound (p := p) (d := (c.1, 0, atR p c c.1, [])) hp 0
  (refine CallN.q (ratM p c c.1 k g (by omega)) [] (fun _ _ => ?_); (repeat' ((conv => whnf); first | apply And.intro | exact ⟨by kernel_rfl⟩ | apply DrawN.mk | apply CodeN.step hm rfl | exact trivial | exact rfl | (intro hh; try simp only [bs] at hh; try exact absurd hh (by decide)))); all_goals (conv => whnf); all_goals try exact ⟨by decide⟩)
  generalize atR p c c.1 = l at *
  refine CallN.rest (rwaitM p (c.1, 0, l, []) 0 k (Int.le_refl _) hmm hlen) [2] ?_ (fun _ _ => ⟨rfl, rfl⟩) ?_
  · (repeat' ((conv => whnf) <;> first | exact rfl | exact trivial | apply And.intro | exact Nat.zero_add _)); all_goals ((conv => whnf); try simp only [])
    rw [List.drop_zero, ← hlen, List.take_length]
  intro y hy
  (repeat' ((conv => whnf); first | apply And.intro | exact ⟨by kernel_rfl⟩ | apply DrawN.mk | apply CodeN.step hm rfl | exact trivial | exact rfl | (intro hh; try simp only [bs] at hh; try exact absurd hh (by decide)))); all_goals (conv => whnf)
  (refine RetN.q () [] ?_ ?_ ?_ <;> (repeat' ((conv => whnf) <;> first | exact rfl | exact trivial | apply And.intro | exact Nat.zero_add _)); all_goals ((conv => whnf); try simp only []))
  exact wr (by omega)
end Go.Proofs.YtkcifdblaboodaaGreat.Ce
