/- The law TimerNext holds at every input that its statement lets in; part 2 of its proof. -/
import Derived.Test.YtafcenlbllmahaaMTimerNext0
import Derived.Lib.AppendStr
import Derived.RangeFuncNested
import Derived.RangeFuncLeaves
import Derived.Laws.Externs
import Derived.OrdersIn
import Derived.Deep.LoopGhost
import Derived.RangeFuncRecord
set_option linter.unusedVariables false
set_option linter.unusedSimpArgs false
namespace Go.Proofs.Ytafcenlbllmahaa.Fw
open Go Go.RowKit

section
variable {P : Program} {B : Base} {g : Gh} {env : Env} {E : List Chunk} {tmps : Array Value} {w : World}
variable {a : Act} {o : Oper} {K : AV → Env → List Chunk → Prop}

theorem buildSlice_ok {t len : Nat} {parts : Array (Nat × Operand)} (h : Inv B g env E a.tmps w) (ho : o.op = .buildSlice t len parts) (hk : eV P (.buildSlice t len parts) env E K) : Done P o a w B K := by
  simp only [eV] at hk
  split at hk <;> try exact hk.elim
  rename_i e ht
  split at hk <;> try exact hk.elim
  rename_i sz z ps hsz hz hps
  split at hk <;> try exact hk.elim
  rename_i hl1 hs1
  have hl1 : len ≤ 1000 := Nat.le_of_ble_eq_true hl1
  have hs1 : sz ≤ 1000 := Nat.le_of_ble_eq_true hs1
  have hsmall : len * sz ≤ 1000000 := Nat.mul_le_mul hl1 hs1
  split at hk <;> try exact hk.elim
  rename_i zc hzc
  split at hk <;> try exact hk.elim
  rename_i cs hzl hf
  rw [fL_eq] at hk
  have hzs : zc.length = sz := Nat.eq_of_beq_eq_true hzl
  have hzr := (R_cst g z).cells hzc
  have hzsz : z.cells.size = sz := by have := hzr.length; simp at this; omega
  obtain ⟨hpl, hpp⟩ := partsV_ok h.er parts.toList ps hps
  have hp' : ∀ (i : Nat) (c : Nat × List AV), ps[i]? = some c → ∃ u : Value, (parts.toList.map fun ix => (ix.1, a.eval ix.2))[i]? = some (c.1, u) ∧ RL g c.2 u.cells.toList := by
    intro i c hi
    obtain ⟨j, x, h1, h2, h3⟩ := hpp i c hi
    exact ⟨a.eval x, by rw [List.getElem?_map, h1]; simp [h2], h3⟩
  have hzero := made_list z.cells len
  obtain ⟨out, h1, h2⟩ := fillV_ok (fun i => some (i * sz, sz)) ps (parts.toList.map fun ix => (ix.1, a.eval ix.2)) _ cs ((Array.range (len * z.cells.size)).map (z.cells[· % z.cells.size]!)) hf (by rw [hzero]; exact zeros_ok hzc len) (by simp [hpl]) hp'
  have houtl : out.size = len * sz := by
    have e1 := h2.length
    have key : ∀ (ps : List (Nat × List AV)) (cs r : List AV), fillV (fun i => some (i * sz, sz)) cs ps = some r → r.length = cs.length := by
      intro ps
      induction ps with
      | nil => intro cs r hh; simp [fillV] at hh; subst hh; rfl
      | cons p ps ih =>
        intro cs r hh
        obtain ⟨i, v⟩ := p
        simp only [fillV] at hh
        split at hh
        · split at hh
          · rename_i cs' hput
            rw [ih _ _ hh]
            have key2 : ∀ (n : Nat) (cs vs r : List AV), putX n cs vs = some r → r.length = cs.length := by
              intro n
              induction n with
              | zero =>
                intro cs
                induction cs with
                | nil => intro vs r h; cases vs <;> simp [putX] at h; subst h; rfl
                | cons c cs ihc =>
                  intro vs r h
                  cases vs with
                  | nil => simp [putX] at h; subst h; rfl
                  | cons v vs =>
                    simp only [putX] at h
                    split at h
                    · rename_i r' hr'
                      simp at h; subst h
                      simp [ihc vs r' hr']
                    · cases h
              | succ n ihn =>
                intro cs vs r h
                cases cs with
                | nil => simp [putX] at h
                | cons c cs =>
                  simp only [putX] at h
                  split at h
                  · rename_i r' hr'
                    simp at h; subst h
                    simp [ihn cs vs r' hr']
                  · cases h
            exact key2 _ _ _ _ hput
          · cases hh
        · cases hh
    have e2 := key ps _ cs hf
    simp [hzs] at e2
    simp at e1
    omega
  have hrun : (Instr.buildSlice t len (parts.map fun (i, x) => (i, a.eval x))).run P w = .ok (.slice (some ⟨w.heap.size, 0, none⟩) len len) { w with heap := w.heap.push (.cells out e) } := by
    have h1' : Instr.fill (fun i => some (i * sz, sz)) ((Array.range (len * sz)).map (z.cells[· % z.cells.size]!)) (parts.map fun (i, x) => (i, a.eval x)).toList = some out := by
      rw [← h1, hzsz]; congr 1; simp
    unfold Instr.buildSlice
    simp only [Sem.run_bind, tund_run ht, Result.andThen_ok, tsize_size hsz]
    rw [if_neg (by omega)]
    by_cases h0 : len * sz = 0
    · have e0 : ((Array.range (len * sz)).map ((#[] : Array Value)[· % (#[] : Array Value).size]!)) = ((Array.range (len * sz)).map (z.cells[· % z.cells.size]!)) := by rw [h0]; simp
      simp only [h0, if_true, Sem.run_bind, Sem.run_pure, Result.andThen_ok]
      rw [h0] at h1' e0
      rw [e0]
      simp only [h1']
      simp [newRow]
    · simp only [h0, if_false, Sem.run_bind, tzero_zero hz, Sem.run_pure, Result.andThen_ok]
      simp only [h1']
      simp [newRow]
  have hex : (execOp a.eval o).run P w = .ok (.value (.slice (some ⟨w.heap.size, 0, none⟩) len len)) { w with heap := w.heap.push (.cells out e) } := by
    simp [execOp, ho, hrun]
  split at hk
  · rename_i ty hty
    split at hk <;> try exact hk.elim
    rename_i htsz
    have htsz : ty.size = sz := Nat.eq_of_beq_eq_true htsz
    have hpos := Ty.size_pos ty
    obtain ⟨g', env', E', cs', hinv, hr', hk⟩ := frzAll_ok 8 h h2 hk
    obtain ⟨xs, hxl, hd, hk⟩ := decN_ok len cs' _ _ hk hr'
    rw [fN_eq, fEE_eq] at hk
    have hnew := hinv.newData e (xs := xs) (cap := len) (vs := out) (by rw [houtl, htsz]) (by omega) (by rw [hxl, List.take_of_length_le (by simp [houtl, htsz])]; exact hd) (WNew.push w _)
    refine ⟨_, _, _, _, _, _, _, hex, .inl rfl, hnew, ?_, hk⟩
    rw [hxl]
    exact R_newVec g' E' hinv.sim.len _ len len sz (fun _ => len) (Nat.le_refl _) (Nat.le_refl _) (by omega)
  · rw [fN_eq, fEE_eq] at hk
    exact ⟨_, _, _, _, _, _, _, hex, .inl rfl, h.newCells e h2 (some len) len, R_newVec g E h.sim.len _ len len sz (fun _ => len) (Nat.le_refl _) (Nat.le_refl _) (by omega), hk⟩

theorem makeSlice_ok {t : Nat} {l c : Operand} (h : Inv B g env E a.tmps w) (ho : o.op = .makeSlice t l c) (hk : eV P (.makeSlice t l c) env E K) : Done P o a w B K := by
  simp only [eV] at hk
  have hl := h.er.ev l
  have hc := h.er.ev c
  split at hk <;> try exact hk.elim
  rename_i l' c' el ec
  rw [el] at hl; rw [ec] at hc
  have hl := hl.int_iff
  have hc := hc.int_iff
  split at hk <;> try exact hk.elim
  rename_i e ht
  split at hk <;> try exact hk.elim
  rename_i ty sz by_ z hty hsz hby hz
  split at hk <;> try exact hk.elim
  rename_i hts
  have hts : ty.size = sz := Nat.eq_of_beq_eq_true hts
  split at hk <;> try exact hk.elim
  rename_i cs hcs
  have hzr := (R_cst g z).cells hcs
  obtain ⟨d, hd, hk⟩ := dec1_ok hk hzr
  rw [fN_eq, fEE_eq] at hk
  obtain ⟨hob, hk⟩ := hk
  obtain ⟨h0, h1, h2, h3⟩ := hob.h
  have hwl : IntKind.i64.wrap (l' ()) = l' () := IntWalk.i64_in _ (by omega)
  have hwc : IntKind.i64.wrap (c' ()) = c' () := IntWalk.i64_in _ (by omega)
  obtain ⟨ti, hti, htb⟩ : ∃ i, (typeInfo e).run P w = .ok i w ∧ i.bytes = by_ := by
    unfold tbytes at hby
    split at hby
    · rename_i i hi
      simp only [Option.some.injEq] at hby
      exact ⟨i, by simp [typeInfo, tinfo_info hi], hby⟩
    · cases hby
  have hzsz : z.cells.size = sz := by have := hd.length; rw [enc_length] at this; simp at this; omega
  let vs : Array Value := (Array.range ((c' ()).toNat * z.cells.size)).map (z.cells[· % z.cells.size]!)
  have hvs : vs.toList = (List.replicate (c' ()).toNat z.cells.toList).flatten := made_list z.cells _
  have hrun : (Instr.makeSlice t (a.eval l) (a.eval c)).run P w = .ok (.slice (some ⟨w.heap.size, 0, none⟩) (l' ()).toNat (c' ()).toNat) { w with heap := w.heap.push (.cells vs e) } := by
    unfold Instr.makeSlice
    simp only [hl, hc, Sem.run_bind, tund_run ht, Result.andThen_ok, asInt, asIntOf, Sem.run_pure, hti, htb, hwl, hwc, tsize_size hsz]
    have e48 : (2 : Int) ^ 48 = 281474976710656 := by decide
    have hcond : (decide (c' () < 0) || decide ((by_ : Int) * c' () > 2 ^ 48) || decide (l' () < 0) || decide (l' () > c' ())) = false := by
      rw [e48]
      simp only [Bool.or_eq_false_iff, decide_eq_false_iff_not]
      exact ⟨⟨⟨by omega, Int.not_lt.2 h3⟩, by omega⟩, by omega⟩
    rw [if_neg (by rw [hcond]; exact Bool.false_ne_true)]
    simp only [run_askRoom, Result.andThen_ok, Sem.run_bind, tsize_size hsz]
    by_cases h00 : (c' ()).toNat * sz = 0
    · have e0 : ((Array.range ((c' ()).toNat * sz)).map ((#[] : Array Value)[· % (#[] : Array Value).size]!)) = vs := by simp only [vs]; rw [hzsz, h00]; simp
      simp only [h00, if_true, Sem.run_bind, Sem.run_pure, Result.andThen_ok]
      rw [h00] at e0
      rw [e0]
      simp [newRow]
    · simp only [h00, if_false, Sem.run_bind, tzero_zero hz, Sem.run_pure, Result.andThen_ok]
      simp [newRow, vs, hzsz]
  have hex : (execOp a.eval o).run P w = .ok (.value (.slice (some ⟨w.heap.size, 0, none⟩) (l' ()).toNat (c' ()).toNat)) { w with heap := w.heap.push (.cells vs e) } := by
    simp [execOp, ho, hrun]
  have hdr : Data g ty (List.replicate (c' ()).toNat (d ())) vs.toList := by rw [hvs]; exact Data.replicate (by rw [enc_const]; exact hd) _
  have hle : (l' ()).toNat ≤ (c' ()).toNat := by omega
  have hdl := hdr.take (l' ()).toNat
  rw [List.take_replicate, Nat.min_eq_left hle] at hdl
  have hnew := h.newData e (t := ty) (xs := fun u => List.replicate (l' u).toNat (d u)) (cap := (c' ()).toNat) (vs := vs) (by simp [vs, hzsz, hts]) (by simp; omega) (by simpa using hdl) (WNew.push w _)
  refine ⟨_, _, _, _, _, _, _, hex, .inl rfl, hnew, ?_, hk⟩
  have := R_newVec g E h.sim.len w.heap.size (c' ()).toNat (l' ()).toNat sz (fun u => (l' u).toNat) (Nat.le_refl _) hle (by omega)
  simpa using this

theorem Inv.newPhi (h : Inv B g env E tmps w) {w' : World} {ob : Obj} (hw : WNew w w' ob) : Inv B { g with Φ := fun b => if b = w.heap.size then some ob else g.Φ b } env E tmps w' ∧ g.le { g with Φ := fun b => if b = w.heap.size then some ob else g.Φ b } := by
  have hle : g.le { g with Φ := fun b => if b = w.heap.size then some ob else g.Φ b } :=
    ⟨Nat.le_refl _, fun b o' hb => by
      have := lt_heap (h.sim.phi b o' hb)
      show (if b = w.heap.size then some ob else g.Φ b) = _
      rw [if_neg (by omega)]; exact hb, fun _ _ => rfl, fun _ _ => rfl, fun _ _ => rfl, rfl, fun _ _ _ _ => rfl, fun _ _ => Nat.le_refl _⟩
  have hbl : ∀ i b', (getE E i).own { g with Φ := fun b => if b = w.heap.size then some ob else g.Φ b } i b' = (getE E i).own g i b' := fun i b' => Chunk.own_eq rfl rfl rfl rfl
  refine ⟨⟨h.er.mono hle, ⟨h.sim.len, fun b o' hb => ?_, fun i => ?_, fun i j b hi hj => ?_, fun i b hi => ?_⟩, ⟨hw.os.trans h.ext.os, hw.tape.trans h.ext.tape, hw.output.trans h.ext.output, by rw [hw.size]; have := h.ext.size; omega, fun b h1 h2 => ?_, fun b o' hb => hle.phi b o' (h.ext.phi b o' hb), fun b o' hb => ?_, fun i b hi => ?_, h.ext.n, h.ext.ids, h.ext.kk, h.ext.kin, h.ext.idw, h.ext.idm⟩⟩, hle⟩
  · have hm : (if b = w.heap.size then some ob else g.Φ b) = some o' := hb
    clear hb
    split at hm
    · rename_i e; subst e; cases hm; exact hw.at_
    · have := h.sim.phi b o' hm
      rw [hw.else_ b (lt_heap this)]; exact this
  · exact Chunk.sat_frame (fun _ _ h => h.mono hle) rfl rfl rfl rfl rfl rfl (fun b hb => hw.else_ b (sat_lt (h.sim.sat i) hb)) (h.sim.sat i)
  · rw [hbl] at hi hj
    exact h.sim.dis i j b hi hj
  · rw [hbl] at hi
    have := sat_lt (h.sim.sat i) hi
    show (if b = w.heap.size then some ob else g.Φ b) = _
    rw [if_neg (by omega)]; exact h.sim.dphi i b hi
  · rw [hw.else_ b (Nat.lt_of_lt_of_le h1 h.ext.size)]; exact h.ext.keep b h1 h2
  · have hm : (if b = w.heap.size then some ob else g.Φ b) = some o' := hb
    clear hb
    split at hm
    · rename_i e; subst e; exact .inr (.inl h.ext.size)
    · exact h.ext.phin b o' hm
  · rw [hbl] at hi
    exact h.ext.own i b hi

theorem convert_ok {src dst : Nat} {x : Operand} {u0 : TypeDesc} (hsrc : tund P src = some u0) (h : Inv B g env E a.tmps w) (ho : o.op = .convert src dst x) (hk : eV P (.convert src dst x) env E K) : Done P o a w B K := by
  simp only [eV] at hk
  have hx := h.er.ev x
  split at hk <;> try exact hk.elim
  rename_i e s hd ex
  rw [ex] at hx
  have hx := hx.str_iff
  split at hk <;> try exact hk.elim
  rename_i he
  obtain ⟨hob, hk⟩ := hk
  have hob := hob.h
  have hrun := Lib.run_convert_string_bytes (P := P) w src dst e ⟨(s ()).toArray⟩ (tund_und hsrc) (tund_und hd) (tund_und he)
  have hw : WNew w (Lib.bytesWorld w e ⟨(s ()).toArray⟩) (.cells (Lib.bytesCells w e ⟨(s ()).toArray⟩) e ((Lib.bytesCells w e ⟨(s ()).toArray⟩).size, (Lib.bytesCells w e ⟨(s ()).toArray⟩).size + 1)) :=
    ⟨rfl, rfl, ⟨rfl, Nat.le_succ _⟩, Lib.bytesWorld_size _ _ _, Lib.bytesWorld_at_new _ _ _, fun k hk => Lib.bytesWorld_at_old _ _ _ k hk⟩
  obtain ⟨hinv, hle⟩ := h.newPhi hw
  have hsz : (ByteArray.mk (s ()).toArray).size = (s ()).length := by simp [ByteArray.size]
  refine ⟨_, _, _, _, _, _, _, by simp [execOp, ho, hx, hrun]; rfl, .inl rfl, hinv, ?_, hk⟩
  rw [hsz]
  have hcap : (s ()).length ≤ grownCap w (s ()).length 0 e := by
    unfold grownCap Question.cut; simp
  have hcell : ∀ j, j < (s ()).length → (Lib.bytesCells w e ⟨(s ()).toArray⟩)[j]? = some (.int .u8 (((s ()).getD j 0).toNat : Int)) := by
    intro j hj
    simp [Lib.bytesCells, Array.getElem?_append, ByteArray.size, hj, List.getD]
  have := R.lst (g := { g with Φ := fun b => if b = w.heap.size then some (.cells (Lib.bytesCells w e ⟨(s ()).toArray⟩) e ((Lib.bytesCells w e ⟨(s ()).toArray⟩).size, (Lib.bytesCells w e ⟨(s ()).toArray⟩).size + 1)) else g.Φ b })
    (.int .u8) (fun u => (s u).map fun b => (b.toNat : Int)) (some ⟨w.heap.size, 0, none⟩) (grownCap w (s ()).length 0 e) (fun i _ => .int .u8 (((s ()).getD i 0).toNat : Int)) (by simpa using hcap) (by simp; omega)
    (fun i x j y h1 h2 => by
      have hi : i < (s ()).length := by simpa using (List.getElem?_eq_some_iff.1 h1).1
      have hj : j = 0 := by
        have := (List.getElem?_eq_some_iff.1 h2).1
        simp [enc] at this; omega
      subst hj
      exact ⟨w.heap.size, 0, Lib.bytesCells w e ⟨(s ()).toArray⟩, e, _, rfl, if_pos rfl, by simpa [Ty.size] using hcell i hi⟩)
    (fun i x j y h1 h2 => by
      have hi : i < (s ()).length := by simpa using (List.getElem?_eq_some_iff.1 h1).1
      have hj : j = 0 := by
        have := (List.getElem?_eq_some_iff.1 h2).1
        simp [enc] at this; omega
      subst hj
      simp [enc] at h2
      subst h2
      refine R.int' ?_
      simp [hi] at h1
      simp [← h1, List.getD, hi])
  simpa using this
end
end Go.Proofs.Ytafcenlbllmahaa.Fw
set_option linter.unusedVariables false
set_option linter.unusedSimpArgs false
namespace Go.Proofs.Ytafcenlbllmahaa.Fw
open Go Go.RowKit
/-! ### what is drawn is not drawn back -/
theorem viewStore_drawn {P : Program} {w : World} {a : Addr} {u : TypeId} {k : Addr} {v : Value} {b : Bool} {r : World × List Addr} (h : w.viewStore P a u k v b = .ok r) : r.1.drawn = w.drawn := by
  unfold World.viewStore at h
  simp only [bind, Except.bind] at h
  repeat' (split at h <;> try cases h)
  all_goals first | rfl | skip
theorem farStore_drawn {P : Program} {w : World} {a : Addr} {v : Value} {b : Bool} {r : World × List Addr} (h : w.farStore P a v b = .ok r) : r.1.drawn = w.drawn := by
  unfold World.farStore at h
  split at h
  · split at h
    · rename_i h1; cases h; exact viewStore_drawn h1
    · cases h
  · cases h
theorem ask_drawn {α : Type} : ∀ (k : Ask α) (w : World), w.drawn ≤ (w.ask k).2.drawn := by
  intro k
  induction k with
  | done a => intro w; exact Nat.le_refl _
  | ask what range k ih =>
    intro w
    simp only [World.ask]
    split
    · exact ih _ _
    · exact Nat.le_trans (Nat.le_succ _) (ih _ { w with drawn := w.drawn + 1 })
theorem sys_drawn (w : World) (c : Sys) : w.drawn ≤ (w.sys c).2.drawn := by
  unfold World.sys
  have := ask_drawn (Kernel.perform c w.os) w
  split
  · exact Nat.le_refl _
  · rename_i h; rw [h] at this; exact this
theorem run_drawn {α : Type} (P : Program) : ∀ (m : Sem α) (w : World) (v : α) (w' : World), m.run P w = .ok v w' → w.drawn ≤ w'.drawn := by
  intro m
  induction m with
  | pure a => intro w v w' h; simp only [Sem.run] at h; cases h; exact Nat.le_refl _
  | load m a k ih =>
    intro w v w' h; simp only [Sem.run] at h
    split at h
    · exact ih _ _ _ _ h
    · split at h
      · exact ih _ _ _ _ h
      · cases h
  | store m a x k ih =>
    intro w v w' h
    cases x <;> simp only [Sem.run] at h <;> first
      | (cases h; done)
      | (split at h
         · split at h
           · cases h
           · have := ih _ _ _ h; exact this
         · split at h
           · rename_i hf
             have := farStore_drawn hf
             have := ih _ _ _ h
             simp only [] at *
             omega
           · cases h)
  | new o k ih => intro w v w' h; simp only [Sem.run] at h; exact ih _ { w with heap := w.heap.push o } _ _ h
  | shape o k ih => intro w v w' h; simp only [Sem.run] at h; exact ih _ _ _ _ h
  | freeze a n k ih =>
    intro w v w' h; simp only [Sem.run] at h
    have := ih _ _ _ h
    have e : (w.freeze a n).drawn = w.drawn := by unfold World.freeze; split <;> rfl
    omega
  | frozen a k ih => intro w v w' h; simp only [Sem.run] at h; exact ih _ _ _ _ h
  | getObj r k ih =>
    intro w v w' h; simp only [Sem.run] at h
    split at h
    · cases h
    · exact ih _ _ _ _ h
    · cases h
  | setObj r o k ih =>
    intro w v w' h; simp only [Sem.run] at h
    split at h
    · cases h
    · exact ih { w with heap := w.heap.setIfInBounds r o } _ _ h
    · cases h
  | choose q k ih =>
    intro w v w' h; simp only [Sem.run] at h
    split at h
    · exact ih _ _ _ _ h
    · exact Nat.le_trans (Nat.le_succ _) (ih _ { w with drawn := w.drawn + 1 } _ _ h)
  | sys c k ih =>
    intro w v w' h; simp only [Sem.run] at h
    exact Nat.le_trans (sys_drawn w c) (ih _ _ _ _ h)
  | program k ih => intro w v w' h; simp only [Sem.run] at h; exact ih _ _ _ _ h
  | mark m k ih => intro w v w' h; simp only [Sem.run] at h; exact ih _ _ _ h
  | halt h => intro w v w' h; simp only [Sem.run] at h; cases h

/-- a row of cells by two numbers -/
theorem data_of_fun {g : Gh} {t : Ty} (xs : List t.den) (u : Nat → Nat → Value) (h : ∀ (i : Nat) (x : t.den) (j : Nat) (y : AV), xs[i]? = some x → (enc t (fun _ => x) [])[j]? = some y → R g y (u i j)) :
    Data g t xs ((List.range (xs.length * t.size)).map fun k => u (k / t.size) (k % t.size)) := by
  have hp := Ty.size_pos t
  refine ⟨by simp, fun k x hk => ?_⟩
  have hlt : k < xs.length := (List.getElem?_eq_some_iff.1 hk).1
  have hl : k * t.size + t.size ≤ xs.length * t.size := by rw [← Nat.succ_mul]; exact Nat.mul_le_mul_right _ hlt
  refine RL.mk (by rw [enc_length]; simp; omega) fun j y v h1 h2 => ?_
  have hj : j < t.size := by rw [← enc_length t (fun _ => x)]; exact (List.getElem?_eq_some_iff.1 h1).1
  rw [List.getElem?_take, if_pos hj, List.getElem?_drop, List.getElem?_map, List.getElem?_range (by omega)] at h2
  simp only [Option.map_some, Option.some.injEq] at h2
  subst h2
  have e1 : (k * t.size + j) / t.size = k := by rw [Nat.mul_comm, Nat.mul_add_div hp, Nat.div_eq_of_lt hj, Nat.add_zero]
  have e2 : (k * t.size + j) % t.size = j := by rw [Nat.mul_comm, Nat.mul_add_mod, Nat.mod_eq_of_lt hj]
  rw [e1, e2]
  exact h k x j y hk h1

section
variable {P : Program} {B : Base} {g : Gh} {env : Env} {E : List Chunk} {tmps : Array Value} {w : World}
variable {a : Act} {o : Oper} {K : AV → Env → List Chunk → Prop}

theorem srcV_ok {t : Ty} {x : AV} {v : Value} {K : (Unit → List t.den) → Prop} (hS : Sim g E w) (hr : R g x v) (h : srcV t E x K) :
    ∃ ys A m c news, v = .slice A m c ∧ (ys ()).length = m ∧ m ≤ 9223372036854775807 ∧ Data g t (ys ()) news ∧ (A = none → m = 0) ∧ (∀ ad, A = some ad → ∀ j u, news[j]? = some u → w.cell? (ad.add j) = some u) ∧ K ys := by
  unfold srcV at h
  split at h <;> try exact h.elim
  · cases hr
    exact ⟨fun _ => [], none, 0, 0, [], rfl, rfl, by omega, Data.nil g t, fun _ => rfl, (fun ad (hA : none = some ad) => by cases hA), h⟩
  · rename_i t' xs
    split at h <;> try exact h.elim
    rename_i ht _
    subst ht
    cases hr with | lst _ _ A c u hc hm ha hr =>
    refine ⟨xs, A, _, c, _, rfl, rfl, hm, data_of_fun (xs ()) u hr, fun hA => ?_, fun ad hA j v hv => ?_, h⟩
    · cases hx : xs () with
      | nil => rfl
      | cons y r =>
        have he : 0 < (enc t' (fun _ => y) []).length := by rw [enc_length]; exact Ty.size_pos t'
        obtain ⟨b, off, cells, T, fr, h1, _⟩ := ha 0 y 0 _ (by rw [hx]; rfl) (List.getElem?_eq_getElem he)
        rw [hA] at h1; cases h1
    · have hj : j < (xs ()).length * t'.size := by simpa using (List.getElem?_eq_some_iff.1 hv).1
      have hp := Ty.size_pos t'
      have hk : j / t'.size < (xs ()).length := by rwa [Nat.div_lt_iff_lt_mul hp]
      have hm' : j % t'.size < (enc t' (fun _ => (xs ())[j / t'.size]'hk) []).length := by rw [enc_length]; exact Nat.mod_lt _ hp
      have hat := ha (j / t'.size) _ (j % t'.size) _ (List.getElem?_eq_getElem hk) (List.getElem?_eq_getElem hm')
      have hat0 := hat
      obtain ⟨b, off, cells, T, fr, h1, _⟩ := hat0
      rw [hA] at h1
      cases h1
      rw [hA] at hat
      have := hat.cell hS
      rw [add_none rfl]
      rw [Nat.mul_comm, Nat.div_add_mod] at this
      rw [this]
      rw [List.getElem?_map, List.getElem?_range hj] at hv
      simpa using hv
  · rename_i i s o n
    split at h <;> try exact h.elim
    rename_i T t' xs hE
    split at h <;> try exact h.elim
    rename_i ht _
    subst ht
    split at h <;> try exact h.elim
    rename_i hsz
    have hsz := Nat.eq_of_beq_eq_true hsz
    subst hsz
    have hs := hS.sat i
    rw [hE] at hs
    cases hr with | vec _ _ _ _ A c hi hL hn hs' =>
    have hlen : (((xs ()).drop (o ())).take (n ())).length = n () := by have := hs.1; simp; omega
    cases hV : g.V i with
    | none =>
      obtain ⟨h1, h2, h3, h4⟩ := hn hV
      refine ⟨fun u => ((xs u).drop (o u)).take (n u), A, _, c, [], rfl, hlen, by omega, ⟨?_, fun k x hk => ?_⟩, fun _ => h2, (fun ad (hA : A = some ad) => by rw [h1] at hA; cases hA), h⟩
      · show [].length = (((xs ()).drop (o ())).take (n ())).length * _
        rw [hlen, h2]; simp
      · have hk : (((xs ()).drop (o ())).take (n ()))[k]? = some x := hk
        rw [h2] at hk; simp at hk
    | some cap =>
      obtain ⟨vs, hb, hvs, hcap, hLe, hd⟩ := sat_data hs hV
      obtain ⟨h0, h1, h2, h3, h4⟩ := hs' cap hV
      have hd' := (hd.drop (o ())).take (n ())
      refine ⟨fun u => ((xs u).drop (o u)).take (n u), A, _, c, _, rfl, hlen, by omega, hd', fun h => (h4 h).elim, fun ad hA j u hu => ?_, h⟩
      have hj : j < n () * t'.size := by
        have := (List.getElem?_eq_some_iff.1 hu).1
        have e := hd'.1
        rw [hlen] at e
        omega
      have hp := Ty.size_pos t'
      have hn0 : 0 < n () := by rcases Nat.eq_zero_or_pos (n ()) with h | h; · rw [h] at hj; simp at hj
                                · exact h
      have := h3 (.inl (by omega))
      rw [this] at hA
      cases hA
      rw [add_none rfl, cell_of_heap hb]
      rw [List.getElem?_take, if_pos hj, List.getElem?_drop, List.getElem?_take] at hu
      split at hu
      · simpa using hu
      · cases hu

theorem append_nilsrc {t e sz ty : Nat} (ht : tund P t = some (.slice e)) (hs : tsize P e = some sz) (A : Option Addr) (n c c' : Nat) (hnc : n ≤ c) :
    (Builtin.append_ #[t, t] ty #[.slice A n c, .slice none 0 c']).run P w = .ok (.slice A n c) w := by
  cases A <;> simp [Builtin.append_, tund_run ht, tsize_size hs, Builtin.lenOf, Builtin.firstCells, hnc, storeCells]

/-- append, its operands by what they hold. -/
theorem append_run {t e sz by_ ty : Nat} {z : Value} {d : Ty} (ht : tund P t = some (.slice e)) (hs : tsize P e = some sz) (hby : tbytes P e = some by_) (hz : tzero P e = some z) (hzs : z.cells.size = sz) (hd : sz = d.size)
    {v : Value} {n : Nat} {xs : List Value} (hown : w.ownsRow 0 e sz v n xs) {A : Option Addr} {m c : Nat} {ys : List d.den} {news : List Value} (hyl : ys.length = m) (hdn : Data g d ys news) (hA : A = none → m = 0)
    (hcell : ∀ ad, A = some ad → ∀ j u, news[j]? = some u → w.cell? (ad.add j) = some u) (hb : (n + m) * by_ ≤ 140737488355328) (hmx : n + m ≤ 9223372036854775807) :
    ∃ v' w', (Builtin.append_ #[t, t] ty #[v, .slice A m c]).run P w = .ok v' w' ∧ w'.ownsRow 0 e sz v' (n + m) (xs ++ news) ∧ w.grownBy w' v.ownBlock ∧ (v'.ownBlock = v.ownBlock ∨ v'.ownBlock = some w.heap.size) := by
  obtain ⟨i, hi, hiz, his, hib⟩ : ∃ i, tinfo P e = some i ∧ i.zero = some z ∧ i.size = sz ∧ i.bytes = by_ := by
    unfold tzero at hz; unfold tsize at hs; unfold tbytes at hby
    cases hi : tinfo P e with
    | none => simp [hi] at hz
    | some i => simp [hi] at hz hs hby; exact ⟨i, rfl, hz, hs, hby⟩
  have hpos := Ty.size_pos d
  cases A with
  | none =>
    have hm := hA rfl
    subst hm
    have hn0 : news = [] := List.eq_nil_of_length_eq_zero (by rw [hdn.1, hyl]; simp)
    subst hn0
    have hkeep : w.ownsRow 0 e sz v (n + 0) (xs ++ []) := by simpa using hown
    rcases hown.2 with ⟨rfl, rfl⟩ | ⟨gb, cap, cur, rfl, _, _, hnc, _⟩
    · exact ⟨_, _, append_nilsrc ht hs _ _ _ _ (Nat.le_refl _), hkeep, World.grownBy.refl w _, .inl rfl⟩
    · exact ⟨_, _, append_nilsrc ht hs _ _ _ _ hnc, hkeep, World.grownBy.refl w _, .inl rfl⟩
  | some ad =>
    obtain ⟨v', w', h1, h2, h3, _, h5⟩ := run_append_own_at (P := P) w 0 t ty e i z sz by_ (tund_und ht) (tinfo_info hi) hiz his hib hzs (by omega) v n xs hown ad m c news (by rw [hdn.1, hyl, hd]) (hcell ad rfl) hdn.all_one (by simp only [maxLen]; omega) hb (Nat.zero_le _)
    exact ⟨v', w', h1, h2, h3, h5⟩

/-- append of a string. -/
theorem append_str_run {t t2 e ty : Nat} (ht : tund P t = some (.slice e)) (ht2 : tund P t2 = some .string) (hs : tsize P e = some 1) (hby : tbytes P e = some 1) (hz : tzero P e = some (.int .u8 0))
    {v : Value} {n : Nat} {xs : List Value} (hown : w.ownsRow 0 e 1 v n xs) (s : ByteArray) (hb : n + s.size ≤ 140737488355328) :
    ∃ v' w', (Builtin.append_ #[t, t2] ty #[v, .string s]).run P w = .ok v' w' ∧ w'.ownsRow 0 e 1 v' (n + s.size) (xs ++ Lib.strCells s) ∧ w.grownBy w' v.ownBlock ∧ (v'.ownBlock = v.ownBlock ∨ v'.ownBlock = some w.heap.size) := by
  obtain ⟨i, hi, hiz, his, hib⟩ : ∃ i, tinfo P e = some i ∧ i.zero = some (.int .u8 0) ∧ i.size = 1 ∧ i.bytes = 1 := by
    unfold tzero at hz; unfold tsize at hs; unfold tbytes at hby
    cases hi : tinfo P e with
    | none => simp [hi] at hz
    | some i => simp [hi] at hz hs hby; exact ⟨i, rfl, hz, hs, hby⟩
  have hm63 : n + s.size ≤ maxLen := by simp only [maxLen]; omega
  obtain ⟨v', w', h1, h2, h3, h4⟩ := Lib.run_append_own_string (P := P) w 0 t t2 ty e i (tund_und ht) (tund_und ht2) (tinfo_info hi) hiz his hib v n xs hown s hm63 hb (Nat.zero_le _)
  refine ⟨v', w', h1, h2, h3, ?_⟩
  rcases hown.2 with ⟨rfl, rfl⟩ | ⟨gb, cap, cur, rfl, _, hg, hnc, hcm, hcs, htake⟩
  · by_cases hm : s.size = 0
    · rw [h4.2 ⟨rfl, hm⟩]; exact .inl rfl
    · have hr := run_append_nil_string (P := P) w t t2 ty e i (.int .u8 0) (tund_und ht) (tund_und ht2) (tinfo_info hi) hiz s (by omega) (by simp only [Nat.zero_add] at hb; omega) (by rw [hib]; omega)
      rw [hr] at h1
      injection h1 with h1 _
      subst h1
      exact .inr rfl
  · by_cases hroom : n + s.size ≤ cap
    · have hcs' : cur.size = cap := by simpa using hcs
      have hr := Lib.run_append_room_string (P := P) w t t2 ty e i (tund_und ht) (tund_und ht2) (tinfo_info hi) his gb n cap cur hg s hroom (by omega)
      rw [hr] at h1
      injection h1 with h1 _
      subst h1
      exact .inl rfl
    · have hr := Lib.run_append_grow_string (P := P) w t t2 ty e i (.int .u8 0) (tund_und ht) (tund_und ht2) (tinfo_info hi) hiz ⟨gb, 0, none⟩ n cap xs (by rw [his]; simpa using hown.1) (hown.cells (g := gb) rfl) s (by omega) (by simp only [maxLen] at hm63; omega) (by rw [hib]; exact growslice_fits (by omega) (by omega))
      rw [hr] at h1
      injection h1 with h1 _
      subst h1
      exact .inr rfl
theorem append_exec {ts : Array Nat} {s x : Operand} {v : Value} {w' : World} (ho : o.op = .call { callee := .builtin .append, args := #[s, x], argTypes := ts }) (h : (Builtin.append_ ts o.type #[a.eval s, a.eval x]).run P w = .ok v w') :
    (execOp a.eval o).run P w = .ok (.value v) w' := by
  simp [execOp, ho, resolve, invoke, builtin, h]
end
end Go.Proofs.Ytafcenlbllmahaa.Fw
set_option linter.unusedVariables false
set_option linter.unusedSimpArgs false
namespace Go.Proofs.Ytafcenlbllmahaa.Fw
open Go Go.RowKit

theorem scrF_ok {g g' : Gh} {i : Nat} (hn : g'.n = g.n) (h : ∀ j, j ≠ i → g'.B j = g.B j ∧ g'.V j = g.V j ∧ g'.L j = g.L j) (hW : g'.W = g.W) (hM : g'.M = g.M) (v : AV) (u : Value) (hv : isRef v = true) (hr : R g v u) : R g' (scrF i v) u := by
  have hne : ∀ j, Nat.beq j i = false → j ≠ i := fun j hj e => by subst e; simp at hj
  cases hr <;> first | (cases hv; done) | skip
  · rename_i j off hj
    simp only [scrF]; split
    · exact .undef _
    · rename_i hb
      rw [← (h j (hne j hb)).1]; exact .ptr j off (by rw [hn]; exact hj)
  · rename_i j sz idx off hj hL
    simp only [scrF]; split
    · exact .undef _
    · rename_i hb
      have := h j (hne j hb)
      rw [← this.1]; exact .eptr j sz idx off (by rw [hn]; exact hj) (by rw [this.2.2]; exact hL)
  · rename_i j s o n A c hj hL hn' hs
    simp only [scrF]; split
    · exact .undef _
    · rename_i hb
      have := h j (hne j hb)
      exact .vec j s o n A c (by rw [hn]; exact hj) (by rw [this.2.2]; exact hL) (by rw [this.2.1]; exact hn') (by rw [this.2.1, this.1]; exact hs)
  · rename_i j hj
    simp only [scrF]; split
    · exact .undef _
    · rename_i hb
      rw [← (h j (hne j hb)).1]; exact .mp j (by rw [hn]; exact hj)
  · rename_i j f hj hf
    simp only [scrF]; split
    · exact .undef _
    · rw [← hW]; exact .hp j f (by rw [hn]; exact hj) (by rw [hM]; exact hf)
  · rename_i j f hj hf
    simp only [scrF]; split
    · exact .undef _
    · rw [← hW]; exact .hm j f (by rw [hn]; exact hj) (by rw [hM]; exact hf)

theorem R_vec_len {g : Gh} {i s k c : Nat} {o n : Unit → Nat} {A : Option Addr} (h : n () = k) (hr : R g (.vec i s o n) (.slice A (n ()) c)) : R g (.vec i s o n) (.slice A k c) := h ▸ hr
/-- A ghost turned at one chunk. -/
def Gh.at_ (g : Gh) (i nb : Nat) (nv : Option Nat) (l : Nat) : Gh :=
  { g with B := fun j => if j = i then nb else g.B j, V := fun j => if j = i then nv else g.V j, L := fun j => if j = i then l else g.L j }
theorem Gh.at_other (g : Gh) (i nb : Nat) (nv : Option Nat) (l : Nat) (j : Nat) (hj : j ≠ i) : (g.at_ i nb nv l).B j = g.B j ∧ (g.at_ i nb nv l).V j = g.V j ∧ (g.at_ i nb nv l).L j = g.L j := by simp [Gh.at_, hj]
theorem Gh.at_B (g : Gh) (i nb : Nat) (nv : Option Nat) (l : Nat) : (g.at_ i nb nv l).B i = nb := by simp [Gh.at_]
theorem Gh.at_V (g : Gh) (i nb : Nat) (nv : Option Nat) (l : Nat) : (g.at_ i nb nv l).V i = nv := by simp [Gh.at_]
theorem Gh.at_L (g : Gh) (i nb : Nat) (nv : Option Nat) (l : Nat) : (g.at_ i nb nv l).L i = l := by simp [Gh.at_]

section
variable {P : Program} {B : Base} {g : Gh} {env : Env} {E : List Chunk} {tmps : Array Value} {w : World}
variable {a : Act} {o : Oper} {K : AV → Env → List Chunk → Prop}

/-- What a chunk of a slice holds, as an owned row. -/
theorem vec_owns (hS : Sim g E w) {i T : Nat} {ty : Ty} {xs : Unit → List ty.den} {s : Nat} {of n : Unit → Nat} {A : Option Addr} {m c : Nat} (hE : getE E i = .vect T ty xs) (hr : R g (.vec i s of n) (.slice A m c)) (ho : of () = 0) (hs : s = ty.size) :
    ∃ us, w.ownsRow 0 T s (.slice A m c) m us ∧ Data g ty ((xs ()).take m) us ∧ (∀ b, (getE E i).own g i b ↔ (Value.slice A m c).ownBlock = some b) ∧ m = n () := by
  subst hs
  have hsat := hS.sat i
  rw [hE] at hsat
  cases hr with | vec _ _ _ _ A c hi hL hn hs' =>
  cases hV : g.V i with
  | none =>
    obtain ⟨h1, h2, h3, h4⟩ := hn hV
    subst h1 h3
    rw [h2]
    exact ⟨[], ⟨by simp, .inl ⟨rfl, rfl⟩⟩, by simpa using Data.nil g ty, by rw [hE]; simp [Value.ownBlock, Chunk.own, hV], rfl⟩
  | some cap =>
    obtain ⟨vs, hb, hvs, hcap, hLe, hd⟩ := sat_data hsat hV
    obtain ⟨h0, h1, h2, h3, h4⟩ := hs' cap hV
    have hA := h3 (.inr ho)
    rw [ho] at hA
    simp only [Nat.zero_mul] at hA
    subst hA
    have hle : n () ≤ (xs ()).length := by omega
    have hmul : n () * ty.size ≤ (xs ()).length * ty.size := Nat.mul_le_mul_right _ hle
    have hmul2 : (xs ()).length * ty.size ≤ cap * ty.size := Nat.mul_le_mul_right _ hcap
    have hd' := hd.take (n ())
    rw [List.take_take, Nat.min_eq_left hmul] at hd'
    exact ⟨_, ⟨by rw [List.length_take]; simp; omega, .inr ⟨g.B i, c, vs, rfl, Nat.zero_le _, hb, by omega, by simp only [maxLen]; omega, by rw [hvs]; congr 1; omega, rfl⟩⟩, hd', by rw [hE]; simp [Value.ownBlock, Chunk.own, hV], rfl⟩

/-- An owned row, as the chunk of a slice. -/
theorem owns_sat {g' : Gh} {i T : Nat} {ty : Ty} {xs : Unit → List ty.den} {v : Value} {m : Nat} {us : List Value} {w' : World} (hown : w'.ownsRow 0 T ty.size v m us) (hd : Data g' ty (xs ()) us) (hm : (xs ()).length = m)
    (hL : g'.L i = m) (hV : (v = .slice none 0 0 ∧ g'.V i = none) ∨ ∃ gb cap, v = .slice (some ⟨gb, 0, none⟩) m cap ∧ g'.V i = some cap ∧ g'.B i = gb) :
    (Chunk.vect T ty xs).sat g' i w' := by
  rcases hV with ⟨rfl, hV⟩ | ⟨gb, cap, rfl, hV, hB⟩
  · rcases hown.2 with ⟨_, h2⟩ | ⟨gb, cap, cur, h2, _⟩
    · show _ ∧ _ ∧ _
      refine ⟨by rw [hm, hL], fun _ => List.eq_nil_of_length_eq_zero (by omega), fun cap hc => by rw [hV] at hc; cases hc⟩
    · cases h2
  · rcases hown.2 with ⟨h2, _⟩ | ⟨gb', cap', cur, h2, _, h3, h4, h5, h6, h7⟩
    · cases h2
    · cases h2
      refine sat_of_data (cap := cap) (vs := cur) hV (by rw [hm, hL]) (by rw [hB]; exact h3) h6 (by omega) ?_
      rw [hm, h7]; exact hd
theorem owns_form {T : Nat} {sz : Nat} {v : Value} {m : Nat} {us : List Value} {w' : World} (hown : w'.ownsRow 0 T sz v m us) :
    (v = .slice none 0 0 ∧ m = 0) ∨ ∃ gb cap, v = .slice (some ⟨gb, 0, none⟩) m cap ∧ m ≤ cap ∧ cap ≤ 9223372036854775807 := by
  rcases hown.2 with h | ⟨gb, cap, cur, h2, _, _, h4, h5, _⟩
  · exact .inl h
  · exact .inr ⟨gb, cap, h2, h4, by simpa [maxLen] using h5⟩

theorem zeros_list (z : Array Value) (n m : Nat) : (Builtin.zeroCells z n ++ Builtin.zeroCells z m).toList = (List.replicate (n + m) z.toList).flatten := by
  have h1 : (Builtin.zeroCells z n).toList = (List.replicate n z.toList).flatten := made_list z n
  have h2 : (Builtin.zeroCells z m).toList = (List.replicate m z.toList).flatten := made_list z m
  rw [Array.toList_append, h1, h2, ← List.flatten_append, List.replicate_append_replicate]
theorem appZ_ok {t t2 e : Nat} {s x : Operand} {n : Unit → Int} (h : Inv B g env E a.tmps w) (ho : o.op = .call { callee := .builtin .append, args := #[s, x], argTypes := #[t, t2] }) (ht : tund P t = some (.slice e)) (ht2 : tund P t2 = some (.int .i64))
    (es : ev env s = .snil) (ex : ev env x = .int .i64 n) (hk : appZ P e n env E K) : Done P o a w B K := by
  have hs := h.er.ev s
  have hx := h.er.ev x
  rw [es] at hs
  rw [ex] at hx
  have hsv : a.eval s = .slice none 0 0 := by generalize a.eval s = u at hs; cases hs; rfl
  have hxv := hx.int_iff
  unfold appZ at hk
  split at hk <;> try exact hk.elim
  rename_i ty sz by_ z hty hsz hby hz
  split at hk <;> try exact hk.elim
  rename_i cs hts hcs
  have hts : ty.size = sz := Nat.eq_of_beq_eq_true hts
  have hzr := (R_cst g z).cells hcs
  obtain ⟨d, hd, hk⟩ := dec1_ok hk hzr
  rw [fN_eq, fEE_eq] at hk
  obtain ⟨hob, hk0, hk1⟩ := hk
  obtain ⟨h0, h1, h2⟩ := hob.h
  obtain ⟨m, hm⟩ : ∃ m : Nat, n () = m := ⟨(n ()).toNat, by omega⟩
  have hwl : IntKind.i64.wrap (m : Int) = m := IntWalk.i64_in _ (by omega)
  obtain ⟨ti, hti, htb, htz, htsz⟩ : ∃ i, P.info? e = some i ∧ i.bytes = by_ ∧ i.zero = some z ∧ i.size = sz := by
    unfold tbytes at hby
    split at hby
    · rename_i i hi
      simp only [Option.some.injEq] at hby
      unfold tzero at hz
      rw [hi] at hz
      unfold tsize at hsz
      rw [hi] at hsz
      exact ⟨i, tinfo_info hi, hby, hz, by simpa using hsz⟩
    · cases hby
  have hzsz : z.cells.size = sz := by have := hd.length; rw [enc_length] at this; simp at this; omega
  have hb48 : ¬ ((m : Int) * (ti.bytes : Int) > 2 ^ 48) := by rw [htb, ← hm, show (2 : Int) ^ 48 = 281474976710656 from rfl]; omega
  by_cases hm0 : m = 0
  · subst hm0
    have h0 : (Builtin.append_ #[t, t2] o.type #[.slice none 0 0, .int .i64 ((0 : Nat) : Int)]).run P w = .ok (.slice none 0 0) w := by
      simp [Builtin.append_, tund_run ht, tund_run ht2, sizeOf, typeInfo, zeroValue, hti, htz, asInt, asIntOf, IntWalk.i64_in (0 : Int) (by omega)]
    have hrun := append_exec (P := P) (w := w) (a := a) ho (by rw [hsv, hxv, hm]; exact h0)
    exact ⟨_, _, _, _, _, _, _, hrun, .inl rfl, h, .snil, hk0 hm⟩
  · have hpos : 0 < m := by omega
    let cap := grownCap w m 0 e
    have hcap : m ≤ cap := grownCap_ge w m 0 e
    have hcapm : cap ≤ maxLen := grownCap_le_maxLen w m 0 e (by simp only [maxLen]; omega)
    let vs := Builtin.zeroCells z.cells m ++ Builtin.zeroCells z.cells (cap - m)
    have hrun0 : (Builtin.append_ #[t, t2] o.type #[.slice none 0 0, .int .i64 (m : Int)]).run P w = .ok (.slice (some ⟨w.heap.size, 0, none⟩) m cap) (w.drew.alloc (.cells vs e)) := by
      have hn48 : ¬ (281474976710656 < Builtin.nextslicecap m 0 * ti.bytes) := by
        rw [nextslicecap_zero hpos, htb]
        have : ((m * by_ : Nat) : Int) ≤ 140737488355328 := by rw [Int.natCast_mul, ← hm]; exact h2
        omega
      have h63 : ¬ (9223372036854775807 < (m : Int)) := by omega
      have hlt : ¬ ((m : Int) < 0) := by omega
      have hb48' : ¬ (281474976710656 < (m : Int) * (ti.bytes : Int)) := by simpa using hb48
      by_cases hms : m * ti.size = 0
      · have : ti.size = 0 := by
          rcases Nat.mul_eq_zero.1 hms with h | h
          · omega
          · exact h
        have := Ty.size_pos ty
        omega
      · simp [Builtin.append_, tund_run ht, tund_run ht2, sizeOf, typeInfo, zeroValue, hti, htz, asInt, asIntOf, hwl, hlt, hb48', hm0, hn48, h63, hms, Question.forced, run_firstCells_none, newRow, grownCap, vs, cap]
    have hrun := append_exec (P := P) (w := w) (a := a) ho (by rw [hsv, hxv, hm]; exact hrun0)
    have hvl : vs.toList = (List.replicate cap z.cells.toList).flatten := by
      have := zeros_list z.cells m (cap - m)
      rw [show m + (cap - m) = cap by omega] at this; exact this
    have hdr : Data g ty (List.replicate cap (d ())) vs.toList := by rw [hvl]; exact Data.replicate (by rw [enc_const]; exact hd) _
    have hdl := hdr.take m
    rw [List.take_replicate, Nat.min_eq_left hcap] at hdl
    have hvs : vs.size = cap * ty.size := by
      have := hdr.1
      simpa using this
    have hw' : WNew w (w.drew.alloc (.cells vs e)) (.cells vs e) := ⟨rfl, rfl, ⟨rfl, Nat.le_succ _⟩, by show (w.heap.push _).size = _; simp, by show (w.heap.push _)[w.heap.size]? = _; simp, fun k hk => by show (w.heap.push _)[k]? = _; rw [Array.getElem?_push, if_neg (by omega)]⟩
    have hnew := h.newData e (t := ty) (xs := fun u => List.replicate (n u).toNat (d u)) (cap := cap) (vs := vs) hvs (by simp [hm]; exact hcap) (by simpa [hm] using hdl) hw'
    refine ⟨_, _, _, _, _, _, _, hrun, .inl rfl, hnew, ?_, hk1 (by omega)⟩
    have := R_newVec g E h.sim.len w.heap.size cap m sz (fun u => (n u).toNat) (by simp [hm]) hcap (by simpa [maxLen] using hcapm)
    simpa [hm] using this
/-- What an append onto nil leaves. -/
theorem app_nil_fin {e sz m : Nat} {ty : Ty} {ys : Unit → List ty.den} {news : List Value} {v' : Value} {w' : World} (h : Inv B g env E a.tmps w) (hsd : sz = ty.size) (hyl : (ys ()).length = m) (hdn : Data g ty (ys ()) news)
    (hrun : (execOp a.eval o).run P w = .ok (.value v') w') (h2 : w'.ownsRow 0 e sz v' m news) (h3 : w.grownBy w' (Value.ownBlock (.slice none 0 0))) (h4 : v'.ownBlock = Value.ownBlock (.slice none 0 0) ∨ v'.ownBlock = some w.heap.size)
    (hk : K (.vec (lenE E) sz (fun _ => 0) fun u => (ys u).length) env (addE E (.vect e ty ys))) : Done P o a w B K := by
  rcases owns_form h2 with ⟨rfl, hm0⟩ | ⟨gb, cap, rfl, hmc, hcm⟩
  · have hinv := h.new (c := .vect e ty ys) (b := 0) (v := Option.none) (l := m) h3.os h3.tape ⟨h3.output, run_drawn P _ _ _ _ hrun⟩ h3.size (fun k hk => h3.block k hk (by simp [Value.ownBlock]))
      (owns_sat (m := m) (by rw [← hsd]; exact h2) (hdn.mono (g.le_add _ _ _)) hyl (by simp [Gh.add]) (.inl ⟨rfl, by simp [Gh.add]⟩)) (fun b' hb' => by simp [Chunk.own, Gh.add] at hb')
    refine ⟨_, _, _, _, _, _, _, hrun, .inl rfl, hinv, ?_, hk⟩
    have := R.vec (g := g.add 0 Option.none m) (lenE E) sz (fun _ => 0) (fun u => (ys u).length) none 0 (by simp [Gh.add, h.sim.len]) (by simp [Gh.add, h.sim.len, hyl]) (fun _ => ⟨rfl, by omega, rfl, rfl⟩) (fun cap hc => by simp [Gh.add, h.sim.len] at hc)
    rw [hyl] at this
    rw [hm0] at this ⊢
    exact this
  · have hgb : gb = w.heap.size := by
      rcases h4 with h4 | h4 <;> simp [Value.ownBlock] at h4
      exact h4
    subst hgb
    have hinv := h.new (c := .vect e ty ys) (b := w.heap.size) (v := some cap) (l := m) h3.os h3.tape ⟨h3.output, run_drawn P _ _ _ _ hrun⟩ h3.size (fun k hk => h3.block k hk (by simp [Value.ownBlock]))
      (owns_sat (m := m) (by rw [← hsd]; exact h2) (hdn.mono (g.le_add _ _ _)) hyl (by simp [Gh.add]) (.inr ⟨_, cap, rfl, by simp [Gh.add], by simp [Gh.add]⟩)) (fun b' hb' => by simp [Chunk.own, Gh.add] at hb'; omega)
    refine ⟨_, _, _, _, _, _, _, hrun, .inl rfl, hinv, ?_, hk⟩
    have := R_newVec g E h.sim.len w.heap.size cap m sz (fun u => (ys u).length) (by omega) hmc hcm
    rw [hyl] at this
    exact this
/-- What an append onto an owned slice leaves. -/
theorem app_vec_fin {i T sz m s' c0 : Nat} {t' : Ty} {xs ys : Unit → List t'.den} {of n : Unit → Nat} {A0 : Option Addr} {us news : List Value} {v' : Value} {w' : World} (h : Inv B g env E a.tmps w) (hE : getE E i = .vect T t' xs)
    (hs : R g (.vec i s' of n) (.slice A0 (n ()) c0)) (hss : s' = sz) (hsd : sz = t'.size) (hdo : Data g t' ((xs ()).take (n ())) us) (hblk : ∀ b, (getE E i).own g i b ↔ (Value.slice A0 (n ()) c0).ownBlock = some b) (hyl : (ys ()).length = m) (hdn : Data g t' (ys ()) news)
    (hrun : (execOp a.eval o).run P w = .ok (.value v') w') (h2 : w'.ownsRow 0 T sz v' (n () + m) (us ++ news)) (h3 : w.grownBy w' (Value.slice A0 (n ()) c0).ownBlock) (h4 : v'.ownBlock = (Value.slice A0 (n ()) c0).ownBlock ∨ v'.ownBlock = some w.heap.size)
    (hk : K (.vec i sz (fun _ => 0) fun u => n u + (ys u).length) (mapEnv (scrF i) env) (mapE (scrF i) (setE E i (.vect T t' fun u => (xs u).take (n u) ++ ys u)))) : Done P o a w B K := by
  have hi : i < lenE E := getE_lt (by rw [hE]; simp)
  have hdata : Data g t' ((xs ()).take (n ()) ++ ys ()) (us ++ news) := hdo.append hdn
  have hlen : ((xs ()).take (n ()) ++ ys ()).length = n () + m := by
    have hle : n () ≤ (xs ()).length := by
      have hsat := h.sim.sat i
      rw [hE] at hsat
      cases hs with | vec _ _ _ _ _ _ hi hL hn hs' => have := hsat.1; omega
    rw [List.length_append, List.length_take, hyl]; omega
  -- the ghost turned at i
  have go : ∀ (nb : Nat) (nv : Option Nat), (∀ b, (Chunk.vect T t' fun u => (xs u).take (n u) ++ ys u).own (g.at_ i nb nv (n () + m)) i b → w.heap.size ≤ b ∨ (getE E i).own g i b) →
      ((v' = .slice none 0 0 ∧ nv = none) ∨ ∃ gb cap, v' = .slice (some ⟨gb, 0, none⟩) (n () + m) cap ∧ nv = some cap ∧ nb = gb ∧ cap ≤ 9223372036854775807 ∧ n () + m ≤ cap) → Done P o a w B K := by
    intro nb nv hb hform
    have hother := g.at_other i nb nv (n () + m)
    have hinv := h.turn (w' := w') (g' := g.at_ i nb nv (n () + m)) (scrF i) (c := .vect T t' fun u => (xs u).take (n u) ++ ys u) ⟨T, t', xs, hE⟩ rfl rfl rfl rfl (fun b o' hb => hb)
      (fun v u hv hr => scrF_ok (g := g) (g' := g.at_ i nb nv (n () + m)) (i := i) rfl hother rfl rfl v u hv hr) hi hother h3.os h3.tape ⟨h3.output, run_drawn P _ _ _ _ hrun⟩ h3.size
      (fun k hk hne => h3.block k hk (fun e => hne k ((hblk k).2 e.symm) rfl))
      (owns_sat (g' := g.at_ i nb nv (n () + m)) (m := n () + m) (by rw [← hsd]; exact h2) ⟨hdata.1, fun k x hx => RL.mono_data (g := g) (g' := g.at_ i nb nv (n () + m)) (fun b o' hb => hb) (hdata.2 k x hx)⟩ hlen (g.at_L _ _ _ _) (by
        rcases hform with ⟨e1, e2⟩ | ⟨gb, cap, e1, e2, e3, _⟩
        · exact .inl ⟨e1, by rw [g.at_V, e2]⟩
        · exact .inr ⟨gb, cap, e1, by rw [g.at_V, e2], by rw [g.at_B, e3]⟩)) hb (fun b o' hb => .inl hb)
    refine ⟨_, _, _, _, _, _, _, hrun, .inl rfl, hinv, ?_, hk⟩
    have hlt : i < (g.at_ i nb nv (n () + m)).n := by show i < g.n; rw [← h.sim.len]; exact hi
    rcases hform with ⟨e1, e2⟩ | ⟨gb, cap, e1, e2, e3, e4, e5⟩
    · subst e1 e2
      have h0 : n () + m = 0 := by
        rcases owns_form h2 with ⟨_, h5⟩ | ⟨_, _, h5, _⟩
        · exact h5
        · cases h5
      have := R.vec (g := g.at_ i nb none (n () + m)) i sz (fun _ => 0) (fun u => n u + (ys u).length) none 0 hlt (by rw [g.at_L]; simp [hyl]) (fun _ => ⟨rfl, by simp [hyl, h0], rfl, rfl⟩) (fun cap hc => by rw [g.at_V] at hc; cases hc)
      have e : n () + (ys ()).length = 0 := by rw [hyl]; exact h0
      exact R_vec_len e this
    · subst e1 e2 e3
      have := R.vec (g := g.at_ i nb (some cap) (n () + m)) i sz (fun _ => 0) (fun u => n u + (ys u).length) (some ⟨nb, 0, none⟩) cap hlt (by rw [g.at_L]; simp [hyl]) (fun hc => by rw [g.at_V] at hc; cases hc)
        (fun cap' hc => by rw [g.at_V] at hc; cases hc; exact ⟨e4, by simp [hyl]; exact e5, by simp, by rw [g.at_B]; simp, by simp⟩)
      have e : n () + (ys ()).length = n () + m := by rw [hyl]
      exact R_vec_len e this
  rcases owns_form h2 with ⟨hv, hm0⟩ | ⟨gb, cap, hv, hmc, hcm⟩
  · exact go 0 none (fun b hb => by simp [Chunk.own, g.at_V] at hb) (.inl ⟨hv, rfl⟩)
  · refine go gb (some cap) (fun b hb => ?_) (.inr ⟨gb, cap, hv, rfl, rfl, hcm, hmc⟩)
    simp [Chunk.own, g.at_V, g.at_B] at hb
    subst hb
    rw [hv] at h4
    rcases h4 with h4 | h4
    · right; exact (hblk _).2 (by rw [← h4]; rfl)
    · left; simp [Value.ownBlock] at h4; omega
/-- Bytes as data. -/
theorem str_data (g : Gh) (y : List UInt8) : Data g (.int .u8) (y.map fun b => (b.toNat : Int)) (Lib.strCells ⟨y.toArray⟩) := by
  refine ⟨by simp [Lib.strCells, Ty.size], fun k x hk => ?_⟩
  have hlt : k < y.length := by simpa using (List.getElem?_eq_some_iff.1 hk).1
  have e : x = (((y[k]'hlt).toNat : Nat) : Int) := by
    rw [List.getElem?_map, List.getElem?_eq_getElem hlt] at hk
    simpa using hk.symm
  subst e
  have e2 : ((Lib.strCells ⟨y.toArray⟩).drop (k * Ty.size (.int .u8))).take (Ty.size (.int .u8)) = [Value.int .u8 (y[k]'hlt).toNat] := by
    have hl2 : k < (Lib.strCells ⟨y.toArray⟩).length := by simp [Lib.strCells]; exact hlt
    show ((Lib.strCells ⟨y.toArray⟩).drop (k * 1)).take 1 = _
    rw [Nat.mul_one, List.drop_eq_getElem_cons hl2]
    simp [Lib.strCells]
  rw [e2]
  exact ⟨.int .u8 fun _ => _, trivial⟩
theorem append_str_ok {t t2 e : Nat} {s x : Operand} {y : Unit → List UInt8} (h : Inv B g env E a.tmps w) (ho : o.op = .call { callee := .builtin .append, args := #[s, x], argTypes := #[t, t2] }) (ht : tund P t = some (.slice e)) (ex : ev env x = .str y)
    (hk : match tund P t2, tyOf P 6 e, tsize P e, tbytes P e, tzero P e with
          | some .string, some (.int .u8), some 1, some 1, some (.int .u8 0) => (match ev env s with
            | .snil => Ob (fun u => (y u).length ≤ 140737488355328) ∧ fN (lenE E) fun n => fEE (addE E (.vect e (.int .u8) fun u => (y u).map fun b => (b.toNat : Int))) fun E => K (.vec n 1 (fun _ => 0) (fun u => (y u).length)) env E
            | .vec i 1 o n => (match getE E i with
              | .vect T (.int .u8) xs => (match Nat.beq T e with
                | true => Ob (fun u => o u = 0 ∧ n u + (y u).length ≤ 140737488355328) ∧
                  fEnv (mapEnv (scrF i) env) fun env => fEE (mapE (scrF i) (setE E i (.vect e (.int .u8) fun u => (xs u).take (n u) ++ (y u).map fun b => (b.toNat : Int)))) fun E => K (.vec i 1 (fun _ => 0) (fun u => n u + (y u).length)) env E
                | false => False)
              | _ => False)
            | _ => False)
          | _, _, _, _, _ => False) : Done P o a w B K := by
  have hs := h.er.ev s
  have hx := h.er.ev x
  rw [ex] at hx
  have hxv := hx.str_iff
  have hsz : (ByteArray.mk (y ()).toArray).size = (y ()).length := by simp [ByteArray.size]
  split at hk <;> try exact hk.elim
  rename_i ht2 hty hse hby hz
  split at hk <;> try exact hk.elim
  · rename_i es
    rw [es] at hs
    have hsv : a.eval s = .slice none 0 0 := by generalize a.eval s = u at hs; cases hs; rfl
    rw [fN_eq, fEE_eq] at hk
    obtain ⟨hob, hk⟩ := hk
    have hob := hob.h
    obtain ⟨v', w', h1, h2, h3, h4⟩ := append_str_run (P := P) (w := w) (ty := o.type) ht ht2 hse hby hz (v := .slice none 0 0) (n := 0) (xs := []) ⟨by simp, .inl ⟨rfl, rfl⟩⟩ ⟨(y ()).toArray⟩ (by rw [hsz]; omega)
    have hrun := append_exec (P := P) (w := w) (a := a) ho (by rw [hsv, hxv]; exact h1)
    simp only [Nat.zero_add, List.nil_append] at h2
    exact app_nil_fin (sz := 1) (ty := .int .u8) (ys := fun u => (y u).map fun b => (b.toNat : Int)) h rfl (by simp [hsz]) (str_data g (y ())) hrun h2 h3 h4 (by simpa using hk)
  · rename_i i of n es
    rw [es] at hs
    split at hk <;> try exact hk.elim
    rename_i T xs hE
    split at hk <;> try exact hk.elim
    rename_i hTe
    have hTe : T = e := Nat.eq_of_beq_eq_true hTe
    subst hTe
    rw [fEnv_eq, fEE_eq] at hk
    obtain ⟨hob, hk⟩ := hk
    obtain ⟨ho0, hcount⟩ := hob.h
    obtain ⟨A0, c0, hsv⟩ : ∃ A0 c0, a.eval s = .slice A0 (n ()) c0 := by generalize a.eval s = u at hs; cases hs with | vec _ _ _ _ A c => exact ⟨A, c, rfl⟩
    rw [hsv] at hs
    obtain ⟨us, hown, hdo, hblk, _⟩ := vec_owns h.sim hE hs ho0 rfl
    obtain ⟨v', w', h1, h2, h3, h4⟩ := append_str_run (P := P) (w := w) (ty := o.type) ht ht2 hse hby hz hown ⟨(y ()).toArray⟩ (by rw [hsz]; exact hcount)
    have hrun := append_exec (P := P) (w := w) (a := a) ho (by rw [hsv, hxv]; exact h1)
    exact app_vec_fin (sz := 1) (t' := .int .u8) (ys := fun u => (y u).map fun b => (b.toNat : Int)) h hE hs rfl rfl hdo hblk (by simp [hsz]) (str_data g (y ())) hrun h2 h3 h4 (by simpa using hk)
theorem append_ok {t t2 : Nat} {s x : Operand} (h : Inv B g env E a.tmps w) (ho : o.op = .call { callee := .builtin .append, args := #[s, x], argTypes := #[t, t2] })
    (hk : eBuiltin P .append [t, t2] [ev env s, ev env x] env E K) : Done P o a w B K := by
  have hs := h.er.ev s
  have hx := h.er.ev x
  simp only [eBuiltin] at hk
  split at hk
  rotate_left
  · rename_i e htt ht
    split at hk <;> try exact hk.elim
    · rename_i n es ex
      split at hk <;> try exact hk.elim
      rename_i ht2
      exact appZ_ok h ho ht ht2 es ex hk
    · rename_i y ex
      exact append_str_ok h ho ht ex hk
  · exact hk.elim
  rename_i e htt ht
  have htt := Nat.eq_of_beq_eq_true htt
  subst htt
  split at hk <;> try exact hk.elim
  rename_i ty by_ z hty hby hz
  split at hk <;> try exact hk.elim
  rename_i sz hsz
  split at hk <;> try exact hk.elim
  rename_i hsd
  have hsd : sz = ty.size := Nat.eq_of_beq_eq_true hsd
  split at hk <;> try exact hk.elim
  rename_i hzs
  have hzs : z.cells.size = sz := Nat.eq_of_beq_eq_true hzs
  obtain ⟨ys, A, m, c, news, hxv, hyl, hmm, hdn, hA, hcell, hk⟩ := srcV_ok h.sim hx hk
  split at hk <;> try exact hk.elim
  · -- onto nil
    rename_i es
    rw [es] at hs
    have hsv : a.eval s = .slice none 0 0 := by generalize a.eval s = u at hs; cases hs; rfl
    rw [fN_eq, fEE_eq] at hk
    obtain ⟨hob, hk⟩ := hk
    have hob := hob.h
    obtain ⟨v', w', h1, h2, h3, h4⟩ := append_run (P := P) (w := w) (t := t) (ty := o.type) ht hsz hby hz hzs hsd (v := .slice none 0 0) (n := 0) (xs := []) ⟨by simp, .inl ⟨rfl, rfl⟩⟩ hyl hdn hA hcell (by rw [← hyl]; simpa using hob) (by omega)
    have hrun := append_exec (P := P) (w := w) (a := a) ho (by rw [hsv, hxv]; exact h1)
    simp only [Nat.zero_add, List.nil_append] at h2
    exact app_nil_fin h hsd hyl hdn hrun h2 h3 h4 hk
  · -- onto an owned slice
    rename_i i s' of n es
    rw [es] at hs
    split at hk <;> try exact hk.elim
    rename_i T t' xs hE
    split at hk <;> try exact hk.elim
    rename_i ht' _
    subst ht'
    split at hk <;> try exact hk.elim
    rename_i hss hTe
    have hss : s' = sz := Nat.eq_of_beq_eq_true hss
    have hTe : T = e := Nat.eq_of_beq_eq_true hTe
    subst hTe
    rw [castK_eq, fEnv_eq, fEE_eq] at hk
    obtain ⟨hob, hk⟩ := hk
    obtain ⟨ho0, hcount, hbytes⟩ := hob.h
    obtain ⟨A0, c0, hsv⟩ : ∃ A0 c0, a.eval s = .slice A0 (n ()) c0 := by generalize a.eval s = u at hs; cases hs with | vec _ _ _ _ A c => exact ⟨A, c, rfl⟩
    rw [hsv] at hs
    obtain ⟨us, hown, hdo, hblk, _⟩ := vec_owns h.sim hE hs ho0 (by omega)
    rw [hss] at hown
    have hmx : n () + m ≤ 9223372036854775807 := by rw [← hyl]; omega
    obtain ⟨v', w', h1, h2, h3, h4⟩ := append_run (P := P) (w := w) (t := t) (ty := o.type) ht hsz hby hz hzs hsd hown hyl hdn hA hcell (by rw [← hyl]; exact hbytes) hmx
    have hrun := append_exec (P := P) (w := w) (a := a) ho (by rw [hsv, hxv]; exact h1)
    exact app_vec_fin h hE hs hss hsd hdo hblk hyl hdn hrun h2 h3 h4 hk
end
end Go.Proofs.Ytafcenlbllmahaa.Fw
set_option linter.unusedVariables false
set_option linter.unusedSimpArgs false
namespace Go.Proofs.Ytafcenlbllmahaa.Fw
open Go Go.RowKit

theorem row_rep {α : Type} (V c : List α) (N p : Nat) (hN : N ≤ V.length) (hp : p + c.length ≤ N) : (V.take p ++ c ++ V.drop (p + c.length)).take N = (V.take N).take p ++ c ++ (V.take N).drop (p + c.length) := by
  apply List.ext_getElem?
  intro k
  simp only [List.getElem?_append, List.getElem?_take, List.getElem?_drop, List.length_append, List.length_take, List.length_drop]
  grind

section
variable {P : Program} {B : Base} {g : Gh} {env : Env} {E : List Chunk} {tmps : Array Value} {w : World}
variable {a : Act} {o : Oper} {K : AV → Env → List Chunk → Prop}

/-- Data laid over a part of an owned slice: the store's run, and the state behind it. -/
theorem lay_ok (h : Inv B g env E tmps w) {i T : Nat} {ty : Ty} {xs : Unit → List ty.den} {s : Nat} {of n : Unit → Nat} {A : Option Addr} {m c : Nat} (hE : getE E i = .vect T ty xs) (hr : R g (.vec i s of n) (.slice A m c)) (hs : s = ty.size)
    {ys : Unit → List ty.den} {k : Unit → Nat} {news : List Value} (hyl : (ys ()).length = k ()) (hk : k () ≤ m) (hd : Data g ty (ys ()) news) :
    ∃ w', (match A with | some ad => storeCells ad news | none => pure ()).run P w = .ok () w' ∧ Inv B g env (setE E i (.vect T ty (repF xs of k ys))) tmps w' := by
  subst hs
  have hsat := h.sim.sat i
  rw [hE] at hsat
  have hlen : ((repF xs of k ys) ()).length = (xs ()).length := by
    have hL : of () + n () ≤ g.L i := by cases hr with | vec _ _ _ _ _ _ hi hL => exact hL
    have hm : m = n () := by cases hr; rfl
    have := hsat.1
    simp only [repF, List.length_append, List.length_take, List.length_drop, hyl]
    omega
  cases hr with | vec _ _ _ _ A c hi hL hn hs' =>
  cases hV : g.V i with
  | none =>
    obtain ⟨h1, h2, h3, h4⟩ := hn hV
    subst h1
    have hx : xs () = [] := hsat.2.1 hV
    refine ⟨w, rfl, ?_⟩
    have e : (repF xs of k ys) () = [] := List.eq_nil_of_length_eq_zero (by rw [hlen, hx]; rfl)
    have : repF xs of k ys = xs := by funext u; cases u; rw [e, hx]
    rw [this, ← hE]
    have hset : ∀ (E : List Chunk) (i : Nat), setE E i (getE E i) = E := by
      intro E
      induction E with
      | nil => intro i; rfl
      | cons c r ih => intro i; cases i <;> simp [setE, getE, ih]
    rw [hset]; exact h
  | some cap =>
    obtain ⟨vs, hb, hvs, hcap, hLe, hdx⟩ := sat_data hsat hV
    obtain ⟨h0, h1, h2, h3, h4⟩ := hs' cap hV
    have hmul2 : (xs ()).length * ty.size ≤ cap * ty.size := Nat.mul_le_mul_right _ hcap
    have hnl : news.length = k () * ty.size := by rw [hd.1, hyl]
    have hfit : of () * ty.size + news.length ≤ (xs ()).length * ty.size := by rw [hnl, ← Nat.add_mul]; exact Nat.mul_le_mul_right _ (by omega)
    -- the row behind the store
    have hdata : Data g ty ((repF xs of k ys) ()) ((vs.toList.take ((xs ()).length * ty.size)).take (of () * ty.size) ++ news ++ (vs.toList.take ((xs ()).length * ty.size)).drop (of () * ty.size + news.length)) := by
      have d1 := hdx.take (of ())
      have d3 := hdx.drop (of () + k ())
      rw [Nat.add_mul, ← hnl] at d3
      exact (d1.append hd).append d3
    have hrow := row_rep vs.toList news ((xs ()).length * ty.size) (of () * ty.size) (by simp; omega) hfit
    have fin : ∀ arr : List Value, arr.length = vs.size → arr.take ((xs ()).length * ty.size) = (vs.toList.take ((xs ()).length * ty.size)).take (of () * ty.size) ++ news ++ (vs.toList.take ((xs ()).length * ty.size)).drop (of () * ty.size + news.length) →
        Inv B g env (setE E i (.vect T ty (repF xs of k ys))) tmps (w.setRow (g.B i) arr.toArray) := by
      intro arr hal harr
      have hset := setRow_set hb arr.toArray
      exact h.set (c := .vect T ty (repF xs of k ys)) (by rw [hE]; simp [Chunk.own, hV]) hset (sat_of_data (cap := cap) (vs := arr.toArray) hV (by rw [hlen, hLe]) hset.at_ (by simpa [hvs] using hal) (by rw [hlen]; exact hcap) (by rw [hlen]; simpa [harr] using hdata)) (by simp [Chunk.own, hV]) (fun _ _ _ _ => ⟨_, _, _, hE⟩)
    cases A with
    | none => exact (h4 rfl).elim
    | some ad =>
      rcases Nat.eq_zero_or_pos (k ()) with hk0 | hk0
      · -- nothing to store
        have hn0 : news = [] := List.eq_nil_of_length_eq_zero (by rw [hnl, hk0]; simp)
        subst hn0
        refine ⟨w, by simp [storeCells], ?_⟩
        have := fin vs.toList (by simp) (by simp)
        rw [Array.toArray_toList] at this
        have e : w.setRow (g.B i) vs = w := setRow_self w (g.B i) vs T (0, 0) hb
        rwa [e] at this
      · have hA := h3 (.inl (by omega))
        simp only [Option.some.injEq] at hA
        subst hA
        have hrun := run_storeCells_at P (g.B i) (of () * ty.size) T news 0 vs w hb (by simp; omega) hd.all_one
        simp only [Nat.add_zero] at hrun
        exact ⟨_, hrun, fin _ (by simp; omega) hrow⟩

theorem firstCells_run {d : Ty} {sz : Nat} (hd : sz = d.size) {A : Option Addr} {m c k : Nat} {ys : List d.den} {news : List Value} (hyl : ys.length = m) (hdn : Data g d ys news) (hA : A = none → m = 0)
    (hcell : ∀ ad, A = some ad → ∀ j u, news[j]? = some u → w.cell? (ad.add j) = some u) (hk : k ≤ m) :
    (Builtin.firstCells sz k (.slice A m c)).run P w = .ok (news.take (k * sz)).toArray w := by
  cases A with
  | none =>
    have := hA rfl
    have hk0 : k = 0 := by omega
    subst hk0
    simp [Builtin.firstCells]
  | some ad =>
    have hl : (news.take (k * sz)).length = k * sz := by
      rw [List.length_take, hdn.1, hyl, hd]
      exact Nat.min_eq_left (Nat.mul_le_mul_right _ hk)
    have := run_loadCells_list (P := P) w ad (news.take (k * sz)) (fun j v hv => hcell ad rfl j v (by
      rw [List.getElem?_take] at hv
      split at hv
      · exact hv
      · cases hv))
    rw [hl] at this
    simp [Builtin.firstCells, this]

theorem copy_ok {ts : List Nat} {s x : Operand} (h : Inv B g env E a.tmps w) (ho : o.op = .call { callee := .builtin .copy, args := #[s, x], argTypes := ts.toArray })
    (hk : eBuiltin P .copy ts [ev env s, ev env x] env E K) : Done P o a w B K := by
  have hs := h.er.ev s
  have hx := h.er.ev x
  simp only [eBuiltin] at hk
  split at hk <;> try exact hk.elim
  rename_i t r i s' of n x' es
  simp only [List.cons.injEq, and_true] at es
  obtain ⟨es, ex⟩ := es
  subst ex
  rw [es] at hs
  split at hk <;> try exact hk.elim
  rename_i e ht
  split at hk <;> try exact hk.elim
  rename_i sz hsz
  split at hk <;> try exact hk.elim
  rename_i T ty xs hE
  split at hk <;> try exact hk.elim
  rename_i hsd
  have hsd : sz = ty.size := Nat.eq_of_beq_eq_true hsd
  split at hk <;> try exact hk.elim
  rename_i hss
  have hss : s' = sz := Nat.eq_of_beq_eq_true hss
  obtain ⟨ys, A, m, c, news, hxv, hyl, hmm, hdn, hA, hcell, hk⟩ := srcV_ok h.sim hx hk
  rw [fEE_eq] at hk
  obtain ⟨A0, c0, hsv⟩ : ∃ A0 c0, a.eval s = .slice A0 (n ()) c0 := by generalize a.eval s = u at hs; cases hs with | vec _ _ _ _ A c => exact ⟨A, c, rfl⟩
  rw [hsv] at hs
  have hcl : (((ys ()).take (n ()))).length = min (ys ()).length (n ()) := by simp [Nat.min_comm]
  have hdt : Data g ty ((ys ()).take (n ())) (news.take (Nat.min m (n ()) * sz)) := by
    have := hdn.take (Nat.min m (n ()))
    rw [hsd]
    have e : (ys ()).take (Nat.min m (n ())) = (ys ()).take (n ()) := by
      rw [← hyl]
      show (ys ()).take (min (ys ()).length (n ())) = _
      rw [List.take_eq_take_iff]; (try omega)
    rwa [e] at this
  obtain ⟨w', hrun, hinv⟩ := lay_ok (P := P) h hE hs (by omega) (ys := fun u => (ys u).take (n u)) (k := fun u => min (ys u).length (n u)) hcl (Nat.min_le_right _ _) hdt
  have hfc := firstCells_run (P := P) (w := w) (k := Nat.min m (n ())) (c := c) hsd hyl hdn hA hcell (Nat.min_le_left _ _)
  refine ⟨_, .int .i64 (Nat.min m (n ()) : Nat), _, w', _, _, _, ?_, .inl rfl, hinv, R.int' (by rw [hyl]), hk⟩
  have hcopy : (Builtin.copy_ (t :: r).toArray o.type #[a.eval s, a.eval x]).run P w = .ok (.int .i64 (Nat.min m (n ()) : Nat)) w' := by
    rw [hsv, hxv]
    unfold Builtin.copy_
    simp only [List.getElem?_toArray, List.getElem?_cons_zero, List.getElem?_cons_succ, Sem.run_bind, tund_run ht, Result.andThen_ok, Builtin.lenOf, Sem.run_pure, tsize_size hsz, hfc]
    cases A0 with
    | none => simp at hrun; simp [goInt, hrun]
    | some ad => simp at hrun; simp [goInt, hrun]
  simp [execOp, ho, resolve, invoke, builtin, hcopy]

theorem clear_ok {ts : List Nat} {s : Operand} (h : Inv B g env E a.tmps w) (ho : o.op = .call { callee := .builtin .clear, args := #[s], argTypes := ts.toArray })
    (hk : eBuiltin P .clear ts [ev env s] env E K) : Done P o a w B K := by
  have hs := h.er.ev s
  simp only [eBuiltin] at hk
  split at hk <;> try exact hk.elim
  rename_i t r i s' of n es
  simp only [List.cons.injEq, and_true] at es
  rw [es] at hs
  split at hk <;> try exact hk.elim
  rename_i e ht
  split at hk <;> try exact hk.elim
  rename_i sz z hsz hz
  split at hk <;> try exact hk.elim
  rename_i T ty xs hE
  split at hk <;> try exact hk.elim
  rename_i hsd
  have hsd : sz = ty.size := Nat.eq_of_beq_eq_true hsd
  split at hk <;> try exact hk.elim
  rename_i hss
  have hss : s' = sz := Nat.eq_of_beq_eq_true hss
  split at hk <;> try exact hk.elim
  rename_i hzs
  have hzs : z.cells.size = sz := Nat.eq_of_beq_eq_true hzs
  split at hk <;> try exact hk.elim
  rename_i cs hcs
  obtain ⟨d, hd, hk⟩ := dec1_ok hk ((R_cst g z).cells hcs)
  rw [fEE_eq] at hk
  obtain ⟨A0, c0, hsv⟩ : ∃ A0 c0, a.eval s = .slice A0 (n ()) c0 := by generalize a.eval s = u at hs; cases hs with | vec _ _ _ _ A c => exact ⟨A, c, rfl⟩
  rw [hsv] at hs
  have hdr : Data g ty (List.replicate (n ()) (d ())) (List.replicate (n ()) z.cells.toList).flatten := Data.replicate (by rw [enc_const]; exact hd) _
  obtain ⟨w', hrun, hinv⟩ := lay_ok (P := P) h hE hs (by omega) (ys := fun u => List.replicate (n u) (d u)) (k := n) (by simp) (Nat.le_refl _) hdr
  refine ⟨_, .tuple #[], _, w', _, _, _, ?_, .inl rfl, hinv, R.mkTup (cs := []) (vs := []) trivial, hk⟩
  have hzc : (Builtin.zeroCells z.cells (n ())).toList = (List.replicate (n ()) z.cells.toList).flatten := by
    unfold Builtin.zeroCells; exact made_list z.cells (n ())
  have hclear : (Builtin.clear_ (t :: r).toArray o.type #[a.eval s]).run P w = .ok (.tuple #[]) w' := by
    rw [hsv]
    unfold Builtin.clear_
    simp only [List.getElem?_toArray, List.getElem?_cons_zero, Sem.run_bind, tund_run ht, Result.andThen_ok]
    cases A0 with
    | none => simp at hrun; simp [hrun]
    | some ad =>
      cases hn : n () with
      | zero =>
        rw [hn] at hrun
        simp [storeCells] at hrun
        simp [hrun]
      | succ k =>
        rw [hn] at hrun hzc
        simp only [] at hrun
        simp [tzero_zero hz, hzc, hrun]
  simp [execOp, ho, resolve, invoke, builtin, hclear]

/-- All of them. -/
theorem byte_back (q : Int) (h : 0 ≤ q ∧ q < 256) : ((UInt8.ofNat q.toNat).toNat : Int) = q := by
  rw [UInt8.toNat_ofNat']; omega
theorem unsafeString_ok {pt it : Nat} {x y : Operand} (h : Inv B g env E a.tmps w) (ho : o.op = .call { callee := .builtin .unsafeString, args := #[x, y], argTypes := #[pt, it] })
    (hk : eBuiltin P .unsafeString [pt, it] [ev env x, ev env y] env E K) : Done P o a w B K := by
  have hx := h.er.ev x
  have hy := h.er.ev y
  simp only [eBuiltin] at hk
  split at hk <;> try exact hk.elim
  rename_i ts az pt' it' i idx m ets eaz
  injection ets with e1 e2
  injection e2 with e2 _
  subst e1 e2
  injection eaz with ex e3
  injection e3 with ey _
  rw [ex] at hx
  rw [ey] at hy
  split at hk <;> try exact hk.elim
  rename_i e hpt
  split at hk <;> try exact hk.elim
  rename_i T xs hse hE
  split at hk <;> try exact hk.elim
  rename_i hTe
  have hTe : T = e := Nat.eq_of_beq_eq_true hTe
  subst hTe
  rw [fEnv_eq, fEE_eq] at hk
  obtain ⟨hob, hk⟩ := hk
  obtain ⟨h0, h1, h2, hlen48, h3⟩ := hob.h
  have hi : i < lenE E := getE_lt (by rw [hE]; simp)
  have hsat := h.sim.sat i
  rw [hE] at hsat
  obtain ⟨s1, s2, s3⟩ := hsat
  obtain ⟨mm, hm⟩ : ∃ mm : Nat, m () = mm := ⟨(m ()).toNat, by omega⟩
  cases hV : g.V i with
  | none => have := s2 hV; rw [this] at h2; simp at h2; omega
  | some cap =>
    obtain ⟨vs, hb, hvs, hcap, hd⟩ := s3 cap hV
    have hyv := hy.int_iff
    have hxv : a.eval x = .pointer (some ⟨g.B i, 0, none⟩) := by
      generalize a.eval x = u at hx
      cases hx; simp [h0]
    let l : List UInt8 := ((xs ()).take mm).map fun z => UInt8.ofNat z.toNat
    have hll : l.length = mm := by simp [l]; omega
    have hcell : ∀ j z, l[j]? = some z → w.cell? ((⟨g.B i, 0, none⟩ : Addr).add j) = some (.int .u8 z.toNat) := by
      intro j z hz
      have hj : j < mm := by rw [← hll]; exact (List.getElem?_eq_some_iff.1 hz).1
      have hjx : j < (xs ()).length := by omega
      have hz2 : z = UInt8.ofNat ((xs ())[j]'hjx).toNat := by
        simp only [l, List.getElem?_map, List.getElem?_take, if_pos hj, List.getElem?_eq_getElem hjx] at hz
        simpa using hz.symm
      have hr := hd j _ (List.getElem?_eq_getElem hjx)
      have hsz : (Ty.int IntKind.u8).size = 1 := rfl
      rw [hsz] at hr
      cases hd' : (vs.toList.drop (j * 1)).take 1 with
      | nil => rw [hd'] at hr; exact hr.elim
      | cons u r =>
        rw [hd'] at hr
        have hu' := hr.1.int_iff
        have : ((vs.toList.drop (j * 1)).take 1)[0]? = some u := by rw [hd']; rfl
        rw [add_none rfl, cell_of_heap hb]
        simp at this
        rw [Nat.zero_add, this, hu', hz2]
        have hzr := h3 _ (List.getElem_mem hjx)
        have e : ((UInt8.ofNat (Int.toNat ((xs ())[j]'hjx))).toNat : Int) = (xs ())[j]'hjx := byte_back _ hzr
        rw [e]
    have hsz : P.cellsOf T = 1 := by
      unfold tsize at hse
      split at hse
      · rename_i ti hti
        simp only [Option.some.injEq] at hse
        simp [Program.cellsOf, tinfo_info hti, hse]
      · cases hse
    have hne : l ≠ [] := by
      intro e
      have e2 : l.length = 0 := by rw [e]; rfl
      omega
    have hvs1 : vs.size = cap := by rw [hvs]; exact Nat.mul_one _
    have hrun0 := Lib.run_unsafeString_row (P := P) w pt it o.type T (tund_und hpt) hsz (g.B i) vs.size (by simp [World.shape?, hb]) l hne (by rw [hll, hvs1]; omega) (by rw [hll]; omega) hcell
    rw [hll] at hrun0
    have hrun : (execOp a.eval o).run P w = .ok (.value (.string ⟨l.toArray⟩)) (w.freeze ⟨g.B i, 0, none⟩ mm) := by
      simp [execOp, ho, resolve, invoke, builtin, hxv, hyv, hm, hrun0]
    have hfz : ∀ k, k ≠ g.B i → (w.freeze ⟨g.B i, 0, none⟩ mm).heap[k]? = w.heap[k]? := fun k hk => by
      unfold World.freeze
      split
      · rfl
      · simp only [Array.getElem?_modify]; rw [if_neg (fun e => hk e.symm)]
    have hblk : (getE E i).own g i (g.B i) := by rw [hE]; simp [Chunk.own, hV]
    have hinv := h.turn (w' := w.freeze ⟨g.B i, 0, none⟩ mm) (g' := g) (scrF i) (c := .none) ⟨T, _, xs, hE⟩ rfl rfl rfl rfl (fun b o' hb => hb) (fun v u hv hr => scrF_ok rfl (fun j _ => ⟨rfl, rfl, rfl⟩) rfl rfl v u hv hr) hi (fun j _ => ⟨rfl, rfl, rfl⟩)
      (by unfold World.freeze; split <;> rfl) (by unfold World.freeze; split <;> rfl) (by unfold World.freeze; split <;> exact ⟨rfl, Nat.le_refl _⟩) (by unfold World.freeze; split <;> simp) (fun k _ hk => hfz k (hk _ hblk)) trivial (fun b hb => by cases hb) (fun b o' hb => .inl hb)
    refine ⟨_, _, _, _, _, _, _, hrun, .inl rfl, hinv, ?_, hk⟩
    exact R.str' (by simp [l, hm])
theorem eV_ok {op : Op} (h : Inv B g env E a.tmps w) (ho : o.op = op) (hk : eV P op env E K) (hconv : ∀ s d x, op = .convert s d x → ∃ u, tund P s = some u) : Done P o a w B K := by
  cases op <;> try (simp only [eV] at hk; done)
  case alloc e => exact alloc_ok h ho hk
  case box e x => exact box_ok h ho hk
  case store t x v => exact store_ok h ho hk
  case buildSlice t l p => exact buildSlice_ok h ho hk
  case makeSlice t l c => exact makeSlice_ok h ho hk
  case makeMap t r =>
    cases r with
    | none => exact makeMap_ok h ho hk
    | some _ => simp only [eV] at hk
  case insert t m k x =>
    cases k <;> try (simp only [eV] at hk; done)
    rename_i v
    cases v <;> try (simp only [eV] at hk; done)
    exact putM_ok h ho hk
  case mapUpdate t m k x => exact mapUpdate_ok h ho hk
  case range t x => exact range_ok h ho hk
  case entry x => exact entry_ok h ho hk
  case next x b =>
    cases b with
    | true => simp only [eV] at hk
    | false => exact next_ok h ho hk
  case convert s d x => obtain ⟨u, hu⟩ := hconv s d x rfl; exact convert_ok hu h ho hk
  case call c =>
    obtain ⟨callee, args, argTypes⟩ := c
    cases callee <;> try (simp only [eV] at hk; done)
    rename_i b
    simp only [eV] at hk
    obtain ⟨args⟩ := args
    obtain ⟨ts⟩ := argTypes
    cases b <;> try (simp only [eBuiltin] at hk; done)
    case delete => exact delete_ok h ho hk
    case append =>
      have hk0 := hk
      simp only [eBuiltin] at hk0
      obtain _ | ⟨t, _ | ⟨t2, _ | ⟨_, _⟩⟩⟩ := ts <;> try (simp at hk0; done)
      obtain _ | ⟨s, _ | ⟨x, _ | ⟨_, _⟩⟩⟩ := args <;> try (simp [evL] at hk0; done)
      exact append_ok h ho hk
    case copy =>
      have hk0 := hk
      simp only [eBuiltin] at hk0
      obtain _ | ⟨s, _ | ⟨x, _ | ⟨_, _⟩⟩⟩ := args
      · cases ts <;> simp [evL] at hk0
      · cases ts <;> simp [evL] at hk0
        all_goals (cases hh : ev env s <;> simp [hh] at hk0)
      · exact copy_ok h ho hk
      · cases ts <;> simp [evL] at hk0
        all_goals (cases hh : ev env s <;> simp [hh] at hk0)
    case unsafeString =>
      have hk0 := hk
      simp only [eBuiltin] at hk0
      obtain _ | ⟨t, _ | ⟨t2, _ | ⟨_, _⟩⟩⟩ := ts <;> try (simp at hk0; done)
      obtain _ | ⟨s, _ | ⟨x, _ | ⟨_, _⟩⟩⟩ := args <;> try (simp [evL] at hk0; done)
      exact unsafeString_ok h ho hk
    case clear =>
      have hk0 := hk
      simp only [eBuiltin] at hk0
      obtain _ | ⟨s, _ | ⟨x, _⟩⟩ := args
      · cases ts <;> simp [evL] at hk0
      · exact clear_ok h ho hk
      · cases ts <;> simp [evL] at hk0
        all_goals (cases hh : ev env s <;> simp [hh] at hk0)
end
end Go.Proofs.Ytafcenlbllmahaa.Fw
set_option linter.unusedVariables false
set_option linter.unusedSimpArgs false
namespace Go.Proofs.Ytafcenlbllmahaa.Fw
open Go Go.RowKit

/-- A function that can be entered. -/
def Callable (P : Program) (f : FuncId) : Prop := ∃ fn, P.funcs[f]? = some fn ∧ fn.body.isSome = true ∧ fn.name ≠ "runtime.NumGoroutine"

/-- Any function, any depth; in a round of loop r, if any. -/
def Fr (r : Option Nat) : Fence := { Fence.wide with round := r }
theorem callsIn_Fr {P : Program} {r : Option Nat} {n : Nat} {f : FuncId} {args : Array Value} {w : World} {R : Ending → World → Prop} : CallsIn (Fr r) n P f args w R ↔ Calls P f args w R := callsIn_wide (n := n)

/-- Where the states of a walk begin: any of the bases that 'at_' lets in; 'b0': how many blocks there were. -/
def Base.mark (B : Base) (D : Nat) : Base := ⟨{ B.g with Φ := fun b => if b = D then some (.deferred (some [])) else B.g.Φ b }, B.E, B.w⟩
structure Sc where
  at_ : Base → Prop
  b0 : Nat
  ok : Bool
  hb : ok = true → ∀ B, at_ B → b0 ≤ B.w.heap.size
  cl : ok = true → ∀ B D, at_ B → b0 ≤ D → at_ (B.mark D)
/-- The marks among the deferred calls. -/
def Dm (S : Sc) (B : Base) (ds : List Deferred) : Prop := (S.ok = false → ds = []) ∧ ∃ Ds : List Nat, ds = Ds.map (fun D => { target := .collected D, args := #[] }) ∧ Ds.Nodup ∧ ∀ D ∈ Ds, S.b0 ≤ D ∧ B.g.Φ D = some (.deferred (some []))
def Iv (S : Sc) (g : Gh) (env : Env) (E : List Chunk) (a : Act) (w : World) : Prop := ∃ B, S.at_ B ∧ Inv B g env E a.tmps w ∧ Dm S B a.defers
theorem Iv.sim {S : Sc} {g : Gh} {env : Env} {E : List Chunk} {a : Act} {w : World} (h : Iv S g env E a w) : Sim g E w := by obtain ⟨B, _, h, _⟩ := h; exact h.sim
theorem Iv.er {S : Sc} {g : Gh} {env : Env} {E : List Chunk} {a : Act} {w : World} (h : Iv S g env E a w) : ER g env a.tmps := by obtain ⟨B, _, h, _⟩ := h; exact h.er

/-- What an operation does, and what is asked behind it. -/
def Step (y : Bool) (P : Program) (o : Oper) (a : Act) (w : World) (next : Act → World → Prop) : Prop :=
  (∀ c, o.op ≠ .defer c) ∧ ∃ n w1, (execOp a.eval o).run P w = .ok n w1 ∧ (match n with
    | .value v => next (a.put o.dst v) w1
    | .skip => next (a.put o.dst Go.undef) w1
    | .enter f args => Calls P f args w1 fun e w' => ∃ c, e = .returned c ∧ next (a.put o.dst c) w'
    | .round l f tmps assign body => y = true ∧ RoundIn Fence.wide 0 P l f tmps assign body w1 fun e w' => ∃ c, e = .returned c ∧ next (a.put o.dst c) w'
    | _ => False)
theorem Step.wp {P : Program} {o : Oper} {a : Act} {w : World} {next : Act → World → Prop} {Q : Exit → Act → World → Prop} (h : Step false P o a w next) : o.wp P a w next Q := by
  obtain ⟨hd, n, w1, hr, h⟩ := h
  unfold Oper.wp
  rw [hr]
  cases n with
  | value v => exact h
  | skip => exact h
  | enter f args => exact Calls.mono h (by rintro e w' ⟨c, rfl, hc⟩; exact hc)
  | round l f tmps assign body => exact absurd h.1 (by simp)
  | _ => exact h.elim
theorem Step.wpIn {y : Bool} {r : Option Nat} {P : Program} {o : Oper} {a : Act} {w : World} {next : Act → World → Prop} {Q : Exit → Act → World → Prop} (h : Step y P o a w next) : o.wpIn (Fr r) 0 P a w next Q := by
  obtain ⟨hd, n, w1, hr, h⟩ := h
  refine ⟨fun _ _ => trivial, ?_⟩
  rw [Oper.semAt_eq _ _ _ hd, hr]
  cases n with
  | value v => exact h
  | skip => exact h
  | enter f args => exact ⟨fun h => by simp [Fr, Fence.wide] at h, callsIn_Fr.2 (Calls.mono h (by rintro e w' ⟨c, rfl, hc⟩; exact hc))⟩
  | round l f tmps assign body => exact ⟨fun h => by simp [Fr, Fence.wide] at h, RoundIn.mono (F := Fr r) h.2 (by rintro e w' ⟨c, rfl, hc⟩; exact hc)⟩
  | _ => exact h.elim

/-- A call: what is asked of it, in terms of states. -/
structure CallN (P : Program) (f : FuncId) (args : List AV) (env : Env) (E : List Chunk) (K : AV → Env → List Chunk → Prop) : Prop where
  callable : Callable P f
  h : ∀ (B : Base) (g : Gh) (tmps : Array Value) (w : World) (vals : List Value), Inv B g env E tmps w → RL g args vals →
    Calls P f vals.toArray w (fun e w' => ∃ c r g' env' E', e = .returned c ∧ Inv B g' env' E' tmps w' ∧ R g' r c ∧ K r env' E')

/-- A method of a type's: the function that it is, its receiver the value itself. -/
def methB (P : Program) (t : Nat) (name : String) (f : FuncId) : Bool := match tinfo P t with
  | some i => (match i.methods.find? (·.name == name) with
    | some m => (match m.path.toList, m.func, P.underlying t with
      | [], some (f', true), some (.pointer _) => Nat.beq f' f
      | [], some (f', false), some d => Nat.beq f' f && (match d with | .pointer _ => false | _ => true)
      | _, _, _ => false)
    | none => false)
  | none => false
structure MethQ (P : Program) (t : Nat) (name : String) (f : FuncId) : Prop where
  h : ∀ (u : Value) (w : World), (method (P.types.size + Made.depth) t u name).run P w = .ok (f, u) w
theorem MethQ.of {P : Program} {t : Nat} {name : String} {f : FuncId} (h : methB P t name f = true) : MethQ P t name f where
  h := by
    intro u w
    obtain ⟨n, hn⟩ : ∃ n, P.types.size + Made.depth = n + 1 := ⟨P.types.size + Made.depth - 1, (by have : 0 < Made.depth := (by decide); omega)⟩
    unfold methB at h
    split at h
    · rename_i i hi
      split at h
      · rename_i m hm
        split at h
        · rename_i f' te hp hf hu
          have hf' := Nat.eq_of_beq_eq_true h
          subst hf'
          rw [hn]
          simp [method, typeInfo, tinfo_info hi, hm, hp, follow, hf, receiverAt, run_underlying hu, Place.get]
        · rename_i f' d hp hf hu
          rw [Bool.and_eq_true] at h
          have hf' := Nat.eq_of_beq_eq_true h.1
          subst hf'
          rw [hn]
          have hd := h.2
          cases d <;> first | (cases hd; done) | simp [method, typeInfo, tinfo_info hi, hm, hp, follow, hf, receiverAt, run_underlying hu, Place.get]
        · cases h
      · cases h
    · cases h
/-- A method called of what an interface's value holds: what is asked of it. -/
structure InvN (P : Program) (t : Nat) (name : String) (v : AV) (az : List AV) (env : Env) (E : List Chunk) (K : AV → Env → List Chunk → Prop) : Prop where
  h : ∃ f, MethQ P t name f ∧ CallN P f (v :: az) env E K
theorem InvN.intro {P : Program} {t : Nat} {name : String} {v : AV} {az : List AV} {env : Env} {E : List Chunk} {K : AV → Env → List Chunk → Prop} (f : FuncId) (h : methB P t name f = true) (hc : CallN P f (v :: az) env E K) : InvN P t name v az env E K := ⟨f, .of h, hc⟩

/-- A round of a loop over this function: what is asked of it. -/
structure YieldN (P : Program) (S : Sc) (l : Nat) (args : List AV) (env : Env) (E : List Chunk) (K : AV → Env → List Chunk → Prop) : Prop where
  h : ∀ (g : Gh) (a : Act) (w : World) (vals : List Value), Iv S g env E a w → RL g args vals →
    YieldAt Fence.wide 0 P l vals.toArray w (fun e w' => ∃ c r g' env' E', e = .returned c ∧ Iv S g' env' E' a w' ∧ R g' r c ∧ K r env' E')

/-- Has this function no code of its own? -/
def bodiless (P : Program) (f : FuncId) : Bool := match nth P.funcs.toList f with
  | some fn => (match fn.body with | none => true | some _ => false) | none => false
/-- It answers its one argument. -/
structure NoEsc (P : Program) (f : FuncId) : Prop where
  h : ∃ fn, P.funcs[f]? = some fn ∧ (fn.name == "runtime.NumGoroutine") = false ∧ fn.body.isNone = true ∧ Extern.findNext fn = none ∧ Extern.find fn = some Extern.AbiNoEscape.same

/-- Which chunks are cells. -/
def cellsL : List Chunk → List Bool
  | [] => [] | c :: r => fixB c :: cellsL r
def fBL (l : List Bool) (K : List Bool → Prop) : Prop := match l with
  | [] => K [] | true :: r => fBL r fun r => K (true :: r) | false :: r => fBL r fun r => K (false :: r)
theorem fBL_eq (l : List Bool) (K : List Bool → Prop) : fBL l K = K l := by
  induction l generalizing K with
  | nil => rfl
  | cons c r ih => cases c <;> simp only [fBL, ih]
inductive Ex | normal | ret | exit (n : Nat)
def Ex.out : Ex → Exit
  | .normal => .normal | .ret => .ret | .exit n => .exit n

/-- What stands behind a piece of code. -/
def Post (S : Sc) (N : Nat) (K : Ex → Env → List Chunk → Prop) : Exit → Act → World → Prop :=
  fun x a w => ∃ e g env E, x = e.out ∧ Iv S g env E a w ∧ a.tmps.size = N ∧ K e env E

/-- No region of it is drawn. -/
def noDraw : Code → Bool
  | .region _ _ _ => true | .seq a b => noDraw a && noDraw b | .cond _ a b => noDraw a && noDraw b | .block _ b => noDraw b | .loop b => noDraw b | .rangeFunc _ _ a b => false | .scope b => noDraw b
  | .skip => true | .label _ => true | .exit _ => true | .ret => true | _ => false
/-- A loop: what is asked of it, in terms of states. 'M': how many chunks there were when the call began. -/
structure LoopN (P : Program) (N : Nat) (S : Sc) (M : List Bool) (body : Code) (env : Env) (E : List Chunk) (K : Ex → Env → List Chunk → Prop) : Prop where
  h : ∀ (r : Option Nat) (g : Gh) (a : Act) (w : World), (r = none ∨ noDraw body = true) → (∀ B, S.at_ B → cellsL B.E = M) → Iv S g env E a w → a.tmps.size = N → (Code.loop body).wpIn (Fr r) 0 P (Post S N K) a w
/-- A piece of code of which more must be told. -/
structure CodeN (P : Program) (N : Nat) (S : Sc) (M : List Bool) (c : Code) (env : Env) (E : List Chunk) (K : Ex → Env → List Chunk → Prop) : Prop where
  h : ∀ (r : Option Nat) (g : Gh) (a : Act) (w : World), (r = none ∨ noDraw c = true) → (∀ B, S.at_ B → cellsL B.E = M) → Iv S g env E a w → a.tmps.size = N → c.wpIn (Fr r) 0 P (Post S N K) a w
/-- A closed fact. -/
structure Cl (p : Unit → Prop) : Prop where h : p ()

def apL : List AV → List AV → List AV
  | [], l => l | c :: r, l => c :: apL r l
theorem apL_eq (l r : List AV) : apL l r = l ++ r := by induction l <;> simp [apL, *]

section
variable (P : Program) (N : Nat) (S : Sc)
def putK (d : Option Nat) (v : AV) (env : Env) (K : Env → Prop) : Prop :=
  match d with
  | none => K env
  | some d => (match Nat.blt d N with | true => fV v fun v => K ((d, v) :: env) | false => False)

/-- One operation. -/
def sOp (y : Bool) (o : Oper) (env : Env) (E : List Chunk) (K : Env → List Chunk → Prop) : Prop :=
  match o.op with
  | .call { callee := .value f, args, .. } => (match ev env f with
    | .fn (.func i) first captured => fL (apL first (apL (evL env args.toList) captured)) fun az => (match bodiless P i with
      | true => (match az with | [v] => NoEsc P i ∧ fV v fun r => putK N o.dst r env fun env => K env E | _ => False)
      | false => CallN P i az env E fun r env E => fV r fun r => putK N o.dst r env fun env => K env E)
    | .fn (.yield l) [] [] => (match y with
      | true => fL (evL env args.toList) fun az => YieldN P S l az env E fun r env E => fV r fun r => putK N o.dst r env fun env => K env E
      | false => False)
    | _ => False)
  | .call { callee := .invoke recv name, args, .. } => (match ev env recv with
    | .ifc t v => fL (evL env args.toList) fun az => InvN P t name v az env E fun r env E => fV r fun r => putK N o.dst r env fun env => K env E
    | _ => False)
  | .alloc e => eV P (.alloc e) env E fun r env E => putK N o.dst r env fun env => K env E
  | .box e x => eV P (.box e x) env E fun r env E => putK N o.dst r env fun env => K env E
  | .store t x v => eV P (.store t x v) env E fun r env E => putK N o.dst r env fun env => K env E
  | .buildSlice t l p => eV P (.buildSlice t l p) env E fun r env E => putK N o.dst r env fun env => K env E
  | .makeSlice t l c => eV P (.makeSlice t l c) env E fun r env E => putK N o.dst r env fun env => K env E
  | .makeMap t r => eV P (.makeMap t r) env E fun r env E => putK N o.dst r env fun env => K env E
  | .insert t m k x => eV P (.insert t m k x) env E fun r env E => putK N o.dst r env fun env => K env E
  | .mapUpdate t m k x => eV P (.mapUpdate t m k x) env E fun r env E => putK N o.dst r env fun env => K env E
  | .range t x => eV P (.range t x) env E fun r env E => putK N o.dst r env fun env => K env E
  | .next x b => eV P (.next x b) env E fun r env E => putK N o.dst r env fun env => K env E
  | .entry x => eV P (.entry x) env E fun r env E => putK N o.dst r env fun env => K env E
  | .convert s d x => (match tund P s, tund P d with
    | some .string, some (.slice _) => eV P (.convert s d x) env E fun r env E => putK N o.dst r env fun env => K env E
    | _, _ => qV P (.convert s d x) env E fun r => putK N o.dst r env fun env => K env E)
  | .call { callee := .builtin b, args, argTypes } => (match b with
    | .append | .copy | .clear | .unsafeString | .delete => eBuiltin P b argTypes.toList (evL env args.toList) env E fun r env E => putK N o.dst r env fun env => K env E
    | _ => qV P (.call { callee := .builtin b, args, argTypes }) env E fun r => putK N o.dst r env fun env => K env E)
  | op => qV P op env E fun r => putK N o.dst r env fun env => K env E

/-- Is it one that leaves the world alone? -/
def stillB (o : Oper) : Bool :=
  match o.op with
  | .call { callee := .value _, .. } | .call { callee := .invoke _ _, .. } | .alloc _ | .box _ _ | .store _ _ _ | .buildSlice _ _ _ | .makeSlice _ _ _ | .makeMap _ _ | .insert _ _ _ _ | .mapUpdate _ _ _ _ | .range _ _ | .next _ _ | .entry _ => false
  | .convert s d _ => (match tund P s, tund P d with | some .string, some (.slice _) => false | _, _ => true)
  | .call { callee := .builtin b, .. } => (match b with | .append | .copy | .clear | .unsafeString | .delete => false | _ => true)
  | _ => true

def dstOf (ops : List Oper) (j : Nat) : Option Nat := match nth ops j with | some o => o.dst | none => none

/-- Operations, one behind the other ('ops': the whole region, for the guards). -/
def sOps (y : Bool) (ops : List Oper) : List Oper → Env → List Chunk → (Env → List Chunk → Prop) → Prop
  | [], env, E, K => K env E
  | o :: r, env, E, K => match o.guard with
    | none => sOp P N S y o env E fun env E => sOps y ops r env E K
    | some (j, want) => (match dstOf ops j with
      | none => False
      | some d => (match look env d with
        | .bool b => (b () = want → sOp P N S y o ((d, cond want .tt .ff) :: env) E fun env E => sOps y ops r env E K) ∧
            (b () = !want → putK N o.dst .skip ((d, cond want .ff .tt) :: env) fun env => sOps y ops r env E K)
        | .tt => (match want with | true => sOp P N S y o env E fun env E => sOps y ops r env E K | false => putK N o.dst .skip env fun env => sOps y ops r env E K)
        | .ff => (match want with | false => sOp P N S y o env E fun env E => sOps y ops r env E K | true => putK N o.dst .skip env fun env => sOps y ops r env E K)
        | .skip => putK N o.dst .skip env fun env => sOps y ops r env E K
        | _ => False))

def countStill : List Oper → Nat
  | [] => 0 | o :: r => match stillB P o with | true => countStill r + 1 | false => 0

end

section
variable {P : Program} {N M : Nat} {S : Sc} {y : Bool}

theorem put_ok {B : Base} {g : Gh} {env : Env} {E : List Chunk} {a : Act} {w : World} {d : Option Nat} {v : AV} {u : Value} {K : Env → Prop} (h : Inv B g env E a.tmps w) (hr : R g v u) (hN : a.tmps.size = N) (hk : putK N d v env K) :
    ∃ env', Inv B g env' E (a.put d u).tmps w ∧ (a.put d u).tmps.size = N ∧ (a.put d u).defers = a.defers ∧ K env' := by
  unfold putK at hk
  split at hk
  · exact ⟨env, h, hN, rfl, hk⟩
  · rename_i d
    split at hk <;> try exact hk.elim
    rename_i hd
    rw [fV_eq] at hk
    have hd' : d < a.tmps.size := by rw [hN]; exact Nat.le_of_ble_eq_true hd
    exact ⟨_, h.put hr hd', by simp [Act.put, hN], rfl, hk⟩

/-- One operation: it comes to an end, as a state that the rest is ready for. -/
theorem Iv.put {g : Gh} {env : Env} {E : List Chunk} {a : Act} {w : World} {d : Option Nat} {v : AV} {u : Value} {K : Env → Prop} (h : Iv S g env E a w) (hr : R g v u) (hN : a.tmps.size = N) (hk : putK N d v env K) :
    ∃ env', Iv S g env' E (a.put d u) w ∧ (a.put d u).tmps.size = N ∧ K env' := by
  obtain ⟨B, hB, h, hd⟩ := h
  obtain ⟨env', h1, h2, h3, h4⟩ := put_ok h hr hN hk
  exact ⟨env', ⟨B, hB, h1, by rw [h3]; exact hd⟩, h2, h4⟩
theorem sOp_ok {g : Gh} {env : Env} {E : List Chunk} {a : Act} {w : World} {o : Oper} {K : Env → List Chunk → Prop} {next : Act → World → Prop}
    (h : Iv S g env E a w) (hN : a.tmps.size = N) (hk : sOp P N S y o env E K)
    (hn0 : ∀ g' env' E' a' w', Iv S g' env' E' a' w' → a'.tmps.size = N → K env' E' → next a' w') : Step y P o a w next := by
  obtain ⟨B, hB, h, hdm⟩ := h
  have hn : ∀ g' env' E' a' w', a'.defers = a.defers → Inv B g' env' E' a'.tmps w' → a'.tmps.size = N → K env' E' → next a' w' := fun g' env' E' a' w' hd' h1 => hn0 g' env' E' a' w' ⟨B, hB, h1, by rw [hd']; exact hdm⟩
  have done : ∀ (Kr : AV → Env → List Chunk → Prop), (∀ r env E, Kr r env E → putK N o.dst r env fun env => K env E) → (∀ c, o.op ≠ .defer c) → Done P o a w B Kr → Step y P o a w next := by
    intro Kr hKr hnd ⟨n, c, r, w', g', env', E', h1, h2, h3, h4, h5⟩
    refine ⟨hnd, _, _, h1, ?_⟩
    obtain ⟨env'', h6, h7, h8, h9⟩ := put_ok h3 h4 hN (hKr r env' E' h5)
    rcases h2 with rfl | ⟨rfl, rfl⟩
    · exact hn _ _ _ _ _ h8 h6 h7 h9
    · exact hn _ _ _ _ _ h8 h6 h7 h9
  have quiet : ∀ op, o.op = op → qV P op env E (fun r => putK N o.dst r env fun env => K env E) → Step y P o a w next := by
    intro op ho hq
    obtain ⟨r, c, h1, h2, h3⟩ := qV_ok h.sim h.er hq o ho
    refine ⟨fun c e => ?_, _, _, h1, ?_⟩
    · rw [← ho, e] at hq; exact hq
    obtain ⟨env'', h6, h7, h8, h9⟩ := put_ok h h2 hN h3
    exact hn _ _ _ _ _ h8 h6 h7 h9
  unfold sOp at hk
  split at hk
  · rename_i f args ts ho
    split at hk <;> try exact hk.elim
    case h_2 =>
      rename_i l ef
      split at hk <;> try exact hk.elim
      rw [fL_eq] at hk
      have hf := h.er.ev f
      rw [ef] at hf
      have hv : a.eval f = .func (.yield l) #[] #[] := by
        generalize a.eval f = u at hf
        cases hf with | fn _ _ _ vs ws hl hl' hr hr' =>
        have e1 : vs = #[] := Array.eq_empty_of_size_eq_zero (by simpa using hl.symm)
        have e2 : ws = #[] := Array.eq_empty_of_size_eq_zero (by simpa using hl'.symm)
        subst e1 e2; rfl
      obtain ⟨fn, tm, az, body, h1, h2⟩ := hk.h g a w _ ⟨B, hB, h, hdm⟩ (h.er.evL args.toList)
      have hrun : (execOp a.eval o).run P w = .ok (.round l fn tm az body) w := by
        have e : (args.map a.eval) = (args.toList.map a.eval).toArray := by apply Array.ext'; simp
        simp [execOp, ho, resolve, hv, Deferred.ofValue, invoke, e, h1]
      refine ⟨fun c e => (by rw [ho] at e; cases e), _, _, hrun, ?_⟩
      refine ⟨rfl, h2.mono ?_⟩
      rintro e w' ⟨c, r, g', env', E', rfl, h3, h4, h5⟩
      rw [fV_eq] at h5
      obtain ⟨env'', h6, h7, h9⟩ := h3.put h4 hN h5
      exact ⟨c, rfl, hn0 _ _ _ _ _ h6 h7 h9⟩
    rename_i i first captured ef
    rw [fL_eq] at hk
    have hf := h.er.ev f
    rw [ef] at hf
    obtain ⟨vs, ws, hv, hr1, hr2⟩ : ∃ vs ws, a.eval f = .func (.func i) vs ws ∧ RL g first vs.toList ∧ RL g captured ws.toList := by
      generalize a.eval f = u at hf
      cases hf with | fn _ _ _ vs ws hl hl' hr hr' =>
      exact ⟨vs, ws, rfl, RL.mk (by simpa using hl) fun i y u h1 h2 => hr i y u h1 (by simpa using h2), RL.mk (by simpa using hl') fun i y u h1 h2 => hr' i y u h1 (by simpa using h2)⟩
    have hargs := hr1.append ((h.er.evL args.toList).append hr2)
    rw [apL_eq, apL_eq] at hk
    split at hk
    · split at hk <;> try exact hk.elim
      rename_i v e1
      rw [e1] at hargs
      obtain ⟨hne, hk⟩ := hk
      obtain ⟨fn, f1, f2, f3, f4, f5⟩ := hne.h
      rw [fV_eq] at hk
      obtain ⟨u, hu⟩ : ∃ u, vs.toList ++ (args.toList.map a.eval ++ ws.toList) = [u] := by
        have := hargs.length
        match hl : vs.toList ++ (args.toList.map a.eval ++ ws.toList), this with
        | [u], _ => exact ⟨u, rfl⟩
      have e : (vs ++ Array.map a.eval args ++ ws) = #[u] := by
        apply Array.ext'
        rw [← hu]; simp
      rw [hu] at hargs
      have hrun : (execOp a.eval o).run P w = .ok (.value u) w := by
        have := run_callFunc_extern f1 f2 f3 f4 f5 #[u] w
        rw [Lib.run_noEscape] at this
        simp [execOp, ho, resolve, hv, Deferred.ofValue, invoke, e, this, Result.andThen]
      exact done (fun r env' E' => putK N o.dst r env' fun env => K env E') (fun _ _ _ h => h) (fun c e => by rw [ho] at e; cases e) ⟨_, _, _, _, _, _, _, hrun, .inl rfl, h, hargs.1, hk⟩
    have hcalls := hk.h B g a.tmps w _ h hargs
    obtain ⟨fn, hfn, hbody, hname⟩ := hk.callable
    have hrun : (execOp a.eval o).run P w = .ok (.enter i (vs.toList ++ (args.toList.map a.eval ++ ws.toList)).toArray) w := by
      have hb : fn.body ≠ none := by intro e; rw [e] at hbody; simp at hbody
      have e : (vs ++ Array.map a.eval args ++ ws) = (vs.toList ++ (args.toList.map a.eval ++ ws.toList)).toArray := by apply Array.ext'; simp
      simp [execOp, ho, resolve, hv, Deferred.ofValue, invoke, callFunc, hfn, hname, hb, ← e]
    refine ⟨fun c e => (by rw [ho] at e; cases e), _, _, hrun, ?_⟩
    refine Calls.mono hcalls ?_
    rintro e w' ⟨c, r, g', env', E', rfl, h3, h4, h5⟩
    rw [fV_eq] at h5
    obtain ⟨env'', h6, h7, h8, h9⟩ := put_ok h3 h4 hN h5
    exact ⟨c, rfl, hn _ _ _ _ _ h8 h6 h7 h9⟩
  · rename_i recv name args ts ho
    split at hk <;> try exact hk.elim
    rename_i t v er
    rw [fL_eq] at hk
    have hf := h.er.ev recv
    rw [er] at hf
    obtain ⟨u, hv, hu⟩ : ∃ u, a.eval recv = .iface t u ∧ R g v u := by
      generalize a.eval recv = x at hf
      cases hf with | ifc _ _ u hu => exact ⟨u, rfl, hu⟩
    obtain ⟨i, hmq, hk⟩ := hk.h
    have hargs : RL g (v :: evL env args.toList) (u :: args.toList.map a.eval) := ⟨hu, h.er.evL args.toList⟩
    have hcalls := hk.h B g a.tmps w _ h hargs
    obtain ⟨fn, hfn, hbody, hname⟩ := hk.callable
    have hrun : (execOp a.eval o).run P w = .ok (.enter i (u :: args.toList.map a.eval).toArray) w := by
      have hb : fn.body ≠ none := by intro e; rw [e] at hbody; simp at hbody
      have e : (#[u] ++ (args.map a.eval)) = (u :: args.toList.map a.eval).toArray := by apply Array.ext'; simp
      have e1 : (#[Value.iface t u] ++ args.map a.eval)[0]? = some (.iface t u) := by rw [Array.getElem?_append]; rfl
      have e2 : (#[Value.iface t u] ++ args.map a.eval).extract 1 (#[Value.iface t u] ++ args.map a.eval).size = args.map a.eval := by
        apply Array.ext'; simp [Array.toList_extract, List.extract]
        rw [List.take_of_length_le (by simp)]
      have e3 : (callMethod (.iface t u) name (args.map a.eval)).run P w = .ok (.enter i (#[u] ++ args.map a.eval)) w := by
        simp [callMethod, hmq.h, callFunc, hfn, hname, hb, Result.andThen]
      simp [execOp, ho, resolve, hv]
      rw [← e, ← e3]
      unfold invoke
      rw [e1]
      simp only [e2]
    refine ⟨fun c e => (by rw [ho] at e; cases e), _, _, hrun, ?_⟩
    refine Calls.mono hcalls ?_
    rintro e w' ⟨c, r, g', env', E', rfl, h3, h4, h5⟩
    rw [fV_eq] at h5
    obtain ⟨env'', h6, h7, h8, h9⟩ := put_ok h3 h4 hN h5
    exact ⟨c, rfl, hn _ _ _ _ _ h8 h6 h7 h9⟩
  · rename_i ho; exact done _ (fun _ _ _ h => h) (fun c e => by rw [ho] at e; cases e) (eV_ok h ho hk (fun _ _ _ e => by cases e))
  · rename_i ho; exact done _ (fun _ _ _ h => h) (fun c e => by rw [ho] at e; cases e) (eV_ok h ho hk (fun _ _ _ e => by cases e))
  · rename_i ho; exact done _ (fun _ _ _ h => h) (fun c e => by rw [ho] at e; cases e) (eV_ok h ho hk (fun _ _ _ e => by cases e))
  · rename_i ho; exact done _ (fun _ _ _ h => h) (fun c e => by rw [ho] at e; cases e) (eV_ok h ho hk (fun _ _ _ e => by cases e))
  · rename_i ho; exact done _ (fun _ _ _ h => h) (fun c e => by rw [ho] at e; cases e) (eV_ok h ho hk (fun _ _ _ e => by cases e))
  · rename_i ho; exact done _ (fun _ _ _ h => h) (fun c e => by rw [ho] at e; cases e) (eV_ok h ho hk (fun _ _ _ e => by cases e))
  · rename_i ho; exact done _ (fun _ _ _ h => h) (fun c e => by rw [ho] at e; cases e) (eV_ok h ho hk (fun _ _ _ e => by cases e))
  · rename_i ho; exact done _ (fun _ _ _ h => h) (fun c e => by rw [ho] at e; cases e) (eV_ok h ho hk (fun _ _ _ e => by cases e))
  · rename_i ho; exact done _ (fun _ _ _ h => h) (fun c e => by rw [ho] at e; cases e) (eV_ok h ho hk (fun _ _ _ e => by cases e))
  · rename_i ho; exact done _ (fun _ _ _ h => h) (fun c e => by rw [ho] at e; cases e) (eV_ok h ho hk (fun _ _ _ e => by cases e))
  · rename_i ho; exact done _ (fun _ _ _ h => h) (fun c e => by rw [ho] at e; cases e) (eV_ok h ho hk (fun _ _ _ e => by cases e))
  · rename_i s d x ho
    split at hk
    · rename_i hs hd; exact done _ (fun _ _ _ h => h) (fun c e => by rw [ho] at e; cases e) (eV_ok h ho hk (fun s' d' x' e => by cases e; exact ⟨_, hs⟩))
    · exact quiet _ ho hk
  · rename_i b args ts ho
    split at hk
    · exact done _ (fun _ _ _ h => h) (fun c e => by rw [ho] at e; cases e) (eV_ok (op := .call { callee := .builtin .append, args := args, argTypes := ts }) h ho hk (fun _ _ _ e => by cases e))
    · exact done _ (fun _ _ _ h => h) (fun c e => by rw [ho] at e; cases e) (eV_ok (op := .call { callee := .builtin .copy, args := args, argTypes := ts }) h ho hk (fun _ _ _ e => by cases e))
    · exact done _ (fun _ _ _ h => h) (fun c e => by rw [ho] at e; cases e) (eV_ok (op := .call { callee := .builtin .clear, args := args, argTypes := ts }) h ho hk (fun _ _ _ e => by cases e))
    · exact done _ (fun _ _ _ h => h) (fun c e => by rw [ho] at e; cases e) (eV_ok (op := .call { callee := .builtin .unsafeString, args := args, argTypes := ts }) h ho hk (fun _ _ _ e => by cases e))
    · exact done _ (fun _ _ _ h => h) (fun c e => by rw [ho] at e; cases e) (eV_ok (op := .call { callee := .builtin .delete, args := args, argTypes := ts }) h ho hk (fun _ _ _ e => by cases e))
    · exact quiet _ ho hk
  · exact quiet _ rfl hk

theorem yielded_bool {g : Gh} {env : Env} {a : Act} {ops : List Oper} {j d : Nat} (hE : ER g env a.tmps) (hd : dstOf ops j = some d) :
    (∀ b, look env d = .bool b → yielded ⟨ops⟩ a.tmps j = some (b ())) ∧ (look env d = .tt → yielded ⟨ops⟩ a.tmps j = some true) ∧ (look env d = .ff → yielded ⟨ops⟩ a.tmps j = some false) ∧ (look env d = .skip → yielded ⟨ops⟩ a.tmps j = none) := by
  have hdst : ((⟨ops⟩ : Array Oper)[j]?).bind (·.dst) = some d := by
    unfold dstOf at hd
    rw [nth_eq] at hd
    cases ho : ops[j]? with
    | none => rw [ho] at hd; cases hd
    | some o => rw [ho] at hd; simp [ho, hd]
  have hr := hE d
  rw [Array.getD_eq_getD_getElem?] at hr
  unfold yielded
  rw [hdst]
  simp only [Option.bind_some]
  refine ⟨fun b hb => ?_, fun hb => ?_, fun hb => ?_, fun hb => ?_⟩ <;> rw [hb] at hr <;> cases hx : a.tmps[d]? <;> rw [hx] at hr <;> simp only [Option.getD_none, Option.getD_some] at hr
  · have := hr.bool_iff; cases this
  · rw [hr.bool_iff]
  · have := hr.tt_iff; cases this
  · rw [hr.tt_iff]
  · have := hr.ff_iff; cases this
  · rw [hr.ff_iff]
  · rename_i v
    cases hr
    rfl
end
end Go.Proofs.Ytafcenlbllmahaa.Fw
set_option linter.unusedVariables false
set_option linter.unusedSimpArgs false
namespace Go.Proofs.Ytafcenlbllmahaa.Fw
open Go Go.RowKit

section
variable {P : Program} {N M : Nat} {S : Sc} {y : Bool}

theorem R_ttff {g : Gh} {b : Unit → Bool} {u : Value} {want : Bool} (h : R g (.bool b) u) (hb : b () = want) : R g (cond want .tt .ff) u := by
  have := h.bool_iff
  subst this
  rw [hb]
  cases want
  · exact .ff
  · exact .tt
theorem ER.over {g : Gh} {env : Env} {tmps : Array Value} (h : ER g env tmps) {d : Nat} {v : AV} (hr : R g v (tmps.getD d Go.undef)) : ER g ((d, v) :: env) tmps := by
  intro t
  simp only [look]
  split
  · rename_i hb
    have : d = t := Nat.eq_of_beq_eq_true hb
    subst this; exact hr
  · exact h t
theorem Inv.over {B : Base} {g : Gh} {env : Env} {E : List Chunk} {tmps : Array Value} {w : World} (h : Inv B g env E tmps w) {d : Nat} {v : AV} (hr : R g v (tmps.getD d Go.undef)) : Inv B g ((d, v) :: env) E tmps w := ⟨h.er.over hr, h.sim, h.ext⟩
theorem Iv.over {g : Gh} {env : Env} {E : List Chunk} {a : Act} {w : World} (h : Iv S g env E a w) {d : Nat} {v : AV} (hr : R g v (a.tmps.getD d Go.undef)) : Iv S g ((d, v) :: env) E a w := by
  obtain ⟨B, hB, h, hd⟩ := h
  exact ⟨B, hB, h.over hr, hd⟩
theorem Iv.same {g : Gh} {env : Env} {E : List Chunk} {a : Act} {w w' : World} (h : Iv S g env E a w) (hw : WSame w w') : Iv S g env E a w' := by
  obtain ⟨B, hB, h, hd⟩ := h
  exact ⟨B, hB, h.same hw, hd⟩

/-- One operation with its guard. -/
theorem guard_ok {ops : List Oper} {o : Oper} {g : Gh} {env : Env} {E : List Chunk} {a : Act} {w : World} {next : Env → List Chunk → Prop} {G : Prop}
    (h : Iv S g env E a w)
    (hk : match o.guard with
      | none => sOp P N S y o env E next
      | some (j, want) => (match dstOf ops j with
        | none => False
        | some d => (match look env d with
          | .bool b => (b () = want → sOp P N S y o ((d, cond want .tt .ff) :: env) E next) ∧ (b () = !want → putK N o.dst .skip ((d, cond want .ff .tt) :: env) fun env => next env E)
          | .tt => (match want with | true => sOp P N S y o env E next | false => putK N o.dst .skip env fun env => next env E)
          | .ff => (match want with | false => sOp P N S y o env E next | true => putK N o.dst .skip env fun env => next env E)
          | .skip => putK N o.dst .skip env fun env => next env E
          | _ => False)))
    (yes : ∀ env', Iv S g env' E a w → Region.wanted o (yielded ⟨ops⟩ a.tmps) = true → sOp P N S y o env' E next → G)
    (no : ∀ env', Iv S g env' E a w → Region.wanted o (yielded ⟨ops⟩ a.tmps) = false → putK N o.dst .skip env' (fun env => next env E) → G) : G := by
  split at hk
  · rename_i hg
    exact yes env h (by simp [Region.wanted, hg]) hk
  · rename_i j want hg
    split at hk <;> try exact hk.elim
    rename_i d hd
    obtain ⟨y1, y2, y3, y4⟩ := yielded_bool h.er hd
    have hr := h.er d
    split at hk <;> try exact hk.elim
    · rename_i b hb
      rw [hb] at hr
      have hy := y1 b hb
      by_cases hw : b () = want
      · exact yes _ (h.over (R_ttff hr hw)) (by simp [Region.wanted, hg, hy, hw]) (hk.1 hw)
      · have hw' : b () = !want := by cases hbb : b () <;> cases want <;> simp_all
        refine no _ (h.over (v := cond want .ff .tt) ?_) (by simp [Region.wanted, hg, hy, hw']) (hk.2 hw')
        have := R_ttff hr hw'
        cases want <;> exact this
    · rename_i hb
      have hy := y2 hb
      cases want
      · exact no _ h (by simp [Region.wanted, hg, hy]) hk
      · exact yes _ h (by simp [Region.wanted, hg, hy]) hk
    · rename_i hb
      have hy := y3 hb
      cases want
      · exact yes _ h (by simp [Region.wanted, hg, hy]) hk
      · exact no _ h (by simp [Region.wanted, hg, hy]) hk
    · rename_i hb
      have hy := y4 hb
      exact no _ h (by simp [Region.wanted, hg, hy]) hk

theorem sOps_cons {ops r : List Oper} {o : Oper} {env : Env} {E : List Chunk} {K : Env → List Chunk → Prop} (hk : sOps P N S y ops (o :: r) env E K) :
    match o.guard with
      | none => sOp P N S y o env E fun env E => sOps P N S y ops r env E K
      | some (j, want) => (match dstOf ops j with
        | none => False
        | some d => (match look env d with
          | .bool b => (b () = want → sOp P N S y o ((d, cond want .tt .ff) :: env) E fun env E => sOps P N S y ops r env E K) ∧ (b () = !want → putK N o.dst .skip ((d, cond want .ff .tt) :: env) fun env => sOps P N S y ops r env E K)
          | .tt => (match want with | true => sOp P N S y o env E fun env E => sOps P N S y ops r env E K | false => putK N o.dst .skip env fun env => sOps P N S y ops r env E K)
          | .ff => (match want with | false => sOp P N S y o env E fun env E => sOps P N S y ops r env E K | true => putK N o.dst .skip env fun env => sOps P N S y ops r env E K)
          | .skip => putK N o.dst .skip env fun env => sOps P N S y ops r env E K
          | _ => False)) := by
  unfold sOps at hk
  exact hk

theorem sOps_ok {ops : List Oper} {Q : Exit → Act → World → Prop} {K : Env → List Chunk → Prop} (hQ : ∀ g env E a w, Iv S g env E a w → a.tmps.size = N → K env E → Q .normal a w) :
    ∀ (l : List Oper) {g : Gh} {env : Env} {E : List Chunk} {a : Act} {w : World}, Iv S g env E a w → a.tmps.size = N → sOps P N S false ops l env E K → wpList P ⟨ops⟩ Q l a w
  | [], g, env, E, a, w, h, hN, hk => hQ g env E a w h hN hk
  | o :: r, g, env, E, a, w, h, hN, hk => by
    refine guard_ok (next := fun env E => sOps P N S false ops r env E K) h (sOps_cons hk) (fun env' h' hw hs => ?_) (fun env' h' hw hs => ?_)
    · unfold wpList
      rw [if_pos hw]
      exact .inl (sOp_ok h' hN hs fun g' env' E' a' w' h1 h2 h4 => sOps_ok hQ r h1 h2 h4).wp
    · unfold wpList
      rw [if_neg (by rw [hw]; simp)]
      obtain ⟨env'', h1, h2, h4⟩ := h'.put (R.skip) hN hs
      exact sOps_ok hQ r h1 h2 h4
theorem sOps_okIn {r : Option Nat} {ops : List Oper} {Q : Exit → Act → World → Prop} {K : Env → List Chunk → Prop} (hQ : ∀ g env E a w, Iv S g env E a w → a.tmps.size = N → K env E → Q .normal a w) :
    ∀ (l : List Oper) {g : Gh} {env : Env} {E : List Chunk} {a : Act} {w : World}, Iv S g env E a w → a.tmps.size = N → sOps P N S y ops l env E K → wpListIn (Fr r) 0 P ⟨ops⟩ Q l a w
  | [], g, env, E, a, w, h, hN, hk => hQ g env E a w h hN hk
  | o :: l, g, env, E, a, w, h, hN, hk => by
    refine guard_ok (next := fun env E => sOps P N S y ops l env E K) h (sOps_cons hk) (fun env' h' hw hs => ?_) (fun env' h' hw hs => ?_)
    · unfold wpListIn
      rw [if_pos hw]
      exact (sOp_ok h' hN hs fun g' env' E' a' w' h1 h2 h4 => sOps_okIn hQ l h1 h2 h4).wpIn
    · unfold wpListIn
      rw [if_neg (by rw [hw]; simp)]
      obtain ⟨env'', h1, h2, h4⟩ := h'.put (R.skip) hN hs
      exact ⟨fun _ _ => trivial, sOps_okIn hQ l h1 h2 h4⟩

/-- Operations that leave the world alone, ahead of others: in whatever order. -/
theorem sOps_still {ops tail : List Oper} {K : Env → List Chunk → Prop} {w : World} {Q : Act → Prop} (hQ : ∀ g env E a, Iv S g env E a w → a.tmps.size = N → sOps P N S false ops tail env E K → Q a) :
    ∀ (l : List Oper) {g : Gh} {env : Env} {E : List Chunk} {a : Act}, countStill P (l ++ tail) ≥ l.length → Iv S g env E a w → a.tmps.size = N → sOps P N S false ops (l ++ tail) env E K → wpStill P ⟨ops⟩ w Q l a
  | [], g, env, E, a, hc, h, hN, hk => hQ g env E a h hN hk
  | o :: r, g, env, E, a, hc, h, hN, hk => by
    have hst : stillB P o = true := by
      simp only [List.cons_append, countStill] at hc
      split at hc
      · assumption
      · simp at hc
    have hc' : countStill P (r ++ tail) ≥ r.length := by
      simp only [List.cons_append, countStill, hst] at hc
      simp only [List.length_cons] at hc
      omega
    refine guard_ok (next := fun env E => sOps P N S false ops (r ++ tail) env E K) h (sOps_cons hk) (fun env' h' hw hs => ?_) (fun env' h' hw hs => ?_)
    · unfold wpStill
      rw [if_pos hw]
      have quiet : ∀ op, o.op = op → qV P op env' E (fun r' => putK N o.dst r' env' fun env => sOps P N S false ops (r ++ tail) env E K) → o.still P a w (wpStill P ⟨ops⟩ w Q r) := by
        intro op ho hq
        obtain ⟨r', c, h1, h2, h3⟩ := qV_ok h'.sim h'.er hq o ho
        unfold Oper.still
        rw [h1]
        obtain ⟨env'', h6, h7, h9⟩ := h'.put h2 hN h3
        exact ⟨rfl, sOps_still hQ r hc' h6 h7 h9⟩
      unfold sOp at hs
      unfold stillB at hst
      split at hs
      · rename_i ho; rw [ho] at hst; simp at hst
      · rename_i ho; rw [ho] at hst; simp at hst
      · rename_i ho; rw [ho] at hst; simp at hst
      · rename_i ho; rw [ho] at hst; simp at hst
      · rename_i ho; rw [ho] at hst; simp at hst
      · rename_i ho; rw [ho] at hst; simp at hst
      · rename_i ho; rw [ho] at hst; simp at hst
      · rename_i ho; rw [ho] at hst; simp at hst
      · rename_i ho; rw [ho] at hst; simp at hst
      · rename_i ho; rw [ho] at hst; simp at hst
      · rename_i ho; rw [ho] at hst; simp at hst
      · rename_i ho; rw [ho] at hst; simp at hst
      · rename_i ho; rw [ho] at hst; simp at hst
      · rename_i s d x ho
        rw [ho] at hst
        split at hs
        · rename_i h1 h2; simp [h1, h2] at hst
        · exact quiet _ ho hs
      · rename_i b args ts ho
        rw [ho] at hst
        split at hs
        · simp at hst
        · simp at hst
        · simp at hst
        · simp at hst
        · simp at hst
        · exact quiet _ ho hs
      · exact quiet _ rfl hs
    · unfold wpStill
      rw [if_neg (by rw [hw]; simp)]
      obtain ⟨env'', h1, h2, h4⟩ := h'.put (R.skip) hN hs
      exact sOps_still hQ r hc' h1 h2 h4

theorem countStill_le : ∀ l : List Oper, countStill P l ≤ l.length
  | [] => Nat.le_refl _
  | o :: r => by
    simp only [countStill]
    split
    · have := countStill_le r; simp; omega
    · exact Nat.zero_le _
theorem countStill_take : ∀ (l : List Oper) (n : Nat), n ≤ countStill P l → countStill P (l.take n ++ l.drop n) ≥ (l.take n).length := by
  intro l n h
  rw [List.take_append_drop]
  have := countStill_le (P := P) l
  rw [List.length_take]
  omega

theorem wsame_drawn (w : World) : WSame w { w with drawn := w.drawn + 1 } := ⟨rfl, rfl, ⟨rfl, Nat.le_succ _⟩, rfl⟩

end
end Go.Proofs.Ytafcenlbllmahaa.Fw
set_option linter.unusedVariables false
set_option linter.unusedSimpArgs false
namespace Go.Proofs.Ytafcenlbllmahaa.Fw
open Go Go.RowKit

def fB (n : Nat) (K : Nat → Prop) : Prop := match n with | 0 => K 0 | m + 1 => K (m + 1)
theorem fB_eq (n : Nat) (K : Nat → Prop) : fB n K = K n := by cases n <;> rfl
mutual
/-- The one value says what the other one says, of the same chunks. -/
def sV : AV → AV → Prop
  | _, .undef => True
  | .skip, .skip => True
  | .int k n, .int k' m => (match decEq k k' with | isTrue _ => n () = m () | isFalse _ => False)
  | .bool b, .bool c => b () = c ()
  | .tt, .bool c => c () = true
  | .ff, .bool c => c () = false
  | .bool b, .tt => b () = true
  | .bool b, .ff => b () = false
  | .tt, .tt => True
  | .ff, .ff => True
  | .str s, .str t => s () = t ()
  | .lst t xs, .lst t' ys => (match decEq t t' with | isTrue h => castK h xs fun xs => xs () = ys () | isFalse _ => False)
  | .snil, .snil => True
  | .agg cs, .agg ds => sVL cs ds
  | .tup cs, .tup ds => sVL cs ds
  | .pnil, .pnil => True
  | .ptr i o, .ptr j p => (match Nat.beq i j, Nat.beq o p with | true, true => True | _, _ => False)
  | .eptr i s x o, .eptr j s' y p => (match Nat.beq i j, Nat.beq s s', Nat.beq o p with | true, true, true => x () = y () | _, _, _ => False)
  | .iptr t x o, .iptr t' y p => (match decEq t t', Nat.beq o p with | isTrue h, true => castX h x fun x => x () = y () | _, _ => False)
  | .vec i s o n, .vec j s' p m => (match Nat.beq i j, Nat.beq s s' with | true, true => o () = p () ∧ n () = m () | _, _ => False)
  | .fn f a b, .fn f' a' b' => (match decEq f f' with | isTrue _ => sVL a a' ∧ sVL b b' | isFalse _ => False)
  | .fnil, .fnil => True
  | .inil, .inil => True
  | .mp i, .mp j => (match Nat.beq i j with | true => True | false => False)
  | .mnil, .mnil => True
  | .hp i f, .hp j h => (match Nat.beq i j with | true => f () = h () | false => False)
  | .hm i f, .hm j h => (match Nat.beq i j with | true => f () = h () | false => False)
  | _, _ => False
def sVL : List AV → List AV → Prop
  | [], [] => True
  | a :: r, e :: s => sV a e ∧ sVL r s
  | _, _ => False
end
mutual
theorem sV_ok {g : Gh} : ∀ (a e : AV) (u : Value), sV a e → R g a u → R g e u
  | .agg cs, e, u, h, hr => by
    cases e <;> simp only [sV] at h <;> try exact h.elim
    · exact .undef _
    · obtain ⟨vs, rfl, hl⟩ := hr.agg_iff
      simpa using R.mkAgg (sVL_ok cs _ vs.toList h hl)
  | .tup cs, e, u, h, hr => by
    cases e <;> simp only [sV] at h <;> try exact h.elim
    · exact .undef _
    · obtain ⟨vs, rfl, hl⟩ := hr.tup_iff
      simpa using R.mkTup (sVL_ok cs _ vs.toList h hl)
  | .fn f az bs, e, u, h, hr => by
    cases e <;> simp only [sV] at h <;> try exact h.elim
    · exact .undef _
    · split at h
      · rename_i hf _
        subst hf
        cases hr with | fn _ _ _ vs ws hl hl' hr hr' =>
        simpa using R.mkFn (f := f) (sVL_ok az _ vs.toList h.1 (RL.mk (by simpa using hl) fun i y u h1 h2 => hr i y u h1 (by simpa using h2))) (sVL_ok bs _ ws.toList h.2 (RL.mk (by simpa using hl') fun i y u h1 h2 => hr' i y u h1 (by simpa using h2)))
      · exact h.elim
  | .undef, e, u, h, hr => by cases e <;> simp only [sV] at h <;> first | exact h.elim | exact .undef _
  | .ifc _ _, e, u, h, hr => by cases e <;> simp only [sV] at h <;> first | exact h.elim | exact .undef _
  | .cptr _ _, e, u, h, hr => by cases e <;> simp only [sV] at h <;> first | exact h.elim | exact .undef _
  | .skip, e, u, h, hr => by cases e <;> simp only [sV] at h <;> first | exact h.elim | exact .undef _ | exact hr
  | .int k n, e, u, h, hr => by
    cases e <;> simp only [sV] at h <;> first | exact h.elim | exact .undef _ | skip
    split at h
    · rename_i hk _
      subst hk
      rw [hr.int_iff]; exact R.int' h.symm
    · exact h.elim
  | .bool b, e, u, h, hr => by
    cases e <;> simp only [sV] at h <;> first | exact h.elim | exact .undef _ | skip
    · rw [hr.bool_iff]; exact R.bool' h.symm
    · rw [hr.bool_iff, h]; exact .tt
    · rw [hr.bool_iff, h]; exact .ff
  | .tt, e, u, h, hr => by
    cases e <;> simp only [sV] at h <;> first | exact h.elim | exact .undef _ | skip
    · rw [hr.tt_iff]; exact R.bool' h
    · exact hr
  | .ff, e, u, h, hr => by
    cases e <;> simp only [sV] at h <;> first | exact h.elim | exact .undef _ | skip
    · rw [hr.ff_iff]; exact R.bool' h
    · exact hr
  | .str s, e, u, h, hr => by
    cases e <;> simp only [sV] at h <;> first | exact h.elim | exact .undef _ | skip
    rw [hr.str_iff]; exact R.str' (by rw [h])
  | .lst t xs, e, u, h, hr => by
    cases e <;> simp only [sV] at h <;> first | exact h.elim | exact .undef _ | skip
    rename_i t' ys
    split at h
    · rename_i ht _
      subst ht
      have e : ys = xs := by funext u; cases u; exact h.symm
      subst e; exact hr
    · exact h.elim
  | .snil, e, u, h, hr => by cases e <;> simp only [sV] at h <;> first | exact h.elim | exact .undef _ | exact hr
  | .pnil, e, u, h, hr => by cases e <;> simp only [sV] at h <;> first | exact h.elim | exact .undef _ | exact hr
  | .fnil, e, u, h, hr => by cases e <;> simp only [sV] at h <;> first | exact h.elim | exact .undef _ | exact hr
  | .inil, e, u, h, hr => by cases e <;> simp only [sV] at h <;> first | exact h.elim | exact .undef _ | exact hr
  | .mnil, e, u, h, hr => by cases e <;> simp only [sV] at h <;> first | exact h.elim | exact .undef _ | exact hr
  | .mp i, e, u, h, hr => by
    cases e <;> simp only [sV] at h <;> first | exact h.elim | exact .undef _ | skip
    split at h <;> try exact h.elim
    rename_i hb
    rw [← Nat.eq_of_beq_eq_true hb]; exact hr
  | .hp i f, e, u, h, hr => by
    cases e <;> simp only [sV] at h <;> first | exact h.elim | exact .undef _ | skip
    rename_i j f'
    split at h <;> try exact h.elim
    rename_i hb
    have e : f' = f := by funext u; cases u; exact h.symm
    rw [← Nat.eq_of_beq_eq_true hb, e]; exact hr
  | .hm i f, e, u, h, hr => by
    cases e <;> simp only [sV] at h <;> first | exact h.elim | exact .undef _ | skip
    rename_i j f'
    split at h <;> try exact h.elim
    rename_i hb
    have e : f' = f := by funext u; cases u; exact h.symm
    rw [← Nat.eq_of_beq_eq_true hb, e]; exact hr
  | .ptr i o, e, u, h, hr => by
    cases e <;> simp only [sV] at h <;> first | exact h.elim | exact .undef _ | skip
    split at h <;> try exact h.elim
    rename_i hb ho
    rw [← Nat.eq_of_beq_eq_true hb, ← Nat.eq_of_beq_eq_true ho]; exact hr
  | .eptr i s x o, e, u, h, hr => by
    cases e <;> simp only [sV] at h <;> first | exact h.elim | exact .undef _ | skip
    rename_i j s' y p
    split at h <;> try exact h.elim
    rename_i hb hs ho
    have e : y = x := by funext u; cases u; exact h.symm
    rw [← Nat.eq_of_beq_eq_true hb, ← Nat.eq_of_beq_eq_true hs, ← Nat.eq_of_beq_eq_true ho, e]; exact hr
  | .iptr t x o, e, u, h, hr => by
    cases e <;> simp only [sV] at h <;> first | exact h.elim | exact .undef _ | skip
    rename_i t' y p
    split at h <;> try exact h.elim
    rename_i ht _ ho
    subst ht
    have e : y = x := by funext u; cases u; exact h.symm
    rw [← Nat.eq_of_beq_eq_true ho, e]; exact hr
  | .vec i s o n, e, u, h, hr => by
    cases e <;> simp only [sV] at h <;> first | exact h.elim | exact .undef _ | skip
    rename_i j s' p m
    split at h <;> try exact h.elim
    rename_i hb hs
    have e1 : p = o := by funext u; cases u; exact h.1.symm
    have e2 : m = n := by funext u; cases u; exact h.2.symm
    rw [← Nat.eq_of_beq_eq_true hb, ← Nat.eq_of_beq_eq_true hs, e1, e2]; exact hr
theorem sVL_ok {g : Gh} : ∀ (az es : List AV) (us : List Value), sVL az es → RL g az us → RL g es us
  | [], es, us, h, hr => by
    cases es <;> simp only [sVL] at h
    cases us
    · exact trivial
    · exact hr.elim
  | a :: r, es, us, h, hr => by
    cases es <;> simp only [sVL] at h
    cases us
    · exact hr.elim
    · exact ⟨sV_ok a _ _ h.1 hr.1, sVL_ok r _ _ h.2 hr.2⟩
end

/-! ### Who comes ahead of whom -/
def depsB (o : Oper) : List Nat := (o.after.toList.filter (fun e => Region.binds .any e)).map (·.on)
/-- What stands ahead of an operation, as bits. -/
def orL (tab : List Nat) : List Nat → Nat
  | [] => 0 | d :: r => Nat.lor (Nat.lor (2 ^ d) (tab.getD d 0)) (orL tab r)
def ancT : List Oper → List Nat → List Nat
  | [], acc => acc | o :: r, acc => ancT r (acc ++ [orL acc (depsB o)])
def isW (P : Program) (o : Oper) : Bool := match o.op with | .assign _ => true | _ => !stillB P o
def wsOf (P : Program) : Nat → List Oper → List (Nat × Oper)
  | _, [] => [] | i, o :: r => match isW P o with | true => (i, o) :: wsOf P (i + 1) r | false => wsOf P (i + 1) r
/-- May still operation i run when the writers of D (as bits) have? -/
def mayB (tab : List Nat) (i : Nat) (D : Nat) : List (Nat × Oper) → Bool
  | [] => true
  | p :: r => (match Nat.testBit D p.1 with
    | true => (match Nat.testBit (tab.getD p.1 0) i with | true => false | false => mayB tab i D r)
    | false => (match Nat.testBit (tab.getD i 0) p.1 with | true => false | false => mayB tab i D r))
/-- Have all writers ahead of operation i run? -/
def nextB (tab : List Nat) (i : Nat) (D : Nat) : List (Nat × Oper) → Bool
  | [] => true
  | p :: r => (match Nat.testBit D p.1 with
    | true => nextB tab i D r
    | false => (match Nat.testBit (tab.getD i 0) p.1 with | true => false | false => nextB tab i D r))
def allB (D : Nat) : List (Nat × Oper) → Bool
  | [] => true | p :: r => (match Nat.testBit D p.1 with | true => allB D r | false => false)
section
variable (P : Program) (N : Nat) (S : Sc)
/-- A still operation, with its guard. -/
def sSt (ops : List Oper) (o : Oper) (env : Env) (E : List Chunk) (K : AV → Env → Prop) : Prop :=
  match o.guard with
  | none => qV P o.op env E fun v => fV v fun v => K v env
  | some (j, want) => (match dstOf ops j with
    | none => False
    | some d => (match look env d with
      | .bool b => (b () = want → qV P o.op ((d, cond want .tt .ff) :: env) E fun v => fV v fun v => K v ((d, cond want .tt .ff) :: env)) ∧ (b () = !want → K .skip ((d, cond want .ff .tt) :: env))
      | .tt => (match want with | true => qV P o.op env E fun v => fV v fun v => K v env | false => K .skip env)
      | .ff => (match want with | false => qV P o.op env E fun v => fV v fun v => K v env | true => K .skip env)
      | .skip => K .skip env
      | _ => False))
/-- The still operations of a stage, in order ('D0': the stage ahead of it, if any). -/
def evS (ops : List Oper) (tab : List Nat) (ws : List (Nat × Oper)) (D : Nat) (D0 : Option Nat) (E : List Chunk) : Nat → List Oper → Env → (Env → Prop) → Prop
  | _, [], env, K => K env
  | i, o :: r, env, K => match isW P o, mayB tab i D ws with
    | false, true => (match o.dst with
      | some d => sSt P ops o env E fun v env => (match D0 with
        | none => evS ops tab ws D D0 E (i + 1) r ((d, v) :: env) K
        | some D1 => (match mayB tab i D1 ws with
          | true => sV (look env d) v ∧ evS ops tab ws D D0 E (i + 1) r ((d, v) :: env) K
          | false => evS ops tab ws D D0 E (i + 1) r ((d, v) :: env) K))
      | none => False)
    | _, _ => evS ops tab ws D D0 E (i + 1) r env K
/-- A writer, with its guard. -/
def sW (ops : List Oper) (o : Oper) (env : Env) (E : List Chunk) (K : Env → List Chunk → Prop) : Prop :=
  match o.guard with
    | none => sOp P N S false o env E K
    | some (j, want) => (match dstOf ops j with
      | none => False
      | some d => (match look env d with
        | .bool b => (b () = want → sOp P N S false o ((d, cond want .tt .ff) :: env) E K) ∧ (b () = !want → putK N o.dst .skip ((d, cond want .ff .tt) :: env) fun env => K env E)
        | .tt => (match want with | true => sOp P N S false o env E K | false => putK N o.dst .skip env fun env => K env E)
        | .ff => (match want with | false => sOp P N S false o env E K | true => putK N o.dst .skip env fun env => K env E)
        | .skip => putK N o.dst .skip env fun env => K env E
        | _ => False))
/-- Whichever writer may come next. -/
def nexts (tab : List Nat) (ws : List (Nat × Oper)) (D : Nat) (go : Nat × Oper → Prop) : List (Nat × Oper) → Prop
  | [] => True
  | p :: r => match Nat.testBit D p.1 with
    | true => nexts tab ws D go r
    | false => (match nextB tab p.1 D ws with | true => go p ∧ nexts tab ws D go r | false => nexts tab ws D go r)
def after (ops : List Oper) (tab : List Nat) (ws : List (Nat × Oper)) (D : Nat) (env : Env) (E : List Chunk) (K : Env → List Chunk → Prop) (st : Nat → Env → List Chunk → Prop) : Prop :=
  match allB D ws with
  | true => K env E
  | false => nexts tab ws D (fun p => fB (Nat.lor D (2 ^ p.1)) fun D' => sW P N S ops p.2 env E fun env E => st D' env E) ws
def stages (ops : List Oper) (tab : List Nat) (ws : List (Nat × Oper)) : Nat → Nat → Option Nat → Env → List Chunk → (Env → List Chunk → Prop) → Prop
  | 0, D, D0, env, E, K => evS P ops tab ws D D0 E 0 ops env fun env => after P N S ops tab ws D env E K fun _ _ _ => False
  | f + 1, D, D0, env, E, K => evS P ops tab ws D D0 E 0 ops env fun env => after P N S ops tab ws D env E K fun D' env E => stages ops tab ws f D' (some D) env E K
end

/-! ### What is checked of a region -/
def chkAnc (tab : List Nat) : Nat → List Oper → Bool
  | _, [] => true | i, o :: r => Nat.beq (tab.getD i 0) (orL tab (depsB o)) && (depsB o).all (fun d => Nat.blt d i) && chkAnc tab (i + 1) r
/-- No operation but number i writes d. -/
def chkOnly (d : Nat) (i : Nat) : Nat → List Oper → Bool
  | _, [] => true | j, o :: r => (Nat.beq i j || !(o.dst == some d)) && chkOnly d i (j + 1) r
/-- Whoever looks at slot t of still operation j has it ahead. -/
def chkReads (P : Program) (tab : List Nat) (i : Nat) (t : Nat) : Nat → List Oper → Bool
  | _, [] => true | j, o :: r => (isW P o || !(o.dst == some t) || Nat.testBit (tab.getD i 0) j) && chkReads P tab i t (j + 1) r
def notSel (o : Oper) : Bool := match o.op with | .select _ _ => false | .defer _ => false | _ => true
def chkOp (P : Program) (N : Nat) (ops : List Oper) (tab : List Nat) : Nat → List Oper → Bool
  | _, [] => true
  | i, o :: r => notSel o && (o.looksAt ⟨ops⟩).all (fun t => chkReads P tab i t 0 ops) && (isW P o || (match o.dst with | some d => Nat.blt d N && chkOnly d i 0 ops | none => false)) && chkOp P N ops tab (i + 1) r
def okRegion (P : Program) (N : Nat) (ops : List Oper) (tab : List Nat) (ws : List (Nat × Oper)) : Bool := chkAnc tab 0 ops && chkOp P N ops tab 0 ops
end Go.Proofs.Ytafcenlbllmahaa.Fw
set_option linter.unusedVariables false
set_option linter.unusedSimpArgs false
namespace Go.Proofs.Ytafcenlbllmahaa.Fw
open Go Go.RowKit

theorem orL_bit {tab : List Nat} {j : Nat} : ∀ {ds : List Nat}, Nat.testBit (orL tab ds) j = true → ∃ d ∈ ds, j = d ∨ Nat.testBit (tab.getD d 0) j = true
  | [], h => by simp [orL] at h
  | d :: r, h => by
    have h : Nat.testBit ((2 ^ d ||| tab.getD d 0) ||| orL tab r) j = true := h
    rw [Nat.testBit_or, Nat.testBit_or, Bool.or_eq_true, Bool.or_eq_true] at h
    rcases h with (h | h) | h
    · refine ⟨d, List.mem_cons_self .., .inl ?_⟩
      rw [Nat.testBit_two_pow] at h
      simp only [decide_eq_true_eq] at h
      omega
    · exact ⟨d, List.mem_cons_self .., .inr h⟩
    · obtain ⟨d', hd, h'⟩ := orL_bit h
      exact ⟨d', List.mem_cons_of_mem _ hd, h'⟩
theorem chkAnc_at {tab : List Nat} : ∀ {l : List Oper} {k : Nat}, chkAnc tab k l = true → ∀ j o, l[j]? = some o → tab.getD (k + j) 0 = orL tab (depsB o) ∧ ∀ d ∈ depsB o, d < k + j
  | [], _, _, j, o, h => by simp at h
  | c :: r, k, h, j, o, hj => by
    simp only [chkAnc, Bool.and_eq_true, List.all_eq_true] at h
    cases j with
    | zero => simp at hj; subst hj; exact ⟨Nat.eq_of_beq_eq_true h.1.1, fun d hd => Nat.le_of_ble_eq_true (h.1.2 d hd)⟩
    | succ j =>
      have := chkAnc_at h.2 j o (by simpa using hj)
      rw [show k + (j + 1) = k + 1 + j by omega]; exact this

section
variable {ops : List Oper} {tab : List Nat} {ws : List (Nat × Oper)}
def Lst (listed : Array Bool) (i : Nat) : Prop := listed.getD i false = true

/-- What is ahead of an operation whose dependences are listed is listed. -/
theorem anc_listed (hA : chkAnc tab 0 ops = true) {listed : Array Bool} (hd : ∀ i o, ops[i]? = some o → Lst listed i → ∀ d ∈ depsB o, Lst listed d) :
    ∀ (i : Nat) (o : Oper), ops[i]? = some o → (∀ d ∈ depsB o, Lst listed d) → ∀ j, Nat.testBit (tab.getD i 0) j = true → Lst listed j := by
  intro i
  induction i using Nat.strongRecOn with
  | _ i ih =>
    intro o ho hl j hj
    obtain ⟨h1, h2⟩ := chkAnc_at hA i o ho
    rw [Nat.zero_add] at h1 h2
    rw [h1] at hj
    obtain ⟨d, hdm, rfl | hb⟩ := orL_bit hj
    · exact hl _ hdm
    · have hdi := h2 d hdm
      have hil := (List.getElem?_eq_some_iff.1 ho).1
      have hod : ops[d]? = some (ops[d]'(by omega)) := List.getElem?_eq_getElem (by omega)
      exact ih d hdi _ hod (hd d _ hod (hl d hdm)) j hb
theorem anc_lt (hA : chkAnc tab 0 ops = true) : ∀ (i : Nat) (o : Oper), ops[i]? = some o → ∀ j, Nat.testBit (tab.getD i 0) j = true → j < i := by
  intro i
  induction i using Nat.strongRecOn with
  | _ i ih =>
    intro o ho j hj
    obtain ⟨h1, h2⟩ := chkAnc_at hA i o ho
    rw [Nat.zero_add] at h1 h2
    rw [h1] at hj
    obtain ⟨d, hdm, rfl | hb⟩ := orL_bit hj
    · exact h2 _ hdm
    · have hdi := h2 d hdm
      have hil := (List.getElem?_eq_some_iff.1 ho).1
      have hod : ops[d]? = some (ops[d]'(by omega)) := List.getElem?_eq_getElem (by omega)
      exact Nat.lt_trans (ih d hdi _ hod j hb) hdi

theorem mayB_iff {i D : Nat} : ∀ {ws : List (Nat × Oper)}, mayB tab i D ws = true ↔ ∀ p ∈ ws, (Nat.testBit D p.1 = true → Nat.testBit (tab.getD p.1 0) i = false) ∧ (Nat.testBit D p.1 = false → Nat.testBit (tab.getD i 0) p.1 = false)
  | [] => by simp [mayB]
  | p :: r => by
    simp only [mayB, List.forall_mem_cons]
    cases hD : Nat.testBit D p.1 with
    | true =>
      cases hb : Nat.testBit (tab.getD p.1 0) i with
      | true => simp
      | false => simp only [mayB_iff (ws := r)]; simp
    | false =>
      cases hb : Nat.testBit (tab.getD i 0) p.1 with
      | true => simp
      | false => simp only [mayB_iff (ws := r)]; simp
theorem nextB_mk {i D : Nat} : ∀ {ws : List (Nat × Oper)}, (∀ p ∈ ws, Nat.testBit (tab.getD i 0) p.1 = true → Nat.testBit D p.1 = true) → nextB tab i D ws = true
  | [], _ => rfl
  | p :: r, h => by
    have hr := nextB_mk (ws := r) fun q hq => h q (List.mem_cons_of_mem _ hq)
    simp only [nextB]
    cases hD : Nat.testBit D p.1 with
    | true => exact hr
    | false =>
      cases hb : Nat.testBit (tab.getD i 0) p.1 with
      | true => rw [h p (List.mem_cons_self ..) hb] at hD; cases hD
      | false => exact hr
theorem allB_mk {D : Nat} : ∀ {ws : List (Nat × Oper)}, (∀ p ∈ ws, Nat.testBit D p.1 = true) → allB D ws = true
  | [], _ => rfl
  | p :: r, h => by simp only [allB, h p (List.mem_cons_self ..)]; exact allB_mk fun q hq => h q (List.mem_cons_of_mem _ hq)
theorem allB_not {D : Nat} {p : Nat × Oper} : ∀ {ws : List (Nat × Oper)}, p ∈ ws → Nat.testBit D p.1 = false → allB D ws = false
  | [], h, _ => by simp at h
  | q :: r, h, hp => by
    simp only [allB]
    cases hD : Nat.testBit D q.1 with
    | false => rfl
    | true =>
      rcases List.mem_cons.1 h with rfl | h
      · rw [hp] at hD; cases hD
      · exact allB_not h hp
theorem nexts_at {D : Nat} {go : Nat × Oper → Prop} {ws' : List (Nat × Oper)} : ∀ {ws : List (Nat × Oper)}, nexts tab ws' D go ws → ∀ p ∈ ws, Nat.testBit D p.1 = false → nextB tab p.1 D ws' = true → go p
  | [], _, p, h, _, _ => by simp at h
  | q :: r, hn, p, h, hp, hb => by
    simp only [nexts] at hn
    rcases List.mem_cons.1 h with rfl | h
    · rw [hp, hb] at hn; exact hn.1
    · split at hn
      · exact nexts_at hn p h hp hb
      · split at hn
        · exact nexts_at hn.2 p h hp hb
        · exact nexts_at hn p h hp hb

theorem chkOnly_at {d i : Nat} : ∀ {l : List Oper} {k : Nat}, chkOnly d i k l = true → ∀ j o, l[j]? = some o → i = k + j ∨ o.dst ≠ some d
  | [], _, _, j, o, h => by simp at h
  | c :: r, k, h, j, o, hj => by
    simp only [chkOnly, Bool.and_eq_true, Bool.or_eq_true, Bool.not_eq_true'] at h
    cases j with
    | zero =>
      simp at hj; subst hj
      rcases h.1 with h1 | h1
      · exact .inl (Nat.eq_of_beq_eq_true h1)
      · exact .inr (fun e => by rw [e] at h1; simp at h1)
    | succ j =>
      have := chkOnly_at h.2 j o (by simpa using hj)
      rw [show k + (j + 1) = k + 1 + j by omega]; exact this
theorem chkReads_at {P : Program} {i t : Nat} : ∀ {l : List Oper} {k : Nat}, chkReads P tab i t k l = true → ∀ j o, l[j]? = some o → isW P o = false → o.dst = some t → Nat.testBit (tab.getD i 0) (k + j) = true
  | [], _, _, j, o, h, _, _ => by simp at h
  | c :: r, k, h, j, o, hj, hw, hd => by
    simp only [chkReads, Bool.and_eq_true, Bool.or_eq_true, Bool.not_eq_true'] at h
    cases j with
    | zero =>
      simp at hj; subst hj
      rcases h.1 with (h1 | h1) | h1
      · rw [hw] at h1; cases h1
      · rw [hd] at h1; simp at h1
      · exact h1
    | succ j =>
      have := chkReads_at h.2 j o (by simpa using hj) hw hd
      rw [show k + (j + 1) = k + 1 + j by omega]; exact this
theorem chkOp_at {P : Program} {N : Nat} : ∀ {l : List Oper} {k : Nat}, chkOp P N ops tab k l = true → ∀ j o, l[j]? = some o →
    (∀ cs b, o.op ≠ .select cs b) ∧ (∀ t ∈ o.looksAt ⟨ops⟩, chkReads P tab (k + j) t 0 ops = true) ∧ (isW P o = false → ∃ d, o.dst = some d ∧ d < N ∧ chkOnly d (k + j) 0 ops = true)
  | [], _, _, j, o, h => by simp at h
  | c :: r, k, h, j, o, hj => by
    simp only [chkOp, Bool.and_eq_true, Bool.or_eq_true, List.all_eq_true] at h
    cases j with
    | zero =>
      simp at hj; subst hj
      refine ⟨fun cs b e => ?_, h.1.1.2, fun hw => ?_⟩
      · have := h.1.1.1; simp [notSel, e] at this
      · rcases h.1.2 with h1 | h1
        · rw [hw] at h1; cases h1
        · split at h1
          · rename_i d hd
            simp only [Bool.and_eq_true] at h1
            exact ⟨d, hd, Nat.le_of_ble_eq_true h1.1, h1.2⟩
          · cases h1
    | succ j =>
      have := chkOp_at h.2 j o (by simpa using hj)
      rw [show k + (j + 1) = k + 1 + j by omega]; exact this

/-- Two frames that an operation can't tell apart. -/
theorem act_congr {o : Oper} {a b : Act} (hs : ∀ cs c, o.op ≠ .select cs c) (h : ∀ t ∈ o.looksAt ⟨ops⟩, a.tmps[t]? = b.tmps[t]?) :
    execOp a.eval o = execOp b.eval o ∧ Region.wanted o (yielded ⟨ops⟩ a.tmps) = Region.wanted o (yielded ⟨ops⟩ b.tmps) := by
  refine ⟨execOp_congr o hs fun x hx => ?_, ?_⟩
  · cases x with
    | tmp t =>
      have := h t (List.mem_append_left _ (List.mem_filterMap.2 ⟨.tmp t, by simpa using hx, rfl⟩))
      show a.tmps.getD t Go.undef = b.tmps.getD t Go.undef
      rw [Array.getD_eq_getD_getElem?, Array.getD_eq_getD_getElem?, this]
    | const v => rfl
    | global n => rfl
    | func f => rfl
  · unfold Region.wanted
    cases hg : o.guard with
    | none => rfl
    | some gw =>
      obtain ⟨j, want⟩ := gw
      have hy : yielded ⟨ops⟩ a.tmps j = yielded ⟨ops⟩ b.tmps j := by
        unfold yielded
        cases ht : ((⟨ops⟩ : Array Oper)[j]?).bind (·.dst) with
        | none => rfl
        | some t =>
          have := h t (List.mem_append_right _ (by simp only [hg]; rw [ht]; simp))
          simp [this]
      simp only [hy]
end
end Go.Proofs.Ytafcenlbllmahaa.Fw
set_option linter.unusedVariables false
set_option linter.unusedSimpArgs false
namespace Go.Proofs.Ytafcenlbllmahaa.Fw
open Go Go.RowKit

section
variable {P : Program} {N : Nat} {S : Sc} {ops : List Oper} {tab : List Nat} {ws : List (Nat × Oper)}

theorem sSt_ok {o : Oper} {g : Gh} {env : Env} {E : List Chunk} {a : Act} {w : World} {K : AV → Env → Prop} (h : Iv S g env E a w) (hk : sSt P ops o env E K) :
    ∃ c v env1, YieldsAt P ⟨ops⟩ w o c a ∧ Iv S g env1 E a w ∧ R g v c ∧ K v env1 := by
  have run : ∀ env1, Iv S g env1 E a w → Region.wanted o (yielded ⟨ops⟩ a.tmps) = true → qV P o.op env1 E (fun v => fV v fun v => K v env1) → ∃ c v env1, YieldsAt P ⟨ops⟩ w o c a ∧ Iv S g env1 E a w ∧ R g v c ∧ K v env1 := by
    intro env1 h1 hw hq
    obtain ⟨r, c, h2, h3, h4⟩ := qV_ok h1.sim h1.er hq o rfl
    rw [fV_eq] at h4
    exact ⟨c, r, env1, .inl ⟨hw, .inl h2⟩, h1, h3, h4⟩
  have skip : ∀ env1, Iv S g env1 E a w → Region.wanted o (yielded ⟨ops⟩ a.tmps) = false → K .skip env1 → ∃ c v env1, YieldsAt P ⟨ops⟩ w o c a ∧ Iv S g env1 E a w ∧ R g v c ∧ K v env1 := by
    intro env1 h1 hw hq
    exact ⟨Go.undef, .skip, env1, .inr ⟨hw, rfl⟩, h1, .skip, hq⟩
  unfold sSt at hk
  split at hk
  · rename_i hg
    exact run env h (by simp [Region.wanted, hg]) hk
  · rename_i j want hg
    split at hk <;> try exact hk.elim
    rename_i d hd
    obtain ⟨y1, y2, y3, y4⟩ := yielded_bool h.er hd
    have hr := h.er d
    split at hk <;> try exact hk.elim
    · rename_i b hb
      rw [hb] at hr
      have hy := y1 b hb
      by_cases hw : b () = want
      · exact run _ (h.over (R_ttff hr hw)) (by simp [Region.wanted, hg, hy, hw]) (hk.1 hw)
      · have hw' : b () = !want := by cases hbb : b () <;> cases want <;> simp_all
        refine skip _ (h.over (v := cond want .ff .tt) ?_) (by simp [Region.wanted, hg, hy, hw']) (hk.2 hw')
        have := R_ttff hr hw'
        cases want <;> exact this
    · rename_i hb
      have hy := y2 hb
      cases want
      · exact skip _ h (by simp [Region.wanted, hg, hy]) hk
      · exact run _ h (by simp [Region.wanted, hg, hy]) hk
    · rename_i hb
      have hy := y3 hb
      cases want
      · exact run _ h (by simp [Region.wanted, hg, hy]) hk
      · exact skip _ h (by simp [Region.wanted, hg, hy]) hk
    · rename_i hb
      have hy := y4 hb
      exact skip _ h (by simp [Region.wanted, hg, hy]) hk

/-- Slots of still operations that have not run. -/
def PendS (P : Program) (ops : List Oper) (listed : Array Bool) (t : Nat) : Prop := ∃ i o, ops[i]? = some o ∧ isW P o = false ∧ ¬ Lst listed i ∧ o.dst = some t
def Pend (P : Program) (ops : List Oper) (tab : List Nat) (ws : List (Nat × Oper)) (listed : Array Bool) (D n : Nat) (a : Act) (w : World) : Prop :=
  ∀ i o d, i < n → ops[i]? = some o → isW P o = false → ¬ Lst listed i → mayB tab i D ws = true → o.dst = some d → YieldsAt P ⟨ops⟩ w o (a.tmps.getD d Go.undef) a

theorem evS_ok (hA : chkAnc tab 0 ops = true) (hC : chkOp P N ops tab 0 ops = true) {listed : Array Bool} {D : Nat} {D0 : Option Nat} {E : List Chunk} {w : World} {g : Gh} {K : Env → Prop}
    (hlist : ∀ i o, ops[i]? = some o → isW P o = false → Lst listed i → mayB tab i D ws = true → ∃ D1, D0 = some D1 ∧ mayB tab i D1 ws = true) :
    ∀ (l : List Oper) (i0 : Nat) (env : Env) (a : Act), ops.drop i0 = l → Iv S g env E a w → a.tmps.size = N → Pend P ops tab ws listed D i0 a w → evS P ops tab ws D D0 E i0 l env K →
      ∃ env' a', Iv S g env' E a' w ∧ a'.tmps.size = N ∧ Pend P ops tab ws listed D ops.length a' w ∧ K env' ∧ a'.defers = a.defers ∧ ∀ t, ¬ PendS P ops listed t → a'.tmps[t]? = a.tmps[t]?
  | [], i0, env, a, hl, h, hN, hp, hk => by
    have : ops.length ≤ i0 := by
      have := congrArg List.length hl
      simp at this; omega
    exact ⟨env, a, h, hN, fun i o d hi => hp i o d (by omega), hk, rfl, fun _ _ => rfl⟩
  | o :: r, i0, env, a, hl, h, hN, hp, hk => by
    have ho : ops[i0]? = some o := by
      have := congrArg (·[0]?) hl
      simpa using this
    have hl' : ops.drop (i0 + 1) = r := by
      have := congrArg (List.drop 1) hl
      simpa [List.drop_drop] using this
    obtain ⟨hsel, hreads, hdst⟩ := chkOp_at hC i0 o ho
    rw [Nat.zero_add] at hreads hdst
    have pass : (isW P o = true ∨ mayB tab i0 D ws = false) → Pend P ops tab ws listed D (i0 + 1) a w := by
      intro hc i o' d hi ho' hw hn hm hd
      by_cases e : i = i0
      · subst e
        rw [ho] at ho'; cases ho'
        rcases hc with hc | hc
        · rw [hw] at hc; cases hc
        · rw [hm] at hc; cases hc
      · exact hp i o' d (by omega) ho' hw hn hm hd
    simp only [evS] at hk
    split at hk
    · rename_i hW hM
      split at hk <;> try exact hk.elim
      rename_i d hd
      obtain ⟨c, v, env1, hy, h1, hr, hk1⟩ := sSt_ok h hk
      obtain ⟨d', hd', hdN, honly⟩ := hdst hW
      rw [hd] at hd'; cases hd'
      have hrest : evS P ops tab ws D D0 E (i0 + 1) r ((d, v) :: env1) K := by
        split at hk1
        · exact hk1
        · split at hk1
          · exact hk1.2
          · exact hk1
      by_cases hlst : Lst listed i0
      · obtain ⟨D1, rfl, hm'⟩ := hlist i0 o ho hW hlst hM
        simp only [hm'] at hk1
        have hrv := sV_ok _ _ _ hk1.1 (h1.er d)
        refine evS_ok hA hC hlist r (i0 + 1) _ a hl' (h1.over hrv) hN (fun i o' d2 hi ho' hw hn hm hd2 => ?_) hrest
        by_cases e : i = i0
        · subst e; exact (hn hlst).elim
        · exact hp i o' d2 (by omega) ho' hw hn hm hd2
      · have hI : Iv S g ((d, v) :: env1) E (a.put (some d) c) w := by
          obtain ⟨B, hB, h2, h3⟩ := h1
          exact ⟨B, hB, h2.put hr (by rw [hN]; exact hdN), h3⟩
        have hne : ∀ t, t ≠ d → (a.put (some d) c).tmps[t]? = a.tmps[t]? := fun t ht => by simp [Act.put, Array.getElem?_setIfInBounds_ne (Ne.symm ht)]
        -- operations that don't look at the slot
        have look : ∀ (j : Nat) (o' : Oper), j ≤ i0 → ops[j]? = some o' → execOp (a.put (some d) c).eval o' = execOp a.eval o' ∧ Region.wanted o' (yielded ⟨ops⟩ (a.put (some d) c).tmps) = Region.wanted o' (yielded ⟨ops⟩ a.tmps) := by
          intro j o' hj ho'
          obtain ⟨hsel', hreads', _⟩ := chkOp_at hC j o' ho'
          rw [Nat.zero_add] at hreads'
          refine act_congr hsel' (fun t ht => hne t (fun e => ?_))
          subst e
          have := chkReads_at (hreads' t ht) i0 o ho hW hd
          rw [Nat.zero_add] at this
          have := anc_lt hA j o' ho' i0 this
          omega
        obtain ⟨env', a', e1, e2, e3, e4, e5, e6⟩ := evS_ok hA hC hlist r (i0 + 1) _ (a.put (some d) c) hl' hI (by simp [Act.put, hN]) (fun i o' d2 hi ho' hw hn hm hd2 => by
          by_cases e : i = i0
          · subst e
            rw [ho] at ho'; cases ho'
            rw [hd] at hd2; cases hd2
            have hc : (a.put (some d) c).tmps.getD d Go.undef = c := by simp [Act.put, Array.getD_eq_getD_getElem?, hN, hdN]
            rw [hc]
            obtain ⟨l1, l2⟩ := look i o (Nat.le_refl _) ho
            exact hy.of_same l1 l2
          · obtain ⟨l1, l2⟩ := look i o' (by omega) ho'
            have hd2n : d2 ≠ d := fun e' => by
              subst e'
              rcases chkOnly_at honly i o' ho' with h2 | h2
              · omega
              · exact h2 hd2
            have hv : (a.put (some d) c).tmps.getD d2 Go.undef = a.tmps.getD d2 Go.undef := by rw [Array.getD_eq_getD_getElem?, Array.getD_eq_getD_getElem?, hne d2 hd2n]
            rw [hv]
            exact (hp i o' d2 (by omega) ho' hw hn hm hd2).of_same l1 l2) hrest
        refine ⟨env', a', e1, e2, e3, e4, e5.trans rfl, fun t ht => ?_⟩
        rw [e6 t ht]
        exact hne t (fun e => ht ⟨i0, o, ho, hW, hlst, by rw [e]; exact hd⟩)
    · rename_i hn
      refine evS_ok hA hC hlist r (i0 + 1) env a hl' h hN (pass ?_) hk
      cases hW : isW P o with
      | true => exact .inl rfl
      | false =>
        cases hM : mayB tab i0 D ws with
        | true => exact (hn hW hM).elim
        | false => exact .inr rfl
end
end Go.Proofs.Ytafcenlbllmahaa.Fw
set_option linter.unusedVariables false
set_option linter.unusedSimpArgs false
namespace Go.Proofs.Ytafcenlbllmahaa.Fw
open Go Go.RowKit

section
variable {P : Program} {N : Nat} {S : Sc} {ops : List Oper} {tab : List Nat} {ws : List (Nat × Oper)}

theorem sW_ok {o : Oper} {g : Gh} {env : Env} {E : List Chunk} {a : Act} {w : World} {K : Env → List Chunk → Prop} (h : Iv S g env E a w) (hN : a.tmps.size = N) (hk : sW P N S ops o env E K) :
    (Region.wanted o (yielded ⟨ops⟩ a.tmps) = true ∧ Step false P o a w (fun a' w' => ∃ g' env' E', Iv S g' env' E' a' w' ∧ a'.tmps.size = N ∧ a'.defers = a.defers ∧ K env' E')) ∨
    (Region.wanted o (yielded ⟨ops⟩ a.tmps) = false ∧ ∃ env', Iv S g env' E (a.put o.dst Go.undef) w ∧ (a.put o.dst Go.undef).tmps.size = N ∧ K env' E) := by
  unfold sW at hk
  refine guard_ok (next := K) (y := false) h hk (fun env' h' hw hs => .inl ⟨hw, ?_⟩) (fun env' h' hw hs => .inr ⟨hw, ?_⟩)
  · have := sOp_ok (y := false) (next := fun a' w' => ∃ g' env' E', Iv S g' env' E' a' w' ∧ a'.tmps.size = N ∧ K env' E') h' hN hs (fun g' env' E' a' w' h1 h2 h3 => ⟨g', env', E', h1, h2, h3⟩)
    obtain ⟨hd, n, w1, hr, hm⟩ := this
    refine ⟨hd, n, w1, hr, ?_⟩
    have up : ∀ c w', (∃ g' env' E', Iv S g' env' E' (a.put o.dst c) w' ∧ (a.put o.dst c).tmps.size = N ∧ K env' E') → ∃ g' env' E', Iv S g' env' E' (a.put o.dst c) w' ∧ (a.put o.dst c).tmps.size = N ∧ (a.put o.dst c).defers = a.defers ∧ K env' E' := by
      rintro c w' ⟨g', env', E', h1, h2, h3⟩
      exact ⟨g', env', E', h1, h2, by cases o.dst <;> rfl, h3⟩
    cases n with
    | value v => exact up _ _ hm
    | skip => exact up _ _ hm
    | enter f args => exact Calls.mono hm (by rintro e w' ⟨c, rfl, hc⟩; exact ⟨c, rfl, up _ _ hc⟩)
    | round l f tmps assign body => exact absurd hm.1 (by simp)
    | _ => exact hm.elim
  · obtain ⟨env'', h1, h2, h3⟩ := h'.put (R.skip) hN hs
    exact ⟨env'', h1, h2, h3⟩
theorem Step.transfer {o : Oper} {a b : Act} {w : World} {N1 N2 : Act → World → Prop} (h : Step false P o b w N1) (he : execOp a.eval o = execOp b.eval o) (hn : ∀ c w', N1 (b.put o.dst c) w' → N2 (a.put o.dst c) w') : Step false P o a w N2 := by
  obtain ⟨hd, n, w1, hr, hm⟩ := h
  refine ⟨hd, n, w1, by rw [he]; exact hr, ?_⟩
  cases n with
  | value v => exact hn _ _ hm
  | skip => exact hn _ _ hm
  | enter f args => exact Calls.mono hm (by rintro e w' ⟨c, rfl, hc⟩; exact ⟨c, rfl, hn _ _ hc⟩)
  | round l f tmps assign body => exact absurd hm.1 (by simp)
  | _ => exact hm.elim

theorem ready_of {listed : Array Bool} {i : Nat} (h : i ∈ Region.ready .any ⟨ops⟩ listed) : ∃ o, ops[i]? = some o ∧ listed.getD i true = false ∧ ∀ d ∈ depsB o, Lst listed d := by
  simp only [Region.ready, List.mem_filter, List.mem_range, Bool.and_eq_true, Bool.not_eq_true'] at h
  obtain ⟨h1, h2, h3⟩ := h
  have h1 : i < ops.length := h1
  have ho : ops[i]? = some (ops[i]'h1) := List.getElem?_eq_getElem h1
  refine ⟨_, ho, h2, fun d hd => ?_⟩
  have ho' : (⟨ops⟩ : Array Oper)[i]? = some (ops[i]'h1) := by simp
  rw [ho'] at h3
  simp only [Option.map_some, Option.getD_some, Array.all_eq_true'] at h3
  simp only [depsB, List.mem_map, List.mem_filter] at hd
  obtain ⟨e, ⟨he, hb⟩, rfl⟩ := hd
  have := h3 e (by simpa using he)
  simp only [hb, Bool.not_true, Bool.false_or] at this
  exact this
theorem ready_mk {listed : Array Bool} {i : Nat} {o : Oper} (ho : ops[i]? = some o) (h : listed.getD i true = false) (hd : ∀ d ∈ depsB o, Lst listed d) : i ∈ Region.ready .any ⟨ops⟩ listed := by
  simp only [Region.ready, List.mem_filter, List.mem_range, Bool.and_eq_true, Bool.not_eq_true']
  have hi := (List.getElem?_eq_some_iff.1 ho).1
  refine ⟨hi, h, ?_⟩
  have ho' : (⟨ops⟩ : Array Oper)[i]? = some o := by simpa using ho
  rw [ho']
  simp only [Option.map_some, Option.getD_some, Array.all_eq_true']
  intro e he
  cases hb : Region.binds .any e with
  | false => simp
  | true =>
    simp only [Bool.not_true, Bool.false_or]
    exact hd e.on (by simp only [depsB, List.mem_map, List.mem_filter]; exact ⟨e, ⟨by simpa using he, hb⟩, rfl⟩)

theorem wsOf_mem : ∀ {l : List Oper} {i : Nat} {p : Nat × Oper}, p ∈ wsOf P i l → i ≤ p.1 ∧ l[p.1 - i]? = some p.2 ∧ isW P p.2 = true
  | [], _, _, h => by simp [wsOf] at h
  | o :: r, i, p, h => by
    simp only [wsOf] at h
    split at h
    · rename_i hw
      rcases List.mem_cons.1 h with rfl | h
      · exact ⟨Nat.le_refl _, by simp, hw⟩
      · obtain ⟨h1, h2, h3⟩ := wsOf_mem h
        refine ⟨by omega, ?_, h3⟩
        rw [show p.1 - i = (p.1 - (i + 1)) + 1 by omega]; simpa using h2
    · obtain ⟨h1, h2, h3⟩ := wsOf_mem h
      refine ⟨by omega, ?_, h3⟩
      rw [show p.1 - i = (p.1 - (i + 1)) + 1 by omega]; simpa using h2
theorem wsOf_all : ∀ {l : List Oper} {i j : Nat} {o : Oper}, l[j]? = some o → isW P o = true → (i + j, o) ∈ wsOf P i l
  | [], _, j, o, h, _ => by simp at h
  | c :: r, i, 0, o, h, hw => by simp at h; subst h; simp [wsOf, hw]
  | c :: r, i, j + 1, o, h, hw => by
    have := wsOf_all (i := i + 1) (by simpa using h) hw
    rw [show i + (j + 1) = i + 1 + j by omega]
    simp only [wsOf]
    split
    · exact List.mem_cons_of_mem _ this
    · exact this
theorem cnt_set : ∀ (l : List Bool) (i : Nat), l[i]? = some false → (l.set i true).count false + 1 = l.count false
  | [], i, h => by simp at h
  | b :: r, 0, h => by simp at h; subst h; simp
  | b :: r, i + 1, h => by
    have := cnt_set r i (by simpa using h)
    simp only [List.set_cons_succ, List.count_cons]
    omega
theorem Lst_set {listed : Array Bool} {i : Nat} (hi : i < listed.size) (j : Nat) : Lst (listed.setIfInBounds i true) j ↔ Lst listed j ∨ j = i := by
  unfold Lst
  rw [Array.getD_eq_getD_getElem?, Array.getD_eq_getD_getElem?]
  by_cases h : i = j
  · subst h; simp [hi]
  · rw [Array.getElem?_setIfInBounds_ne h]
    constructor
    · exact .inl
    · rintro (h' | h')
      · exact h'
      · exact (h h'.symm).elim

theorem chkOp_nd : ∀ {l : List Oper} {k : Nat}, chkOp P N ops tab k l = true → ∀ (j : Nat) (o : Oper), l[j]? = some o → ∀ c : Call, o.op ≠ Op.defer c
  | [], _, _, j, o, h => by simp at h
  | c :: r, k, h, j, o, hj => by
    simp only [chkOp, Bool.and_eq_true] at h
    cases j with
    | zero =>
      simp at hj; subst hj
      intro c e
      have := h.1.1.1; simp [notSel, e] at this
    | succ j => exact chkOp_nd h.2 j o (by simpa using hj)
theorem yields_in {r : Option Nat} {i : Nat} {o : Oper} {v : Value} {a : Act} {w : World} {Q : Exit → Act → World → Prop} {K : Act → World → Prop} (hi : ops[i]? = some o) (hd : ∀ c : Call, o.op ≠ Op.defer c) (hy : YieldsAt P ⟨ops⟩ w o v a)
    (h : K (a.put o.dst v) w) : wpOpIn (Fr r) 0 P ⟨ops⟩ Q i K a w := by
  have hi2 : (⟨ops⟩ : Array Oper)[i]? = some o := by simpa using hi
  unfold Go.wpOpIn
  rw [hi2]
  simp only
  rcases hy with ⟨hw, hv | ⟨hv, rfl⟩ | ⟨f, args, hv, hc⟩⟩ | ⟨hw, rfl⟩
  · rw [if_pos hw]
    refine ⟨fun _ _ => trivial, ?_⟩
    rw [Oper.semAt_eq _ _ _ hd, hv]; exact h
  · rw [if_pos hw]
    refine ⟨fun _ _ => trivial, ?_⟩
    rw [Oper.semAt_eq _ _ _ hd, hv]; exact h
  · rw [if_pos hw]
    refine ⟨fun _ _ => trivial, ?_⟩
    rw [Oper.semAt_eq _ _ _ hd, hv]
    exact ⟨fun h => by simp [Fr, Fence.wide] at h, callsIn_Fr.2 (Calls.mono hc (by rintro e w' ⟨rfl, rfl⟩; exact h))⟩
  · rw [if_neg (by rw [hw]; simp)]
    exact ⟨fun _ _ => trivial, h⟩
theorem stages_ok {r : Option Nat} {Q : Exit → Act → World → Prop} {K : Env → List Chunk → Prop} (hA : chkAnc tab 0 ops = true) (hC : chkOp P N ops tab 0 ops = true) (hws : ws = wsOf P 0 ops)
    (hQ : ∀ g env E a w, Iv S g env E a w → a.tmps.size = N → K env E → Q .normal a w) : ∀ (f : Nat) (listed : Array Bool) (m D : Nat) (a : Act) (w : World), listed.size = ops.length → listed.toList.count false ≤ f →
    (∀ i o, ops[i]? = some o → Lst listed i → ∀ d ∈ depsB o, Lst listed d) → (∀ p ∈ ws, (Lst listed p.1 ↔ Nat.testBit D p.1 = true)) →
    (∃ g env E b, Iv S g env E b w ∧ b.tmps.size = N ∧ a.defers = b.defers ∧ a.tmps.size = N ∧ (∀ t, ¬ PendS P ops listed t → a.tmps[t]? = b.tmps[t]?) ∧ Pend P ops tab ws listed D ops.length b w ∧
      Fw.after P N S ops tab ws D env E K fun D' env E => (match m with | 0 => False | m + 1 => stages P N S ops tab ws m D' (some D) env E K)) →
    wpAnyIn (Fr r) 0 P .any ⟨ops⟩ Q f listed a w := by
  -- where nothing is ready, all is listed
  have done : ∀ (listed : Array Bool) (m D : Nat) (a : Act) (w : World), listed.size = ops.length → Region.ready .any ⟨ops⟩ listed = [] → (∀ p ∈ ws, (Lst listed p.1 ↔ Nat.testBit D p.1 = true)) →
      (∃ g env E b, Iv S g env E b w ∧ b.tmps.size = N ∧ a.defers = b.defers ∧ a.tmps.size = N ∧ (∀ t, ¬ PendS P ops listed t → a.tmps[t]? = b.tmps[t]?) ∧ Pend P ops tab ws listed D ops.length b w ∧
      Fw.after P N S ops tab ws D env E K fun D' env E => (match m with | 0 => False | m + 1 => stages P N S ops tab ws m D' (some D) env E K)) → Q .normal a w := by
    intro listed m D a w hsz hr hwr ⟨g, env, E, b, h1, h2, h3, h4, h5, h6, h7⟩
    have hall : ∀ i, i < ops.length → Lst listed i := by
      intro i
      induction i using Nat.strongRecOn with
      | _ i ih =>
        intro hi
        refine Classical.byContradiction fun hn => ?_
        have ho : ops[i]? = some (ops[i]'hi) := List.getElem?_eq_getElem hi
        have hdl : ∀ d ∈ depsB (ops[i]'hi), Lst listed d := fun d hd => by
          have := (chkAnc_at hA i _ ho).2 d hd
          exact ih d (by omega) (by omega)
        have hgf : listed.getD i true = false := by
          unfold Lst at hn
          rw [Array.getD_eq_getD_getElem?] at hn ⊢
          have : listed[i]? = some (listed[i]'(by omega)) := Array.getElem?_eq_getElem (by omega)
          rw [this] at hn ⊢
          simpa using hn
        have := ready_mk ho hgf hdl
        rw [hr] at this
        simp at this
    have hall2 : allB D ws = true := allB_mk fun p hp => by
      have hm : p ∈ wsOf P 0 ops := by rw [← hws]; exact hp
      obtain ⟨_, h8, _⟩ := wsOf_mem hm
      exact (hwr p hp).1 (hall _ (by simpa using (List.getElem?_eq_some_iff.1 h8).1))
    unfold Fw.after at h7
    rw [hall2] at h7
    have hab : a = b := by
      have ht : a.tmps = b.tmps := by
        apply Array.ext_getElem?
        intro t
        refine h5 t ?_
        rintro ⟨i, o, ho, _, hn, _⟩
        exact hn (hall i (List.getElem?_eq_some_iff.1 ho).1)
      cases a; cases b; simp_all
    subst hab
    exact hQ g env E a w h1 h2 h7
  intro f
  induction f with
  | zero =>
    intro listed m D a w hsz hcnt hdown hwr hst
    have hr : Region.ready .any ⟨ops⟩ listed = [] := by
      cases hr : Region.ready .any ⟨ops⟩ listed with
      | nil => rfl
      | cons i r =>
        obtain ⟨o, ho, hl, _⟩ := ready_of (ops := ops) (listed := listed) (i := i) (by rw [hr]; exact List.mem_cons_self ..)
        have hi := (List.getElem?_eq_some_iff.1 ho).1
        have hl2 : listed[i]? = some false := by
          rw [Array.getD_eq_getD_getElem?] at hl
          have : listed[i]? = some (listed[i]'(by omega)) := Array.getElem?_eq_getElem (by omega)
          rw [this] at hl ⊢
          simpa using hl
        have := cnt_set listed.toList i (by simpa using hl2)
        omega
    exact ⟨hr, done listed m D a w hsz hr hwr hst⟩
  | succ f ih =>
    intro listed m D a w hsz hcnt hdown hwr hst
    refine ⟨fun hr => done listed m D a w hsz hr hwr hst, fun i hi => ?_⟩
    obtain ⟨g, env, E, b, h1, h2, h3, h4, h5, h6, h7⟩ := hst
    obtain ⟨o, ho, hl, hdl⟩ := ready_of hi
    have hio := (List.getElem?_eq_some_iff.1 ho).1
    have hil : i < listed.size := by omega
    have hl2 : listed[i]? = some false := by
      rw [Array.getD_eq_getD_getElem?] at hl
      have : listed[i]? = some (listed[i]'hil) := Array.getElem?_eq_getElem hil
      rw [this] at hl ⊢
      simpa using hl
    have hnl : ¬ Lst listed i := by unfold Lst; rw [Array.getD_eq_getD_getElem?, hl2]; simp
    have hset := Lst_set (listed := listed) hil
    have hcnt' : (listed.setIfInBounds i true).toList.count false ≤ f := by
      have := cnt_set listed.toList i (by simpa using hl2)
      rw [Array.toList_setIfInBounds]
      omega
    have hdown' : ∀ j o, ops[j]? = some o → Lst (listed.setIfInBounds i true) j → ∀ d ∈ depsB o, Lst (listed.setIfInBounds i true) d := by
      intro j o' ho' hj d hd
      rcases (hset j).1 hj with hj | rfl
      · exact (hset d).2 (.inl (hdown j o' ho' hj d hd))
      · rw [ho] at ho'; cases ho'
        exact (hset d).2 (.inl (hdl d hd))
    obtain ⟨hsel, hreads, hdst⟩ := chkOp_at hC i o ho
    rw [Nat.zero_add] at hreads hdst
    have hanc := anc_listed hA hdown i o ho hdl
    have hsee : ∀ t ∈ o.looksAt ⟨ops⟩, a.tmps[t]? = b.tmps[t]? := by
      intro t ht
      refine h5 t ?_
      rintro ⟨j, o', ho', hw', hn', hd'⟩
      have := chkReads_at (hreads t ht) j o' ho' hw' hd'
      rw [Nat.zero_add] at this
      exact hn' (hanc j this)
    obtain ⟨hex, hwt⟩ := act_congr hsel hsee
    have hpend : ∀ t, PendS P ops (listed.setIfInBounds i true) t → PendS P ops listed t := by
      rintro t ⟨j, o', ho', hw', hn', hd'⟩
      exact ⟨j, o', ho', hw', fun h => hn' ((hset j).2 (.inl h)), hd'⟩
    have hmemW : ∀ {p : Nat × Oper}, p ∈ ws → ops[p.1]? = some p.2 ∧ isW P p.2 = true := by
      intro p hp
      have : p ∈ wsOf P 0 ops := by rw [← hws]; exact hp
      obtain ⟨_, h8, h9⟩ := wsOf_mem this
      exact ⟨by simpa using h8, h9⟩
    by_cases hW : isW P o = false
    · -- a still one
      obtain ⟨d, hd, hdN, honly⟩ := hdst hW
      have hM : mayB tab i D ws = true := by
        refine mayB_iff.2 (fun p hp => ⟨fun hD => ?_, fun hD => ?_⟩)
        · refine Bool.eq_false_iff.2 fun hb => ?_
          have hpl := (hwr p hp).2 hD
          obtain ⟨hpo, _⟩ := hmemW hp
          exact hnl (anc_listed hA hdown p.1 p.2 hpo (hdown _ _ hpo hpl) i hb)
        · refine Bool.eq_false_iff.2 fun hb => ?_
          have := (hwr p hp).1 (hanc p.1 hb)
          rw [hD] at this; cases this
      have hy := h6 i o d hio ho hW hnl hM hd
      have hy' := hy.of_same hex hwt
      refine yields_in ho (chkOp_nd hC i o ho) hy' ?_
      refine ih _ m D _ w (by simpa using hsz) hcnt' hdown' (fun p hp => ?_) ⟨g, env, E, b, h1, h2, by rw [← h3]; cases o.dst <;> rfl, by rw [hd]; simp [Act.put, h4], fun t ht => ?_, fun j o' d' hj ho' hw' hn' hm' hd' => ?_, h7⟩
      · rw [hset]
        constructor
        · rintro (h8 | h8)
          · exact (hwr p hp).1 h8
          · obtain ⟨hpo, hpw⟩ := hmemW hp
            rw [h8, ho] at hpo; cases hpo
            rw [hW] at hpw; cases hpw
        · exact fun h8 => .inl ((hwr p hp).2 h8)
      · rw [hd]
        by_cases htd : t = d
        · have hs : t < a.tmps.size := by rw [h4, htd]; exact hdN
          have hs2 : t < b.tmps.size := by rw [h2, htd]; exact hdN
          subst htd
          have hbt : b.tmps[t]? = some (b.tmps[t]'hs2) := Array.getElem?_eq_getElem hs2
          rw [hbt]
          simp [Act.put, hs, Array.getD_eq_getD_getElem?, hbt]
        · have : (a.put (some d) (b.tmps.getD d Go.undef)).tmps[t]? = a.tmps[t]? := by simp [Act.put, Array.getElem?_setIfInBounds_ne (Ne.symm htd)]
          rw [this]
          refine h5 t ?_
          rintro ⟨j, o', ho', hw', hn', hd'⟩
          refine ht ⟨j, o', ho', hw', fun h => ?_, hd'⟩
          rcases (hset j).1 h with h | rfl
          · exact hn' h
          · rw [ho] at ho'; cases ho'
            rw [hd] at hd'; cases hd'; exact htd rfl
      · exact h6 j o' d' hj ho' hw' (fun h => hn' ((hset j).2 (.inl h))) hm' hd'
    · -- a writer: it is the next one
      have hW : isW P o = true := by simpa using hW
      have hmem : (i, o) ∈ ws := by
        rw [hws]
        have := wsOf_all (P := P) (i := 0) ho hW
        rwa [Nat.zero_add] at this
      have hDi : Nat.testBit D i = false := by
        refine Bool.eq_false_iff.2 fun hb => ?_
        exact hnl ((hwr _ hmem).2 hb)
      have hnx : nextB tab i D ws = true := nextB_mk fun p hp hb => (hwr p hp).1 (hanc _ hb)
      unfold Fw.after at h7
      rw [allB_not hmem hDi] at h7
      have h7 := nexts_at h7 (i, o) hmem hDi hnx
      simp only [fB_eq] at h7
      have hwr' : ∀ p ∈ ws, (Lst (listed.setIfInBounds i true) p.1 ↔ Nat.testBit (Nat.lor D (2 ^ i)) p.1 = true) := by
        intro p hp
        rw [hset, hwr p hp]
        show _ ↔ Nat.testBit (D ||| 2 ^ i) p.1 = true
        rw [Nat.testBit_or, Nat.testBit_two_pow, Bool.or_eq_true, decide_eq_true_eq]
        constructor
        · rintro (h8 | h8)
          · exact .inl h8
          · exact .inr h8.symm
        · rintro (h8 | h8)
          · exact .inl h8
          · exact .inr h8.symm
      -- the next stage
      have next : ∀ (c : Value) (w' : World) (g' : Gh) (env' : Env) (E' : List Chunk), Iv S g' env' E' (b.put o.dst c) w' → (b.put o.dst c).tmps.size = N → (match (generalizing := false) m with | 0 => False | m + 1 => stages P N S ops tab ws m (Nat.lor D (2 ^ i)) (some D) env' E' K) →
          wpAnyIn (Fr r) 0 P .any ⟨ops⟩ Q f (listed.setIfInBounds i true) (a.put o.dst c) w' := by
        intro c w' g' env' E' hI hsz' hstg
        have hagree : ∀ t, ¬ PendS P ops (listed.setIfInBounds i true) t → (a.put o.dst c).tmps[t]? = (b.put o.dst c).tmps[t]? := by
          intro t ht
          have hnt : ¬ PendS P ops listed t := by
            rintro ⟨m, o', ho', hw', hn', hd'⟩
            refine ht ⟨m, o', ho', hw', fun h => ?_, hd'⟩
            rcases (hset m).1 h with h | rfl
            · exact hn' h
            · rw [ho] at ho'; cases ho'
              rw [hW] at hw'; cases hw'
          have hab := h5 t hnt
          cases hdo : o.dst with
          | none => simpa [Act.put] using hab
          | some d =>
            by_cases htd : d = t
            · subst htd
              have hsz2 : a.tmps.size = b.tmps.size := by rw [h4, h2]
              simp only [Act.put, Array.getElem?_setIfInBounds_self, hsz2]
            · simp only [Act.put, Array.getElem?_setIfInBounds_ne htd]; exact hab
        have hlist : ∀ j o', ops[j]? = some o' → isW P o' = false → Lst (listed.setIfInBounds i true) j → mayB tab j (Nat.lor D (2 ^ i)) ws = true → ∃ D1, some D = some D1 ∧ mayB tab j D1 ws = true := by
          intro j o' ho' hw' hl' hm'
          refine ⟨D, rfl, mayB_iff.2 (fun p hp => ⟨fun hD => ((mayB_iff.1 hm') p hp).1 ?_, fun hD => ?_⟩)⟩
          · show Nat.testBit (D ||| 2 ^ i) p.1 = true
            rw [Nat.testBit_or, hD, Bool.true_or]
          · refine Bool.eq_false_iff.2 fun hb => ?_
            have hlm : Lst listed j := by
              rcases (hset j).1 hl' with h | rfl
              · exact h
              · rw [ho] at ho'; cases ho'
                rw [hW] at hw'; cases hw'
            have := (hwr p hp).1 (anc_listed hA hdown j o' ho' (hdown j o' ho' hlm) p.1 hb)
            rw [hD] at this; cases this
        cases m with
        | zero => exact hstg.elim
        | succ m =>
        have fin : ∀ (m' : Nat), evS P ops tab ws (Nat.lor D (2 ^ i)) (some D) E' 0 ops env' (fun env => Fw.after P N S ops tab ws (Nat.lor D (2 ^ i)) env E' K fun D' env E => (match m' with | 0 => False | m + 1 => stages P N S ops tab ws m D' (some (Nat.lor D (2 ^ i))) env E K)) →
            wpAnyIn (Fr r) 0 P .any ⟨ops⟩ Q f (listed.setIfInBounds i true) (a.put o.dst c) w' := by
          intro m' hev
          obtain ⟨env'', b', e1, e2, e3, e4, e5, e6⟩ := evS_ok hA hC hlist ops 0 env' (b.put o.dst c) (by simp) hI hsz' (fun m o' d' hm => by omega) hev
          refine ih _ m' (Nat.lor D (2 ^ i)) _ w' (by simpa using hsz) hcnt' hdown' hwr' ⟨g', env'', E', b', e1, e2, ?_, ?_, fun t ht => ?_, e3, e4⟩
          · rw [e5]
            have : (a.put o.dst c).defers = a.defers := by cases o.dst <;> rfl
            have h10 : (b.put o.dst c).defers = b.defers := by cases o.dst <;> rfl
            rw [this, h10, h3]
          · have : (a.put o.dst c).tmps.size = a.tmps.size := by cases o.dst <;> simp [Act.put]
            rw [this, h4]
          · rw [e6 t ht]; exact hagree t ht
        cases m with
        | zero => exact fin 0 hstg
        | succ m => exact fin (m + 1) hstg
      have ho2 : (⟨ops⟩ : Array Oper)[i]? = some o := by simpa using ho
      unfold wpOpIn
      rw [ho2]
      simp only
      rcases sW_ok h1 h2 h7 with ⟨hw1, hstep⟩ | ⟨hw1, env', h8, h9, h10⟩
      · rw [if_pos (by rw [hwt]; exact hw1)]
        refine Step.wpIn (hstep.transfer hex ?_)
        rintro c w' ⟨g', env', E', h8, h9, _, h10⟩
        exact next c w' g' env' E' h8 h9 h10
      · rw [if_neg (by rw [hwt, hw1]; simp)]
        exact ⟨fun _ _ => trivial, next _ w g env' E h8 h9 h10⟩
theorem region_stages {r : Option Nat} (hm : P.follows .mixedOrders = true) (hok : okRegion P N ops tab (wsOf P 0 ops) = true) {Q : Exit → Act → World → Prop} {K : Env → List Chunk → Prop} {id : Nat} {g : Gh} {env : Env} {E : List Chunk} {a : Act} {w : World}
    (hQ : ∀ g env E a w, Iv S g env E a w → a.tmps.size = N → K env E → Q .normal a w) (h : Iv S g env E a { w with drawn := w.drawn + 1 }) (hN : a.tmps.size = N) (hk : stages P N S ops tab (wsOf P 0 ops) (wsOf P 0 ops).length 0 none env E K) :
    (Code.region id ⟨ops⟩ true).wpIn (Fr r) 0 P Q a w := by
  simp only [okRegion, Bool.and_eq_true] at hok
  obtain ⟨hA, hC⟩ := hok
  refine wpIn_region_any hm ?_
  have hrep : ∀ i, ¬ Lst (Array.replicate ops.length false) i := by
    intro i
    unfold Lst
    rw [Array.getD_eq_getD_getElem?]
    by_cases hi : i < ops.length
    · simp [Array.getElem?_replicate, hi]
    · simp [Array.getElem?_replicate, hi]
  have fin : ∀ (m : Nat), evS P ops tab (wsOf P 0 ops) 0 none E 0 ops env (fun env => Fw.after P N S ops tab (wsOf P 0 ops) 0 env E K fun D' env E => (match m with | 0 => False | m + 1 => stages P N S ops tab (wsOf P 0 ops) m D' (some 0) env E K)) →
      wpAnyIn (Fr r) 0 P .any ⟨ops⟩ Q (⟨ops⟩ : Array Oper).size (Array.replicate (⟨ops⟩ : Array Oper).size false) a { w with drawn := w.drawn + 1 } := by
    intro m hev
    obtain ⟨env'', b', e1, e2, e3, e4, e5, e6⟩ := evS_ok (listed := Array.replicate ops.length false) hA hC (fun i o _ _ hl _ => (hrep i hl).elim) ops 0 env a (by simp) h hN (fun m o' d' hm => by omega) hev
    exact stages_ok hA hC rfl hQ _ _ m 0 a _ (by simp) (by simp) (fun i o _ hl => (hrep i hl).elim) (fun p _ => ⟨fun hl => (hrep _ hl).elim, fun h => by simp at h⟩) ⟨g, env'', E, b', e1, e2, e5.symm, hN, fun t ht => (e6 t ht).symm, e3, e4⟩
  generalize (wsOf P 0 ops).length = m at hk
  cases m with
  | zero => exact fin 0 hk
  | succ m => exact fin (m + 1) hk
end
end Go.Proofs.Ytafcenlbllmahaa.Fw
set_option linter.unusedVariables false
set_option linter.unusedSimpArgs false
namespace Go.Proofs.Ytafcenlbllmahaa.Fw
open Go Go.RowKit

def fT (l : List Nat) (K : List Nat → Prop) : Prop := match l with | [] => K [] | n :: r => fB n fun n => fT r fun r => K (n :: r)
theorem fT_eq (l : List Nat) (K : List Nat → Prop) : fT l K = K l := by
  induction l generalizing K with
  | nil => rfl
  | cons c r ih => simp only [fT, fB_eq, ih]
def fW (l : List (Nat × Oper)) (K : List (Nat × Oper) → Prop) : Prop := match l with | [] => K [] | (n, o) :: r => fB n fun n => fW r fun r => K ((n, o) :: r)
theorem fW_eq (l : List (Nat × Oper)) (K : List (Nat × Oper) → Prop) : fW l K = K l := by
  induction l generalizing K with
  | nil => rfl
  | cons c r ih => cases c; simp only [fW, fB_eq, ih]
/-- A drawn region: its ways to walk, told when they are asked for. -/
structure DrawN (P : Program) (N : Nat) (S : Sc) (ops : List Oper) (env : Env) (E : List Chunk) (K : Env → List Chunk → Prop) : Prop where
  h : fT (ancT ops []) fun tab => fW (wsOf P 0 ops) fun ws => stages P N S ops tab ws ws.length 0 none env E K
section
variable (P : Program) (N : Nat) (S : Sc)
def sCode (M : List Bool) : Code → Env → List Chunk → (Ex → Env → List Chunk → Prop) → Prop
  | .skip, env, E, K => K .normal env E
  | .label _, env, E, K => K .normal env E
  | .region _ ⟨ops⟩ false, env, E, K => sOps P N S true ops ops env E (K .normal)
  | .region _ ⟨ops⟩ true, env, E, K => Cl (fun _ => okRegion P N ops (ancT ops []) (wsOf P 0 ops) = true) ∧ DrawN P N S ops env E (K .normal)
  | .seq a b, env, E, K => sCode M a env E fun e env E => match e with | .normal => CodeN P N S M b env E K | .ret => K .ret env E | .exit n => K (.exit n) env E
  | .cond c t f, env, E, K => (match ev env c with
    | .bool b => (b () = true → sCode M t env E K) ∧ (b () = false → sCode M f env E K)
    | .tt => sCode M t env E K
    | .ff => sCode M f env E K
    | _ => False)
  | .block id b, env, E, K => sCode M b env E fun e env E => match e with
    | .exit n => (match Nat.beq n id with | true => K .normal env E | false => K (.exit n) env E)
    | .normal => K .normal env E | .ret => K .ret env E
  | .exit n, env, E, K => K (.exit n) env E
  | .ret, env, E, K => K .ret env E
  | .loop b, env, E, K => LoopN P N S M b env E K
  | .scope b, env, E, K => sCode M b env E K
  | c, env, E, K => CodeN P N S M c env E K
end

section
variable {P : Program} {N : Nat} {M : List Bool} {S : Sc} {y : Bool}
theorem noDraw_and {r : Option Nat} {a b c : Bool} (h : r = none ∨ c = true) (hc : c = (a && b)) : (r = none ∨ a = true) ∧ (r = none ∨ b = true) := by
  subst hc
  rcases h with h | h
  · exact ⟨.inl h, .inl h⟩
  · rw [Bool.and_eq_true] at h; exact ⟨.inr h.1, .inr h.2⟩

theorem stepR_scope {b : Frame} {a : Act} {k : List Item} {cs : List Frame} {w : World} {c : Code} : step P (lone (b.atR a (.code (.scope c) :: k)) cs w) = .next (lone (b.atR a (.code c :: .inScope c :: k)) cs w) :=
  step_lone_go (by simp [stepG, stepG.exec, Frame.atR])
theorem stepR_inScope {b : Frame} {a : Act} {k : List Item} {cs : List Frame} {w : World} {c : Code} : step P (lone (b.atR a (.inScope c :: k)) cs w) = .next (lone (b.atR a k) cs w) :=
  step_lone_go (by simp [stepG, stepG.exec, Frame.atR])
theorem wpIn_scope {F : Fence} {n : Nat} {Q : Exit → Act → World → Prop} {a : Act} {w : World} {c : Code} (hQ : ∀ l a w, ¬ Q (.goto l) a w) (h : c.wpIn F n P Q a w) : (Code.scope c).wpIn F n P Q a w := by
  intro b k cs hro hb hr
  have h0 : (lone (b.atR a (.code (.scope c) :: k)) cs w).fenced P F := fenced_calm hb hr rfl
  obtain ⟨e, a₁, w₁, hq, harr⟩ := h b (.inScope c :: k) cs hro hb hr
  cases e with
  | normal => exact ⟨.normal, a₁, w₁, hq, .head h0 stepR_scope (StepsIn.trans harr (.one (fenced_calm hb hr rfl) stepR_inScope))⟩
  | exit id =>
    have hx : exitTo id (.inScope c :: k) = exitTo id k := by simp [exitTo]
    exact ⟨.exit id, a₁, w₁, hq, fun k' hk => .head h0 stepR_scope (harr.1 k' (by rw [hx]; exact hk)),
      fun hr' hk => let ⟨k₁, h1, h2⟩ := harr.2 hr' (by rw [hx]; exact hk); ⟨k₁, h1, .head h0 stepR_scope h2⟩⟩
  | goto l => exact (hQ _ _ _ hq).elim
  | ret => exact ⟨_, a₁, w₁, hq, .of_steps (.one h0 stepR_scope) harr⟩
  | panic ch => exact ⟨_, a₁, w₁, hq, .of_steps (.one h0 stepR_scope) harr⟩
  | outgrown => exact ⟨_, a₁, w₁, hq, .of_steps (.one h0 stepR_scope) harr⟩
theorem sCode_ok (hm : P.follows .mixedOrders = true) (hM : ∀ B, S.at_ B → cellsL B.E = M) : ∀ (c : Code) (r : Option Nat), (r = none ∨ noDraw c = true) → ∀ {K : Ex → Env → List Chunk → Prop} {g : Gh} {env : Env} {E : List Chunk} {a : Act} {w : World}, Iv S g env E a w → a.tmps.size = N →
    sCode P N S M c env E K → c.wpIn (Fr r) 0 P (Post S N K) a w := by
  intro c
  induction c with
  | skip => intro r hr K g env E a w h hN hk; exact wpIn_skip ⟨.normal, g, env, E, rfl, h, hN, hk⟩
  | label l => intro r hr K g env E a w h hN hk; exact wpIn_label ⟨.normal, g, env, E, rfl, h, hN, hk⟩
  | region id ops draw =>
    intro r hr K g env E a w h hN hk
    obtain ⟨ops⟩ := ops
    cases draw with
    | false =>
      exact wpIn_region_list (sOps_okIn (Q := Post S N K) (fun g env E a w h1 h2 h4 => ⟨.normal, g, env, E, rfl, h1, h2, h4⟩) ops h hN hk)
    | true =>
      simp only [sCode] at hk
      have h' := h.same (wsame_drawn w)
      have fin : ∀ (g : Gh) (env : Env) (E : List Chunk) (a : Act) (w : World), Iv S g env E a w → a.tmps.size = N → K .normal env E → Post S N K .normal a w :=
        fun g env E a w h1 h2 h4 => ⟨.normal, g, env, E, rfl, h1, h2, h4⟩
      have hk2 := hk.2.h
      rw [fT_eq, fW_eq] at hk2
      exact region_stages hm hk.1.h (fun g env E a w h1 h2 h3 => fin g env E a w h1 h2 h3) h' hN hk2
  | seq x y ihx ihy =>
    intro r hr K g env E a w h hN hk
    obtain ⟨hr1, hr2⟩ := noDraw_and hr rfl
    refine wpIn_seq (Go.wpIn_mono (ihx r hr1 h hN hk) ?_)
    rintro e a' w' ⟨e', g', env', E', rfl, h1, h2, h4⟩
    cases e' with
    | normal => exact h4.h r g' a' w' hr2 hM h1 h2
    | ret => exact ⟨.ret, g', env', E', rfl, h1, h2, h4⟩
    | exit n => exact ⟨.exit n, g', env', E', rfl, h1, h2, h4⟩
  | cond c x y ihx ihy =>
    intro r hr K g env E a w h hN hk
    obtain ⟨hr1, hr2⟩ := noDraw_and hr rfl
    have hc := h.er.ev c
    simp only [sCode] at hk
    split at hk <;> try exact hk.elim
    · rename_i b e
      rw [e] at hc
      have hc := hc.bool_iff
      cases hb : b ()
      · rw [hb] at hc; exact wpIn_cond_false hc (ihy r hr2 h hN (hk.2 hb))
      · rw [hb] at hc; exact wpIn_cond_true hc (ihx r hr1 h hN (hk.1 hb))
    · rename_i e
      rw [e] at hc
      exact wpIn_cond_true hc.tt_iff (ihx r hr1 h hN hk)
    · rename_i e
      rw [e] at hc
      exact wpIn_cond_false hc.ff_iff (ihy r hr2 h hN hk)
  | block id b ih =>
    intro r hr K g env E a w h hN hk
    refine wpIn_block (Go.wpIn_mono (ih r hr h hN hk) ?_)
    rintro e a' w' ⟨e', g', env', E', rfl, h1, h2, h4⟩
    cases e' with
    | normal => exact ⟨.normal, g', env', E', rfl, h1, h2, h4⟩
    | ret => exact ⟨.ret, g', env', E', rfl, h1, h2, h4⟩
    | exit n =>
      simp only [] at h4
      show (if n = id then Post S N K .normal a' w' else Post S N K (.exit n) a' w')
      split at h4
      · rename_i hn
        rw [if_pos (Nat.eq_of_beq_eq_true hn)]
        exact ⟨.normal, g', env', E', rfl, h1, h2, h4⟩
      · rename_i hn
        rw [if_neg (fun e => by subst e; simp at hn)]
        exact ⟨.exit n, g', env', E', rfl, h1, h2, h4⟩
  | loop b ih => intro r hr K g env E a w h hN hk; exact hk.h r g a w hr hM h hN
  | rangeFunc f ps az b iha ihb => intro r hr K g env E a w h hN hk; exact hk.h r g a w hr hM h hN
  | exit n => intro r hr K g env E a w h hN hk; exact wpIn_exit ⟨.exit n, g, env, E, rfl, h, hN, hk⟩
  | scope b ih =>
    intro r hr K g env E a w h hN hk
    refine wpIn_scope ?_ (ih r hr h hN hk)
    rintro l a' w' ⟨e', g', env', E', h1, _⟩
    cases e' <;> cases h1
  | goto l => intro r hr K g env E a w h hN hk; exact hk.h r g a w hr hM h hN
  | ret => intro r hr K g env E a w h hN hk; exact wpIn_ret ⟨.ret, g, env, E, rfl, h, hN, hk⟩
  | refuse s => intro r hr K g env E a w h hN hk; exact hk.h r g a w hr hM h hN
/-- May a piece of code be walked? -/
def stepB : Code → Bool
  | .rangeFunc _ _ _ _ => false | .scope _ => true | .skip => true | .label _ => true | .region _ _ _ => true | .seq _ _ => true | .cond _ _ _ => true | .block _ _ => true | .exit _ => true | .ret => true | .loop _ => true | _ => false
theorem CodeN.step (hm : P.follows .mixedOrders = true) {c : Code} {env : Env} {E : List Chunk} {K : Ex → Env → List Chunk → Prop} (hs : stepB c = true) (h : sCode P N S M c env E K) : CodeN P N S M c env E K where
  h := fun r g a w hr hM hi hN => sCode_ok hm hM c r hr hi hN h
end
end Go.Proofs.Ytafcenlbllmahaa.Fw
set_option linter.unusedVariables false
set_option linter.unusedSimpArgs false
namespace Go.Proofs.Ytafcenlbllmahaa.Fw
open Go Go.RowKit

/-- Chunk i here is chunk j there. -/
def refB (π : List Nat) (i j : Nat) : Bool := match nth π j with | some k => Nat.beq k i | none => false

mutual
/-- The one value says what the other one says. -/
def LeV (π : List Nat) : AV → AV → Prop
  | a, .undef => True
  | .skip, .skip => True
  | .int k n, .int k' m => (match decEq k k' with | isTrue _ => n () = m () | isFalse _ => False)
  | .bool b, .bool c => b () = c ()
  | .tt, .bool c => c () = true
  | .ff, .bool c => c () = false
  | .bool b, .tt => b () = true
  | .bool b, .ff => b () = false
  | .tt, .tt => True
  | .ff, .ff => True
  | .str s, .str t => s () = t ()
  | .lst t xs, .lst t' ys => (match decEq t t' with | isTrue h => castK h xs fun xs => xs () = ys () | isFalse _ => False)
  | .snil, .lst _ ys => ys () = []
  | .snil, .snil => True
  | .agg cs, .agg ds => LeL π cs ds
  | .tup cs, .tup ds => LeL π cs ds
  | .pnil, .pnil => True
  | .ptr i o, .ptr j p => (match refB π i j, Nat.beq o p with | true, true => True | _, _ => False)
  | .eptr i s x o, .eptr j s' y p => (match refB π i j, Nat.beq s s', Nat.beq o p with | true, true, true => x () = y () | _, _, _ => False)
  | .iptr t x o, .iptr t' y p => (match decEq t t', Nat.beq o p with | isTrue h, true => castX h x fun x => x () = y () | _, _ => False)
  | .cptr cs o, .cptr ds p => (match Nat.beq o p with | true => LeL π cs ds | false => False)
  | .vec i s o n, .vec j s' p m => (match refB π i j, Nat.beq s s' with | true, true => o () = p () ∧ n () = m () | _, _ => False)
  | .fn f a b, .fn f' a' b' => (match decEq f f' with | isTrue _ => LeL π a a' ∧ LeL π b b' | isFalse _ => False)
  | .fnil, .fnil => True
  | .ifc t v, .ifc t' v' => (match Nat.beq t t' with | true => LeV π v v' | false => False)
  | .inil, .inil => True
  | .mp i, .mp j => (match refB π i j with | true => True | false => False)
  | .mnil, .mnil => True
  | .hp i f, .hp j h => (match refB π i j with | true => f () = h () | false => False)
  | .hm i f, .hm j h => (match refB π i j with | true => f () = h () | false => False)
  | _, _ => False
def LeL (π : List Nat) : List AV → List AV → Prop
  | [], [] => True
  | a :: r, e :: s => LeV π a e ∧ LeL π r s
  | _, _ => False
end
def LeC (π : List Nat) : Chunk → Chunk → Prop
  | _, .none => True
  | .cells T cs, .cells T' ds => (match Nat.beq T T' with | true => LeL π cs ds | false => False)
  | .vect T t xs, .vect T' t' ys => (match Nat.beq T T', decEq t t' with | true, isTrue h => castK h xs fun xs => xs () = ys () | _, _ => False)
  | .count k, .count m => k () = m ()
  | .row T t xs, .row T' t' ys => (match Nat.beq T T', decEq t t' with | true, isTrue h => castK h xs fun xs => xs () = ys () | _, _ => False)
  | .vect T t xs, .row T' t' ys => (match Nat.beq T T', decEq t t' with | true, isTrue h => castK h xs fun xs => xs () = ys () | _, _ => False)
  | .smp k ks us, .smp k' ks' vs => (match decEq k k', decEq ks ks' with | isTrue _, isTrue _ => LeL π us vs | _, _ => False)
  | .heap h, .heap h' => Hp.like (h' ()) (h ())
  | .mit x a b l, .mit y a' b' l' => LeV π x y ∧ a = a' ∧ b = b' ∧ l () = l' ()
  | _, _ => False
def LeE (π : List Nat) (E : List Chunk) : List Nat → List Chunk → Prop
  | [], [] => True
  | i :: r, c :: s => LeC π (getE E i) c ∧ LeE π E r s
  | _, _ => False
def LeEnv (π : List Nat) (env : Env) : Env → Prop
  | [] => True
  | (t, v) :: r => LeV π (look env t) v ∧ LeEnv π env r

/-- The ghost, its chunks by other numbers. -/
def Gh.ren (g : Gh) (π : List Nat) : Gh :=
  { n := π.length, Φ := g.Φ, B := fun j => g.B (π[j]?.getD 0), V := fun j => g.V (π[j]?.getD 0), L := fun j => g.L (π[j]?.getD 0), k := g.k, W := fun j => g.W (π[j]?.getD 0), M := fun j => g.M (π[j]?.getD 0) }
theorem refB_ok {π : List Nat} {i j : Nat} (h : refB π i j = true) : π[j]? = some i := by
  unfold refB at h
  rw [nth_eq] at h
  split at h
  · rename_i k hk; rw [hk, Nat.eq_of_beq_eq_true h]
  · cases h
theorem refB_lt {π : List Nat} {i j : Nat} (h : refB π i j = true) : j < π.length := (List.getElem?_eq_some_iff.1 (refB_ok h)).1
theorem ren_at (g : Gh) {π : List Nat} {i j : Nat} (h : π[j]? = some i) : (g.ren π).B j = g.B i ∧ (g.ren π).V j = g.V i ∧ (g.ren π).L j = g.L i := by simp [Gh.ren, h]
theorem ren_W (g : Gh) {π : List Nat} {i j : Nat} (h : π[j]? = some i) : (g.ren π).W j = g.W i ∧ (g.ren π).M j = g.M i := by simp [Gh.ren, h]

theorem At.ren {g : Gh} {π : List Nat} {A : Option Addr} {k : Nat} {u : Value} (h : At g A k u) : At (g.ren π) A k u := h
theorem R.data_ren {g : Gh} {π : List Nat} {t : Ty} {x : Unit → t.den} {j : Nat} {y : AV} (hy : (enc t x [])[j]? = some y) {u : Value} (h : R g y u) : R (g.ren π) y u := by
  have := R.map (g := g) (g' := g.ren π) (fun _ => .undef) (fun _ _ h => h) (fun v u _ _ => .undef u) h
  rwa [enc_noref _ t x j y hy] at this

mutual
theorem LeV_ok {g : Gh} {π : List Nat} : ∀ (a e : AV) (u : Value), LeV π a e → R g a u → R (g.ren π) e u
  | .agg cs, e, u, h, hr => by
    cases e <;> simp only [LeV] at h <;> try exact h.elim
    · exact .undef _
    · obtain ⟨vs, rfl, hl⟩ := hr.agg_iff
      have := R.mkAgg (LeL_ok cs _ vs.toList h hl)
      simpa using this
  | .tup cs, e, u, h, hr => by
    cases e <;> simp only [LeV] at h <;> try exact h.elim
    · exact .undef _
    · obtain ⟨vs, rfl, hl⟩ := hr.tup_iff
      have := R.mkTup (LeL_ok cs _ vs.toList h hl)
      simpa using this
  | .fn f az bs, e, u, h, hr => by
    cases e <;> simp only [LeV] at h <;> try exact h.elim
    · exact .undef _
    · split at h
      · rename_i hf _
        subst hf
        cases hr with | fn _ _ _ vs ws hl hl' hr hr' =>
        have := R.mkFn (f := f) (LeL_ok az _ vs.toList h.1 (RL.mk (by simpa using hl) fun i y u h1 h2 => hr i y u h1 (by simpa using h2))) (LeL_ok bs _ ws.toList h.2 (RL.mk (by simpa using hl') fun i y u h1 h2 => hr' i y u h1 (by simpa using h2)))
        simpa using this
      · exact h.elim
  | .ifc t v, e, u, h, hr => by
    cases e <;> simp only [LeV] at h <;> try exact h.elim
    · exact .undef _
    · split at h
      · rename_i ht
        have ht := Nat.eq_of_beq_eq_true ht
        subst ht
        cases hr with | ifc _ _ u hr =>
        exact .ifc _ _ _ (LeV_ok v _ u h hr)
      · exact h.elim
  | .undef, e, u, h, hr => by cases e <;> simp only [LeV] at h <;> first | exact h.elim | exact .undef _
  | .skip, e, u, h, hr => by
    cases e <;> simp only [LeV] at h <;> first | exact h.elim | exact .undef _ | skip
    cases hr; exact .skip
  | .int k n, e, u, h, hr => by
    cases e <;> simp only [LeV] at h <;> first | exact h.elim | exact .undef _ | skip
    split at h
    · rename_i hk _
      subst hk
      rw [hr.int_iff]; exact R.int' h.symm
    · exact h.elim
  | .bool b, e, u, h, hr => by
    cases e <;> simp only [LeV] at h <;> first | exact h.elim | exact .undef _ | skip
    · rw [hr.bool_iff]; exact R.bool' h.symm
    · rw [hr.bool_iff, h]; exact .tt
    · rw [hr.bool_iff, h]; exact .ff
  | .tt, e, u, h, hr => by
    cases e <;> simp only [LeV] at h <;> first | exact h.elim | exact .undef _ | skip
    · rw [hr.tt_iff]; exact R.bool' h
    · rw [hr.tt_iff]; exact .tt
  | .ff, e, u, h, hr => by
    cases e <;> simp only [LeV] at h <;> first | exact h.elim | exact .undef _ | skip
    · rw [hr.ff_iff]; exact R.bool' h
    · rw [hr.ff_iff]; exact .ff
  | .str s, e, u, h, hr => by
    cases e <;> simp only [LeV] at h <;> first | exact h.elim | exact .undef _ | skip
    rw [hr.str_iff]; exact R.str' (by rw [h])
  | .lst t xs, e, u, h, hr => by
    cases e <;> simp only [LeV] at h <;> first | exact h.elim | exact .undef _ | skip
    rename_i t' ys
    split at h
    · rename_i ht _
      subst ht
      have e : ys = xs := by funext u; cases u; exact h.symm
      subst e
      cases hr with | lst _ _ A c u hc hm ha hr =>
      exact .lst t ys A c u hc hm ha (fun i x j y h1 h2 => (hr i x j y h1 h2).data_ren h2)
    · exact h.elim
  | .snil, e, u, h, hr => by
    cases e <;> simp only [LeV] at h <;> first | exact h.elim | exact .undef _ | skip
    · rename_i t ys
      cases hr
      have e : ys = fun _ => [] := by funext u; cases u; exact h
      subst e
      exact R_lst_nil _ _
    · cases hr; exact .snil
  | .pnil, e, u, h, hr => by
    cases e <;> simp only [LeV] at h <;> first | exact h.elim | exact .undef _ | skip
    cases hr; exact .pnil
  | .fnil, e, u, h, hr => by
    cases e <;> simp only [LeV] at h <;> first | exact h.elim | exact .undef _ | skip
    cases hr; exact .fnil
  | .inil, e, u, h, hr => by
    cases e <;> simp only [LeV] at h <;> first | exact h.elim | exact .undef _ | skip
    cases hr; exact .inil
  | .mnil, e, u, h, hr => by
    cases e <;> simp only [LeV] at h <;> first | exact h.elim | exact .undef _ | skip
    cases hr; exact .mnil
  | .mp i, e, u, h, hr => by
    cases e <;> simp only [LeV] at h <;> first | exact h.elim | exact .undef _ | skip
    split at h <;> try exact h.elim
    rename_i hb
    cases hr
    rw [← (ren_at g (refB_ok hb)).1]
    exact .mp _ (refB_lt hb)
  | .hp i f, e, u, h, hr => by
    cases e <;> simp only [LeV] at h <;> first | exact h.elim | exact .undef _ | skip
    rename_i j f'
    split at h <;> try exact h.elim
    rename_i hb
    have e : f' = f := by funext u; cases u; exact h.symm
    subst e
    have hW := ren_W g (refB_ok hb)
    cases hr with | hp _ _ hi hf =>
    have := R.hp (g := g.ren π) j f' (refB_lt hb) (fun x hx => by rw [hW.2]; exact hf x hx)
    rw [hW.1] at this
    exact this
  | .hm i f, e, u, h, hr => by
    cases e <;> simp only [LeV] at h <;> first | exact h.elim | exact .undef _ | skip
    rename_i j f'
    split at h <;> try exact h.elim
    rename_i hb
    have e : f' = f := by funext u; cases u; exact h.symm
    subst e
    have hW := ren_W g (refB_ok hb)
    cases hr with | hm _ _ hi hf =>
    have := R.hm (g := g.ren π) j f' (refB_lt hb) (by rw [hW.2]; exact hf)
    rw [hW.1] at this
    exact this
  | .ptr i o, e, u, h, hr => by
    cases e <;> simp only [LeV] at h <;> first | exact h.elim | exact .undef _ | skip
    split at h <;> try exact h.elim
    rename_i hb ho
    have ho := Nat.eq_of_beq_eq_true ho
    subst ho
    cases hr
    rw [← (ren_at g (refB_ok hb)).1]
    exact .ptr _ _ (refB_lt hb)
  | .eptr i s x o, e, u, h, hr => by
    cases e <;> simp only [LeV] at h <;> first | exact h.elim | exact .undef _ | skip
    rename_i j s' y p
    split at h <;> try exact h.elim
    rename_i hb hs ho
    have ho := Nat.eq_of_beq_eq_true ho
    have hs := Nat.eq_of_beq_eq_true hs
    subst ho hs
    have e : y = x := by funext u; cases u; exact h.symm
    subst e
    cases hr with | eptr _ _ _ _ hi hL =>
    have hre := ren_at g (refB_ok hb)
    rw [← hre.1]
    exact .eptr _ _ _ _ (refB_lt hb) (by rw [hre.2.2]; exact hL)
  | .iptr t x o, e, u, h, hr => by
    cases e <;> simp only [LeV] at h <;> first | exact h.elim | exact .undef _ | skip
    rename_i t' y p
    split at h <;> try exact h.elim
    rename_i ht _ ho
    have ho := Nat.eq_of_beq_eq_true ho
    subst ho ht
    have e : y = x := by funext u; cases u; exact h.symm
    subst e
    cases hr with | iptr _ _ _ b ob u ha hr =>
    exact .iptr t _ o b ob u ha (fun j y hy => (hr j y hy).data_ren hy)
  | .cptr cs o, e, u, h, hr => by
    cases e <;> simp only [LeV] at h <;> first | exact h.elim | exact .undef _ | skip
    rename_i ds p
    split at h <;> try exact h.elim
    rename_i ho
    have ho := Nat.eq_of_beq_eq_true ho
    subst ho
    cases hr with | cptr _ _ b ob u ha hr =>
    have hl := LeL_ok cs ds _ h (RL_of_fun cs u hr)
    have hlen : ds.length = cs.length := by simpa using hl.length
    refine .cptr ds o b ob u (fun j y hy => ?_) (fun j y hy => ?_)
    · have hj : j < cs.length := by rw [← hlen]; exact (List.getElem?_eq_some_iff.1 hy).1
      exact ha j _ (List.getElem?_eq_getElem hj)
    · have hj : j < cs.length := by rw [← hlen]; exact (List.getElem?_eq_some_iff.1 hy).1
      exact hl.at_ j y (u j) hy (by simp [hj])
  | .vec i s o n, e, u, h, hr => by
    cases e <;> simp only [LeV] at h <;> first | exact h.elim | exact .undef _ | skip
    rename_i j s' p m
    split at h <;> try exact h.elim
    rename_i hb hs
    have hs := Nat.eq_of_beq_eq_true hs
    subst hs
    have e1 : p = o := by funext u; cases u; exact h.1.symm
    have e2 : m = n := by funext u; cases u; exact h.2.symm
    subst e1 e2
    cases hr with | vec _ _ _ _ A c hi hL hn hs =>
    have hre := ren_at g (refB_ok hb)
    exact .vec _ _ _ _ A c (refB_lt hb) (by rw [hre.2.2]; exact hL) (by rw [hre.2.1]; exact hn) (by rw [hre.2.1, hre.1]; exact hs)
theorem LeL_ok {g : Gh} {π : List Nat} : ∀ (az es : List AV) (us : List Value), LeL π az es → RL g az us → RL (g.ren π) es us
  | [], es, us, h, hr => by
    cases es <;> simp only [LeL] at h
    cases us
    · exact trivial
    · exact hr.elim
  | a :: r, es, us, h, hr => by
    cases es <;> simp only [LeL] at h
    cases us
    · exact hr.elim
    · exact ⟨LeV_ok a _ _ h.1 hr.1, LeL_ok r _ _ h.2 hr.2⟩
end

theorem LeEnv_ok {g : Gh} {π : List Nat} {env : Env} {tmps : Array Value} (hE : ER g env tmps) : ∀ (env' : Env), LeEnv π env env' → ER (g.ren π) env' tmps
  | [], _, t => .undef _
  | (k, v) :: r, h, t => by
    simp only [look]
    split
    · rename_i hb
      have := Nat.eq_of_beq_eq_true hb
      subst this
      exact LeV_ok _ _ _ h.1 (hE k)
    · exact LeEnv_ok hE r h.2 t

theorem LeE_len {π : List Nat} {E : List Chunk} : ∀ (l : List Nat) (E' : List Chunk), LeE π E l E' → lenE E' = l.length
  | [], [], _ => rfl
  | [], _ :: _, h => h.elim
  | _ :: _, [], h => h.elim
  | i :: l, c :: E', h => by simp [lenE, LeE_len l E' h.2]
theorem LeE_at {π : List Nat} {E : List Chunk} : ∀ (l : List Nat) (E' : List Chunk), LeE π E l E' → ∀ j, (∃ i, l[j]? = some i ∧ LeC π (getE E i) (getE E' j)) ∨ getE E' j = .none
  | [], [], _, j => .inr rfl
  | [], _ :: _, h, _ => h.elim
  | _ :: _, [], h, _ => h.elim
  | i :: l, c :: E', h, 0 => .inl ⟨i, rfl, h.1⟩
  | i :: l, c :: E', h, j + 1 => by simpa [getE] using LeE_at l E' h.2 j

def nodupB : List Nat → Bool
  | [] => true | i :: r => match r.any (Nat.beq i) with | true => false | false => nodupB r
theorem nodupB_ok : ∀ {π : List Nat}, nodupB π = true → ∀ j k i : Nat, π[j]? = some i → π[k]? = some i → j = k
  | [], _, j, k, i, h, _ => by simp at h
  | a :: r, h, j, k, i, h1, h2 => by
    simp only [nodupB] at h
    split at h
    · cases h
    · rename_i ha
      have hn : ∀ m : Nat, r[m]? ≠ some a := by
        intro m hm
        have : r.any (Nat.beq a) = true := List.any_eq_true.2 ⟨a, List.mem_iff_getElem?.2 ⟨m, hm⟩, Nat.beq_refl a⟩
        rw [this] at ha; cases ha
      cases j <;> cases k
      · rfl
      · simp at h1 h2; subst h1; exact (hn _ h2).elim
      · simp at h1 h2; subst h2; exact (hn _ h1).elim
      · rename_i j k
        have := nodupB_ok h j k i (by simpa using h1) (by simpa using h2)
        omega
theorem cellsL_len : ∀ E, (cellsL E).length = lenE E
  | [] => rfl
  | c :: r => by simp [cellsL, lenE, cellsL_len r]
theorem cellsL_at : ∀ (E : List Chunk) (i : Nat), fixB (getE E i) = true → (cellsL E)[i]? = some true
  | [], i, h => by simp [getE, fixB] at h
  | c :: r, 0, h => by simp only [getE] at h; simp [cellsL, h]
  | c :: r, i + 1, h => by simp only [getE] at h; simpa [cellsL] using cellsL_at r i h
/-- What has to go by its own number does. -/
def headB : List Bool → Nat → List Nat → Bool
  | [], _, _ => true
  | b :: M, k, i :: r => (match b with | true => (match Nat.beq i k with | true => headB M (k + 1) r | false => false) | false => headB M (k + 1) r)
  | _ :: _, _, [] => false
theorem headB_ok : ∀ {M : List Bool} {k : Nat} {π : List Nat}, headB M k π = true → M.length ≤ π.length ∧ ∀ j, M[j]? = some true → π[j]? = some (k + j)
  | [], k, π, _ => ⟨Nat.zero_le _, fun j hj => by simp at hj⟩
  | b :: M, k, [], h => by simp [headB] at h
  | b :: M, k, i :: r, h => by
    have key : headB M (k + 1) r = true ∧ (b = true → i = k) := by
      simp only [headB] at h
      cases b with
      | false => exact ⟨h, fun e => by cases e⟩
      | true =>
        simp only [] at h
        split at h
        · rename_i hi; exact ⟨h, fun _ => Nat.eq_of_beq_eq_true hi⟩
        · cases h
    obtain ⟨h1, h2⟩ := headB_ok key.1
    refine ⟨by simp; omega, fun j hj => ?_⟩
    cases j with
    | zero => simp at hj; simp [key.2 hj]
    | succ j => have := h2 j (by simpa using hj); simp [this]; omega

theorem LeC_sat {g : Gh} {π : List Nat} {w : World} {i j : Nat} (hπ : π[j]? = some i) : ∀ (c d : Chunk), LeC π c d → c.sat g i w → d.sat (g.ren π) j w := by
  intro c d h hs
  have hre := ren_at g hπ
  cases d with
  | none => trivial
  | cells T' ds =>
    cases c <;> simp only [LeC] at h <;> try exact h.elim
    split at h <;> try exact h.elim
    rename_i T cs hb
    have hb := Nat.eq_of_beq_eq_true hb
    subst hb
    obtain ⟨vs, h1, h2⟩ := hs
    exact ⟨vs, by rw [hre.1]; exact h1, LeL_ok _ _ _ h h2⟩
  | vect T' t' ys =>
    cases c <;> simp only [LeC] at h <;> try exact h.elim
    rename_i T t xs
    split at h <;> try exact h.elim
    rename_i ht hb _
    have hb := Nat.eq_of_beq_eq_true hb
    subst hb ht
    have e : ys = xs := by funext u; cases u; exact h.symm
    subst e
    obtain ⟨h1, h2, h3⟩ := hs
    refine ⟨by rw [hre.2.2]; exact h1, by rw [hre.2.1]; exact h2, fun cap hc => ?_⟩
    rw [hre.2.1] at hc
    obtain ⟨vs, h4, h5, h6, h7⟩ := h3 cap hc
    exact ⟨vs, by rw [hre.1]; exact h4, h5, h6, fun k x hx => RL.mono_data (g := g) (g' := g.ren π) (fun _ _ h => h) (h7 k x hx)⟩
  | count m =>
    cases c <;> simp only [LeC] at h <;> try exact h.elim
    exact h.symm.trans hs
  | row T' t' ys =>
    cases c <;> simp only [LeC] at h <;> try exact h.elim
    all_goals
      rename_i T t xs
      split at h <;> try exact h.elim
      rename_i ht hb _
      have hb := Nat.eq_of_beq_eq_true hb
      subst hb ht
      have e : ys = xs := by funext u; cases u; exact h.symm
      subst e
      obtain ⟨h1, h2, h3⟩ := hs
      refine ⟨by rw [hre.2.2]; exact h1, by rw [hre.2.1]; exact h2, fun cap hc => ?_⟩
      rw [hre.2.1] at hc
      obtain ⟨vs, h4, h5, h6, h7⟩ := h3 cap hc
      exact ⟨vs, by rw [hre.1]; exact h4, h5, h6, fun k x hx => RL.mono_data (g := g) (g' := g.ren π) (fun _ _ h => h) (h7 k x hx)⟩
  | smp k' ks' ds =>
    cases c <;> simp only [LeC] at h <;> try exact h.elim
    split at h <;> try exact h.elim
    rename_i k ks us _ _ hk hks _ _
    subst hk hks
    obtain ⟨es, cl, h1, h2, h3⟩ := hs
    exact ⟨es, cl, by rw [hre.1]; exact h1, h2, LeL_ok _ _ _ h h3⟩
  | heap h' =>
    cases c <;> simp only [LeC] at h <;> try exact h.elim
    rename_i hp
    obtain ⟨h1, h2, h3⟩ := hs
    have hW := ren_W g hπ
    have hj : j < π.length := (List.getElem?_eq_some_iff.1 hπ).1
    refine ⟨by rw [hW.2, h.1]; exact h1, by rw [hW.1, hW.2]; exact h2, fun k hk => ?_⟩
    rw [hW.2] at hk
    obtain ⟨ob, h4, h5⟩ := h3 k hk
    exact ⟨ob, by rw [hW.1]; exact h4, HO.sat_like (h.2 k (by rw [h.1]; omega)) (HO.sat_turn (HV.av_same (g := g) (g' := g.ren π) (i := i) (i' := j) (fun _ _ _ h => h) (fun _ => hj) (fun _ k _ => by rw [hW.1]) (fun _ => by rw [hW.2]; exact Nat.le_refl _)) h5)⟩
  | mit x' a' b' l' =>
    cases c <;> simp only [LeC] at h <;> try exact h.elim
    rename_i x a b l
    obtain ⟨h1, rfl, rfl, h4⟩ := h
    obtain ⟨r, h5, h6⟩ := hs
    exact ⟨r, LeV_ok _ _ _ h1 h5, by rw [hre.1, ← h4]; exact h6⟩
theorem LeC_blk {g : Gh} {π : List Nat} {i j b : Nat} (hπ : π[j]? = some i) : ∀ (c d : Chunk), LeC π c d → d.own (g.ren π) j b → c.own g i b := by
  intro c d h hb
  have hre := ren_at g hπ
  cases d with
  | none => cases hb
  | cells T' ds =>
    cases c <;> simp only [LeC] at h <;> try exact h.elim
    simp only [Chunk.own] at hb ⊢
    rw [hre.1] at hb; exact hb
  | vect T' t' ys =>
    cases c <;> simp only [LeC] at h <;> try exact h.elim
    simp only [Chunk.own] at hb ⊢
    rw [hre.1, hre.2.1] at hb; exact hb
  | count m => cases hb
  | row T' t' ys =>
    cases c <;> simp only [LeC] at h <;> try exact h.elim
    · simp only [Chunk.own] at hb ⊢
      rw [hre.1, hre.2.1] at hb; exact hb
    · simp only [Chunk.own] at hb ⊢
      rw [hre.1, hre.2.1] at hb; exact hb
  | smp k' ks' ds =>
    cases c <;> simp only [LeC] at h <;> try exact h.elim
    simp only [Chunk.own] at hb ⊢
    rw [hre.1] at hb; exact hb
  | heap h' =>
    cases c <;> simp only [LeC] at h <;> try exact h.elim
    have hW := ren_W g hπ
    simp only [Chunk.own] at hb ⊢
    rw [hW.1, hW.2] at hb; exact hb
  | mit x' a' b' l' =>
    cases c <;> simp only [LeC] at h <;> try exact h.elim
    simp only [Chunk.own] at hb ⊢
    rw [hre.1] at hb; exact hb

theorem Sim.ren {g : Gh} {π : List Nat} {E E' : List Chunk} {w : World} (h : Sim g E w) (hE : LeE π E π E') (hn : nodupB π = true) : Sim (g.ren π) E' w := by
  have hat := LeE_at π E' hE
  refine ⟨LeE_len π E' hE, h.phi, fun j => ?_, fun j k b hj hk => ?_, fun j b hj => ?_⟩
  · rcases hat j with ⟨i, hi, hc⟩ | hc
    · exact LeC_sat hi _ _ hc (h.sat i)
    · rw [hc]; trivial
  · obtain ⟨i, hi, hc⟩ := (hat j).resolve_right (fun hc => by rw [hc] at hj; cases hj)
    obtain ⟨i', hi', hc'⟩ := (hat k).resolve_right (fun hc => by rw [hc] at hk; cases hk)
    have h1 := LeC_blk hi _ _ hc hj
    have h2 := LeC_blk hi' _ _ hc' hk
    have := h.dis i i' b h1 h2
    subst this
    exact nodupB_ok hn j k i hi hi'
  · obtain ⟨i, hi, hc⟩ := (hat j).resolve_right (fun hc => by rw [hc] at hj; cases hj)
    exact h.dphi i b (LeC_blk hi _ _ hc hj)

theorem Inv.ren {B : Base} {g : Gh} {π : List Nat} {env env' : Env} {E E' : List Chunk} {tmps : Array Value} {w : World} (h : Inv B g env E tmps w) (henv : LeEnv π env env') (hE : LeE π E π E') (hn : nodupB π = true) (hM : headB (cellsL B.E) 0 π = true) :
    Inv B (g.ren π) env' E' tmps w := by
  have hat := LeE_at π E' hE
  obtain ⟨hM1, hM2⟩ := headB_ok hM
  rw [cellsL_len] at hM1
  have hhead : ∀ i, fixB (getE B.E i) = true → π[i]? = some i := fun i hi => by
    have := hM2 i (cellsL_at _ _ hi)
    simpa using this
  refine ⟨LeEnv_ok h.er env' henv, h.sim.ren hE hn, ⟨h.ext.os, h.ext.tape, h.ext.output, h.ext.size, h.ext.keep, h.ext.phi, h.ext.phin, fun j b hj => ?_, hM1, fun i hi => ?_, h.ext.kk, fun i T' t xs hi hv => ?_, fun i k hi hk => by rw [(ren_W g (hhead i hi)).1]; exact h.ext.idw i k hi hk, fun i hi => by rw [(ren_W g (hhead i hi)).2]; exact h.ext.idm i hi⟩⟩
  · obtain ⟨i, hi, hc⟩ := (hat j).resolve_right (fun hc => by rw [hc] at hj; cases hj)
    exact h.ext.own i b (LeC_blk hi _ _ hc hj)
  · rw [(ren_at g (hhead i hi)).1, (ren_at g (hhead i hi)).2.1, (ren_at g (hhead i hi)).2.2]; exact h.ext.ids i hi
  · obtain ⟨k, hk, hc⟩ := (hat i).resolve_right (fun hc => by rw [hc] at hv; cases hv)
    have := hhead i hi
    rw [this] at hk; cases hk
    rw [hv] at hc
    cases hg : getE E i with
    | none => rw [hg] at hc; exact hc.elim
    | cells _ _ => rw [hg] at hc; exact hc.elim
    | count _ => rw [hg] at hc; exact hc.elim
    | smp _ _ _ => rw [hg] at hc; exact hc.elim
    | row _ _ _ => rw [hg] at hc; exact hc.elim
    | heap _ => rw [hg] at hc; exact hc.elim
    | mit _ _ _ _ => rw [hg] at hc; exact hc.elim
    | vect _ _ _ => exact h.ext.kin i _ _ _ hi hg
theorem Chunk.sat_mapA {g g' : Gh} {i j : Nat} {w w' : World} {c : Chunk} (f : AV → AV) (hA : ∀ A k u, At g A k u → At g' A k u) (hf : ∀ v u, isRef v = true → R g v u → R g' (f v) u)
    (hB : g'.B j = g.B i) (hV : g'.V j = g.V i) (hL : g'.L j = g.L i) (hk : g'.k = g.k) (hW : g'.W j = g.W i) (hM : g'.M j = g.M i) (hin : i < g.n → j < g'.n) (hw : ∀ b, c.own g i b → w'.heap[b]? = w.heap[b]?) (h : c.sat g i w) : (mapC f c).sat g' j w' := by
  cases c with
  | none => trivial
  | count k => exact h.trans hk.symm
  | row T t xs =>
    obtain ⟨h1, h2, h3⟩ := h
    refine ⟨by rw [hL]; exact h1, by rw [hV]; exact h2, fun cap hcap => ?_⟩
    rw [hV] at hcap
    obtain ⟨vs, h4, h5, h6, h7⟩ := h3 cap hcap
    exact ⟨vs, by rw [hB, hw _ (by simp [Chunk.own, hcap])]; exact h4, h5, h6, fun k x hx => (h7 k x hx).mono_dataA hA⟩
  | smp k ks us =>
    obtain ⟨es, cl, h1, h2, h3⟩ := h
    exact ⟨es, cl, by rw [hB, hw _ rfl]; exact h1, h2, h3.mapA f hA hf⟩
  | cells T cs =>
    obtain ⟨vs, h1, h2⟩ := h
    exact ⟨vs, by rw [hB, hw _ rfl]; exact h1, h2.mapA f hA hf⟩
  | vect T t xs =>
    obtain ⟨h1, h2, h3⟩ := h
    refine ⟨by rw [hL]; exact h1, by rw [hV]; exact h2, fun cap hcap => ?_⟩
    rw [hV] at hcap
    obtain ⟨vs, h4, h5, h6, h7⟩ := h3 cap hcap
    exact ⟨vs, by rw [hB, hw _ (by simp [Chunk.own, hcap])]; exact h4, h5, h6, fun k x hx => (h7 k x hx).mono_dataA hA⟩
  | heap hp =>
    obtain ⟨h1, h2, h3⟩ := h
    refine ⟨by rw [hM]; exact h1, by rw [hM, hW]; exact h2, fun k hk => ?_⟩
    rw [hM] at hk
    obtain ⟨ob, h4, h5⟩ := h3 k hk
    exact ⟨ob, by rw [hW, hw _ ⟨k, hk, rfl⟩]; exact h4, HO.sat_turn (HV.av_same hA hin (fun _ k _ => by rw [hW]) (fun _ => by rw [hM]; exact Nat.le_refl _)) h5⟩
  | mit x a b l =>
    obtain ⟨r, h1, h2⟩ := h
    exact ⟨r, h1.mapA f hA hf, by rw [hB, hw _ rfl]; exact h2⟩
theorem Chunk.sat_map {g g' : Gh} {i j : Nat} {w w' : World} {c : Chunk} (f : AV → AV) (hΦ : ∀ b o, g.Φ b = some o → g'.Φ b = some o) (hf : ∀ v u, isRef v = true → R g v u → R g' (f v) u)
    (hB : g'.B j = g.B i) (hV : g'.V j = g.V i) (hL : g'.L j = g.L i) (hk : g'.k = g.k) (hW : g'.W j = g.W i) (hM : g'.M j = g.M i) (hin : i < g.n → j < g'.n) (hw : ∀ b, c.own g i b → w'.heap[b]? = w.heap[b]?) (h : c.sat g i w) : (mapC f c).sat g' j w' := Chunk.sat_mapA f (fun _ _ _ h => h.mono hΦ) hf hB hV hL hk hW hM hin hw h
theorem mapC_own (f : AV → AV) (g : Gh) (i : Nat) (c : Chunk) (b : Nat) : (mapC f c).own g i b = c.own g i b := by cases c <;> rfl
end Go.Proofs.Ytafcenlbllmahaa.Fw
set_option linter.unusedVariables false
set_option linter.unusedSimpArgs false
namespace Go.Proofs.Ytafcenlbllmahaa.Fw
open Go Go.RowKit

/-- A state that says less (the chunks by the numbers of π; the first M by their own). -/
structure Le (M : List Bool) (π : List Nat) (env : Env) (E : List Chunk) (env' : Env) (E' : List Chunk) : Prop where
  nd : nodupB π = true
  head : headB M 0 π = true
  e : LeE π E π E'
  v : LeEnv π env env'

theorem Iv.ren {S : Sc} {M : List Bool} {g : Gh} {π : List Nat} {env env' : Env} {E E' : List Chunk} {a : Act} {w : World} (hM : ∀ B, S.at_ B → cellsL B.E = M) (h : Iv S g env E a w) (hle : Le M π env E env' E') : Iv S (g.ren π) env' E' a w := by
  obtain ⟨B, hB, h, hd⟩ := h
  exact ⟨B, hB, h.ren hle.v hle.e hle.nd (by rw [hM B hB]; exact hle.head), hd⟩
/-- One base behind another. -/
theorem Ext.trans {B B1 : Base} {g : Gh} {E : List Chunk} {w : World} (h : Ext B B1.g B1.E B1.w) (h' : Ext B1 g E w) (hs : ∀ i, fixB (getE B.E i) = true → fixB (getE B1.E i) = true) (hl : lenE B.E ≤ lenE B1.E) : Ext B g E w := by
  refine ⟨h'.os.trans h.os, h'.tape.trans h.tape, h'.output.trans h.output, Nat.le_trans h.size h'.size, fun b h1 h2 => ?_, fun b o hb => h'.phi b o (h.phi b o hb), fun b o hb => ?_, fun i b hi => ?_, Nat.le_trans hl h'.n, fun i hi => ?_, h'.kk.trans h.kk, fun i T' t xs hi hv => ?_, fun i k hi hk => ?_, fun i hi => ?_⟩
  · rw [h'.keep b (Nat.lt_of_lt_of_le h1 h.size) (fun ⟨i, hi⟩ => by
      rcases h.own i b hi with h3 | h3
      · omega
      · exact h2 h3)]
    exact h.keep b h1 h2
  · rcases h'.phin b o hb with h3 | h3 | ⟨i, hi⟩
    · exact h.phin b o h3
    · exact .inr (.inl (Nat.le_trans h.size h3))
    · exact .inr (h.own i b hi)
  · rcases h'.own i b hi with h3 | ⟨j, hj⟩
    · exact .inl (Nat.le_trans h.size h3)
    · exact h.own j b hj
  · have h1 := h'.ids i (hs i hi)
    have h2 := h.ids i hi
    exact ⟨h1.1.trans h2.1, h1.2.1.trans h2.2.1, h1.2.2.trans h2.2.2⟩
  · exact h'.kin i T' t xs (hs i hi) hv
  · rw [h'.idw i k (hs i hi) (Nat.lt_of_lt_of_le hk (h.idm i hi))]; exact h.idw i k hi hk
  · exact Nat.le_trans (h.idm i hi) (h'.idm i (hs i hi))
/-- A mark's block shut. -/
def Gh.drop (g : Gh) (D : Nat) : Gh := { g with Φ := fun b => if b = D then none else g.Φ b }
theorem At.drop {g : Gh} {D : Nat} (hp : g.Φ D = some (.deferred (some []))) {A : Option Addr} {k : Nat} {u : Value} (h : At g A k u) : At (g.drop D) A k u := by
  obtain ⟨b, off, cells, T, fr, h1, h2, h3⟩ := h
  refine ⟨b, off, cells, T, fr, h1, ?_, h3⟩
  show (if b = D then none else g.Φ b) = _
  rw [if_neg (fun e => by subst e; rw [h2] at hp; cases hp)]; exact h2
theorem R.drop {g : Gh} {D : Nat} (hp : g.Φ D = some (.deferred (some []))) {v : AV} {u : Value} (h : R g v u) : R (g.drop D) v u := by
  have := R.mapA (g' := g.drop D) id (fun _ _ _ h => h.drop hp) (fun v u hv h => ?_) h
  · rwa [mapV_id] at this
  · cases h <;> first | (cases hv; done) | skip
    · exact .ptr (g := g.drop D) _ _ ‹_›
    · exact .eptr (g := g.drop D) _ _ _ _ ‹_› ‹_›
    · rename_i hi hL hn hs
      exact .vec (g := g.drop D) _ _ _ _ _ _ hi hL hn hs
    · exact .mp (g := g.drop D) _ ‹_›
    · rename_i hi hf
      exact .hp (g := g.drop D) _ _ hi hf
    · rename_i hi hf
      exact .hm (g := g.drop D) _ _ hi hf
theorem mapL_idd (l : List AV) : mapL id l = l := mapL_id l
theorem mapC_id (c : Chunk) : mapC id c = c := by cases c <;> simp [mapC, mapL_id, mapV_id]
theorem Inv.unmark {B : Base} {g : Gh} {env : Env} {E : List Chunk} {tmps : Array Value} {w : World} (h : Inv B g env E tmps w) {D : Nat} (hD : B.w.heap.size ≤ D) (hp : g.Φ D = some (.deferred (some []))) (hB : ∀ b o, B.g.Φ b = some o → b < B.w.heap.size) :
    Inv B (g.drop D) env E tmps (w.putObj D (.deferred none)) := by
  have hother : ∀ b, b ≠ D → (w.putObj D (.deferred none)).heap[b]? = w.heap[b]? := fun b hb => World.putObj_heap_other hb
  have hblk : ∀ (c : Chunk) i b, c.own (g.drop D) i b = c.own g i b := fun c i b => by cases c <;> rfl
  have hne : ∀ i b, (getE E i).own g i b → b ≠ D := fun i b hb e => by subst e; rw [h.sim.dphi i b hb] at hp; cases hp
  have hsat : ∀ i, (getE E i).sat (g.drop D) i (w.putObj D (.deferred none)) := fun i => by
    have hf : ∀ v u, isRef v = true → R g v u → R (g.drop D) (id v) u := fun v u _ hr => hr.drop hp
    have := Chunk.sat_mapA (g := g) (g' := g.drop D) (i := i) (j := i) (w' := w.putObj D (.deferred none)) id (fun _ _ _ h => h.drop hp) hf rfl rfl rfl rfl rfl rfl (fun h => h) (fun b hb => hother b (hne i b hb)) (h.sim.sat i)
    rwa [mapC_id] at this
  refine ⟨fun t => (h.er t).drop hp, ⟨h.sim.len, fun b o hb => ?_, hsat, fun i j b hi hj => ?_, fun i b hi => ?_⟩, ⟨h.ext.os, h.ext.tape, ⟨h.ext.output.o, h.ext.output.d⟩, by rw [World.putObj_size]; exact h.ext.size, fun b h1 h2 => ?_, fun b o hb => ?_, fun b o hb => ?_, fun i b hi => ?_, h.ext.n, h.ext.ids, h.ext.kk, h.ext.kin, h.ext.idw, h.ext.idm⟩⟩
  · have hb : (if b = D then none else g.Φ b) = some o := hb
    split at hb
    · cases hb
    · rw [hother b ‹_›]; exact h.sim.phi b o hb
  · rw [hblk] at hi hj; exact h.sim.dis i j b hi hj
  · rw [hblk] at hi
    show (if b = D then none else g.Φ b) = none
    split
    · rfl
    · exact h.sim.dphi i b hi
  · rw [hother b (by omega)]; exact h.ext.keep b h1 h2
  · have := hB b o hb
    show (if b = D then none else g.Φ b) = some o
    rw [if_neg (by omega)]; exact h.ext.phi b o hb
  · have hb : (if b = D then none else g.Φ b) = some o := hb
    split at hb
    · cases hb
    · exact h.ext.phin b o hb
  · rw [hblk] at hi; exact h.ext.own i b hi
theorem unmarks {P : Program} {B : Base} {fn : Func} {env : Env} {E : List Chunk} {tmps : Array Value} {Rr : Ending → World → Prop} (hB : ∀ b o, B.g.Φ b = some o → b < B.w.heap.size)
    (hR : ∀ g w, Inv B g env E tmps w → ∃ v, (results fn tmps).run P w = .ok v w ∧ Rr (.returned v) w) : ∀ (Ds : List Nat) (g : Gh) (w : World), Inv B g env E tmps w → Ds.Nodup → (∀ D ∈ Ds, B.w.heap.size ≤ D ∧ g.Φ D = some (.deferred (some []))) →
    LeavesInM (Fr none) 0 P fn tmps Rr (Ds.map (fun D => { target := .collected D, args := #[] })) .returning w
  | [], g, w, h, _, _ => hR g w h
  | D :: Ds, g, w, h, hn, hD => by
    obtain ⟨h1, h2⟩ := hD D (List.mem_cons_self ..)
    have hn' := List.nodup_cons.1 hn
    refine ⟨by simp, .inl ⟨D, _, rfl, run_takeDeferred (h.sim.phi D _ h2), ?_⟩⟩
    refine unmarks hB hR Ds _ _ (h.unmark h1 h2 hB) hn'.2 (fun D' hD' => ?_)
    obtain ⟨h3, h4⟩ := hD D' (List.mem_cons_of_mem _ hD')
    refine ⟨h3, ?_⟩
    show (if D' = D then none else g.Φ D') = _
    rw [if_neg (fun e : D' = D => hn'.1 (by rw [← e]; exact hD'))]; exact h4
theorem wpIn_loop_ghost {F : Fence} {m : Nat} {P : Program} {Q : Exit → Act → World → Prop} {a : Act} {w : World} {c : Code} (I : Nat → Act → World → Prop) (n₀ : Nat) (h₀ : I n₀ a w)
    (round : ∀ n a w, I n a w → c.wpIn F m P (Exit.then (fun a' w' => ∃ n', n' < n ∧ I n' a' w') Q) a w) : (Code.loop c).wpIn F m P Q a w := by
  refine wpIn_loop (fun a w => ∃ n, I n a w) (fun a w => leastOf (fun n => I n a w)) ⟨n₀, h₀⟩ ?_
  intro a w hI
  refine Go.wpIn_mono (round _ a w (leastOf_spec hI).1) ?_
  intro e a' w' hq
  cases e with
  | normal =>
    obtain ⟨n', hlt, hI'⟩ := hq
    exact show (∃ n, I n a' w') ∧ leastOf (fun n => I n a' w') < leastOf (fun n => I n a w) from ⟨⟨n', hI'⟩, Nat.lt_of_le_of_lt ((leastOf_spec ⟨n', hI'⟩).2 n' hI') hlt⟩
  | exit id => exact hq
  | goto l => exact hq
  | ret => exact hq
  | panic ch => exact hq
  | outgrown => exact hq
/-- A loop, by an invariant: 'x' tells where it stands. -/
theorem LoopN.intro {P : Program} {N : Nat} {M : List Bool} {S : Sc} {body : Code} {env : Env} {E : List Chunk} {K : Ex → Env → List Chunk → Prop} (hm : P.follows .mixedOrders = true) {X : Type} (inv : X → Prop) (μ : X → Nat) (st : X → Env) (ch : X → List Chunk)
    (x0 : X) (π0 : List Nat) (hle : Le M π0 env E (st x0) (ch x0)) (h0 : inv x0)
    (round : ∀ x, inv x → fEnv (st x) fun env => fEE (ch x) fun E => sCode P N S M body env E fun e env' E' => match e with
      | .normal => ∃ x', ∃ π, Le M π env' E' (st x') (ch x') ∧ inv x' ∧ μ x' < μ x
      | .ret => K .ret env' E' | .exit n => K (.exit n) env' E') : LoopN P N S M body env E K where
  h := by
    intro r g a w hr hM h hN
    refine wpIn_loop_ghost (fun n a w => ∃ x g, inv x ∧ μ x = n ∧ Iv S g (st x) (ch x) a w ∧ a.tmps.size = N) (μ x0) ⟨x0, g.ren π0, h0, rfl, h.ren hM hle, hN⟩ ?_
    rintro n a w ⟨x, g, hi, rfl, h, hN⟩
    have hr0 := round x hi
    rw [fEnv_eq, fEE_eq] at hr0
    refine Go.wpIn_mono (sCode_ok hm hM body r hr h hN hr0) ?_
    rintro e a' w' ⟨e', g', env', E', rfl, h1, h3, h4⟩
    cases e' with
    | normal =>
      obtain ⟨x', π, hle', hi', hlt⟩ := h4
      exact ⟨μ x', hlt, x', g'.ren π, hi', rfl, h1.ren hM hle', h3⟩
    | ret => exact ⟨.ret, g', env', E', rfl, h1, h3, h4⟩
    | exit n => exact ⟨.exit n, g', env', E', rfl, h1, h3, h4⟩

/-- A contract: of arguments 'args' with chunks 'E', f answers 'res y' and leaves 'out y', for some y of which Q. -/
structure Meets (P : Program) (f : FuncId) (args : List AV) (E : List Chunk) {Y : Type} (Q : Y → Prop) (res : Y → AV) (out : Y → List Chunk) : Prop where
  callable : Callable P f
  h : ∀ (g : Gh) (w : World) (vals : List Value), Sim g E w → RL g args vals →
    Calls P f vals.toArray w (fun e w' => ∃ y c g', Q y ∧ e = .returned c ∧ R g' (res y) c ∧ Sim g' (out y) w' ∧ Ext ⟨g, E, w⟩ g' (out y) w')

/-- What is handed back. -/
structure RetN (M : List Bool) (env : Env) (E : List Chunk) (l : List AV) {Y : Type} (Q : Y → Prop) (res : Y → List AV) (out : Y → List Chunk) : Prop where
  h : ∀ (B : Base) (g : Gh) (tmps : Array Value) (w : World) (cs : List Value), cellsL B.E = M → Inv B g env E tmps w → RL g l cs →
    ∃ y g', Q y ∧ RL g' (res y) cs ∧ Sim g' (out y) w ∧ Ext B g' (out y) w
theorem RetN.intro {M : List Bool} {env : Env} {E : List Chunk} {l : List AV} {Y : Type} {Q : Y → Prop} {res : Y → List AV} {out : Y → List Chunk} (y : Y) (π : List Nat) (hn : nodupB π = true) (hh : headB M 0 π = true) (hE : LeE π E π (out y)) (hl : LeL π l (res y)) (hq : Q y) :
    RetN M env E l Q res out where
  h := by
    intro B g tmps w cs hM h hr
    have := h.ren (env' := []) trivial hE hn (by rw [hM]; exact hh)
    exact ⟨y, g.ren π, hq, LeL_ok _ _ _ hl hr, this.sim, this.ext⟩
theorem RetN.frz {M : List Bool} {env : Env} {E : List Chunk} {l : List AV} {Y : Type} {Q : Y → Prop} {res : Y → List AV} {out : Y → List Chunk} (i : Nat) (h : Fw.frz i [] E l fun env' E' l' => RetN M env' E' l' Q res out) : RetN M env E l Q res out where
  h := by
    intro B g tmps w cs hM hI hr
    have hI' : Inv B g [] E tmps w := ⟨fun t => .undef _, hI.sim, hI.ext⟩
    obtain ⟨g', env', E', cs', h1, h2, h3⟩ := frz_ok hI' hr h
    exact h3.h B g' tmps w cs hM h1 h2

def one : List AV → AV
  | [v] => v | l => .tup l
section
variable (P : Program)
def resVs (env : Env) (E : List Chunk) : List ResultVar → (List AV → Prop) → Prop
  | [], K => K []
  | .tmp t :: r, K => resVs env E r fun l => fV (look env t) fun v => K (v :: l)
  | .cell a t :: r, K => atP E (look env a) fun cs g => ldC P t cs g fun v => resVs env E r fun l => K (v :: l)
def argEnv : Nat → List AV → Env
  | _, [] => [] | k, v :: r => (k, v) :: argEnv (k + 1) r
end

section
variable {P : Program}
theorem RL.cons {g : Gh} {v : AV} {u : Value} {cs : List AV} {us : List Value} (h : R g v u) (h' : RL g cs us) : RL g (v :: cs) (u :: us) := ⟨h, h'⟩
theorem resVs_ok {g : Gh} {env : Env} {E : List Chunk} {tmps : Array Value} {w : World} (hS : Sim g E w) (hE : ER g env tmps) (f : ResultVar → Sem Value)
    (ht : ∀ t, f (.tmp t) = pure (tmps.getD t Go.undef)) (hc : ∀ a t, f (.cell a t) = do loadVar t (← asAddr (tmps.getD a Go.undef))) : ∀ (rs : List ResultVar) (K : List AV → Prop), resVs P env E rs K →
    ∃ l cs, (rs.mapM f).run P w = .ok cs w ∧ RL g l cs ∧ K l
  | [], K, h => ⟨[], [], by simp, trivial, h⟩
  | .tmp t :: r, K, h => by
    obtain ⟨l, cs, h1, h2, h3⟩ := resVs_ok hS hE f ht hc r _ h
    rw [fV_eq] at h3
    exact ⟨_, tmps.getD t Go.undef :: cs, by simp [List.mapM_cons, ht, h1], RL.cons (hE t) h2, h3⟩
  | .cell a t :: r, K, h => by
    simp only [resVs] at h
    obtain ⟨cs, n, us, A, h1, h2, h3, h4⟩ := atP_cells hS (hE a) h
    obtain ⟨v, u, h5, h6, h7⟩ := ldC_load h4 h2 h3
    obtain ⟨l, ws, h8, h9, h10⟩ := resVs_ok hS hE f ht hc r _ h7
    exact ⟨_, u :: ws, by simp [List.mapM_cons, hc, h1, asAddr, h5, h8], RL.cons h6 h9, h10⟩
theorem one_ok {g : Gh} {l : List AV} {cs : List Value} (h : RL g l cs) : R g (one l) (if h : cs.toArray.size = 1 then cs.toArray[0] else .tuple cs.toArray) := by
  match l, cs, h with
  | [], [], h => exact R.mkTup h
  | [v], [u], h => exact h.1
  | v :: v' :: l, u :: u' :: cs, h => 
    rw [dif_neg (by simp)]
    exact R.mkTup h
theorem results_ok {g : Gh} {env : Env} {E : List Chunk} {tmps : Array Value} {w : World} (hS : Sim g E w) (hE : ER g env tmps) {fn : Func} {K : List AV → Prop} (h : resVs P env E fn.results.toList K) :
    ∃ l cs, (results fn tmps).run P w = .ok (if h : cs.toArray.size = 1 then cs.toArray[0] else .tuple cs.toArray) w ∧ RL g l cs ∧ K l := by
  obtain ⟨l, cs, h1, h2, h3⟩ := resVs_ok (P := P) hS hE (fun rv => match rv with | .tmp t => pure (tmps.getD t Go.undef) | .cell a t => do loadVar t (← asAddr (tmps.getD a Go.undef))) (fun t => rfl) (fun a t => rfl) _ _ h
  refine ⟨l, cs, ?_, h2, h3⟩
  unfold results
  rw [Array.mapM_eq_mapM_toList]
  simp only [Sem.run_bind, Sem.run_map]
  erw [h1]
  rfl

theorem argEnv_ok {g : Gh} {f : Nat → Value} : ∀ (k : Nat) (args : List AV) (vals : List Value), RL g args vals → (∀ j u, vals[j]? = some u → f (k + j) = u) → ∀ t, R g (look (argEnv k args) t) (f t)
  | _, [], _, _, _, t => .undef _
  | k, v :: r, [], h, _, _ => h.elim
  | k, v :: r, u :: us, h, hf, t => by
    simp only [argEnv, look]
    split
    · rename_i hb
      have := Nat.eq_of_beq_eq_true hb
      subst this
      have := hf 0 u rfl
      simp at this
      rw [this]; exact h.1
    · exact argEnv_ok (k + 1) r us h.2 (fun j u hj => by rw [← hf (j + 1) u (by simpa using hj)]; congr 1; omega) t

def lof : AV → List AV
  | .tup l => l | v => [v]
theorem Meets.intro (hm : P.follows .mixedOrders = true) {f : FuncId} {fn : Func} {c : Code} {args : List AV} {E : List Chunk} {Y : Type} {Q : Y → Prop} {res : Y → AV} {out : Y → List Chunk}
    (hf : P.funcs[f]? = some fn) (hb : fn.body = some c) (hname : fn.name ≠ "runtime.NumGoroutine") (hn : args.length ≤ fn.ntmps) (hres : ∀ y, one (lof (res y)) = res y)
    (h : ∀ S : Sc, S.ok = true → fEnv (argEnv 0 args) fun env => fEE E fun E₁ => fBL (cellsL E) fun M => sCode P fn.ntmps S M c env E₁ fun e env' E' => match e with
      | .exit _ => False
      | _ => resVs P env' E' fn.results.toList fun l => RetN M env' E' l Q (fun y => lof (res y)) out) : Meets P f args E Q res out where
  callable := ⟨fn, hf, by rw [hb]; rfl, hname⟩
  h := by
    intro g w vals hS hr
    have hl := hr.length
    have hlt : ∀ b o, g.Φ b = some o → b < w.heap.size := fun b o hb => lt_heap (hS.phi b o hb)
    obtain ⟨S, hS1, hS2, hS3⟩ : ∃ S : Sc, (∀ B, S.at_ B ↔ ∃ Φ, B = ⟨{ g with Φ := Φ }, E, w⟩ ∧ (∀ b o, g.Φ b = some o → Φ b = some o) ∧ (∀ b o, Φ b = some o → g.Φ b = some o ∨ w.heap.size ≤ b)) ∧ S.b0 = w.heap.size ∧ S.ok = true := by
      refine ⟨⟨fun B => ∃ Φ, B = ⟨{ g with Φ := Φ }, E, w⟩ ∧ (∀ b o, g.Φ b = some o → Φ b = some o) ∧ (∀ b o, Φ b = some o → g.Φ b = some o ∨ w.heap.size ≤ b), w.heap.size, true, fun _ B hB => ?_, fun _ B D hB hD => ?_⟩, fun B => Iff.rfl, rfl, rfl⟩
      · obtain ⟨Φ, rfl, _⟩ := hB; exact Nat.le_refl _
      · obtain ⟨Φ, rfl, h1, h2⟩ := hB
        refine ⟨_, rfl, fun b o hb => ?_, fun b o hb => ?_⟩
        · show (if b = D then some (.deferred (some [])) else Φ b) = some o
          rw [if_neg (by have := hlt b o hb; omega)]; exact h1 b o hb
        · have hb2 : (if b = D then some (.deferred (some [])) else Φ b) = some o := hb
          split at hb2
          · rename_i e; rw [e]; exact .inr hD
          · exact h2 b o hb2
    have h := h S hS3
    rw [fEnv_eq, fEE_eq, fBL_eq] at h
    refine callsIn_Fr.1 (callsIn_of_wp_marks (F := Fr none) (n := 0) hf hb trivial ?_)
    have hI : Inv ⟨g, E, w⟩ g (argEnv 0 args) E (vals.toArray ++ Array.replicate (fn.ntmps - vals.toArray.size) Go.undef) w := by
      refine ⟨argEnv_ok 0 args vals hr (fun j u hj => ?_), hS, ⟨rfl, rfl, Outs.refl _, Nat.le_refl _, fun _ _ _ => rfl, fun _ _ h => h, fun _ _ h => .inl h, fun i b h => .inr ⟨i, h⟩, Nat.le_of_eq hS.len, fun _ _ => ⟨rfl, rfl, rfl⟩, rfl, fun i T' t xs h1 h2 => (by rw [h2] at h1; cases h1), fun _ _ _ _ => rfl, fun _ _ => Nat.le_refl _⟩⟩
      have hj' := (List.getElem?_eq_some_iff.1 hj).1
      rw [Array.getD_eq_getD_getElem?, Array.getElem?_append_left (by simpa using hj')]
      simp [hj]
    have hIv : Iv S g (argEnv 0 args) E { tmps := vals.toArray ++ Array.replicate (fn.ntmps - vals.toArray.size) Go.undef, defers := [] } w :=
      ⟨⟨g, E, w⟩, (hS1 _).2 ⟨g.Φ, rfl, fun _ _ h => h, fun _ _ h => .inl h⟩, hI, fun _ => rfl, [], rfl, List.nodup_nil, by simp⟩
    have hw := sCode_ok (S := S) hm (fun B hB => by obtain ⟨_, rfl, _⟩ := (hS1 B).1 hB; rfl) c none (.inl rfl) hIv (by simp; omega) h
    refine Go.wpIn_mono hw ?_
    rintro x a w' ⟨e, g', env', E', rfl, ⟨B1, hB1, h1, _, Ds, hds, hnd, hDs⟩, h3, h4⟩
    obtain ⟨Φ, rfl, hp1, hp2⟩ := (hS1 _).1 hB1
    have hbk : ∀ c i b, Chunk.own { g with Φ := Φ } i c b = Chunk.own g i c b := fun c i b => by cases c <;> rfl
    have how : ∀ b, (⟨{ g with Φ := Φ }, E, w⟩ : Base).owns b → (⟨g, E, w⟩ : Base).owns b := fun b ⟨i, hi⟩ => ⟨i, (hbk _ _ _).mp hi⟩
    have how' : ∀ b, (⟨g, E, w⟩ : Base).owns b → (⟨{ g with Φ := Φ }, E, w⟩ : Base).owns b := fun b ⟨i, hi⟩ => ⟨i, (hbk _ _ _).mpr hi⟩
    have hx := h1.ext
    have h1' : Inv ⟨g, E, w⟩ g' env' E' a.tmps w' := ⟨h1.er, h1.sim, ⟨hx.os, hx.tape, hx.output, hx.size, fun b h2 h3 => hx.keep b h2 (fun ho => h3 (how b ho)), fun b o hb => hx.phi b o (hp1 b o hb), fun b o hb => by
      rcases hx.phin b o hb with h2 | h2 | h2
      · rcases hp2 b o h2 with h3 | h3
        · exact .inl h3
        · exact .inr (.inl h3)
      · exact .inr (.inl h2)
      · exact .inr (.inr (how b h2)), fun i b hi => (hx.own i b hi).imp id (how b), hx.n, hx.ids, hx.kk, hx.kin, hx.idw, hx.idm⟩⟩
    have fin : resVs P env' E' fn.results.toList (fun l => RetN (cellsL E) env' E' l Q (fun y => lof (res y)) out) →
        LeavesInM (Fr none) 0 P fn a.tmps (fun e w' => ∃ y c g', Q y ∧ e = .returned c ∧ R g' (res y) c ∧ Sim g' (out y) w' ∧ Ext ⟨g, E, w⟩ g' (out y) w') a.defers .returning w' := by
      intro h4
      rw [hds]
      refine unmarks (env := env') (E := E') (B := ⟨g, E, w⟩) hlt (fun g1 w1 hI1 => ?_) Ds g' w' h1' hnd (fun D hD => ?_)
      · obtain ⟨l, cs, h5, h6, h7⟩ := results_ok hI1.sim hI1.er h4
        obtain ⟨y, g'', h8, h9, h10, h11⟩ := h7.h _ g1 a.tmps w1 cs rfl hI1 h6
        exact ⟨_, h5, y, _, g'', h8, rfl, by rw [← hres y]; exact one_ok h9, h10, h11⟩
      · obtain ⟨h5, h6⟩ := hDs D hD
        rw [hS2] at h5
        exact ⟨h5, hx.phi D _ h6⟩
    cases e with
    | normal => exact fin h4
    | ret => exact fin h4
    | exit n => exact h4.elim
end
end Go.Proofs.Ytafcenlbllmahaa.Fw
set_option linter.unusedVariables false
set_option linter.unusedSimpArgs false
namespace Go.Proofs.Ytafcenlbllmahaa.Fw
open Go Go.RowKit

/-- The callee's number j, in the caller. -/
def renI (π : List Nat) (n j : Nat) : Nat := match nth π j with | some i => i | none => n + (j - π.length)
def renF (π : List Nat) (n : Nat) : AV → AV
  | .ptr j o => .ptr (renI π n j) o | .eptr j s x o => .eptr (renI π n j) s x o | .vec j s o m => .vec (renI π n j) s o m | .mp j => .mp (renI π n j) | .hp j f => .hp (renI π n j) f | .hm j f => .hm (renI π n j) f | v => v
def inB : List Nat → Nat → Bool
  | [], _ => false | p :: r, i => match Nat.beq p i with | true => true | false => inB r i
def badB : List Nat → List Chunk → Nat → Bool
  | p :: r, c :: s, i => (match Nat.beq p i with | true => (match fixB c with | true => false | false => true) | false => badB r s i) | _, _, _ => false
/-- What the caller still knows of what it handed over. -/
def calF (π : List Nat) (E₀ : List Chunk) : AV → AV
  | .ptr i o => (match badB π E₀ i with | true => .undef | false => .ptr i o)
  | .eptr i s x o => (match badB π E₀ i with | true => .undef | false => .eptr i s x o)
  | .vec i s o n => (match badB π E₀ i with | true => .undef | false => .vec i s o n)
  | .mp i => (match badB π E₀ i with | true => .undef | false => .mp i)
  | .hp i f => (match badB π E₀ i with | true => .undef | false => .hp i f)
  | .hm i f => (match badB π E₀ i with | true => .undef | false => .hm i f)
  | v => v
def merE (f : AV → AV) : List Nat → List Chunk → List Chunk → List Chunk
  | p :: r, c :: s, E => merE f r s (setE E p (mapC f c)) | [], c :: s, E => merE f [] s (addE E (mapC f c)) | _, [], E => E
def allK : List Chunk → Bool
  | [] => true | .none :: _ => false | .count _ :: _ => false | _ :: r => allK r

theorem inB_iff {π : List Nat} {i : Nat} : inB π i = true ↔ i ∈ π := by
  induction π with
  | nil => simp [inB]
  | cons p r ih =>
    simp only [inB]
    split
    · rename_i h; have := Nat.eq_of_beq_eq_true h; subst this; simp
    · rename_i h; rw [ih]; constructor
      · intro h'; exact List.mem_cons_of_mem _ h'
      · intro h'; rcases List.mem_cons.1 h' with rfl | h'
        · simp at h
        · exact h'
theorem allK_at : ∀ {E : List Chunk}, allK E = true → ∀ j, j < lenE E → getE E j ≠ .none ∧ ∀ k, getE E j ≠ .count k
  | [], _, j, h => by simp [lenE] at h
  | c :: r, h, 0, _ => by
    cases c <;> simp [allK] at h
    · simp [getE]
    · simp [getE]
    · simp [getE]
    · simp [getE]
    · simp [getE]
    · simp [getE]
  | c :: r, h, j + 1, hj => by
    cases c <;> simp [allK] at h
    · exact allK_at h j (by simp [lenE] at hj; omega)
    · exact allK_at h j (by simp [lenE] at hj; omega)
    · exact allK_at h j (by simp [lenE] at hj; omega)
    · exact allK_at h j (by simp [lenE] at hj; omega)
    · exact allK_at h j (by simp [lenE] at hj; omega)
    · exact allK_at h j (by simp [lenE] at hj; omega)
theorem badB_at {E₀ : List Chunk} : ∀ {π : List Nat} {E₀ : List Chunk} {j i : Nat}, nodupB π = true → π[j]? = some i → j < lenE E₀ → badB π E₀ i = false → fixB (getE E₀ j) = true
  | [], _, j, i, _, h, _, _ => by simp at h
  | p :: r, [], j, i, _, h, hj, _ => by simp [lenE] at hj
  | p :: r, c :: s, 0, i, _, h, hj, hb => by
    simp at h; subst h
    simp only [badB, Nat.beq_refl] at hb
    cases hf : fixB c <;> simp [hf] at hb
    exact hf
  | p :: r, c :: s, j + 1, i, hn, h, hj, hb => by
    have hne : Nat.beq p i = false := by
      cases hbq : Nat.beq p i with
      | false => rfl
      | true =>
        have := Nat.eq_of_beq_eq_true hbq
        subst this
        have := nodupB_ok hn 0 (j + 1) p rfl h
        cases this
    simp only [badB, hne] at hb
    have hn' : nodupB r = true := by
      simp only [nodupB] at hn
      split at hn
      · cases hn
      · exact hn
    have h2 : lenE (c :: s) = lenE s + 1 := rfl
    show fixB (getE s j) = true
    exact @badB_at E₀ r s j i hn' (by simpa using h) (by omega) hb

theorem merE_nil (f : AV → AV) : ∀ (out E : List Chunk) (i : Nat), getE (merE f [] out E) i = if i < lenE E then getE E i else mapC f (getE out (i - lenE E))
  | [], E, i => by
    simp only [merE]
    split
    · rfl
    · rw [getE_ge E i (by omega)]; simp [getE, mapC]
  | c :: s, E, i => by
    simp only [merE]
    rw [merE_nil f s, lenE_add, getE_add]
    rcases Nat.lt_trichotomy i (lenE E) with h | h | h
    · simp [h, Nat.lt_succ_of_lt h, Nat.ne_of_lt h]
    · subst h; simp [getE]
    · have h1 : ¬ i < lenE E + 1 := by omega
      have h2 : ¬ i < lenE E := by omega
      simp only [h1, h2, if_false]
      have : i - lenE E = (i - (lenE E + 1)) + 1 := by omega
      rw [this]; rfl
theorem merE_len (f : AV → AV) : ∀ (π : List Nat) (out E : List Chunk), lenE (merE f π out E) = lenE E + (lenE out - π.length)
  | _ :: r, c :: s, E => by simp [merE, merE_len f r s, lenE_set, lenE]
  | [], c :: s, E => by simp [merE, merE_len f [] s, lenE_add, lenE]; omega
  | [], [], E => by simp [merE, lenE]
  | _ :: _, [], E => by simp [merE, lenE]
theorem merE_out (f : AV → AV) : ∀ (π : List Nat) (out E : List Chunk) (i : Nat), π.length ≤ lenE out → i ∉ π → getE (merE f π out E) i = if i < lenE E then getE E i else mapC f (getE out (π.length + (i - lenE E)))
  | [], out, E, i, _, _ => by rw [merE_nil]; simp
  | p :: r, [], E, i, h, _ => by simp [lenE] at h
  | p :: r, c :: s, E, i, h, hi => by
    simp only [merE]
    rw [merE_out f r s _ i (by simp [lenE] at h; omega) (fun h' => hi (List.mem_cons_of_mem _ h')), lenE_set, getE_set]
    have : ¬ (p = i ∧ p < lenE E) := fun h => hi (by rw [h.1]; exact List.mem_cons_self ..)
    rw [if_neg this]
    simp only [List.length_cons]
    have e : r.length + 1 + (i - lenE E) = (r.length + (i - lenE E)) + 1 := by omega
    rw [e]; rfl
theorem merE_in (f : AV → AV) : ∀ (π : List Nat) (out E : List Chunk) (i j : Nat), π.length ≤ lenE out → nodupB π = true → (∀ p ∈ π, p < lenE E) → π[j]? = some i → getE (merE f π out E) i = mapC f (getE out j)
  | [], out, E, i, j, _, _, _, h => by simp at h
  | p :: r, [], E, i, j, h, _, _, _ => by simp [lenE] at h
  | p :: r, c :: s, E, i, j, h, hn, hp, hj => by
    simp only [merE]
    have hn' : nodupB r = true ∧ p ∉ r := by
      simp only [nodupB] at hn
      split at hn
      · cases hn
      · rename_i ha
        refine ⟨hn, fun hm => ?_⟩
        have : r.any (Nat.beq p) = true := List.any_eq_true.2 ⟨p, hm, Nat.beq_refl p⟩
        rw [this] at ha; cases ha
    have hl : r.length ≤ lenE s := by simp [lenE] at h; omega
    cases j with
    | zero =>
      simp at hj; subst hj
      have hpE := hp p (List.mem_cons_self ..)
      rw [merE_out f r s _ p hl hn'.2, lenE_set, if_pos hpE, getE_set, if_pos ⟨rfl, hpE⟩]
      rfl
    | succ j =>
      have := merE_in f r s (setE E p (mapC f c)) i j hl hn'.1 (fun q hq => by rw [lenE_set]; exact hp q (List.mem_cons_of_mem _ hq)) (by simpa using hj)
      rw [this]; rfl

/-- Two ghosts joined. -/
def jn {α : Type} (π : List Nat) (n : Nat) (a b : Nat → α) (i : Nat) : α := match π.idxOf? i with | some j => b j | none => if i < n then a i else b (π.length + (i - n))
def Gh.join (g g' : Gh) (π : List Nat) : Gh := { n := g.n + (g'.n - π.length), Φ := g'.Φ, B := jn π g.n g.B g'.B, V := jn π g.n g.V g'.V, L := jn π g.n g.L g'.L, k := g.k, W := jn π g.n g.W g'.W, M := jn π g.n g.M g'.M }
theorem idxOf_at {π : List Nat} {i j : Nat} (hn : nodupB π = true) (h : π[j]? = some i) : π.idxOf? i = some j := by
  cases hx : π.idxOf? i with
  | none =>
    have := List.idxOf?_eq_none_iff.1 hx
    exact (this (List.mem_iff_getElem?.2 ⟨j, h⟩)).elim
  | some k =>
    have hk : π[k]? = some i := by
      have := List.findIdx?_eq_some_iff_getElem.1 hx
      obtain ⟨h1, h2, _⟩ := this
      rw [List.getElem?_eq_getElem h1]
      simpa using h2
    rw [nodupB_ok hn j k i h hk]
theorem jn_in {α : Type} {π : List Nat} {n i j : Nat} {a b : Nat → α} (hn : nodupB π = true) (h : π[j]? = some i) : jn π n a b i = b j := by simp [jn, idxOf_at hn h]
theorem idxOf_out {π : List Nat} {i : Nat} (h : i ∉ π) : π.idxOf? i = none := List.idxOf?_eq_none_iff.2 h
theorem jn_out {α : Type} {π : List Nat} {n i : Nat} {a b : Nat → α} (h : i ∉ π) (hi : i < n) : jn π n a b i = a i := by simp [jn, idxOf_out h, hi]
theorem jn_new {α : Type} {π : List Nat} {n i : Nat} {a b : Nat → α} (h : i ∉ π) (hi : n ≤ i) : jn π n a b i = b (π.length + (i - n)) := by simp [jn, idxOf_out h, Nat.not_lt.2 hi]
theorem renI_in {π : List Nat} {n j i : Nat} (h : π[j]? = some i) : renI π n j = i := by simp [renI, nth_eq, h]
theorem renI_new {π : List Nat} {n j : Nat} (h : π.length ≤ j) : renI π n j = n + (j - π.length) := by simp [renI, nth_eq, h]
theorem jn_ren {α : Type} {π : List Nat} {n j : Nat} {a b : Nat → α} (hn : nodupB π = true) (hp : ∀ p ∈ π, p < n) : jn π n a b (renI π n j) = b j := by
  by_cases h : j < π.length
  · have h' := List.getElem?_eq_getElem h
    rw [renI_in h', jn_in hn h']
  · rw [renI_new (by omega), jn_new (fun hm => by have := hp _ hm; omega) (by omega)]
    congr 1; omega
theorem renI_lt {π : List Nat} {n m j : Nat} (hp : ∀ p ∈ π, p < n) (hj : j < m) : renI π n j < n + (m - π.length) := by
  by_cases h : j < π.length
  · have h' := List.getElem?_eq_getElem h
    rw [renI_in h']
    have := hp _ (List.getElem_mem h)
    omega
  · rw [renI_new (by omega)]; omega

theorem Chunk.own_at {g g' : Gh} {i j b : Nat} {c : Chunk} (hB : g'.B j = g.B i) (hV : g'.V j = g.V i) (hW : g'.W j = g.W i) (hM : g'.M j = g.M i) : c.own g' j b = c.own g i b := by
  cases c with
  | none => rfl
  | count => rfl
  | cells => simp [Chunk.own, hB]
  | vect => simp [Chunk.own, hB, hV]
  | smp => simp [Chunk.own, hB]
  | row => simp [Chunk.own, hB, hV]
  | heap => simp [Chunk.own, hW, hM]
  | mit => simp [Chunk.own, hB]
theorem Chunk.own_atS {g g' : Gh} {i j b : Nat} {c : Chunk} (h : oneB c = true) (hB : g'.B j = g.B i) (hV : g'.V j = g.V i) : c.own g' j b = c.own g i b := by
  cases c with
  | none => rfl
  | count => rfl
  | cells => simp [Chunk.own, hB]
  | vect => simp [Chunk.own, hB, hV]
  | smp => simp [Chunk.own, hB]
  | row => simp [Chunk.own, hB, hV]
  | heap => cases h
  | mit => simp [Chunk.own, hB]
theorem renF_ok {g g' : Gh} {π : List Nat} (hn : nodupB π = true) (hp : ∀ p ∈ π, p < g.n) : ∀ v u, isRef v = true → R g' v u → R (g.join g' π) (renF π g.n v) u := by
  intro v u hv hr
  have eB : ∀ j, (g.join g' π).B (renI π g.n j) = g'.B j := fun j => jn_ren hn hp
  have eV : ∀ j, (g.join g' π).V (renI π g.n j) = g'.V j := fun j => jn_ren hn hp
  have eL : ∀ j, (g.join g' π).L (renI π g.n j) = g'.L j := fun j => jn_ren hn hp
  have eW : ∀ j, (g.join g' π).W (renI π g.n j) = g'.W j := fun j => jn_ren hn hp
  have eM : ∀ j, (g.join g' π).M (renI π g.n j) = g'.M j := fun j => jn_ren hn hp
  cases hr <;> first | (cases hv; done) | skip
  · rename_i j off hj
    simp only [renF]
    rw [← eB j]
    exact .ptr _ _ (renI_lt hp hj)
  · rename_i j sz idx off hj hL
    simp only [renF]
    rw [← eB j]
    exact .eptr _ _ _ _ (renI_lt hp hj) (by rw [eL]; exact hL)
  · rename_i j sz off n A c hj hL hnn hs
    simp only [renF]
    exact .vec _ _ _ _ A c (renI_lt hp hj) (by rw [eL]; exact hL) (by rw [eV]; exact hnn) (by rw [eV, eB]; exact hs)
  · rename_i j hj
    simp only [renF]
    rw [← eB j]
    exact .mp _ (renI_lt hp hj)
  · rename_i j f hj hf
    simp only [renF]
    rw [← eW j]
    exact .hp _ _ (renI_lt hp hj) (by rw [eM]; exact hf)
  · rename_i j f hj hf
    simp only [renF]
    rw [← eW j]
    exact .hm _ _ (renI_lt hp hj) (by rw [eM]; exact hf)
end Go.Proofs.Ytafcenlbllmahaa.Fw
set_option linter.unusedVariables false
set_option linter.unusedSimpArgs false
namespace Go.Proofs.Ytafcenlbllmahaa.Fw
open Go Go.RowKit

theorem LeC_none {π : List Nat} {c : Chunk} (h : LeC π .none c) : c = .none := by
  cases c <;> simp only [LeC] at h <;> first | rfl | exact h.elim

theorem Inv.join {B : Base} {g g' : Gh} {env : Env} {E E₀ out : List Chunk} {tmps : Array Value} {w w' : World} {π : List Nat} (h : Inv B g env E tmps w) (hn : nodupB π = true) (hk : allK E₀ = true) (hE : LeE π E π E₀)
    (hs : Sim g' out w') (hx : Ext ⟨g.ren π, E₀, w⟩ g' out w') :
    Inv B (g.join g' π) (mapEnv (calF π E₀) env) (merE (renF π (lenE E)) π out (mapE (calF π E₀) E)) tmps w' ∧ ∀ v u, R g' v u → R (g.join g' π) (mapV (renF π (lenE E)) v) u := by
  have hlen := h.sim.len
  have hl₀ : lenE E₀ = π.length := LeE_len π E₀ hE
  have hlout : π.length ≤ lenE out := by have := hx.n; have := hs.len; simp only at *; omega
  have hat : ∀ j i, π[j]? = some i → LeC π (getE E i) (getE E₀ j) ∧ getE E₀ j ≠ .none := by
    intro j i hj
    have hjl : j < lenE E₀ := by rw [hl₀]; exact (List.getElem?_eq_some_iff.1 hj).1
    have hne := (allK_at hk j hjl).1
    rcases LeE_at π E₀ hE j with ⟨i', hi', hc⟩ | hc
    · rw [hj] at hi'; cases hi'; exact ⟨hc, hne⟩
    · exact (hne hc).elim
  have hat' : ∀ j i, π[j]? = some i → ∀ k, getE E₀ j ≠ .count k := fun j i hj => (allK_at hk j (by rw [hl₀]; exact (List.getElem?_eq_some_iff.1 hj).1)).2
  have hp : ∀ p ∈ π, p < lenE E := by
    intro p hp
    obtain ⟨j, hj⟩ := List.mem_iff_getElem?.1 hp
    obtain ⟨h1, h2⟩ := hat j p hj
    exact getE_lt (fun e => by rw [e] at h1; exact h2 (LeC_none h1))
  have hpg : ∀ p ∈ π, p < g.n := fun p hq => by rw [← hlen]; exact hp p hq
  have hren := renF_ok (g := g) (g' := g') hn hpg
  rw [← hlen] at hren
  have eB : ∀ j, (g.join g' π).B (renI π g.n j) = g'.B j := fun j => jn_ren hn hpg
  have eV : ∀ j, (g.join g' π).V (renI π g.n j) = g'.V j := fun j => jn_ren hn hpg
  have eL : ∀ j, (g.join g' π).L (renI π g.n j) = g'.L j := fun j => jn_ren hn hpg
  have oB : ∀ i, i ∉ π → i < g.n → (g.join g' π).B i = g.B i := fun i h1 h2 => jn_out h1 h2
  have oV : ∀ i, i ∉ π → i < g.n → (g.join g' π).V i = g.V i := fun i h1 h2 => jn_out h1 h2
  have oL : ∀ i, i ∉ π → i < g.n → (g.join g' π).L i = g.L i := fun i h1 h2 => jn_out h1 h2
  have eW : ∀ j, (g.join g' π).W (renI π g.n j) = g'.W j := fun j => jn_ren hn hpg
  have eM : ∀ j, (g.join g' π).M (renI π g.n j) = g'.M j := fun j => jn_ren hn hpg
  have oW : ∀ i, i ∉ π → i < g.n → (g.join g' π).W i = g.W i := fun i h1 h2 => jn_out h1 h2
  have oM : ∀ i, i ∉ π → i < g.n → (g.join g' π).M i = g.M i := fun i h1 h2 => jn_out h1 h2
  have hΦ : ∀ b o, g.Φ b = some o → (g.join g' π).Φ b = some o := fun b o hb => hx.phi b o hb
  have idk : ∀ j, fixB (getE E₀ j) = true → ∀ i, π[j]? = some i → (g.join g' π).B i = g.B i ∧ (g.join g' π).V i = g.V i ∧ (g.join g' π).L i = g.L i := by
    intro j hc i hj
    have h1 := hx.ids j hc
    have h2 : (g.join g' π).B i = g'.B j := by have := eB j; rwa [renI_in hj] at this
    have h3 : (g.join g' π).V i = g'.V j := by have := eV j; rwa [renI_in hj] at this
    have h4 : (g.join g' π).L i = g'.L j := by have := eL j; rwa [renI_in hj] at this
    rw [h2, h3, h4, h1.1, h1.2.1, h1.2.2]
    exact ren_at g hj
  have idkW : ∀ j, fixB (getE E₀ j) = true → ∀ i, π[j]? = some i → (∀ k, k < g.M i → (g.join g' π).W i k = g.W i k) ∧ g.M i ≤ (g.join g' π).M i := by
    intro j hc i hj
    have h2 : (g.join g' π).W i = g'.W j := by have := eW j; rwa [renI_in hj] at this
    have h3 : (g.join g' π).M i = g'.M j := by have := eM j; rwa [renI_in hj] at this
    have hr := ren_W g hj
    refine ⟨fun k hk => ?_, ?_⟩
    · rw [h2, hx.idw j k hc (by show k < (g.ren π).M j; rw [hr.2]; exact hk)]
      show (g.ren π).W j k = _
      rw [hr.1]
    · rw [h3, ← hr.2]; exact hx.idm j hc
  have hgn : (g.join g' π).n = g.n + (g'.n - π.length) := rfl
  have hfix : ∀ i j, π[j]? = some i → fixB (getE B.E i) = true → fixB (getE E₀ j) = true := by
    intro i j hj hi
    obtain ⟨h1, h2⟩ := hat j i hj
    cases hc : getE E₀ j with
    | none => exact (h2 hc).elim
    | count k => exact ((hat' j i hj) k hc).elim
    | cells _ _ => rfl
    | smp _ _ _ => rfl
    | row _ _ _ => rfl
    | heap _ => rfl
    | mit _ _ _ _ => rfl
    | vect _ _ _ =>
      rw [hc] at h1
      cases hg : getE E i <;> rw [hg] at h1 <;> first | exact h1.elim | exact (h.ext.kin i _ _ _ hi hg).elim
  have hcal : ∀ v u, isRef v = true → R g v u → R (g.join g' π) (calF π E₀ v) u := by
    intro v u hv hr
    have stay : ∀ i, i < g.n → badB π E₀ i = false → (g.join g' π).B i = g.B i ∧ (g.join g' π).V i = g.V i ∧ (g.join g' π).L i = g.L i := by
      intro i hi hb
      by_cases hm : i ∈ π
      · obtain ⟨j, hj⟩ := List.mem_iff_getElem?.1 hm
        exact idk j (badB_at (E₀ := E₀) hn hj (by rw [hl₀]; exact (List.getElem?_eq_some_iff.1 hj).1) hb) i hj
      · exact ⟨oB i hm hi, oV i hm hi, oL i hm hi⟩
    have stayW : ∀ i, i < g.n → badB π E₀ i = false → (∀ k, k < g.M i → (g.join g' π).W i k = g.W i k) ∧ g.M i ≤ (g.join g' π).M i := by
      intro i hi hb
      by_cases hm : i ∈ π
      · obtain ⟨j, hj⟩ := List.mem_iff_getElem?.1 hm
        exact idkW j (badB_at (E₀ := E₀) hn hj (by rw [hl₀]; exact (List.getElem?_eq_some_iff.1 hj).1) hb) i hj
      · exact ⟨fun k _ => by rw [oW i hm hi], by rw [oM i hm hi]; exact Nat.le_refl _⟩
    cases hr <;> first | (cases hv; done) | skip
    · rename_i i off hi
      simp only [calF]
      split
      · exact .undef _
      · rename_i hb
        rw [← (stay i hi hb).1]
        exact .ptr _ _ (by rw [hgn]; omega)
    · rename_i i sz idx off hi hL
      simp only [calF]
      split
      · exact .undef _
      · rename_i hb
        rw [← (stay i hi hb).1]
        exact .eptr _ _ _ _ (by rw [hgn]; omega) (by rw [(stay i hi hb).2.2]; exact hL)
    · rename_i i sz off n A c hi hL hnn hss
      simp only [calF]
      split
      · exact .undef _
      · rename_i hb
        exact .vec _ _ _ _ A c (by rw [hgn]; omega) (by rw [(stay i hi hb).2.2]; exact hL) (by rw [(stay i hi hb).2.1]; exact hnn) (by rw [(stay i hi hb).2.1, (stay i hi hb).1]; exact hss)
    · rename_i i hi
      simp only [calF]
      split
      · exact .undef _
      · rename_i hb
        rw [← (stay i hi hb).1]
        exact .mp _ (by rw [hgn]; omega)
    · rename_i i f hi hf
      simp only [calF]
      split
      · exact .undef _
      · rename_i hb
        have hst := stayW i hi hb
        have := R.hp (g := g.join g' π) i f (by rw [hgn]; omega) (fun x hx => Nat.lt_of_lt_of_le (hf x hx) hst.2)
        cases hfx : f () with
        | none => rw [hfx] at this; exact this
        | some x => rw [hfx] at this; simp only [Option.map_some] at this ⊢; rw [← hst.1 x.1 (hf x hfx)]; exact this
    · rename_i i f hi hf
      simp only [calF]
      split
      · exact .undef _
      · rename_i hb
        have hst := stayW i hi hb
        rw [← hst.1 _ hf]
        exact .hm (g := g.join g' π) i f (by rw [hgn]; omega) (Nat.lt_of_lt_of_le hf hst.2)
  -- the chunks
  have gin : ∀ i j, π[j]? = some i → getE (merE (renF π (lenE E)) π out (mapE (calF π E₀) E)) i = mapC (renF π (lenE E)) (getE out j) := fun i j hj =>
    merE_in _ π out _ i j hlout hn (fun p hq => by rw [lenE_mapE]; exact hp p hq) hj
  have gout : ∀ i, i ∉ π → i < lenE E → getE (merE (renF π (lenE E)) π out (mapE (calF π E₀) E)) i = mapC (calF π E₀) (getE E i) := fun i hm hi => by
    rw [merE_out _ π out _ i hlout hm, lenE_mapE, if_pos hi, getE_mapE]
  have gnew : ∀ i, lenE E ≤ i → getE (merE (renF π (lenE E)) π out (mapE (calF π E₀) E)) i = mapC (renF π (lenE E)) (getE out (π.length + (i - lenE E))) := fun i hi => by
    rw [merE_out _ π out _ i hlout (fun hm => by have := hp i hm; omega), lenE_mapE, if_neg (by omega)]
  -- each chunk is one of the callee's or one of the caller's
  have key : ∀ i, (∃ j, i = renI π (lenE E) j ∧ getE (merE (renF π (lenE E)) π out (mapE (calF π E₀) E)) i = mapC (renF π (lenE E)) (getE out j) ∧ ((π[j]? = some i ∧ i < lenE E) ∨ (lenE E ≤ i ∧ π.length ≤ j))) ∨
      (i ∉ π ∧ i < lenE E ∧ getE (merE (renF π (lenE E)) π out (mapE (calF π E₀) E)) i = mapC (calF π E₀) (getE E i)) := by
    intro i
    by_cases hm : i ∈ π
    · obtain ⟨j, hj⟩ := List.mem_iff_getElem?.1 hm
      exact .inl ⟨j, (renI_in hj).symm, gin i j hj, .inl ⟨hj, hp i hm⟩⟩
    · rcases Nat.lt_or_ge i (lenE E) with hi | hi
      · exact .inr ⟨hm, hi, gout i hm hi⟩
      · exact .inl ⟨π.length + (i - lenE E), by rw [renI_new (by omega)]; omega, gnew i hi, .inr ⟨hi, by omega⟩⟩
  have eB' : ∀ j, (g.join g' π).B (renI π (lenE E) j) = g'.B j := by rw [hlen]; exact eB
  have eV' : ∀ j, (g.join g' π).V (renI π (lenE E) j) = g'.V j := by rw [hlen]; exact eV
  have eL' : ∀ j, (g.join g' π).L (renI π (lenE E) j) = g'.L j := by rw [hlen]; exact eL
  have eW' : ∀ j, (g.join g' π).W (renI π (lenE E) j) = g'.W j := by rw [hlen]; exact eW
  have eM' : ∀ j, (g.join g' π).M (renI π (lenE E) j) = g'.M j := by rw [hlen]; exact eM
  have hrl : ∀ j, j < g'.n → renI π (lenE E) j < (g.join g' π).n := fun j hj => by rw [hlen]; exact renI_lt hpg hj
  have blkin : ∀ j b, (mapC (renF π (lenE E)) (getE out j)).own (g.join g' π) (renI π (lenE E) j) b → (getE out j).own g' j b := by
    intro j b hb; rw [mapC_own] at hb; rwa [Chunk.own_at (eB' j) (eV' j) (eW' j) (eM' j)] at hb
  have blkout : ∀ i b, i ∉ π → i < lenE E → (mapC (calF π E₀) (getE E i)).own (g.join g' π) i b → (getE E i).own g i b := by
    intro i b hm hi hb; rw [mapC_own] at hb; rwa [Chunk.own_at (oB i hm (by omega)) (oV i hm (by omega)) (oW i hm (by omega)) (oM i hm (by omega))] at hb
  have owns : ∀ b, (⟨g.ren π, E₀, w⟩ : Base).owns b → ∃ i ∈ π, (getE E i).own g i b := by
    rintro b ⟨j, hj⟩
    have hjl : j < lenE E₀ := own_lt hj
    have hj' : π[j]? = some (π[j]'(by omega)) := List.getElem?_eq_getElem (by omega)
    exact ⟨_, List.getElem_mem _, LeC_blk hj' _ _ (hat _ _ hj').1 hj⟩
  have keepb : ∀ i b, i ∉ π → (getE E i).own g i b → w'.heap[b]? = w.heap[b]? := by
    intro i b hm hb
    refine hx.keep b (sat_lt (h.sim.sat i) hb) (fun ho => ?_)
    obtain ⟨i', hi', hb'⟩ := owns b ho
    have := h.sim.dis i i' b hb hb'
    subst this
    exact hm hi'
  have ownout : ∀ j b, (getE out j).own g' j b → w.heap.size ≤ b ∨ ∃ i ∈ π, (getE E i).own g i b := by
    intro j b hb
    rcases hx.own j b hb with h1 | h1
    · exact .inl h1
    · exact .inr (owns b h1)
  have ownB : ∀ b, (w.heap.size ≤ b ∨ ∃ i ∈ π, (getE E i).own g i b) → B.w.heap.size ≤ b ∨ B.owns b := by
    rintro b (h1 | ⟨i, _, h1⟩)
    · exact .inl (Nat.le_trans h.ext.size h1)
    · exact h.ext.own i b h1
  refine ⟨⟨fun t => ?_, ⟨?_, hs.phi, fun i => ?_, fun i k b hi hk => ?_, fun i b hi => ?_⟩, ⟨hx.os.trans h.ext.os, hx.tape.trans h.ext.tape, hx.output.trans h.ext.output, Nat.le_trans h.ext.size hx.size, fun b h1 h2 => ?_, fun b o hb => hΦ b o (h.ext.phi b o hb), fun b o hb => ?_, fun i b hi => ?_, ?_, fun i hi => ?_, h.ext.kk, fun i T' t xs hi hv => ?_, fun i k hi hk => ?_, fun i hi => ?_⟩⟩, fun v u hr => R.map (g := g') (g' := g.join g' π) (renF π (lenE E)) (fun _ _ h => h) hren hr⟩
  · rw [look_mapEnv]; exact (h.er t).map _ hΦ hcal
  · rw [merE_len, lenE_mapE, hgn, ← hlen, hs.len]
  · rcases key i with ⟨j, hij, hg, _⟩ | ⟨hm, hi, hg⟩
    · rw [hg, hij]
      exact Chunk.sat_map (g := g') (g' := g.join g' π) _ (fun _ _ h => h) hren (eB' j) (eV' j) (eL' j) hx.kk.symm (eW' j) (eM' j) (hrl j) (fun _ _ => rfl) (hs.sat j)
    · rw [hg]
      exact Chunk.sat_map (g := g) (g' := g.join g' π) _ hΦ hcal (oB i hm (by omega)) (oV i hm (by omega)) (oL i hm (by omega)) rfl (oW i hm (by omega)) (oM i hm (by omega)) (fun h => by rw [hgn]; omega) (fun b hb => keepb i b hm hb) (h.sim.sat i)
  · rcases key i with ⟨j, hij, hg, hc⟩ | ⟨hm, hil, hg⟩ <;> rcases key k with ⟨j', hij', hg', hc'⟩ | ⟨hm', hil', hg'⟩
    · rw [hg, hij] at hi
      rw [hg', hij'] at hk
      have := hs.dis j j' b (blkin j b hi) (blkin j' b hk)
      rw [hij, hij', this]
    · rw [hg, hij] at hi
      rw [hg'] at hk
      have h2 := blkout k b hm' hil' hk
      rcases ownout j b (blkin j b hi) with h3 | ⟨i', hi', h3⟩
      · have := sat_lt (h.sim.sat k) h2; omega
      · have := h.sim.dis k i' b h2 h3
        subst this; exact (hm' hi').elim
    · rw [hg] at hi
      rw [hg', hij'] at hk
      have h2 := blkout i b hm hil hi
      rcases ownout j' b (blkin j' b hk) with h3 | ⟨i', hi', h3⟩
      · have := sat_lt (h.sim.sat i) h2; omega
      · have := h.sim.dis i i' b h2 h3
        subst this; exact (hm hi').elim
    · rw [hg] at hi
      rw [hg'] at hk
      exact h.sim.dis i k b (blkout i b hm hil hi) (blkout k b hm' hil' hk)
  · show g'.Φ b = none
    rcases key i with ⟨j, hij, hg, hc⟩ | ⟨hm, hil, hg⟩
    · rw [hg, hij] at hi
      exact hs.dphi j b (blkin j b hi)
    · rw [hg] at hi
      have h2 := blkout i b hm hil hi
      cases hf : g'.Φ b with
      | none => rfl
      | some o =>
        rcases hx.phin b o hf with h3 | h3 | h3
        · have : g.Φ b = some o := h3
          rw [h.sim.dphi i b h2] at this; cases this
        · have := sat_lt (h.sim.sat i) h2
          exact absurd h3 (by simp only; omega)
        · obtain ⟨i', hi', h4⟩ := owns b h3
          have := h.sim.dis i i' b h2 h4
          subst this; exact (hm hi').elim
  · have hno : ¬ (⟨g.ren π, E₀, w⟩ : Base).owns b := fun ho => by
      obtain ⟨i', hi', h4⟩ := owns b ho
      rcases h.ext.own i' b h4 with h5 | h5
      · omega
      · exact h2 h5
    rw [hx.keep b (Nat.lt_of_lt_of_le h1 h.ext.size) hno]; exact h.ext.keep b h1 h2
  · rcases hx.phin b o hb with h3 | h3 | h3
    · exact h.ext.phin b o h3
    · exact .inr (.inl (Nat.le_trans h.ext.size h3))
    · obtain ⟨i', hi', h4⟩ := owns b h3
      exact .inr (h.ext.own i' b h4)
  · rcases key i with ⟨j, hij, hg, hc⟩ | ⟨hm, hil, hg⟩
    · rw [hg, hij] at hi
      exact ownB b (ownout j b (blkin j b hi))
    · rw [hg] at hi
      exact h.ext.own i b (blkout i b hm hil hi)
  · rw [hgn]; have := h.ext.n; omega
  · have hil : i < g.n := Nat.lt_of_lt_of_le (fix_lt hi) h.ext.n
    by_cases hm : i ∈ π
    · obtain ⟨j, hj⟩ := List.mem_iff_getElem?.1 hm
      have k1 := idk j (hfix i j hj hi) i hj
      rw [k1.1, k1.2.1, k1.2.2]; exact h.ext.ids i hi
    · rw [oB i hm hil, oV i hm hil, oL i hm hil]; exact h.ext.ids i hi
  · have hil : i < lenE E := by rw [hlen]; exact Nat.lt_of_lt_of_le (fix_lt hi) h.ext.n
    by_cases hm : i ∈ π
    · obtain ⟨j, hj⟩ := List.mem_iff_getElem?.1 hm
      rw [gin i j hj] at hv
      cases ho : getE out j <;> rw [ho] at hv <;> first | (cases hv; done) | exact hx.kin j _ _ _ (hfix i j hj hi) ho
    · rw [gout i hm hil] at hv
      cases hg : getE E i <;> rw [hg] at hv <;> first | (cases hv; done) | exact h.ext.kin i _ _ _ hi hg
  · have hil : i < g.n := Nat.lt_of_lt_of_le (fix_lt hi) h.ext.n
    by_cases hm : i ∈ π
    · obtain ⟨j, hj⟩ := List.mem_iff_getElem?.1 hm
      rw [(idkW j (hfix i j hj hi) i hj).1 k (Nat.lt_of_lt_of_le hk (h.ext.idm i hi))]; exact h.ext.idw i k hi hk
    · rw [oW i hm hil]; exact h.ext.idw i k hi hk
  · have hil : i < g.n := Nat.lt_of_lt_of_le (fix_lt hi) h.ext.n
    by_cases hm : i ∈ π
    · obtain ⟨j, hj⟩ := List.mem_iff_getElem?.1 hm
      exact Nat.le_trans (h.ext.idm i hi) (idkW j (hfix i j hj hi) i hj).2
    · rw [oM i hm hil]; exact h.ext.idm i hi

theorem CallN.intro {P : Program} {f : FuncId} {args args₀ : List AV} {env : Env} {E E₀ : List Chunk} {K : AV → Env → List Chunk → Prop} {Y : Type} {Q : Y → Prop} {res : Y → AV} {out : Y → List Chunk}
    (hs : Meets P f args₀ E₀ Q res out) (π : List Nat) (hn : nodupB π = true) (hk : allK E₀ = true) (ha : LeL π args args₀) (hE : LeE π E π E₀)
    (k : ∀ y, Q y → fV (mapV (renF π (lenE E)) (res y)) fun r => fEnv (mapEnv (calF π E₀) env) fun env' => fEE (merE (renF π (lenE E)) π (out y) (mapE (calF π E₀) E)) fun E' => K r env' E') : CallN P f args env E K where
  callable := hs.callable
  h := by
    intro B g tmps w vals h hr
    refine (hs.h (g.ren π) w vals (h.sim.ren hE hn) (LeL_ok _ _ _ ha hr)).mono ?_
    rintro e w' ⟨y, c, g', hq, rfl, h1, h2, h3⟩
    obtain ⟨h4, h5⟩ := h.join hn hk hE h2 h3
    have hk' := k y hq
    rw [fV_eq, fEnv_eq, fEE_eq] at hk'
    exact ⟨c, _, _, _, _, rfl, h4, h5 _ _ h1, hk'⟩
end Go.Proofs.Ytafcenlbllmahaa.Fw
set_option linter.unusedVariables false
set_option linter.unusedSimpArgs false
namespace Go.Proofs.Ytafcenlbllmahaa.Fw
open Go Go.RowKit

def frzCF (i : Nat) (cs : List AV) : AV → AV
  | .ptr j o => (match Nat.beq j i with | true => .cptr cs o | false => .ptr j o)
  | .eptr j s x o => (match Nat.beq j i with | true => .undef | false => .eptr j s x o)
  | .vec j s o n => (match Nat.beq j i with | true => .undef | false => .vec j s o n)
  | .mp j => (match Nat.beq j i with | true => .undef | false => .mp j)
  | .hp j f => (match Nat.beq j i with | true => .undef | false => .hp j f)
  | .hm j f => (match Nat.beq j i with | true => .undef | false => .hm j f)
  | v => v
/-- Let chunks rest, one behind the other. -/
def frzT : List Nat → Env → List Chunk → (Env → List Chunk → Prop) → Prop
  | [], env, E, K => K env E
  | i :: r, env, E, K => match getE E i with
    | .vect T t xs => fEnv (mapEnv (frzF i t xs) env) fun env => fEE (mapE (frzF i t xs) (setE E i .none)) fun E => frzT r env E K
    | .cells T cs => fEnv (mapEnv (frzCF i cs) env) fun env => fEE (mapE (frzCF i cs) (setE E i .none)) fun E => frzT r env E K
    | _ => False

def kd : Chunk → Nat
  | .none => 0 | .cells _ _ => 1 | .vect _ _ _ => 2 | .count _ => 3 | .smp _ _ _ => 4 | .row _ _ _ => 5 | .heap _ => 6 | .mit _ _ _ _ => 7
theorem kd_map (f : AV → AV) (c : Chunk) : kd (mapC f c) = kd c := by cases c <;> rfl
theorem kd_own {c d : Chunk} (h : kd c = kd d) (g : Gh) (i b : Nat) : c.own g i b = d.own g i b := by
  cases c <;> cases d <;> first | rfl | (simp [kd] at h; done)
/-- Two ghosts, alike but for what rests. -/
structure Gh.like (g g' : Gh) : Prop where
  n : g'.n = g.n
  B : g'.B = g.B
  V : g'.V = g.V
  L : g'.L = g.L
  k : g'.k = g.k
  W : g'.W = g.W
  M : g'.M = g.M
theorem Gh.like.own {g g' : Gh} (h : g.like g') (c : Chunk) (i b : Nat) : c.own g' i b = c.own g i b := Chunk.own_at (by rw [h.B]) (by rw [h.V]) (by rw [h.W]) (by rw [h.M])
theorem Gh.like.trans {a b c : Gh} (h : a.like b) (h' : b.like c) : a.like c := ⟨h'.n.trans h.n, h'.B.trans h.B, h'.V.trans h.V, h'.L.trans h.L, h'.k.trans h.k, h'.W.trans h.W, h'.M.trans h.M⟩

theorem Inv.start {g : Gh} {env : Env} {E : List Chunk} {tmps : Array Value} {w : World} (hS : Sim g E w) (hE : ER g env tmps) : Inv ⟨g, E, w⟩ g env E tmps w :=
  ⟨hE, hS, ⟨rfl, rfl, Outs.refl _, Nat.le_refl _, fun _ _ _ => rfl, fun _ _ h => h, fun _ _ h => .inl h, fun i b h => .inr ⟨i, h⟩, Nat.le_of_eq hS.len, fun _ _ => ⟨rfl, rfl, rfl⟩, rfl, fun i T' t xs h1 h2 => (by rw [h2] at h1; cases h1), fun _ _ _ _ => rfl, fun _ _ => Nat.le_refl _⟩⟩

theorem frz1_cells {g : Gh} {env : Env} {E : List Chunk} {tmps : Array Value} {w : World} {i : Nat} {T : TypeId} {cs : List AV} (hS : Sim g E w) (hE : ER g env tmps) (hc : getE E i = .cells T cs) :
    ∃ g', Sim g' (mapE (frzCF i cs) (setE E i .none)) w ∧ ER g' (mapEnv (frzCF i cs) env) tmps ∧ g.like g' ∧ (∀ b o, g.Φ b = some o → g'.Φ b = some o) ∧ (∀ b o, g'.Φ b = some o → g.Φ b = some o ∨ (getE E i).own g i b) ∧ (∀ b, (getE E i).own g i b → ∃ o, g'.Φ b = some o) := by
  have hs := hS.sat i
  rw [hc] at hs
  obtain ⟨vs, hb, hrl⟩ := hs
  have hblk : (getE E i).own g i (g.B i) := by rw [hc]; rfl
  have hi : i < lenE E := own_lt hblk
  let g' : Gh := { g with Φ := fun b => if b = g.B i then w.heap[g.B i]? else g.Φ b }
  have hΦ : ∀ b o, g.Φ b = some o → g'.Φ b = some o := by
    intro b o hb
    show (if b = g.B i then w.heap[g.B i]? else g.Φ b) = some o
    rw [if_neg (fun e => by subst e; rw [hS.dphi i _ hblk] at hb; cases hb)]; exact hb
  have hleaf : ∀ v u, isRef v = true → R g v u → R g' (frzCF i cs v) u := by
    intro v u hv hr
    cases hr <;> first | (cases hv; done) | skip
    · rename_i j off hj
      simp only [frzCF]; split
      · rename_i hji
        have hji := Nat.eq_of_beq_eq_true hji
        subst hji
        have hx : ∀ (k : Nat) (y : AV), cs[k]? = some y → ∃ u, vs[k]? = some u ∧ R g y u := fun k y hy => by
          obtain ⟨u, h1, h2⟩ := hrl.get hy
          exact ⟨u, by simpa using h1, h2⟩
        have := R.cptr (g := g') cs off (g.B j) 0 (fun k => vs.getD k Go.undef) (fun k y hy => ?_) (fun k y hy => ?_)
        · simpa using this
        · obtain ⟨u, h1, h2⟩ := hx k y hy
          refine ⟨_, _, vs, T, (0, 0), rfl, ?_, by simp [h1, Array.getD_eq_getD_getElem?]⟩
          show (if g.B j = g.B j then w.heap[g.B j]? else g.Φ (g.B j)) = _
          rw [if_pos rfl]; exact hb
        · obtain ⟨u, h1, h2⟩ := hx k y hy
          have e : vs.getD k Go.undef = u := by simp [h1, Array.getD_eq_getD_getElem?]
          simp only [e]
          have := R.map (g := g) (g' := g') id hΦ (fun v u hv h => ?_) h2
          · rwa [mapV_id] at this
          · cases h <;> first | (cases hv; done) | skip
            · exact .ptr (g := g') _ _ ‹_›
            · exact .eptr (g := g') _ _ _ _ ‹_› ‹_›
            · rename_i hi hL hn hs
              exact .vec (g := g') _ _ _ _ _ _ hi hL hn hs
            · exact .mp (g := g') _ ‹_›
            · rename_i hi hf
              exact .hp (g := g') _ _ hi hf
            · rename_i hi hf
              exact .hm (g := g') _ _ hi hf
      · exact .ptr (g := g') j off hj
    · rename_i j sz idx off hj hL
      simp only [frzCF]; split
      · exact .undef _
      · exact .eptr (g := g') j sz idx off hj hL
    · rename_i j s o n A c hj hL hn hs'
      simp only [frzCF]; split
      · exact .undef _
      · exact .vec (g := g') j s o n A c hj hL hn hs'
    · rename_i j hj
      simp only [frzCF]; split
      · exact .undef _
      · exact .mp (g := g') j hj
    · rename_i j f hj hf
      simp only [frzCF]; split
      · exact .undef _
      · exact .hp (g := g') j f hj hf
    · rename_i j f hj hf
      simp only [frzCF]; split
      · exact .undef _
      · exact .hm (g := g') j f hj hf
  have hget : ∀ j, getE (mapE (frzCF i cs) (setE E i .none)) j = if i = j then .none else mapC (frzCF i cs) (getE E j) := by
    intro j
    rw [getE_mapE, getE_set]
    by_cases hij : i = j
    · subst hij; simp [hi, mapC]
    · simp [hij]
  have hbk : ∀ j b, (getE (mapE (frzCF i cs) (setE E i .none)) j).own g' j b → i ≠ j ∧ (getE E j).own g j b := by
    intro j b hj
    rw [hget] at hj
    split at hj
    · cases hj
    · rename_i hij
      rw [mapC_own] at hj
      exact ⟨hij, hj⟩
  refine ⟨g', ⟨by rw [lenE_mapE, lenE_set]; exact hS.len, fun b o hb' => ?_, fun j => ?_, fun j k b hj hk => hS.dis j k b (hbk j b hj).2 (hbk k b hk).2, fun j b hj => ?_⟩, fun t => ?_, ⟨rfl, rfl, rfl, rfl, rfl, rfl, rfl⟩, hΦ, fun b o hb' => ?_, fun b hb' => ?_⟩
  · have hb2 : (if b = g.B i then w.heap[g.B i]? else g.Φ b) = some o := hb'
    clear hb'
    split at hb2
    · rename_i e; rw [e]; exact hb2
    · exact hS.phi b o hb2
  · rw [hget]
    split
    · trivial
    · exact Chunk.sat_map (g := g) (g' := g') _ hΦ hleaf rfl rfl rfl rfl rfl rfl (fun h => h) (fun _ _ => rfl) (hS.sat j)
  · obtain ⟨h1, h2⟩ := hbk j b hj
    show (if b = g.B i then w.heap[g.B i]? else g.Φ b) = none
    rw [if_neg (fun e => by subst e; exact h1 (hS.dis i j _ hblk h2))]
    exact hS.dphi j b h2
  · rw [look_mapEnv]; exact R.map (g := g) (g' := g') _ hΦ hleaf (hE t)
  · have hb2 : (if b = g.B i then w.heap[g.B i]? else g.Φ b) = some o := hb'
    clear hb'
    split at hb2
    · rename_i e; rw [e]; exact .inr hblk
    · exact .inl hb2
  · rw [hc] at hb'
    cases hb'
    refine ⟨.cells vs T (0, 0), ?_⟩
    show (if g.B i = g.B i then w.heap[g.B i]? else g.Φ (g.B i)) = _
    rw [if_pos rfl]; exact hb

theorem frzT_ok {tmps : Array Value} {w : World} : ∀ (φ : List Nat) {g : Gh} {env : Env} {E : List Chunk} {K : Env → List Chunk → Prop}, Sim g E w → ER g env tmps → frzT φ env E K →
    ∃ g' env' E', Sim g' E' w ∧ ER g' env' tmps ∧ K env' E' ∧ g.like g' ∧ (∀ b o, g.Φ b = some o → g'.Φ b = some o) ∧ (∀ b o, g'.Φ b = some o → g.Φ b = some o ∨ ∃ i ∈ φ, (getE E i).own g i b) ∧
      lenE E' = lenE E ∧ (∀ i, i ∈ φ → getE E' i = .none) ∧ (∀ i, i ∉ φ → kd (getE E' i) = kd (getE E i)) ∧ (∀ i ∈ φ, ∀ b, (getE E i).own g i b → ∃ o, g'.Φ b = some o)
  | [], g, env, E, K, hS, hE, hk => ⟨g, env, E, hS, hE, hk, ⟨rfl, rfl, rfl, rfl, rfl, rfl, rfl⟩, fun _ _ h => h, fun _ _ h => .inl h, rfl, by simp, fun _ _ => rfl, by simp⟩
  | i :: r, g, env, E, K, hS, hE, hk => by
    have go : ∀ (f : AV → AV) (g1 : Gh), Sim g1 (mapE f (setE E i .none)) w → ER g1 (mapEnv f env) tmps → g.like g1 → (∀ b o, g.Φ b = some o → g1.Φ b = some o) → (∀ b o, g1.Φ b = some o → g.Φ b = some o ∨ (getE E i).own g i b) → (∀ b, (getE E i).own g i b → ∃ o, g1.Φ b = some o) →
        frzT r (mapEnv f env) (mapE f (setE E i .none)) K → ∃ g' env' E', Sim g' E' w ∧ ER g' env' tmps ∧ K env' E' ∧ g.like g' ∧ (∀ b o, g.Φ b = some o → g'.Φ b = some o) ∧ (∀ b o, g'.Φ b = some o → g.Φ b = some o ∨ ∃ j ∈ i :: r, (getE E j).own g j b) ∧
          lenE E' = lenE E ∧ (∀ j, j ∈ i :: r → getE E' j = .none) ∧ (∀ j, j ∉ i :: r → kd (getE E' j) = kd (getE E j)) ∧ (∀ j ∈ i :: r, ∀ b, (getE E j).own g j b → ∃ o, g'.Φ b = some o) := by
      intro f g1 h1 h2 h3 h4 h5 h5' h6
      obtain ⟨g', env', E', e1, e2, e3, e4, e5, e6, e7, e8, e9, e10⟩ := frzT_ok r h1 h2 h6
      have hget : ∀ j, getE (mapE f (setE E i .none)) j = .none ∨ (i ≠ j ∧ getE (mapE f (setE E i .none)) j = mapC f (getE E j)) := by
        intro j
        rw [getE_mapE, getE_set]
        by_cases hij : i = j
        · subst hij
          by_cases hl : i < lenE E
          · left; simp [hl, mapC]
          · left; rw [getE_ge E i (by omega)]; simp [mapC]
        · right; exact ⟨hij, by simp [hij]⟩
      refine ⟨g', env', E', e1, e2, e3, h3.trans e4, fun b o hb => e5 b o (h4 b o hb), fun b o hb => ?_, by rw [e7, lenE_mapE, lenE_set], fun j hj => ?_, fun j hj => ?_, fun j hj b hb => ?_⟩
      · rcases e6 b o hb with h7 | ⟨j, hj, h7⟩
        · rcases h5 b o h7 with h8 | h8
          · exact .inl h8
          · exact .inr ⟨i, List.mem_cons_self .., h8⟩
        · rcases hget j with h8 | ⟨_, h8⟩
          · rw [h8] at h7; cases h7
          · rw [h8, mapC_own, h3.own] at h7
            exact .inr ⟨j, List.mem_cons_of_mem _ hj, h7⟩
      · by_cases hjr : j ∈ r
        · exact e8 j hjr
        · rcases List.mem_cons.1 hj with rfl | hj
          · have := e9 j hjr
            rcases hget j with h8 | ⟨h8, _⟩
            · rw [h8] at this
              cases hc : getE E' j <;> rw [hc] at this <;> first | rfl | (simp [kd] at this; done)
            · exact (h8 rfl).elim
          · exact (hjr hj).elim
      · have hj' : i ≠ j ∧ j ∉ r := ⟨fun e => hj (e ▸ List.mem_cons_self ..), fun h => hj (List.mem_cons_of_mem _ h)⟩
        rw [e9 j hj'.2, getE_mapE, getE_set, if_neg (fun h => hj'.1 h.1), kd_map]
      · by_cases hij : i = j
        · subst hij
          obtain ⟨o, ho⟩ := h5' b hb
          exact ⟨o, e5 b o ho⟩
        · rcases List.mem_cons.1 hj with e | hj
          · exact (hij e.symm).elim
          · refine e10 j hj b ?_
            rw [getE_mapE, getE_set, if_neg (fun h => hij h.1), mapC_own, h3.own]; exact hb
    simp only [frzT] at hk
    split at hk <;> try exact hk.elim
    · rename_i T t xs hc
      rw [fEnv_eq, fEE_eq] at hk
      obtain ⟨g1, env1, E1, cs1, h1, _, ⟨rfl, rfl⟩, h3, h4, h5, h6⟩ := frz_ok2 (cs := []) (us := []) (K := fun env' E' _ => env' = mapEnv (frzF i t xs) env ∧ E' = mapE (frzF i t xs) (setE E i .none)) (Inv.start hS hE) trivial (by unfold frz; rw [hc]; simp [fEnv_eq, fEE_eq, fL_eq])
      exact go _ g1 h1.sim h1.er ⟨h3.1, h3.2.1, h3.2.2.1, h3.2.2.2.1, h3.2.2.2.2.1, h3.2.2.2.2.2.1, h3.2.2.2.2.2.2⟩ h4 h5 h6 hk
    · rename_i T cs hc
      rw [fEnv_eq, fEE_eq] at hk
      obtain ⟨g1, h1, h2, h3, h4, h5, h6⟩ := frz1_cells hS hE hc
      exact go _ g1 h1 h2 h3 h4 h5 h6 hk
end Go.Proofs.Ytafcenlbllmahaa.Fw
set_option linter.unusedVariables false
set_option linter.unusedSimpArgs false
namespace Go.Proofs.Ytafcenlbllmahaa.Fw
open Go Go.RowKit

/-- The world, new blocks laid. -/
structure Grown (w w' : World) : Prop where
  os : w'.os = w.os
  tape : w'.tape = w.tape
  output : Outs w w'
  size : w.heap.size ≤ w'.heap.size
  same : ∀ b, b < w.heap.size → w'.heap[b]? = w.heap[b]?
/-- The world, no blocks turned but those of 'own' and new ones. -/
structure Kept (own own' : Nat → Prop) (w w' : World) : Prop where
  os : w'.os = w.os
  tape : w'.tape = w.tape
  output : Outs w w'
  size : w.heap.size ≤ w'.heap.size
  keep : ∀ b, b < w.heap.size → ¬ own b → w'.heap[b]? = w.heap[b]?
  own : ∀ b, own' b → own b ∨ w.heap.size ≤ b
  lt : ∀ b, own' b → b < w'.heap.size

/-- A contract of an iterator: of what it has captured, 'lb', it hands over 'xs', one by one, till it is told no more. -/
structure ItMeets (P : Program) (gf : FuncId) (lb : List AV) {α : Type} (encs : α → List AV) (xs : List α) : Prop where
  callable : Callable P gf
  h : ∀ (g : Gh) (w : World) (vals : List Value) (l : Nat), Sim g [] w → RL g lb vals →
    ∀ (J : Nat → (Nat → Prop) → World → Prop) (Jx : (Nat → Prop) → World → Prop) (own0 : Nat → Prop),
    (∀ k own W W', J k own W → Grown W W' → J k own W') → (∀ own W W', Jx own W → Grown W W' → Jx own W') →
    (∀ b, own0 b → b < w.heap.size ∧ g.Φ b = none) → J 0 own0 w →
    (∀ k x own W us, xs[k]? = some x → J k own W → (∀ b, own b → b < W.heap.size) → (∀ g', RL g' (encs x) us) →
      YieldAt Fence.wide 0 P l us.toArray W (fun e W' => ∃ own', Kept own own' W W' ∧ ((e = .returned (.bool true) ∧ J (k + 1) own' W') ∨ (e = .returned (.bool false) ∧ Jx own' W')))) →
    Calls P gf (.func (.yield l) #[] #[] :: vals).toArray w (fun e W' => (∃ v, e = .returned v) ∧ ((∃ own, J xs.length own W') ∨ ∃ own, Jx own W'))

theorem Gh.likeR {g g' : Gh} (hn : g'.n = g.n) (hB : g'.B = g.B) (hV : g'.V = g.V) (hL : g'.L = g.L) (hW : g'.W = g.W) (hM : g'.M = g.M) (hΦ : ∀ b o, g.Φ b = some o → g'.Φ b = some o) {v : AV} {u : Value} (h : R g v u) : R g' v u := by
  refine R.mono (g := g) (g' := { n := g.n, Φ := g'.Φ, B := g.B, V := g.V, L := g.L, k := g.k, W := g.W, M := g.M }) ⟨Nat.le_refl _, hΦ, fun _ _ => rfl, fun _ _ => rfl, fun _ _ => rfl, rfl, fun _ _ _ _ => rfl, fun _ _ => Nat.le_refl _⟩ h |> fun h => ?_
  refine R.map (g := { n := g.n, Φ := g'.Φ, B := g.B, V := g.V, L := g.L, k := g.k, W := g.W, M := g.M }) (g' := g') id (fun _ _ h => h) (fun v u hv h => ?_) h |> fun h => by rwa [mapV_id] at h
  cases h <;> first | (cases hv; done) | skip
  · rename_i i off hi
    show R g' (.ptr i off) (.pointer (some ⟨g.B i, off, none⟩))
    rw [← hB]; exact .ptr _ _ (by rw [hn]; exact hi)
  · rename_i i sz idx off hi hL'
    show R g' (.eptr i sz idx off) (.pointer (some ⟨g.B i, _, none⟩))
    rw [← hB]; exact .eptr _ _ _ _ (by rw [hn]; exact hi) (by rw [hL]; exact hL')
  · rename_i i sz off n A c hi hL' hn' hs
    exact .vec _ _ _ _ _ _ (by rw [hn]; exact hi) (by rw [hL]; exact hL') (by rw [hV]; exact hn') (by rw [hV, hB]; exact hs)
  · rename_i i hi
    show R g' (.mp i) (.map (some (g.B i)))
    rw [← hB]; exact .mp _ (by rw [hn]; exact hi)
  · rename_i i f hi hf
    have := R.hp (g := g') i f (by rw [hn]; exact hi) (by rw [hM]; exact hf)
    rw [hW] at this; exact this
  · rename_i i f hi hf
    have := R.hm (g := g') i f (by rw [hn]; exact hi) (by rw [hM]; exact hf)
    rw [hW] at this; exact this

/-- The bases of an iterator's walk. -/
def itAt (N : Nat) (J : Nat → (Nat → Prop) → World → Prop) (Jx : (Nat → Prop) → World → Prop) (B : Base) : Prop :=
  (∃ k, B.E = [.count k]) ∧ ∃ own, (∀ b, own b → b < B.w.heap.size ∧ B.g.Φ b = none) ∧ ((B.g.k ≤ N ∧ J B.g.k own B.w) ∨ (B.g.k = N + 1 ∧ Jx own B.w))

theorem Ext.grown {B : Base} {g : Gh} {E : List Chunk} {w : World} (h : Ext B g E w) (hE : ∃ k, B.E = [.count k]) : Grown B.w w :=
  ⟨h.os, h.tape, h.output, h.size, fun b hb => h.keep b hb (fun ⟨i, hi⟩ => by
    obtain ⟨k, hk⟩ := hE
    rw [hk] at hi
    cases i with
    | zero => cases hi
    | succ i => simp [getE] at hi; cases hi)⟩

theorem refl_ext {g : Gh} {E : List Chunk} {w : World} (hl : lenE E = g.n) : Ext ⟨g, E, w⟩ g E w :=
  ⟨rfl, rfl, Outs.refl _, Nat.le_refl _, fun _ _ _ => rfl, fun _ _ h => h, fun _ _ h => .inl h, fun i b h => .inr ⟨i, h⟩, Nat.le_of_eq hl, fun _ _ => ⟨rfl, rfl, rfl⟩, rfl, fun i T' t xs h1 h2 => (by rw [h2] at h1; cases h1), fun _ _ _ _ => rfl, fun _ _ => Nat.le_refl _⟩

/-- A call of yield within an iterator's walk. -/
theorem YieldN.intro {P : Program} {α : Type} {encs : α → List AV} {xs : List α} {S : Sc} {J : Nat → (Nat → Prop) → World → Prop} {Jx : (Nat → Prop) → World → Prop} {l : Nat}
    (hS : ∀ B, S.at_ B ↔ itAt xs.length J Jx B) (hok : S.ok = false) (hJ : ∀ k own W W', J k own W → Grown W W' → J k own W')
    (flat : ∀ x g g' us, RL g (encs x) us → RL g' (encs x) us)
    (hy : ∀ k x own W us, xs[k]? = some x → J k own W → (∀ b, own b → b < W.heap.size) → (∀ g', RL g' (encs x) us) →
      YieldAt Fence.wide 0 P l us.toArray W (fun e W' => ∃ own', Kept own own' W W' ∧ ((e = .returned (.bool true) ∧ J (k + 1) own' W') ∨ (e = .returned (.bool false) ∧ Jx own' W'))))
    {args : List AV} {env env1 : Env} {E : List Chunk} {K : AV → Env → List Chunk → Prop} (k : Nat) (x : α) (hx : xs[k]? = some x) (ha : LeL [0] args (encs x)) (hle : Le [false] [0] env E env1 [.count fun _ => k])
    (kt : K .tt env1 [.count fun _ => k + 1]) (kf : K .ff env1 [.count fun _ => xs.length + 1]) : YieldN P S l args env E K where
  h := by
    intro g a w vals hI hr
    have hr1 := LeL_ok args (encs x) vals ha hr
    obtain ⟨B, hB, h, hd⟩ := Iv.ren (M := [false]) (fun B hB => by obtain ⟨⟨k, hk⟩, _⟩ := (hS B).1 hB; rw [hk]; rfl) hI hle
    obtain ⟨hE, own, ho, hJ0⟩ := (hS B).1 hB
    have hds : a.defers = [] := hd.1 hok
    generalize hg1 : g.ren [0] = g1 at h hr1
    have hk : k = g1.k := h.sim.sat 0
    have hkB : g1.k = B.g.k := h.ext.kk
    have hxl := (List.getElem?_eq_some_iff.1 hx).1
    have hgr := h.ext.grown hE
    have hJk : J k own w := by
      rcases hJ0 with ⟨_, h1⟩ | ⟨h1, _⟩
      · rw [hk, hkB]; exact hJ _ _ _ _ h1 hgr
      · omega
    have hlt : ∀ b, own b → b < w.heap.size := fun b hb => Nat.lt_of_lt_of_le (ho b hb).1 hgr.size
    obtain ⟨fn, tm, az, body, h1, h2⟩ := hy k x own w vals hx hJk hlt (fun g' => flat x g1 g' vals hr1)
    refine ⟨fn, tm, az, body, h1, h2.mono ?_⟩
    rintro e W' ⟨own', hK, hcase⟩
    have hΦo : ∀ b o, g1.Φ b = some o → ¬ own b ∧ b < w.heap.size := by
      intro b o hb
      refine ⟨fun hob => ?_, lt_heap (h.sim.phi b o hb)⟩
      obtain ⟨h3, h4⟩ := ho b hob
      rcases h.ext.phin b o hb with h5 | h5 | ⟨i, hi⟩
      · rw [h4] at h5; cases h5
      · omega
      · obtain ⟨k', hk'⟩ := hE
        rw [hk'] at hi
        cases i with
        | zero => cases hi
        | succ i => simp [getE] at hi; cases hi
    have new : ∀ (m : Nat), (m ≤ xs.length ∧ J m own' W' ∨ m = xs.length + 1 ∧ Jx own' W') → Iv S { g1 with k := m } env1 [.count fun _ => m] a W' := by
      intro m hm
      have hn1 : g1.n = 1 := h.sim.len.symm
      have hb : ∀ (i b : Nat), ¬ (getE [Chunk.count fun _ => m] i).own { g1 with k := m } i b := fun i b h => by cases i <;> cases h
      have hsim : Sim { g1 with k := m } [.count fun _ => m] W' := by
        refine ⟨hn1.symm, fun b o hbo => ?_, fun i => ?_, fun i j b hi => ?_, fun i b hi => ?_⟩
        · obtain ⟨h3, h4⟩ := hΦo b o hbo
          rw [hK.keep b h4 h3]; exact h.sim.phi b o hbo
        · cases i with
          | zero => rfl
          | succ i => trivial
        · exact (hb _ _ hi).elim
        · exact (hb _ _ hi).elim
      refine ⟨⟨{ g1 with k := m }, [.count fun _ => m], W'⟩, (hS _).2 ⟨⟨_, rfl⟩, own', fun b hbo => ⟨hK.lt b hbo, ?_⟩, hm⟩, ⟨fun t => Gh.likeR (g := g1) (g' := { g1 with k := m }) rfl rfl rfl rfl rfl rfl (fun _ _ h => h) (h.er t), hsim, refl_ext hn1.symm⟩, fun _ => hds, [], hds, List.nodup_nil, by simp⟩
      cases hp : g1.Φ b with
      | none => rfl
      | some o =>
        obtain ⟨h3, h4⟩ := hΦo b o hp
        rcases hK.own b hbo with h5 | h5
        · exact (h3 h5).elim
        · omega
    rcases hcase with ⟨rfl, hj⟩ | ⟨rfl, hj⟩
    · exact ⟨_, .tt, _, _, _, rfl, new (k + 1) (.inl ⟨by omega, hj⟩), .tt, kt⟩
    · exact ⟨_, .ff, _, _, _, rfl, new (xs.length + 1) (.inr ⟨rfl, hj⟩), .ff, kf⟩

theorem ItMeets.intro {P : Program} (hm : P.follows .mixedOrders = true) {gf : FuncId} {fn : Func} {c : Code} {lb : List AV} {α : Type} {encs : α → List AV} {xs : List α}
    (hf : P.funcs[gf]? = some fn) (hb : fn.body = some c) (hname : fn.name ≠ "runtime.NumGoroutine") (hn : (lb.length + 1) ≤ fn.ntmps) (flat : ∀ x g g' us, RL g (encs x) us → RL g' (encs x) us)
    (h : ∀ (S : Sc) (l : Nat), (∀ {args : List AV} {env : Env} {E : List Chunk} {K : AV → Env → List Chunk → Prop} (k : Nat) (x : α) (env1 : Env), xs[k]? = some x → LeL [0] args (encs x) → Le [false] [0] env E env1 [.count fun _ => k] →
        K .tt env1 [.count fun _ => k + 1] → K .ff env1 [.count fun _ => xs.length + 1] → YieldN P S l args env E K) →
      fEnv (argEnv 0 (.fn (.yield l) [] [] :: lb)) fun env => sCode P fn.ntmps S [false] c env [.count fun _ => 0] fun e env' E' => match e with
        | .exit _ => False
        | _ => resVs P env' E' fn.results.toList fun _ => ∃ m, LeE [0] E' [0] [.count fun _ => m] ∧ (m = xs.length ∨ m = xs.length + 1)) : ItMeets P gf lb encs xs where
  callable := ⟨fn, hf, by rw [hb]; rfl, hname⟩
  h := by
    intro g w vals l hS hr J Jx own0 hJ hJx hown h0 hy
    obtain ⟨S, hS1, hok⟩ : ∃ S : Sc, (∀ B, S.at_ B ↔ itAt xs.length J Jx B) ∧ S.ok = false := ⟨⟨itAt xs.length J Jx, 0, false, by simp, by simp⟩, fun _ => Iff.rfl, rfl⟩
    have h := h S l (fun {args env E K} k x env1 hx ha hle kt kf => YieldN.intro hS1 hok hJ flat hy k x hx ha hle kt kf)
    rw [fEnv_eq] at h
    have hl := hr.length
    let g1 : Gh := { g with n := 1, k := 0 }
    have hn0 : g.n = 0 := hS.len.symm
    have hrv : ∀ v u, R g v u → R g1 v u := fun v u h => R.map (g := g) (g' := g1) id (fun _ _ h => h) (fun v u hv h => by
      cases h <;> first | (cases hv; done) | skip
      · rename_i hi; rw [hn0] at hi; omega
      · rename_i hi _; rw [hn0] at hi; omega
      · rename_i hi _ _ _; rw [hn0] at hi; omega
      · rename_i hi; rw [hn0] at hi; omega
      · rename_i hi _; rw [hn0] at hi; omega
      · rename_i hi _; rw [hn0] at hi; omega) h |> fun h => by rwa [mapV_id] at h
    have hrl : ∀ (l : List AV) (us : List Value), RL g l us → RL g1 l us := fun l us h => RL.mk h.length (fun i y u h1 h2 => hrv _ _ (h.at_ i y u h1 h2))
    have hr' : RL g1 (.fn (.yield l) [] [] :: lb) (.func (.yield l) #[] #[] :: vals) := RL.cons (R.mkFn (az := []) (bs := []) (vs := []) (ws := []) trivial trivial) (hrl _ _ hr)
    have hbk : ∀ (i b : Nat), ¬ (getE [Chunk.count fun _ => 0] i).own g1 i b := fun i b h => by cases i <;> cases h
    have hsim : Sim g1 [.count fun _ => 0] w := by
      refine ⟨rfl, hS.phi, fun i => ?_, fun i j b hi => ?_, fun i b hi => ?_⟩
      · cases i with
        | zero => rfl
        | succ i => trivial
      · exact (hbk _ _ hi).elim
      · exact (hbk _ _ hi).elim
    refine callsIn_Fr.1 (callsIn_of_wp_marks (F := Fr none) (n := 0) hf hb trivial ?_)
    have hIv : Iv S g1 (argEnv 0 (.fn (.yield l) [] [] :: lb)) [.count fun _ => 0] { tmps := (.func (.yield l) #[] #[] :: vals).toArray ++ Array.replicate (fn.ntmps - (.func (.yield l) #[] #[] :: vals).toArray.size) Go.undef, defers := [] } w := by
      refine ⟨⟨g1, [.count fun _ => 0], w⟩, (hS1 _).2 ⟨⟨_, rfl⟩, own0, hown, .inl ⟨Nat.zero_le _, h0⟩⟩, ⟨argEnv_ok 0 _ _ hr' (fun j u hj => ?_), hsim, refl_ext rfl⟩, fun _ => rfl, [], rfl, List.nodup_nil, by simp⟩
      have hj' := (List.getElem?_eq_some_iff.1 hj).1
      rw [Array.getD_eq_getD_getElem?, Array.getElem?_append_left (by simpa using hj')]
      simp only [Nat.zero_add, List.getElem?_toArray, hj, Option.getD_some]
    have hw := sCode_ok (S := S) (M := [false]) hm (fun B hB => by obtain ⟨⟨k, hk⟩, _⟩ := (hS1 B).1 hB; rw [hk]; rfl) c none (.inl rfl) hIv (by simp; omega) h
    refine Go.wpIn_mono hw ?_
    rintro x a w' ⟨e, g', env', E', rfl, ⟨B, hB, h1, hd, _⟩, h3, h4⟩
    obtain ⟨hE, own, ho, hJ0⟩ := (hS1 B).1 hB
    have hgr := h1.ext.grown hE
    have fin : resVs P env' E' fn.results.toList (fun _ => ∃ m, LeE [0] E' [0] [.count fun _ => m] ∧ (m = xs.length ∨ m = xs.length + 1)) →
        LeavesInM (Fr none) 0 P fn a.tmps (fun e W' => (∃ v, e = .returned v) ∧ ((∃ own, J xs.length own W') ∨ ∃ own, Jx own W')) a.defers .returning w' := by
      intro h4
      rw [hd hok]
      obtain ⟨l', cs, h5, h6, m, h7, h8⟩ := results_ok h1.sim h1.er h4
      have hk : m = g'.k := LeC_sat (g := g') (π := [0]) (i := 0) (j := 0) (w := w') rfl _ _ h7.1 (h1.sim.sat 0)
      have hkB : g'.k = B.g.k := h1.ext.kk
      refine ⟨_, h5, ⟨_, rfl⟩, ?_⟩
      rcases hJ0 with ⟨h9, h10⟩ | ⟨h9, h10⟩
      · left
        have : B.g.k = xs.length := by omega
        rw [this] at h10
        exact ⟨own, hJ _ _ _ _ h10 hgr⟩
      · exact .inr ⟨own, hJx _ _ _ h10 hgr⟩
    cases e with
    | normal => exact fin h4
    | ret => exact fin h4
    | exit n => exact h4.elim
end Go.Proofs.Ytafcenlbllmahaa.Fw
