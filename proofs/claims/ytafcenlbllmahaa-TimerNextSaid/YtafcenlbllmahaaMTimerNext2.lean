/- The law TimerNext holds at every input that its statement lets in; part 3 of its proof. -/
import Derived.Test.YtafcenlbllmahaaMTimerNext1
import Derived.Test.YtafcenlbllmahaaProg
import Derived.Shelf.SlSortCmp.NoneTotal
import Derived.Shelf.SlLaysF
set_option linter.unusedVariables false
set_option linter.unusedSimpArgs false
namespace Go.Proofs.Ytafcenlbllmahaa.Fw
open Go Go.RowKit

/-- Pointers to cells that stay are kept. -/
def isCells : Chunk → Bool
  | .cells _ _ => true | _ => false
def okF (ch : List Chunk) : AV → AV
  | .ptr i o => (match isCells (getE ch i) with | true => .ptr i o | false => .undef)
  | .eptr _ _ _ _ => .undef | .vec _ _ _ _ => .undef | .mp _ => .undef | .hp _ _ => .undef | .hm _ _ => .undef | v => v
mutual
theorem okF_idem (ch : List Chunk) : ∀ v : AV, mapV (okF ch) (mapV (okF ch) v) = mapV (okF ch) v
  | .agg cs => by simp only [mapV]; rw [okF_idemL ch cs]
  | .tup cs => by simp only [mapV]; rw [okF_idemL ch cs]
  | .cptr cs o => by simp only [mapV]; rw [okF_idemL ch cs]
  | .fn g az bs => by simp only [mapV]; rw [okF_idemL ch az, okF_idemL ch bs]
  | .ifc t v => by simp only [mapV]; rw [okF_idem ch v]
  | .ptr i o => by
    simp only [mapV, okF]
    split
    · rename_i h; simp only [mapV, okF, h]
    · rfl
  | .eptr _ _ _ _ | .vec _ _ _ _ | .mp _ | .hp _ _ | .hm _ _ | .undef | .skip | .int _ _ | .bool _ | .tt | .ff | .str _ | .lst _ _ | .pnil | .iptr _ _ _ | .snil | .fnil | .inil | .mnil => rfl
theorem okF_idemL (ch : List Chunk) : ∀ l : List AV, mapL (okF ch) (mapL (okF ch) l) = mapL (okF ch) l
  | [] => rfl
  | c :: r => by simp only [mapL]; rw [okF_idem ch c, okF_idemL ch r]
end
theorem okF_env (ch : List Chunk) : ∀ env : Env, mapEnv (okF ch) (mapEnv (okF ch) env) = mapEnv (okF ch) env
  | [] => rfl
  | (k, v) :: r => by simp only [mapEnv]; rw [okF_idem ch v, okF_env ch r]
/-- References that stay, in a ghost that knows more. -/
theorem okF_ok {g g' : Gh} {ch : List Chunk} (hn : g.n ≤ g'.n) (hB : ∀ i, isCells (getE ch i) = true → g'.B i = g.B i) : ∀ v u, isRef v = true → R g v u → R g' (okF ch v) u := by
  intro v u hv hr
  cases hr <;> first | (cases hv; done) | skip
  · rename_i i off hi
    simp only [okF]
    split
    · rename_i h; rw [← hB i h]; exact .ptr _ _ (Nat.lt_of_lt_of_le hi hn)
    · exact .undef _
  · exact .undef _
  · exact .undef _
  · exact .undef _
  · exact .undef _
  · exact .undef _
theorem ER.okF {g g' : Gh} {ch : List Chunk} {env : Env} {tmps : Array Value} (h : ER g env tmps) (hn : g.n ≤ g'.n) (hΦ : ∀ b o, g.Φ b = some o → g'.Φ b = some o) (hB : ∀ i, isCells (getE ch i) = true → g'.B i = g.B i) : ER g' (mapEnv (okF ch) env) tmps :=
  fun t => by rw [look_mapEnv]; exact R.map (g := g) (g' := g') _ hΦ (okF_ok hn hB) (h t)

/-- Loop variables laid. -/
def bindP : List Nat → List AV → Env → Env
  | p :: ps, v :: vs, env => bindP ps vs ((p, v) :: env) | _, _, env => env
theorem ER.bindP {g : Gh} : ∀ (ps : List Nat) (vs : List AV) (us : List Value) {env : Env} {tmps : Array Value}, ER g env tmps → RL g vs us → (∀ p ∈ ps, p < tmps.size) → ps.length = vs.length →
    ER g (Fw.bindP ps vs env) ((ps.zip us).foldl (fun t (p, v) => t.setIfInBounds p v) tmps)
  | [], [], [], _, _, h, _, _, _ => h
  | p :: ps, v :: vs, u :: us, env, tmps, h, hr, hp, hl => by
    simp only [Fw.bindP, List.zip_cons_cons, List.foldl_cons]
    exact ER.bindP ps vs us (h.put hr.1 (hp p (List.mem_cons_self ..))) hr.2 (fun q hq => by simpa using hp q (List.mem_cons_of_mem _ hq)) (by simpa using hl)
  | [], [], _ :: _, _, _, _, h, _, _ => h.elim
  | [], _ :: _, _, _, _, _, _, _, h => by simp at h
  | _ :: _, [], _, _, _, _, _, _, h => by simp at h
  | _ :: _, _ :: _, [], _, _, _, h, _, _ => h.elim

/-- Values that lean on no rested block, and lead to nothing but what is live. -/
def actB (ch : List Chunk) (i : Nat) : Bool := match getE ch i with | .cells _ _ => true | .vect _ _ _ => true | _ => false
mutual
def flatV (ch : List Chunk) : AV → Bool
  | .lst _ _ => false | .iptr _ _ _ => false | .cptr _ _ => false | .mp _ => false | .hp _ _ => false | .hm _ _ => false
  | .ptr i _ => actB ch i | .eptr i _ _ _ => actB ch i | .vec i _ _ _ => actB ch i
  | .agg cs => flatL ch cs | .tup cs => flatL ch cs | .fn _ az bs => (match flatL ch az with | true => flatL ch bs | false => false) | .ifc _ v => flatV ch v
  | _ => true
def flatL (ch : List Chunk) : List AV → Bool
  | [] => true | c :: r => (match flatV ch c with | true => flatL ch r | false => false)
end
def flatT : Ty → Bool
  | .list _ => false | .pair a b => (match flatT a with | true => flatT b | false => false) | _ => true
def flatC (ch : List Chunk) : Chunk → Bool
  | .cells _ cs => flatL ch cs | .vect _ t _ => flatT t | .none => true | .count _ => false | .smp _ _ _ => false | .row _ _ _ => false | .heap _ => false | .mit _ _ _ _ => false
def flatE (ch : List Chunk) : List Chunk → Bool
  | [] => true | c :: r => (match flatC ch c with | true => flatE ch r | false => false)
theorem flat_one {ch : List Chunk} {c : Chunk} (h : flatC ch c = true) : oneB c = true := by cases c <;> first | rfl | cases h
theorem flatE_at {ch : List Chunk} : ∀ {E : List Chunk}, flatE ch E = true → ∀ i, flatC ch (getE E i) = true
  | [], _, i => rfl
  | c :: r, h, i => by
    simp only [flatE] at h
    split at h
    · rename_i hc
      cases i with
      | zero => exact hc
      | succ i => exact flatE_at h i
    · cases h
structure ActLike (ch : List Chunk) (g g' : Gh) : Prop where
  n : g.n ≤ g'.n
  B : ∀ i, actB ch i = true → g'.B i = g.B i
  V : ∀ i, actB ch i = true → g'.V i = g.V i
  L : ∀ i, actB ch i = true → g'.L i = g.L i
mutual
theorem flatV_ok {ch : List Chunk} {g g' : Gh} (hg : ActLike ch g g') : ∀ (v : AV) (u : Value), flatV ch v = true → R g v u → R g' v u
  | .agg cs, u, h, hr => by
    obtain ⟨vs, rfl, hl⟩ := hr.agg_iff
    simpa using R.mkAgg (flatL_ok hg cs vs.toList h hl)
  | .tup cs, u, h, hr => by
    obtain ⟨vs, rfl, hl⟩ := hr.tup_iff
    simpa using R.mkTup (flatL_ok hg cs vs.toList h hl)
  | .fn f az bs, u, h, hr => by
    cases hr with | fn _ _ _ vs ws hl hl' hr hr' =>
    simp only [flatV] at h
    split at h
    · rename_i h1
      simpa using R.mkFn (f := f) (flatL_ok hg az vs.toList h1 (RL.mk (by simpa using hl) fun i y u h1 h2 => hr i y u h1 (by simpa using h2))) (flatL_ok hg bs ws.toList h (RL.mk (by simpa using hl') fun i y u h1 h2 => hr' i y u h1 (by simpa using h2)))
    · cases h
  | .ifc t v, u, h, hr => by cases hr with | ifc _ _ u hr => exact .ifc _ _ _ (flatV_ok hg v u h hr)
  | .ptr i o, u, h, hr => by cases hr with | ptr _ _ hi => rw [← hg.B i h]; exact .ptr _ _ (Nat.lt_of_lt_of_le hi hg.n)
  | .eptr i s x o, u, h, hr => by cases hr with | eptr _ _ _ _ hi hL => rw [← hg.B i h]; exact .eptr _ _ _ _ (Nat.lt_of_lt_of_le hi hg.n) (by rw [hg.L i h]; exact hL)
  | .vec i s o n, u, h, hr => by cases hr with | vec _ _ _ _ A c hi hL hn hs => exact .vec _ _ _ _ A c (Nat.lt_of_lt_of_le hi hg.n) (by rw [hg.L i h]; exact hL) (by rw [hg.V i h]; exact hn) (by rw [hg.V i h, hg.B i h]; exact hs)
  | .undef, u, h, hr => .undef _
  | .skip, u, h, hr => by cases hr; exact .skip
  | .int k n, u, h, hr => by cases hr; exact .int _ _
  | .bool b, u, h, hr => by cases hr; exact .bool _
  | .tt, u, h, hr => by cases hr; exact .tt
  | .ff, u, h, hr => by cases hr; exact .ff
  | .str s, u, h, hr => by cases hr; exact .str _
  | .pnil, u, h, hr => by cases hr; exact .pnil
  | .snil, u, h, hr => by cases hr; exact .snil
  | .fnil, u, h, hr => by cases hr; exact .fnil
  | .inil, u, h, hr => by cases hr; exact .inil
  | .mnil, u, h, hr => by cases hr; exact .mnil
  | .lst _ _, u, h, hr => by cases h
  | .iptr _ _ _, u, h, hr => by cases h
  | .cptr _ _, u, h, hr => by cases h
  | .mp _, u, h, hr => by cases h
  | .hp _ _, u, h, hr => by cases h
  | .hm _ _, u, h, hr => by cases h
theorem flatL_ok {ch : List Chunk} {g g' : Gh} (hg : ActLike ch g g') : ∀ (l : List AV) (us : List Value), flatL ch l = true → RL g l us → RL g' l us
  | [], [], _, _ => trivial
  | c :: r, u :: us, h, hr => by
    simp only [flatL] at h
    split at h
    · rename_i h1; exact ⟨flatV_ok hg c u h1 hr.1, flatL_ok hg r us h hr.2⟩
    · cases h
  | [], _ :: _, _, hr => hr.elim
  | _ :: _, [], _, hr => hr.elim
end
theorem flatT_enc (ch : List Chunk) : ∀ (t : Ty) (x : Unit → t.den), flatT t = true → flatL ch (enc t x []) = true
  | .int _, _, _ => rfl
  | .bool, _, _ => rfl
  | .str, _, _ => rfl
  | .list _, _, h => by cases h
  | .pair a b, x, h => by
    simp only [flatT] at h
    split at h
    · rename_i h1
      have ha := flatT_enc ch a (fun u => (x u).1) h1
      have hb := flatT_enc ch b (fun u => (x u).2) h
      simp only [enc]
      rw [enc_append]
      generalize enc a (fun u => (x u).1) [] = l at ha
      induction l with
      | nil => exact hb
      | cons c r ih =>
        simp only [flatL] at ha
        split at ha
        · rename_i hc; simp only [List.cons_append, flatL, hc]; exact ih ha
        · cases ha
    · cases h
theorem flatC_sat {ch : List Chunk} {g g' : Gh} (hg : ActLike ch g g') {i : Nat} {w w' : World} {c : Chunk} (ha : actB ch i = true ∨ c = .none) (hc : flatC ch c = true) (hw : ∀ b, c.own g i b → w'.heap[b]? = w.heap[b]?) (h : c.sat g i w) : c.sat g' i w' := by
  cases c with
  | none => trivial
  | count k => cases hc
  | smp _ _ _ => cases hc
  | row _ _ _ => cases hc
  | heap _ => cases hc
  | mit _ _ _ _ => cases hc
  | cells T cs =>
    have ha := ha.resolve_right (by simp)
    obtain ⟨vs, h1, h2⟩ := h
    exact ⟨vs, by rw [hg.B i ha, hw _ rfl]; exact h1, flatL_ok hg _ _ hc h2⟩
  | vect T t xs =>
    have ha := ha.resolve_right (by simp)
    obtain ⟨h1, h2, h3⟩ := h
    refine ⟨by rw [hg.L i ha]; exact h1, by rw [hg.V i ha]; exact h2, fun cap hcap => ?_⟩
    rw [hg.V i ha] at hcap
    obtain ⟨vs, h4, h5, h6, h7⟩ := h3 cap hcap
    exact ⟨vs, by rw [hg.B i ha, hw _ (by simp [Chunk.own, hcap])]; exact h4, h5, h6, fun k x hx => flatL_ok hg _ _ (flatT_enc ch t _ hc) (h7 k x hx)⟩

/-- The same kinds of chunks. -/
def shapeB : List Chunk → List Chunk → Bool
  | [], [] => true
  | .none :: r, .none :: s => shapeB r s | .cells _ _ :: r, .cells _ _ :: s => shapeB r s | .vect _ _ _ :: r, .vect _ _ _ :: s => shapeB r s | _, _ => false
theorem shapeB_cells : ∀ {E E' : List Chunk}, shapeB E E' = true → cellsL E' = cellsL E
  | [], [], _ => rfl
  | [], _ :: _, h => by simp [shapeB] at h
  | _ :: _, [], h => by simp [shapeB] at h
  | c :: r, d :: s, h => by
    have h' : shapeB r s = true ∧ kd d = kd c := by cases c <;> cases d <;> first | (simp [shapeB] at h; done) | exact ⟨h, rfl⟩
    have hr := shapeB_cells h'.1
    have hk := h'.2
    cases c <;> cases d <;> first | (simp [kd] at hk; done) | (simp only [cellsL, hr, fixB])
theorem shapeB_kd : ∀ {E E' : List Chunk}, shapeB E E' = true → lenE E' = lenE E ∧ ∀ i, kd (getE E' i) = kd (getE E i)
  | [], [], _ => ⟨rfl, fun _ => rfl⟩
  | c :: r, d :: s, h => by
    have h' : shapeB r s = true ∧ kd d = kd c := by cases c <;> cases d <;> first | (simp [shapeB] at h; done) | exact ⟨h, rfl⟩
    obtain ⟨h1, h2⟩ := shapeB_kd h'.1
    refine ⟨by simp [lenE, h1], fun i => ?_⟩
    cases i with
    | zero => exact h'.2
    | succ i => exact h2 i
  | [], _ :: _, h => by simp [shapeB] at h
  | c :: _, [], h => by cases c <;> simp [shapeB] at h

/-- What lies behind the loop: what rested as it was, the rest as the loop leaves it. -/
def unF (φ : List Nat) (E : List Chunk) : AV → AV
  | .ptr i o => (match inB φ i with | true => .ptr i o | false => (match isCells (getE E i) with | true => .ptr i o | false => .undef))
  | .eptr i s x o => (match inB φ i with | true => .eptr i s x o | false => .undef)
  | .vec i s o n => (match inB φ i with | true => .vec i s o n | false => .undef)
  | .mp i => .undef
  | .hp _ _ => .undef
  | .hm _ _ => .undef
  | v => v
def resE (f : AV → AV) (φ : List Nat) : Nat → List Chunk → List Chunk → List Chunk
  | _, [], _ => []
  | k, c :: r, d :: s => (match inB φ k with | true => mapC f c | false => d) :: resE f φ (k + 1) r s
  | k, c :: r, [] => (match inB φ k with | true => mapC f c | false => .none) :: resE f φ (k + 1) r []
theorem resE_len (f : AV → AV) (φ : List Nat) : ∀ (E ch : List Chunk) (k : Nat), lenE (resE f φ k E ch) = lenE E
  | [], _, _ => rfl
  | c :: r, d :: s, k => by simp [resE, lenE, resE_len f φ r s]
  | c :: r, [], k => by simp [resE, lenE, resE_len f φ r []]
theorem resE_at (f : AV → AV) (φ : List Nat) : ∀ (E ch : List Chunk) (k i : Nat), lenE ch ≤ lenE E → getE (resE f φ k E ch) i = if inB φ (k + i) = true then mapC f (getE E i) else getE ch i
  | [], [], _, i, _ => by simp [resE, getE, mapC]
  | [], _ :: _, _, i, h => by simp [lenE] at h
  | c :: r, d :: s, k, 0, h => by
    simp only [resE, getE, Nat.add_zero]
    cases inB φ k <;> simp
  | c :: r, d :: s, k, i + 1, h => by
    simp only [resE, getE]
    rw [resE_at f φ r s (k + 1) i (by simp [lenE] at h; omega)]
    rw [show k + 1 + i = k + (i + 1) by omega]
  | c :: r, [], k, 0, h => by
    simp only [resE, getE, Nat.add_zero]
    cases inB φ k <;> simp
  | c :: r, [], k, i + 1, h => by
    simp only [resE, getE]
    rw [resE_at f φ r [] (k + 1) i (by simp [lenE])]
    rw [show k + 1 + i = k + (i + 1) by omega]
    simp [getE]

/-- A block that nobody of ours holds is turned: here and in the base. -/
theorem Inv.poke {B : Base} {g : Gh} {env : Env} {E : List Chunk} {tmps : Array Value} {w : World} {l : Nat} (h : Inv B g env E tmps w) (o : Obj) (hΦ : g.Φ l = none) (hb : ∀ i b, (getE E i).own g i b → b ≠ l) (hl : l < w.heap.size) :
    Inv ⟨B.g, B.E, B.w.putObj l o⟩ g env E tmps (w.putObj l o) := by
  have ho : ∀ b, b ≠ l → (w.putObj l o).heap[b]? = w.heap[b]? := fun b hb => World.putObj_heap_other hb
  refine ⟨h.er, ⟨h.sim.len, fun b o' hb' => ?_, fun i => Chunk.sat_frame (fun _ _ h => h) rfl rfl rfl rfl rfl rfl (fun b hb' => ho b (hb i b hb')) (h.sim.sat i), h.sim.dis, h.sim.dphi⟩,
    ⟨h.ext.os, h.ext.tape, ⟨h.ext.output.o, h.ext.output.d⟩, by simp only [World.putObj_size]; exact h.ext.size, fun b h1 h2 => ?_, h.ext.phi, fun b o' hb' => ?_, fun i b hi => ?_, h.ext.n, h.ext.ids, h.ext.kk, h.ext.kin, h.ext.idw, h.ext.idm⟩⟩
  · rw [ho b (fun e => by subst e; rw [hΦ] at hb'; cases hb')]; exact h.sim.phi b o' hb'
  · have h1' : b < B.w.heap.size := by simpa using h1
    by_cases hbl : b = l
    · subst hbl
      rw [World.putObj_heap_same hl]; exact (World.putObj_heap_same h1').symm
    · rw [ho b hbl]; exact (h.ext.keep b h1' h2).trans (World.putObj_heap_other hbl).symm
  · rcases h.ext.phin b o' hb' with h1 | h1 | h1
    · exact .inl h1
    · exact .inr (.inl (by simpa using h1))
    · exact .inr (.inr h1)
  · rcases h.ext.own i b hi with h1 | h1
    · exact .inl (by simpa using h1)
    · exact .inr h1
theorem Sim.grown {g : Gh} {E : List Chunk} {w w' : World} (h : Sim g E w) (hw : Grown w w') : Sim g E w' :=
  ⟨h.len, fun b o hb => by have := h.phi b o hb; rw [hw.same b (lt_heap this)]; exact this, fun i => Chunk.sat_frame (fun _ _ h => h) rfl rfl rfl rfl rfl rfl (fun b hb => hw.same b (sat_lt (h.sat i) hb)) (h.sat i), h.dis, h.dphi⟩
theorem Ext.grow {B : Base} {g : Gh} {E : List Chunk} {w w' : World} (h : Ext B g E w) (hw : Grown w w') : Ext B g E w' :=
  ⟨hw.os.trans h.os, hw.tape.trans h.tape, hw.output.trans h.output, Nat.le_trans h.size hw.size, fun b h1 h2 => by rw [hw.same b (Nat.lt_of_lt_of_le h1 h.size)]; exact h.keep b h1 h2, h.phi, h.phin, h.own, h.n, h.ids, h.kk, h.kin, h.idw, h.idm⟩
theorem Grown.alloc (w : World) (o : Obj) : Grown w (w.alloc o) := ⟨rfl, rfl, ⟨rfl, Nat.le_refl _⟩, by simp, fun b hb => Below.heap_alloc w o b hb⟩
theorem Grown.trans {a b c : World} (h : Grown a b) (h' : Grown b c) : Grown a c := ⟨h'.os.trans h.os, h'.tape.trans h.tape, h'.output.trans h.output, Nat.le_trans h.size h'.size, fun k hk => by rw [h'.same k (Nat.lt_of_lt_of_le hk h.size)]; exact h.same k hk⟩
def plainO : Obj → Bool
  | .cells _ _ _ => true | .map _ _ => true | .mapIter _ _ _ _ => true | _ => false
/-- The blocks of chunks hold cells, or a map. -/
theorem blk_cells {g : Gh} {i : Nat} {w : World} {c : Chunk} {b : Nat} (h : c.sat g i w) (hb : c.own g i b) : ∃ o, w.heap[b]? = some o ∧ plainO o = true := by
  cases c with
  | none => cases hb
  | smp k ks us => obtain ⟨es, cl, h1, _⟩ := h; cases hb; exact ⟨_, h1, rfl⟩
  | row T t xs =>
    obtain ⟨_, _, h3⟩ := h
    cases hV : g.V i with
    | none => simp [Chunk.own, hV] at hb
    | some cap =>
      obtain ⟨vs, h4, _⟩ := h3 cap hV
      simp [Chunk.own, hV] at hb
      subst hb
      exact ⟨_, h4, rfl⟩
  | count k => cases hb
  | heap hp =>
    obtain ⟨k, hk, rfl⟩ := hb
    obtain ⟨ob, h1, h2⟩ := h.2.2 k hk
    refine ⟨ob, h1, ?_⟩
    cases ho : (hp ()).o k with
    | cells T n c => rw [ho] at h2; obtain ⟨vs, rfl, _⟩ := h2; rfl
    | map es cl => rw [ho] at h2; obtain ⟨ms, rfl, _⟩ := h2; rfl
  | mit x a b l => obtain ⟨r, _, h1⟩ := h; cases hb; exact ⟨_, h1, rfl⟩
  | cells T cs => obtain ⟨vs, h1, _⟩ := h; cases hb; exact ⟨_, h1, rfl⟩
  | vect T t xs =>
    obtain ⟨_, _, h3⟩ := h
    cases hV : g.V i with
    | none => simp [Chunk.own, hV] at hb
    | some cap =>
      obtain ⟨vs, h4, _⟩ := h3 cap hV
      simp [Chunk.own, hV] at hb
      subst hb
      exact ⟨_, h4, rfl⟩
end Go.Proofs.Ytafcenlbllmahaa.Fw
set_option linter.unusedVariables false
set_option linter.unusedSimpArgs false
set_option maxHeartbeats 1000000
namespace Go.Proofs.Ytafcenlbllmahaa.Fw
open Go Go.RowKit

def idn : Nat → List Nat
  | 0 => [] | n + 1 => idn n ++ [n]
theorem idn_len : ∀ n, (idn n).length = n
  | 0 => rfl
  | n + 1 => by simp [idn, idn_len n]
theorem idn_at : ∀ (n i : Nat), i < n → (idn n)[i]? = some i
  | 0, i, h => by omega
  | n + 1, i, h => by
    simp only [idn]
    by_cases hi : i < n
    · rw [List.getElem?_append_left (by rw [idn_len]; exact hi)]; exact idn_at n i hi
    · have : i = n := by omega
      subst this
      rw [List.getElem?_append_right (by rw [idn_len]; exact Nat.le_refl _)]; simp [idn_len]

def Ex.code : Ex → Option Code
  | .normal => none | .ret => some .ret | .exit n => some (.exit n)

/-- What is asked at a loop over an iterator, where the chunks of φ rest. -/
structure RangeQ (P : Program) (N : Nat) (S : Sc) (gop : Operand) (ps : List Nat) (assign body : Code) (φ : List Nat) (env : Env) (E : List Chunk) (K : Ex → Env → List Chunk → Prop) (env1 : Env) (E1 : List Chunk) : Prop where
  h : ∃ (gf : FuncId) (captured lb : List AV) (α : Type) (encs : α → List AV) (xs : List α) (X : Type) (inv : Nat → X → Prop) (Kx : Ex → X → Prop) (ch : X → List Chunk) (x0 : X),
    ev env1 gop = .fn (.func gf) [] captured ∧ LeL [] captured lb ∧ ItMeets P gf lb encs xs ∧ (∀ x, (encs x).length = ps.length) ∧ (∀ p ∈ ps, p < N) ∧ LeE (idn (lenE E)) E1 (idn (lenE E)) (ch x0) ∧ (∀ x, shapeB (ch x0) (ch x) = true) ∧ (noDraw assign = true ∧ noDraw body = true) ∧ inv 0 x0 ∧
    (∀ (S1 S2 : Sc) k x y, xs[k]? = some y → inv k x → sCode P N S1 (cellsL (ch x0)) assign (bindP ps (encs y) (mapEnv (okF (ch x0)) env1)) (ch x) fun e env' E' => (match e with
      | .normal => sCode P N S2 (cellsL (ch x0)) body env' E' fun e env'' E'' => (match e with
        | .normal => ∃ x' π, nodupB π = true ∧ headB (cellsL (ch x0)) 0 π = true ∧ LeE π E'' π (ch x') ∧ inv (k + 1) x'
        | e => ∃ x' π, nodupB π = true ∧ headB (cellsL (ch x0)) 0 π = true ∧ LeE π E'' π (ch x') ∧ Kx e x')
      | _ => False)) ∧
    (∀ x, inv xs.length x → flatE (ch x0) (ch x) = true ∧ K .normal (mapEnv (unF φ E) env) (resE (unF φ E) φ 0 E (ch x))) ∧
    (∀ e x, Kx e x → e ≠ .normal → flatE (ch x0) (ch x) = true ∧ K e (mapEnv (unF φ E) env) (resE (unF φ E) φ 0 E (ch x)))

/-- Behind the loop. -/
theorem after_range {B : Base} {g g1 g2 : Gh} {env : Env} {E E1 ch0 ch : List Chunk} {tmps : Array Value} {w W1 W5 : World} {φ : List Nat} {D : Nat} (hI : Inv B g env E tmps w)
    (hlike : g.like g1) (hΦ1 : ∀ b o, g.Φ b = some o → g1.Φ b = some o) (hrest : ∀ i, i ∈ φ → getE E1 i = .none) (hkd : ∀ i, i ∉ φ → kd (getE E1 i) = kd (getE E i)) (hin : ∀ i ∈ φ, ∀ b, (getE E i).own g i b → ∃ o, g1.Φ b = some o) (hs1 : Sim g1 E1 w)
    (hle : LeE (idn (lenE E)) E1 (idn (lenE E)) ch0) (hgr : Grown w W1) (hD : w.heap.size ≤ D) (hdefer : W5.heap[D]? = some (.deferred (some [])))
    (hS2 : Sim g2 ch W5) (hx : Ext ⟨g1.ren (idn (lenE E)), ch0, W1⟩ g2 ch W5) (hsh : shapeB ch0 ch = true) (hflat : flatE ch0 ch = true) :
    ∃ gf, Inv (B.mark D) gf (mapEnv (unF φ E) env) (resE (unF φ E) φ 0 E ch) tmps W5 := by
  have hlen := hI.sim.len
  obtain ⟨hshl, hshk⟩ := shapeB_kd hsh
  have hl0 : lenE ch0 = lenE E := by rw [LeE_len _ _ hle, idn_len]
  have hlch : lenE ch ≤ lenE E := by omega
  have hchat : ∀ i, i < lenE E → LeC (idn (lenE E)) (getE E1 i) (getE ch0 i) := by
    intro i hi
    rcases LeE_at _ _ hle i with ⟨j, hj, hc⟩ | hc
    · rw [idn_at _ _ hi] at hj; cases hj; exact hc
    · rw [hc]; cases getE E1 i <;> trivial
  have hout : ∀ i, ¬ i < lenE E → getE ch0 i = .none := fun i hi => getE_ge _ _ (by omega)
  -- what is live
  have hact : ∀ i, actB ch0 i = true → i < lenE E ∧ i ∉ φ ∧ kd (getE E i) = kd (getE ch0 i) := by
    intro i ha
    have hi : i < lenE E := by
      by_cases hi : i < lenE E
      · exact hi
      · simp [actB, hout i hi] at ha
    have hc := hchat i hi
    have hphi : i ∉ φ := fun hm => by
      rw [hrest i hm] at hc
      have := LeC_none hc
      simp [actB, this] at ha
    refine ⟨hi, hphi, ?_⟩
    rw [← hkd i hphi]
    cases h0 : getE ch0 i with
    | none => simp [actB, h0] at ha
    | count k => simp [actB, h0] at ha
    | smp _ _ _ => simp [actB, h0] at ha
    | row _ _ _ => simp [actB, h0] at ha
    | heap _ => simp [actB, h0] at ha
    | mit _ _ _ _ => simp [actB, h0] at ha
    | cells T cs => rw [h0] at hc; cases h1 : getE E1 i <;> rw [h1] at hc <;> first | rfl | exact hc.elim
    | vect T t xs => rw [h0] at hc; cases h1 : getE E1 i <;> rw [h1] at hc <;> first | rfl | exact hc.elim
  have hna : ∀ i, actB ch0 i ≠ true → getE ch i = .none ∨ flatC ch0 (getE ch i) = false := by
    intro i ha
    have hk := hshk i
    cases h0 : getE ch0 i with
    | none => rw [h0] at hk; cases h1 : getE ch i <;> rw [h1] at hk <;> first | exact .inl rfl | (simp [kd] at hk; done)
    | count k => rw [h0] at hk; cases h1 : getE ch i <;> rw [h1] at hk <;> first | exact .inr rfl | (simp [kd] at hk; done)
    | smp k ks vs => rw [h0] at hk; cases h1 : getE ch i <;> rw [h1] at hk <;> first | exact .inr rfl | (simp [kd] at hk; done)
    | row T t xs => rw [h0] at hk; cases h1 : getE ch i <;> rw [h1] at hk <;> first | exact .inr rfl | (simp [kd] at hk; done)
    | heap _ => rw [h0] at hk; cases h1 : getE ch i <;> rw [h1] at hk <;> first | exact .inr rfl | (simp [kd] at hk; done)
    | mit _ _ _ _ => rw [h0] at hk; cases h1 : getE ch i <;> rw [h1] at hk <;> first | exact .inr rfl | (simp [kd] at hk; done)
    | cells T cs => exact (ha (by simp [actB, h0])).elim
    | vect T t xs => exact (ha (by simp [actB, h0])).elim
  have hflc := flatE_at hflat
  have hna' : ∀ i, actB ch0 i ≠ true → getE ch i = .none := by
    intro i ha
    rcases hna i ha with h1 | h1
    · exact h1
    · have := hflc i; rw [h1] at this; cases this
  -- the ghost behind it
  let gf : Gh := { n := g.n, Φ := fun b => if b = D then some (.deferred (some [])) else g.Φ b, B := fun i => if actB ch0 i = true then g2.B i else g.B i, V := fun i => if actB ch0 i = true then g2.V i else g.V i, L := fun i => if actB ch0 i = true then g2.L i else g.L i, k := g.k, W := g.W, M := g.M }
  have hltΦ : ∀ b o, g.Φ b = some o → b ≠ D := fun b o hb e => by have := lt_heap (hI.sim.phi b o hb); omega
  have hΦf : ∀ b o, g.Φ b = some o → gf.Φ b = some o := fun b o hb => by
    show (if b = D then some (.deferred (some [])) else g.Φ b) = some o
    rw [if_neg (hltΦ b o hb)]; exact hb
  have fB : ∀ i, actB ch0 i = true → gf.B i = g2.B i := fun i h => by show (if actB ch0 i = true then g2.B i else g.B i) = _; rw [if_pos h]
  have fV : ∀ i, actB ch0 i = true → gf.V i = g2.V i := fun i h => by show (if actB ch0 i = true then g2.V i else g.V i) = _; rw [if_pos h]
  have fL : ∀ i, actB ch0 i = true → gf.L i = g2.L i := fun i h => by show (if actB ch0 i = true then g2.L i else g.L i) = _; rw [if_pos h]
  have nB : ∀ i, actB ch0 i ≠ true → gf.B i = g.B i := fun i h => by show (if actB ch0 i = true then g2.B i else g.B i) = _; rw [if_neg h]
  have nV : ∀ i, actB ch0 i ≠ true → gf.V i = g.V i := fun i h => by show (if actB ch0 i = true then g2.V i else g.V i) = _; rw [if_neg h]
  have nL : ∀ i, actB ch0 i ≠ true → gf.L i = g.L i := fun i h => by show (if actB ch0 i = true then g2.L i else g.L i) = _; rw [if_neg h]
  have hrB : ∀ i, i < lenE E → (g1.ren (idn (lenE E))).B i = g.B i := fun i hi => by rw [(ren_at g1 (idn_at _ i hi)).1, hlike.B]
  have hrV : ∀ i, i < lenE E → (g1.ren (idn (lenE E))).V i = g.V i := fun i hi => by rw [(ren_at g1 (idn_at _ i hi)).2.1, hlike.V]
  have hrL : ∀ i, i < lenE E → (g1.ren (idn (lenE E))).L i = g.L i := fun i hi => by rw [(ren_at g1 (idn_at _ i hi)).2.2, hlike.L]
  have cellsA : ∀ i, isCells (getE E i) = true → gf.B i = g.B i ∧ gf.V i = g.V i ∧ gf.L i = g.L i := by
    intro i hc
    by_cases ha : actB ch0 i = true
    · obtain ⟨hi, hphi, hk⟩ := hact i ha
      rw [fB i ha, fV i ha, fL i ha]
      cases h0 : getE ch0 i with
      | cells T cs =>
        have h1 := hx.ids i (by show fixB (getE ch0 i) = true; rw [h0]; rfl)
        rw [h1.1, h1.2.1, h1.2.2]; exact ⟨hrB i hi, hrV i hi, hrL i hi⟩
      | none => simp [actB, h0] at ha
      | count k => simp [actB, h0] at ha
      | smp _ _ _ => simp [actB, h0] at ha
      | row _ _ _ => simp [actB, h0] at ha
      | heap _ => simp [actB, h0] at ha
      | mit _ _ _ _ => simp [actB, h0] at ha
      | vect T t xs => rw [h0] at hk; cases hE : getE E i <;> rw [hE] at hc hk <;> first | (cases hc; done) | (simp [kd] at hk; done)
    · exact ⟨nB i ha, nV i ha, nL i ha⟩
  have cellsB : ∀ i, isCells (getE E i) = true → gf.B i = g.B i := fun i hc => (cellsA i hc).1
  have hinφ : ∀ i, inB φ i = true → actB ch0 i ≠ true := fun i h ha => (hact i ha).2.1 (inB_iff.1 h)
  have hun : ∀ v u, isRef v = true → R g v u → R gf (unF φ E v) u := by
    intro v u hv hr
    cases hr <;> first | (cases hv; done) | skip
    · rename_i i off hi
      simp only [unF]
      split
      · rename_i hm; rw [← nB i (hinφ i hm)]; exact .ptr (g := gf) _ _ hi
      · split
        · rename_i hc; rw [← cellsB i hc]; exact .ptr (g := gf) _ _ hi
        · exact .undef _
    · rename_i i sz idx off hi hL
      simp only [unF]
      split
      · rename_i hm; rw [← nB i (hinφ i hm)]; exact .eptr (g := gf) _ _ _ _ hi (by rw [nL i (hinφ i hm)]; exact hL)
      · exact .undef _
    · rename_i i sz off n A c hi hL hn hs
      simp only [unF]
      split
      · rename_i hm
        exact .vec (g := gf) _ _ _ _ A c hi (by rw [nL i (hinφ i hm)]; exact hL) (by rw [nV i (hinφ i hm)]; exact hn) (by rw [nV i (hinφ i hm), nB i (hinφ i hm)]; exact hs)
      · exact .undef _
    · exact .undef _
    · exact .undef _
    · exact .undef _
  have hgn2 : g2.n = g.n := by have := hS2.len; omega
  have hAL : ActLike ch0 g2 gf := ⟨Nat.le_of_eq hgn2, fB, fV, fL⟩
  have hget : ∀ i, getE (resE (unF φ E) φ 0 E ch) i = if inB φ i = true then mapC (unF φ E) (getE E i) else getE ch i := fun i => by rw [resE_at _ _ _ _ _ _ hlch, Nat.zero_add]
  -- the blocks
  have hblk : ∀ i b, (getE (resE (unF φ E) φ 0 E ch) i).own gf i b → (inB φ i = true ∧ (getE E i).own g i b) ∨ (inB φ i = false ∧ actB ch0 i = true ∧ (getE ch i).own g2 i b) := by
    intro i b hb
    rw [hget] at hb
    split at hb
    · rename_i hm
      rw [mapC_own, Chunk.own_at (nB i (hinφ i hm)) (nV i (hinφ i hm)) rfl rfl] at hb
      exact .inl ⟨hm, hb⟩
    · rename_i hm
      have ha : actB ch0 i = true := Classical.byContradiction fun ha => by rw [hna' i ha] at hb; cases hb
      rw [Chunk.own_atS (flat_one (hflc i)) (fB i ha) (fV i ha)] at hb
      exact .inr ⟨by simpa using hm, ha, hb⟩
  have hrestb : ∀ i b, inB φ i = true → (getE E i).own g i b → b < w.heap.size ∧ g2.Φ b ≠ none ∧ W5.heap[b]? = w.heap[b]? := by
    intro i b hm hb
    obtain ⟨o, ho⟩ := hin i (inB_iff.1 hm) b hb
    have ho2 : g2.Φ b = some o := hx.phi b o ho
    refine ⟨sat_lt (hI.sim.sat i) hb, by rw [ho2]; simp, ?_⟩
    rw [hS2.phi b o ho2, hs1.phi b o ho]
  have howns : ∀ b, (⟨g1.ren (idn (lenE E)), ch0, W1⟩ : Base).owns b → ∃ i, (getE E i).own g i b := by
    rintro b ⟨i, hi⟩
    have ha : actB ch0 i = true := Classical.byContradiction fun ha => by
      cases h0 : getE ch0 i with
      | none => rw [h0] at hi; cases hi
      | count k => rw [h0] at hi; cases hi
      | smp k ks vs => have h1 := hna' i ha; have hk := hshk i; rw [h0, h1] at hk; simp [kd] at hk
      | row k ks vs => have h1 := hna' i ha; have hk := hshk i; rw [h0, h1] at hk; simp [kd] at hk
      | heap _ => have h1 := hna' i ha; have hk := hshk i; rw [h0, h1] at hk; simp [kd] at hk
      | mit _ _ _ _ => have h1 := hna' i ha; have hk := hshk i; rw [h0, h1] at hk; simp [kd] at hk
      | cells T cs => exact ha (by simp [actB, h0])
      | vect T t xs => exact ha (by simp [actB, h0])
    obtain ⟨hil, hphi, hk⟩ := hact i ha
    refine ⟨i, ?_⟩
    rw [kd_own hk]
    have h1 : oneB (getE ch0 i) = true := by cases h0 : getE ch0 i <;> first | rfl | (simp [actB, h0] at ha; done)
    rw [Chunk.own_atS (g := g1.ren (idn (lenE E))) h1 (hrB i hil).symm (hrV i hil).symm]
    exact hi
  have hownB : ∀ b, W1.heap.size ≤ b ∨ (⟨g1.ren (idn (lenE E)), ch0, W1⟩ : Base).owns b → B.w.heap.size ≤ b ∨ B.owns b := by
    rintro b (h1 | h1)
    · exact .inl (Nat.le_trans (Nat.le_trans hI.ext.size hgr.size) h1)
    · obtain ⟨i, hi⟩ := howns b h1
      exact hI.ext.own i b hi
  have hmark : ∀ b, (B.mark D).owns b ↔ B.owns b := fun b => by
    constructor
    · rintro ⟨i, hi⟩; refine ⟨i, ?_⟩; exact (Chunk.own_at rfl rfl rfl rfl).mp hi
    · rintro ⟨i, hi⟩; refine ⟨i, ?_⟩; exact (Chunk.own_at rfl rfl rfl rfl).mp hi
  refine ⟨gf, fun t => by rw [look_mapEnv]; exact R.map (g := g) (g' := gf) _ hΦf hun (hI.er t), ⟨by rw [resE_len]; exact hlen, fun b o hb => ?_, fun i => ?_, fun i j b hi hj => ?_, fun i b hi => ?_⟩,
    ⟨hx.os.trans (hgr.os.trans hI.ext.os), hx.tape.trans (hgr.tape.trans hI.ext.tape), hx.output.trans (hgr.output.trans hI.ext.output), Nat.le_trans hI.ext.size (Nat.le_trans hgr.size hx.size), fun b h1 h2 => ?_, fun b o hb => ?_, fun b o hb => ?_, fun i b hi => ?_, ?_, fun i hi => ?_, hI.ext.kk, fun i T' t xs hi hv => ?_, hI.ext.idw, hI.ext.idm⟩⟩
  · have hb2 : (if b = D then some (.deferred (some [])) else g.Φ b) = some o := hb
    clear hb
    split at hb2
    · rename_i e; rw [e, hdefer]; exact hb2
    · exact hS2.phi b o (hx.phi b o (hΦ1 b o hb2))
  · rw [hget]
    split
    · rename_i hm
      exact Chunk.sat_map (g := g) (g' := gf) _ hΦf hun (nB i (hinφ i hm)) (nV i (hinφ i hm)) (nL i (hinφ i hm)) rfl rfl rfl (fun h => h) (fun b hb => (hrestb i b hm hb).2.2) (hI.sim.sat i)
    · rename_i hm
      refine flatC_sat hAL ?_ (hflc i) (fun _ _ => rfl) (hS2.sat i)
      by_cases ha : actB ch0 i = true
      · exact .inl ha
      · exact .inr (hna' i ha)
  · rcases hblk i b hi with ⟨h1, h2⟩ | ⟨h1, h2, h3⟩ <;> rcases hblk j b hj with ⟨h4, h5⟩ | ⟨h4, h5, h6⟩
    · exact hI.sim.dis i j b h2 h5
    · exact ((hrestb i b h1 h2).2.1 (hS2.dphi j b h6)).elim
    · exact ((hrestb j b h4 h5).2.1 (hS2.dphi i b h3)).elim
    · exact hS2.dis i j b h3 h6
  · show (if b = D then some (.deferred (some [])) else g.Φ b) = none
    rcases hblk i b hi with ⟨h1, h2⟩ | ⟨h1, h2, h3⟩
    · rw [if_neg (by have := (hrestb i b h1 h2).1; omega)]; exact hI.sim.dphi i b h2
    · obtain ⟨o4, h4, h4p⟩ := blk_cells (hS2.sat i) h3
      rw [if_neg (fun e => by rw [e, hdefer] at h4; cases h4; cases h4p)]
      cases hp : g.Φ b with
      | none => rfl
      | some o => have := hx.phi b o (hΦ1 b o hp); rw [hS2.dphi i b h3] at this; cases this
  · have h2' : ¬ B.owns b := fun h => h2 ((hmark b).2 h)
    have h1' : b < B.w.heap.size := h1
    have h3 : b < w.heap.size := Nat.lt_of_lt_of_le h1' hI.ext.size
    rw [hx.keep b (Nat.lt_of_lt_of_le h3 hgr.size) (fun ho => by
      obtain ⟨i, hi⟩ := howns b ho
      rcases hI.ext.own i b hi with h4 | h4
      · omega
      · exact h2' h4), hgr.same b h3]
    exact hI.ext.keep b h1' h2'
  · have hb2 : (if b = D then some (.deferred (some [])) else B.g.Φ b) = some o := hb
    clear hb
    show (if b = D then some (.deferred (some [])) else g.Φ b) = some o
    split at hb2
    · rename_i e; rw [if_pos e]; exact hb2
    · rename_i e; rw [if_neg e]; exact hI.ext.phi b o hb2
  · have hb2 : (if b = D then some (.deferred (some [])) else g.Φ b) = some o := hb
    clear hb
    split at hb2
    · rename_i e
      left
      show (if b = D then some (.deferred (some [])) else B.g.Φ b) = some o
      rw [if_pos e]; exact hb2
    · rename_i e
      rcases hI.ext.phin b o hb2 with h1 | h1 | h1
      · left
        show (if b = D then some (.deferred (some [])) else B.g.Φ b) = some o
        rw [if_neg e]; exact h1
      · exact .inr (.inl h1)
      · exact .inr (.inr ((hmark b).2 h1))
  · rcases hblk i b hi with ⟨h1, h2⟩ | ⟨h1, h2, h3⟩
    · exact (hI.ext.own i b h2).imp id (hmark b).2
    · exact (hownB b (hx.own i b h3)).imp id (hmark b).2
  · exact hI.ext.n
  · have hi' : fixB (getE B.E i) = true := hi
    by_cases ha : actB ch0 i = true
    · obtain ⟨hil, hphi, hk⟩ := hact i ha
      have hc : isCells (getE E i) = true := by
        cases hE : getE E i with
        | cells _ _ => rfl
        | none => rw [hE] at hk; cases h0 : getE ch0 i <;> rw [h0] at hk <;> first | (simp [kd] at hk; done) | (simp [actB, h0] at ha; done)
        | count k => rw [hE] at hk; cases h0 : getE ch0 i <;> rw [h0] at hk <;> first | (simp [kd] at hk; done) | (simp [actB, h0] at ha; done)
        | smp k ks vs => rw [hE] at hk; cases h0 : getE ch0 i <;> rw [h0] at hk <;> first | (simp [kd] at hk; done) | (simp [actB, h0] at ha; done)
        | row k ks vs => rw [hE] at hk; cases h0 : getE ch0 i <;> rw [h0] at hk <;> first | (simp [kd] at hk; done) | (simp [actB, h0] at ha; done)
        | heap _ => rw [hE] at hk; cases h0 : getE ch0 i <;> rw [h0] at hk <;> first | (simp [kd] at hk; done) | (simp [actB, h0] at ha; done)
        | mit _ _ _ _ => rw [hE] at hk; cases h0 : getE ch0 i <;> rw [h0] at hk <;> first | (simp [kd] at hk; done) | (simp [actB, h0] at ha; done)
        | vect T' t' xs' => exact (hI.ext.kin i _ _ _ hi' hE).elim
      have h1 := cellsA i hc
      rw [h1.1, h1.2.1, h1.2.2]; exact hI.ext.ids i hi'
    · rw [nB i ha, nV i ha, nL i ha]; exact hI.ext.ids i hi'
  · have hi' : fixB (getE B.E i) = true := hi
    rw [hget] at hv
    split at hv
    · cases hE : getE E i with
      | none => rw [hE] at hv; cases hv
      | count k => rw [hE] at hv; cases hv
      | cells _ _ => rw [hE] at hv; cases hv
      | smp _ _ _ => rw [hE] at hv; cases hv
      | row _ _ _ => rw [hE] at hv; cases hv
      | heap _ => rw [hE] at hv; cases hv
      | mit _ _ _ _ => rw [hE] at hv; cases hv
      | vect _ _ _ => exact hI.ext.kin i _ _ _ hi' hE
    · have ha : actB ch0 i = true := Classical.byContradiction fun ha => by rw [hna' i ha] at hv; cases hv
      obtain ⟨hil, hphi, hk⟩ := hact i ha
      have hk2 := hshk i
      rw [hv] at hk2
      rw [← hk2] at hk
      cases hE : getE E i with
      | vect _ _ _ => exact hI.ext.kin i _ _ _ hi' hE
      | none => rw [hE] at hk; simp [kd] at hk
      | count k => rw [hE] at hk; simp [kd] at hk
      | cells _ _ => rw [hE] at hk; simp [kd] at hk
      | smp _ _ _ => rw [hE] at hk; simp [kd] at hk
      | row _ _ _ => rw [hE] at hk; simp [kd] at hk
      | heap _ => rw [hE] at hk; simp [kd] at hk
      | mit _ _ _ _ => rw [hE] at hk; simp [kd] at hk
end Go.Proofs.Ytafcenlbllmahaa.Fw
set_option linter.unusedVariables false
set_option linter.unusedSimpArgs false
set_option maxHeartbeats 1000000
namespace Go.Proofs.Ytafcenlbllmahaa.Fw
open Go Go.RowKit

theorem rg_eval {g : Gh} {u : Value} {gf : FuncId} {captured : List AV} (h : R g (.fn (.func gf) [] captured) u) : ∃ ws : Array Value, u = .func (.func gf) #[] ws ∧ RL g captured ws.toList := by
  cases h with | fn _ _ _ vs ws hl hl' hr hr' =>
  have e1 : vs = #[] := Array.eq_empty_of_size_eq_zero (by simpa using hl.symm)
  subst e1
  exact ⟨ws, rfl, RL.mk (by simpa using hl') fun i y u h1 h2 => hr' i y u h1 (by simpa using h2)⟩

theorem CodeN.range {P : Program} {N : Nat} {M : List Bool} {S : Sc} {gop : Operand} {ps : Array Tmp} {assign body : Code} {env : Env} {E : List Chunk} {K : Ex → Env → List Chunk → Prop} (hm : P.follows .mixedOrders = true) (hok : S.ok = true) (φ : List Nat)
    (h : frzT φ env E fun env1 E1 => RangeQ P N S gop ps.toList assign body φ env E K env1 E1) : CodeN P N S M (.rangeFunc gop ps assign body) env E K where
  h := by
    intro r g a w hr hM ⟨B, hB, hI, hd⟩ hN
    have hr' : r = none := hr.resolve_right (by simp [noDraw])
    subst hr'
    obtain ⟨g1, env1, E1, hs1, he1, hq, hlike, hΦ1, hΦ2, hl1, hrest, hkd, hin⟩ := frzT_ok φ hI.sim hI.er h
    obtain ⟨gf, captured, lb, α, encs, xs, X, inv, Kx, ch, x0, hg, hcap, hit, hps, hpN, hle, hsh, hnd, h0, hround, hdone, hstop⟩ := hq.h
    have hgv := he1.ev gop
    rw [hg] at hgv
    obtain ⟨ws, hgop, hws⟩ := rg_eval hgv
    obtain ⟨gfn, hgfn, hgbody, hgname⟩ := hit.callable
    have hlen := hI.sim.len
    have hl0 : lenE (ch x0) = lenE E := by rw [LeE_len _ _ hle, idn_len]
    have hcx : ∀ x, cellsL (ch x) = cellsL (ch x0) := fun x => shapeB_cells (hsh x)
    have hlx : ∀ x, lenE (ch x) = lenE E := fun x => by rw [(shapeB_kd (hsh x)).1, hl0]
    refine wpIn_rangeFunc ?_
    intro fn hfn
    obtain ⟨D, hD⟩ : ∃ D, D = w.heap.size := ⟨_, rfl⟩
    obtain ⟨l, hl⟩ : ∃ l, l = w.heap.size + 1 := ⟨_, rfl⟩
    obtain ⟨rec, hrec⟩ : ∃ rec : LoopState → Option Code → Loop, rec = fun st pe => { state := st, pending := pe, fn, tmps := a.tmps, params := ps, assign, body, defers := w.heap.size } := ⟨_, rfl⟩
    obtain ⟨W1, hW1⟩ : ∃ W1, (w.alloc (.deferred (some []))).alloc (.loop (rec .ready none)) = W1 := ⟨_, rfl⟩
    have hgr1 : Grown w W1 := by rw [← hW1]; exact (Grown.alloc _ _).trans (Grown.alloc _ _)
    have hsz1 : W1.heap.size = w.heap.size + 2 := by rw [← hW1]; simp
    have hL1 : W1.heap[l]? = some (.loop (rec .ready none)) := by
      rw [← hW1, hl]; have := World.alloc_heap_new (w.alloc (.deferred (some []))) (.loop (rec .ready none)); rwa [World.size_alloc] at this
    have hK1 : W1.heap[D]? = some (.deferred (some [])) := by
      rw [← hW1, hD]; exact (Below.heap_alloc _ _ _ (by simp)).trans (World.alloc_heap_new w _)
    have hDl : D ≠ l := by omega
    -- the ghost where the loop begins
    obtain ⟨gr, hgr⟩ : ∃ gr, gr = g1.ren (idn (lenE E)) := ⟨_, rfl⟩
    have hsr : Sim gr (ch x0) w := by
      rw [hgr]
      refine hs1.ren hle ?_
      have : ∀ n, nodupB (idn n) = true := by
        intro n
        have hnd : (idn n).Nodup := by
          induction n with
          | zero => exact List.nodup_nil
          | succ n ih =>
            rw [idn, List.nodup_append]
            refine ⟨ih, by simp, fun a ha b hb e => ?_⟩
            simp at hb
            subst hb e
            obtain ⟨j, hj⟩ := List.mem_iff_getElem?.1 ha
            have hjl := (List.getElem?_eq_some_iff.1 hj).1
            rw [idn_len] at hjl
            rw [idn_at _ _ hjl] at hj
            cases hj; omega
        generalize idn n = l at hnd
        induction l with
        | nil => rfl
        | cons i r ih =>
          have h' := List.nodup_cons.1 hnd
          simp only [nodupB]
          split
          · rename_i ha
            obtain ⟨b, hb, hb2⟩ := List.any_eq_true.1 ha
            have := Nat.eq_of_beq_eq_true hb2
            subst this
            exact (h'.1 hb).elim
          · exact ih h'.2
      exact this _
    have her : ER gr (mapEnv (okF (ch x0)) env1) a.tmps := by
      intro t
      rw [look_mapEnv]
      refine R.map (g := g1) (g' := gr) _ (by rw [hgr]; exact fun _ _ h => h) (okF_ok (by rw [hgr]; show g1.n ≤ (idn (lenE E)).length; rw [idn_len, hlike.n, hlen]; exact Nat.le_refl _) (fun i hc => ?_)) (he1 t)
      rw [hgr]
      refine (ren_at g1 (idn_at _ i ?_)).1
      rw [← hl0]
      exact getE_lt (fun e => by rw [e] at hc; cases hc)
    have hblkl : ∀ {g2 : Gh} {x : X} {W : World}, Sim g2 (ch x) W → (∃ o, W.heap[l]? = some (.loop o)) → ∀ i b, (getE (ch x) i).own g2 i b → b ≠ l := by
      intro g2 x W hs ⟨o, ho⟩ i b hb e
      subst e
      obtain ⟨o1, h1, h1p⟩ := blk_cells (hs.sat i) hb
      rw [h1] at ho; cases ho; cases h1p
    -- where the loop stands
    obtain ⟨St, hSt⟩ : ∃ St : LoopState → Option Code → X → Gh → (Nat → Prop) → World → Prop, St = fun st pe x g2 own W => ∃ Wb, Grown w Wb ∧ Wb.heap.size = W1.heap.size ∧ Sim g2 (ch x) W ∧ ER g2 (mapEnv (okF (ch x0)) env1) a.tmps ∧ Ext ⟨gr, ch x0, Wb⟩ g2 (ch x) W ∧
      (∀ b, own b ↔ b = l ∨ ∃ i, (getE (ch x) i).own g2 i b) ∧ W.heap[l]? = some (.loop (rec st pe)) ∧ W.heap[D]? = some (.deferred (some [])) ∧ g2.Φ l = none := ⟨_, rfl⟩
    have hgrow : ∀ {st pe x g2 own W W'}, St st pe x g2 own W → Grown W W' → St st pe x g2 own W' := by
      intro st pe x g2 own W W' h hg
      rw [hSt] at h ⊢
      obtain ⟨Wb, h1, h2, h3, h4, h5, h6, h7, h8, h9⟩ := h
      exact ⟨Wb, h1, h2, h3.grown hg, h4, h5.grow hg, h6, by rw [hg.same l (lt_heap h7)]; exact h7, by rw [hg.same D (lt_heap h8)]; exact h8, h9⟩
    have hΦl : gr.Φ l = none := by
      cases hp : gr.Φ l with
      | none => rfl
      | some o => have := lt_heap (hsr.phi l o hp); omega
    -- behind it
    have hafter : ∀ {st pe x g2 own W}, St st pe x g2 own W → ∀ o : Loop, flatE (ch x0) (ch x) = true → ∀ K' : Env → List Chunk → Prop, K' (mapEnv (unF φ E) env) (resE (unF φ E) φ 0 E (ch x)) →
        ∃ g' env' E', Iv S g' env' E' { a with defers := [{ target := .collected D, args := #[] }] ++ a.defers } (W.putObj l (.loop o)) ∧ K' env' E' := by
      intro st pe x g2 own W h o hfl K' hK'
      rw [hSt] at h
      obtain ⟨Wb, h1, h2, h3, h4, h5, h6, h7, h8, h9⟩ := h
      have hlW := lt_heap h7
      have hp : Inv ⟨gr, ch x0, Wb.putObj l (.loop o)⟩ g2 [] (ch x) #[] (W.putObj l (.loop o)) := Inv.poke (B := ⟨gr, ch x0, Wb⟩) ⟨fun t => .undef _, h3, h5⟩ (.loop o) h9 (hblkl h3 ⟨_, h7⟩) hlW
      have hgb : Grown w (Wb.putObj l (.loop o)) := ⟨h1.os, h1.tape, ⟨h1.output.o, h1.output.d⟩, by simpa using h1.size, fun b hb => by rw [World.putObj_heap_other (by omega)]; exact h1.same b hb⟩
      have hx : Ext ⟨g1.ren (idn (lenE E)), ch x0, Wb.putObj l (.loop o)⟩ g2 (ch x) (W.putObj l (.loop o)) := by rw [← hgr]; exact hp.ext
      obtain ⟨gf', hf⟩ := after_range (D := D) hI hlike hΦ1 hrest hkd hin hs1 hle hgb (by omega) (by rw [World.putObj_heap_other hDl]; exact h8) hp.sim hx (hsh x) hfl
      refine ⟨gf', _, _, ⟨B.mark D, S.cl hok B D hB (by rw [hD]; exact Nat.le_trans (S.hb hok B hB) hI.ext.size), hf, ?_⟩, hK'⟩
      refine ⟨fun h => (by rw [hok] at h; cases h), ?_⟩
      obtain ⟨_, Ds, hds, hnd', hDs⟩ := hd
      refine ⟨D :: Ds, by rw [hds]; rfl, List.nodup_cons.2 ⟨fun hm => ?_, hnd'⟩, fun D' hD' => ?_⟩
      · have h10 := (hDs D hm).2
        have := lt_heap (hI.sim.phi D _ (hI.ext.phi D _ h10))
        omega
      · have hmk : ∀ b, (B.mark D).g.Φ b = if b = D then some (.deferred (some [])) else B.g.Φ b := fun _ => rfl
        rcases List.mem_cons.1 hD' with e | hD'
        · rw [e, hmk, if_pos rfl]; exact ⟨by rw [hD]; exact Nat.le_trans (S.hb hok B hB) hI.ext.size, rfl⟩
        · obtain ⟨h10, h11⟩ := hDs D' hD'
          refine ⟨h10, ?_⟩
          rw [hmk]
          split
          · rfl
          · exact h11
    refine ⟨l, [{ target := .collected D, args := #[] }], W1, { target := .fn (.func gf) ws, args := #[.func (.yield l) #[] #[]] }, W1, gf, #[.func (.yield l) #[] #[]] ++ ws, W1, ?_, ?_, fun _ _ => trivial, ?_, fun h => by simp [Fr, Fence.wide] at h, ?_⟩
    · rw [← hW1, hrec, hl, hD]; exact run_enterLoop_outer _ _ _ _ _
    · simp only [resolve, hgop]
      simp [go_sem]
    · have hbn : gfn.body ≠ none := by intro e; rw [e] at hgbody; simp at hgbody
      simp [invoke, callFunc, hgfn, hgname, hbn]
    · have hself : ∀ b, (∃ i, (getE (ch x0) i).own gr i b) → b < w.heap.size := fun b ⟨i, hi⟩ => sat_lt (hsr.sat i) hi
      have hI0 : St .ready none x0 gr (fun b => b = l ∨ ∃ i, (getE (ch x0) i).own gr i b) W1 := by
        rw [hSt]
        exact ⟨W1, hgr1, rfl, hsr.grown hgr1, her, refl_ext hsr.len, fun _ => Iff.rfl, hL1, hK1, hΦl⟩
      have hsit : Sim (g1.ren []) [] W1 := (hs1.ren (π := []) (E' := []) trivial rfl).grown hgr1
      refine callsIn_Fr.2 ?_
      have hcalls : Calls P gf (#[Value.func (.yield l) #[] #[]] ++ ws) W1 (fun e W' => (∃ v, e = .returned v) ∧ ((∃ own, ∃ x g2, inv xs.length x ∧ St .ready none x g2 own W') ∨ ∃ own, ∃ x g2 e c, Ex.code e = some c ∧ Kx e x ∧ St .done (some c) x g2 own W')) := by
        have := hit.h (g1.ren []) W1 ws.toList l hsit (LeL_ok _ _ _ hcap hws) (fun k own W => ∃ x g2, inv k x ∧ St .ready none x g2 own W) (fun own W => ∃ x g2 e c, Ex.code e = some c ∧ Kx e x ∧ St .done (some c) x g2 own W)
          (fun b => b = l ∨ ∃ i, (getE (ch x0) i).own gr i b) ?_ ?_ ?_ ⟨x0, gr, h0, hI0⟩ ?_
        · have e : (#[Value.func (.yield l) #[] #[]] ++ ws) = (Value.func (.yield l) #[] #[] :: ws.toList).toArray := by apply Array.ext'; simp
          rw [e]; exact this
        · rintro k own W W' ⟨x, g2, h1, h2⟩ hg; exact ⟨x, g2, h1, hgrow h2 hg⟩
        · rintro own W W' ⟨x, g2, e, c, h1, h2, h3⟩ hg; exact ⟨x, g2, e, c, h1, h2, hgrow h3 hg⟩
        · rintro b (rfl | hb)
          · refine ⟨by omega, ?_⟩
            rw [hgr] at hΦl; exact hΦl
          · have hlt := hself b hb
            refine ⟨by omega, ?_⟩
            obtain ⟨i, hi⟩ := hb
            have := hsr.dphi i b hi
            rw [hgr] at this; exact this
        · -- one round
          rintro k y own W us hy ⟨x, g2, hi, hst⟩ hown hus
          have hst0 := hst
          rw [hSt] at hst
          obtain ⟨Wb, h1, h2, h3, h4, h5, h6, h7, h8, h9⟩ := hst
          have hlW := lt_heap h7
          have husl : us.toArray.size = ps.size := by
            have := (hus g2).length
            rw [hps] at this
            simpa using this.symm
          have hyield := run_yield (P := P) (args := us.toArray) h7 (by rw [hrec]; exact husl)
          rw [hrec] at hyield
          refine ⟨fn, _, assign, body, hyield, roundIn_of_wpIn (F := Fence.wide) (n := 0) trivial ?_⟩
          have hfold : (ps.zip us.toArray).foldl (fun t (p, v) => t.setIfInBounds p v) a.tmps = (ps.toList.zip us).foldl (fun t (p, v) => t.setIfInBounds p v) a.tmps := by
            rw [← Array.foldl_toList]; simp
          have hbind : ER g2 (bindP ps.toList (encs y) (mapEnv (okF (ch x0)) env1)) ((ps.toList.zip us).foldl (fun t (p, v) => t.setIfInBounds p v) a.tmps) :=
            ER.bindP _ _ _ h4 (hus g2) (fun p hp => by rw [hN]; exact hpN p hp) (by rw [hps])
          have hsizeF : ∀ (l : List (Nat × Value)) (t : Array Value), (l.foldl (fun t (p, v) => t.setIfInBounds p v) t).size = t.size := by
            intro l; induction l with
            | nil => intro t; rfl
            | cons c r ih => intro t; simp [List.foldl_cons, ih]
          let S1 : Sc := ⟨fun B => B = ⟨g2, ch x, W⟩, 0, false, by simp, by simp⟩
          let S2 : Sc := ⟨fun B => B = ⟨g2, ch x, W.putObj l (.loop { rec .ready none with state := .busy })⟩, 0, false, by simp, by simp⟩
          have hr0 := hround S1 S2 k x y hy hi
          have hiv : Iv S1 g2 (bindP ps.toList (encs y) (mapEnv (okF (ch x0)) env1)) (ch x) { tmps := (ps.zip us.toArray).foldl (fun t (p, v) => t.setIfInBounds p v) a.tmps, defers := [] } W :=
            ⟨⟨g2, ch x, W⟩, rfl, ⟨by rw [hfold]; exact hbind, h3, refl_ext h3.len⟩, fun _ => rfl, [], rfl, List.nodup_nil, by simp⟩
          have hw1 := sCode_ok (S := S1) (M := cellsL (ch x0)) hm (fun B hB => by rw [show B = ⟨g2, ch x, W⟩ from hB]; exact hcx x) assign (some l) (.inr hnd.1) hiv (by simp only [hfold, hsizeF]; exact hN) hr0
          refine Go.wpIn_mono (F := Fr (some l)) hw1 ?_
          rintro e1 a1 w1 ⟨e1', g3, env3, E3, rfl, ⟨_, rfl, hI3, hd3, _⟩, hN3, hk3⟩
          cases e1' with
          | ret => exact hk3.elim
          | exit n => exact hk3.elim
          | normal =>
          have hb3 : ∀ i b, (getE E3 i).own g3 i b → b ≠ l := fun i b hb e => by
            subst e
            rcases hI3.ext.own i b hb with h10 | ⟨j, hj⟩
            · exact absurd h10 (by simp only; omega)
            · exact hblkl h3 ⟨_, h7⟩ j b hj rfl
          have hl3 : w1.heap[l]? = some (.loop (rec .ready none)) := by
            rw [hI3.ext.keep l hlW (fun ⟨j, hj⟩ => hblkl h3 ⟨_, h7⟩ j l hj rfl)]; exact h7
          have hΦ3 : g3.Φ l = none := by
            cases hp : g3.Φ l with
            | none => rfl
            | some o =>
              rcases hI3.ext.phin l o hp with h10 | h10 | ⟨j, hj⟩
              · have : g2.Φ l = some o := h10
                rw [h9] at this; cases this
              · exact absurd h10 (by simp only; omega)
              · exact (hblkl h3 ⟨_, h7⟩ j l hj rfl).elim
          have hlw1 := lt_heap hl3
          refine ⟨_, run_beginRound hl3 (by rw [hrec]), ?_⟩
          have hI4 := hI3.poke (.loop { rec .ready none with state := .busy }) hΦ3 hb3 hlw1
          have hiv2 : Iv S2 g3 env3 E3 a1 (w1.putObj l (.loop { rec .ready none with state := .busy })) := ⟨_, rfl, hI4, hd3, [], hd3 rfl, List.nodup_nil, by simp⟩
          have hw2 := sCode_ok (S := S2) (M := cellsL (ch x0)) hm (fun B hB => by rw [show B = ⟨g2, ch x, W.putObj l (.loop { rec .ready none with state := .busy })⟩ from hB]; exact hcx x) body (some l) (.inr hnd.2) hiv2 hN3 hk3
          refine Go.wpIn_mono (F := Fr (some l)) hw2 ?_
          rintro e2 a2 w2 ⟨e2', g5, env5, E5, rfl, ⟨_, rfl, hI5, _⟩, hN5, hk5⟩
          have hlW' : l < (W.putObj l (.loop { rec .ready none with state := .busy })).heap.size := by simpa using hlW
          have hown' : ∀ b, (⟨g2, ch x, W.putObj l (.loop { rec .ready none with state := .busy })⟩ : Base).owns b → b ≠ l := fun b ⟨j, hj⟩ => hblkl h3 ⟨_, h7⟩ j b hj
          have hl5 : w2.heap[l]? = some (.loop { rec .ready none with state := .busy }) := by
            rw [hI5.ext.keep l hlW' (fun h => hown' l h rfl)]; exact World.putObj_heap_same hlW
          have hlw2 := lt_heap hl5
          have hD5 : w2.heap[D]? = some (.deferred (some [])) := by
            have hDW := lt_heap h8
            have hno : ¬ (⟨g2, ch x, W.putObj l (.loop { rec .ready none with state := .busy })⟩ : Base).owns D := fun ⟨j, hj⟩ => by
              obtain ⟨o10, h10, h10p⟩ := blk_cells (h3.sat j) hj
              rw [h8] at h10; cases h10; cases h10p
            rw [hI5.ext.keep D (by simpa using hDW) hno]
            show (W.putObj l _).heap[D]? = _
            rw [World.putObj_heap_other hDl]; exact h8
          have hb5 : ∀ i b, (getE E5 i).own g5 i b → b ≠ l := fun i b hb e => by
            subst e
            rcases hI5.ext.own i b hb with h10 | h10
            · have h11 : W.heap.size ≤ b := by simpa using h10
              omega
            · exact hown' b h10 rfl
          have hΦ5 : g5.Φ l = none := by
            cases hp : g5.Φ l with
            | none => rfl
            | some o =>
              rcases hI5.ext.phin l o hp with h10 | h10 | h10
              · have : g2.Φ l = some o := h10
                rw [h9] at this; cases this
              · have h11 : W.heap.size ≤ l := by simpa using h10
                omega
              · exact (hown' l h10 rfl).elim
          -- a round's end
          have fin : ∀ (jump : Option Code) (x' : X) (π : List Nat), nodupB π = true → headB (cellsL (ch x0)) 0 π = true → LeE π E5 π (ch x') →
              ∃ own' g6, (Instr.endRound l jump).run P w2 = .ok (.bool jump.isNone) (w2.putObj l (.loop (rec (if jump.isNone then .ready else .done) jump))) ∧ Kept own own' W (w2.putObj l (.loop (rec (if jump.isNone then .ready else .done) jump))) ∧
                St (if jump.isNone then .ready else .done) jump x' g6 own' (w2.putObj l (.loop (rec (if jump.isNone then .ready else .done) jump))) := by
            intro jump x' π hn hh hle'
            have hrun := run_endRound (P := P) jump hl5
            have hrun : (Instr.endRound l jump).run P w2 = .ok (.bool jump.isNone) (w2.putObj l (.loop (rec (if jump.isNone then .ready else .done) jump))) := by
              rw [hrec] at hrun ⊢; exact hrun
            obtain ⟨ob, hob⟩ : ∃ ob, ob = Obj.loop (rec (if jump.isNone then .ready else .done) jump) := ⟨_, rfl⟩
            rw [← hob] at hrun ⊢
            have hI6 := (hI5.poke ob hΦ5 hb5 hlw2).ren (env' := []) trivial hle' hn (by rw [hcx x]; exact hh)
            have hp1 : Inv ⟨gr, ch x0, Wb⟩ g2 [] (ch x) #[] W := ⟨fun t => .undef _, h3, h5⟩
            have hp2 := hp1.poke (.loop { rec .ready none with state := .busy }) h9 (hblkl h3 ⟨_, h7⟩) hlW
            have hp3 := hp2.poke ob h9 (hblkl h3 ⟨_, h7⟩) hlW'
            have hcells : ∀ i, fixB (getE (ch x0) i) = true → fixB (getE (ch x) i) = true := by
              intro i hc
              have hk := (shapeB_kd (hsh x)).2 i
              cases hc0 : getE (ch x0) i <;> rw [hc0] at hc <;> first | (cases hc; done) | skip
              all_goals
                rw [hc0] at hk
                cases hcx : getE (ch x) i <;> rw [hcx] at hk <;> first | rfl | (simp [kd] at hk; done)
            have hx6 := Ext.trans (B := ⟨gr, ch x0, (Wb.putObj l (.loop { rec .ready none with state := .busy })).putObj l ob⟩) hp3.ext hI6.ext hcells (by simp only [hlx]; exact Nat.le_refl _)
            have hother : ∀ (W : World) b, b ≠ l → ((W.putObj l (.loop { rec .ready none with state := .busy })).putObj l ob).heap[b]? = W.heap[b]? := fun W b hb => by rw [World.putObj_heap_other hb, World.putObj_heap_other hb]
            have hown6 : ∀ b, (⟨g2, ch x, (W.putObj l (.loop { rec .ready none with state := .busy })).putObj l ob⟩ : Base).owns b → own b := fun b ⟨j, hj⟩ => (h6 b).2 (.inr ⟨j, hj⟩)
            refine ⟨fun b => b = l ∨ ∃ i, (getE (ch x') i).own (g5.ren π) i b, g5.ren π, hrun, ⟨hI6.ext.os, hI6.ext.tape, ⟨hI6.ext.output.o, hI6.ext.output.d⟩, by have := hI6.ext.size; simpa using this, fun b hb hnb => ?_, fun b hb => ?_, fun b hb => ?_⟩, ?_⟩
            · have hbl : b ≠ l := fun e => hnb ((h6 b).2 (.inl e))
              rw [hI6.ext.keep b (by simpa using hb) (fun h => hnb (hown6 b h))]
              exact hother W b hbl
            · rcases hb with rfl | ⟨i, hi⟩
              · exact .inl ((h6 b).2 (.inl rfl))
              · rcases hI6.ext.own i b hi with h10 | h10
                · right; simpa using h10
                · exact .inl (hown6 b h10)
            · rcases hb with rfl | ⟨i, hi⟩
              · simpa using hlw2
              · exact sat_lt (hI6.sim.sat i) hi
            · rw [hSt]
              refine ⟨(Wb.putObj l (.loop { rec .ready none with state := .busy })).putObj l ob, ⟨h1.os, h1.tape, ⟨h1.output.o, h1.output.d⟩, by simpa using h1.size, fun b hb => ?_⟩, by simpa using h2, hI6.sim, ?_, hx6, fun _ => Iff.rfl, ?_, ?_, hΦ5⟩
              · rw [hother Wb b (by omega)]; exact h1.same b hb
              · have := ER.okF (g' := g5.ren π) (ch := ch x0) h4 (by rw [← h3.len, ← hI6.sim.len, hlx, hlx]; exact Nat.le_refl _) hI6.ext.phi (fun i hc => ?_)
                · rwa [okF_env] at this
                · cases hc0 : getE (ch x0) i with
                  | cells T cs => exact (hI6.ext.ids i (hcells i (by rw [hc0]; rfl))).1
                  | none => rw [hc0] at hc; cases hc
                  | count k => rw [hc0] at hc; cases hc
                  | smp _ _ _ => rw [hc0] at hc; cases hc
                  | row _ _ _ => rw [hc0] at hc; cases hc
                  | heap _ => rw [hc0] at hc; cases hc
                  | mit _ _ _ _ => rw [hc0] at hc; cases hc
                  | vect _ _ _ => rw [hc0] at hc; cases hc
              · rw [← hob]; exact World.putObj_heap_same hlw2
              · rw [World.putObj_heap_other hDl]; exact hD5
          cases e2' with
          | normal =>
            obtain ⟨x', π, hn, hh, hle', hi'⟩ := hk5
            obtain ⟨own', g6, h10, h11, h12⟩ := fin none x' π hn hh hle'
            exact ⟨_, _, h10, own', h11, .inl ⟨rfl, x', g6, hi', h12⟩⟩
          | ret =>
            obtain ⟨x', π, hn, hh, hle', hi'⟩ := hk5
            obtain ⟨own', g6, h10, h11, h12⟩ := fin (some .ret) x' π hn hh hle'
            exact ⟨_, _, h10, own', h11, .inr ⟨rfl, x', g6, .ret, .ret, rfl, hi', h12⟩⟩
          | exit n =>
            obtain ⟨x', π, hn, hh, hle', hi'⟩ := hk5
            obtain ⟨own', g6, h10, h11, h12⟩ := fin (some (.exit n)) x' π hn hh hle'
            exact ⟨_, _, h10, own', h11, .inr ⟨rfl, x', g6, .exit n, .exit n, rfl, hi', h12⟩⟩
      refine Calls.mono hcalls ?_
      rintro e W2 ⟨⟨v, rfl⟩, ⟨own, x, g2, hi, hst⟩ | ⟨own, x, g2, e, c, hc, hkx, hst⟩⟩
      · have hst0 := hst
        rw [hSt] at hst0
        obtain ⟨_, _, _, _, _, _, _, h7, _⟩ := hst0
        obtain ⟨hfl, hKd⟩ := hdone x hi
        have hrun := run_endLoop (P := P) h7 (by rw [hrec]; simp)
        obtain ⟨g', env', E', h10, h11⟩ := hafter hst { rec .ready none with state := .exhausted } hfl (K .normal) hKd
        exact ⟨none, _, by rw [hrec] at hrun ⊢; exact hrun, .normal, g', env', E', rfl, h10, hN, h11⟩
      · have hst0 := hst
        rw [hSt] at hst0
        obtain ⟨_, _, _, _, _, _, _, h7, _⟩ := hst0
        obtain ⟨hfl, hKd⟩ := hstop e x hkx (fun h => by rw [h] at hc; cases hc)
        have hrun := run_endLoop (P := P) h7 (by rw [hrec]; simp)
        obtain ⟨g', env', E', h10, h11⟩ := hafter hst { rec .done (some c) with state := .exhausted } hfl (K e) hKd
        have hrun : (Instr.endLoop l).run P W2 = .ok (some c) (W2.putObj l (.loop { rec .done (some c) with state := .exhausted })) := by rw [hrec] at hrun ⊢; exact hrun
        refine ⟨some c, _, hrun, ?_⟩
        cases e with
        | normal => cases hc
        | ret => cases hc; exact wpIn_ret ⟨.ret, g', env', E', rfl, h10, hN, h11⟩
        | exit n => cases hc; exact wpIn_exit ⟨.exit n, g', env', E', rfl, h10, hN, h11⟩
end Go.Proofs.Ytafcenlbllmahaa.Fw
set_option linter.unusedVariables false
set_option linter.unusedSimpArgs false
namespace Go.Proofs.Ytafcenlbllmahaa.Fw
open Go Go.RowKit

def snV (n sz : Nat) : AV → AV
  | .snil => .vec n sz (fun _ => 0) (fun _ => 0) | v => v
def snL (n sz : Nat) : Nat → List AV → List AV
  | _, [] => [] | 0, c :: r => snV n sz c :: r | j + 1, c :: r => c :: snL n sz j r
def snEnv (n sz : Nat) (ts : List Nat) : Env → Env
  | [] => [] | (k, v) :: r => (k, match inB ts k with | true => snV n sz v | false => v) :: snEnv n sz ts r
/-- Chunk i's cell j, and the slots ts: what is nil there leads into a new chunk. -/
def snE (T : TypeId) (t : Ty) (E : List Chunk) : Option (Nat × Nat) → List Chunk
  | none => addE E (.vect T t fun _ => [])
  | some (i, j) => (match getE E i with | .cells T' cs => setE (addE E (.vect T t fun _ => [])) i (.cells T' (snL (lenE E) t.size j cs)) | _ => addE E (.vect T t fun _ => []))

theorem snV_ok {g g' : Gh} {n sz : Nat} (hn : n < g'.n) (hV : g'.V n = none) (hm : ∀ v u, R g v u → R g' v u) {v : AV} {u : Value} (h : R g v u) : R g' (snV n sz v) u := by
  cases v <;> first | exact hm _ _ h | skip
  cases h
  exact .vec n sz (fun _ => 0) (fun _ => 0) none 0 hn (Nat.zero_le _) (fun _ => ⟨rfl, rfl, rfl, rfl⟩) (fun cap hc => by rw [hV] at hc; cases hc)
theorem snL_ok {g g' : Gh} {n sz : Nat} (hn : n < g'.n) (hV : g'.V n = none) (hm : ∀ v u, R g v u → R g' v u) : ∀ (j : Nat) (cs : List AV) (us : List Value), RL g cs us → RL g' (snL n sz j cs) us
  | j, [], [], _ => by cases j <;> exact trivial
  | 0, c :: r, u :: us, h => ⟨snV_ok hn hV hm h.1, RL.mk h.2.length (fun i y u h1 h2 => hm _ _ (h.2.at_ i y u h1 h2))⟩
  | j + 1, c :: r, u :: us, h => ⟨hm _ _ h.1, snL_ok hn hV hm j r us h.2⟩
  | _, [], _ :: _, h => h.elim
  | _, _ :: _, [], h => h.elim
theorem snEnv_ok {g g' : Gh} {n sz : Nat} {ts : List Nat} (hn : n < g'.n) (hV : g'.V n = none) (hm : ∀ v u, R g v u → R g' v u) {tmps : Array Value} : ∀ (env : Env), ER g env tmps → ER g' (snEnv n sz ts env) tmps := by
  have one : ∀ (env : Env) (t : Nat), look (snEnv n sz ts env) t = look env t ∨ look (snEnv n sz ts env) t = snV n sz (look env t) := by
    intro env t
    induction env with
    | nil => exact .inl rfl
    | cons p r ih =>
      obtain ⟨k, v⟩ := p
      simp only [snEnv, look]
      cases Nat.beq k t
      · exact ih
      · simp only
        cases inB ts k
        · exact .inl rfl
        · exact .inr rfl
  intro env h t
  rcases one env t with e | e <;> rw [e]
  · exact hm _ _ (h t)
  · exact snV_ok hn hV hm (h t)

theorem Iv.nil {S : Sc} {g : Gh} {env : Env} {E : List Chunk} {a : Act} {w : World} (h : Iv S g env E a w) (T : TypeId) (t : Ty) (p : Option (Nat × Nat)) (ts : List Nat) :
    ∃ g', Iv S g' (snEnv (lenE E) t.size ts env) (snE T t E p) a w := by
  obtain ⟨B, hB, hI, hd⟩ := h
  have hlen := hI.sim.len
  have hN := hI.new (c := .vect T t fun _ => []) (b := 0) (v := none) (l := 0) (w' := w) rfl rfl (Outs.refl _) (Nat.le_refl _) (fun _ _ => rfl)
    ⟨by simp [Gh.add], fun _ => rfl, fun cap hc => by simp [Gh.add] at hc⟩ (fun b hb => by simp [Chunk.own, Gh.add] at hb)
  have hle := g.le_add 0 none 0
  have hm : ∀ v u, R g v u → R (g.add 0 none 0) v u := fun v u h => h.mono hle
  have hn : lenE E < (g.add 0 none 0).n := by rw [hlen]; exact Nat.lt_succ_self _
  have hV : (g.add 0 none 0).V (lenE E) = none := by simp [Gh.add, hlen]
  have henv := snEnv_ok (ts := ts) (sz := t.size) hn hV hm env hI.er
  have base : Iv S (g.add 0 none 0) (snEnv (lenE E) t.size ts env) (addE E (.vect T t fun _ => [])) a w := ⟨B, hB, ⟨henv, hN.sim, hN.ext⟩, hd⟩
  refine ⟨g.add 0 none 0, ?_⟩
  unfold snE
  split
  · exact base
  · rename_i i j
    split
    · rename_i T' cs hc
      have hi : i < lenE E := getE_lt (by rw [hc]; simp)
      have hg : getE (addE E (.vect T t fun _ => [])) i = .cells T' cs := by rw [getE_add, if_neg (by omega)]; exact hc
      have hs := hI.sim.sat i
      rw [hc] at hs
      obtain ⟨vs, h1, h2⟩ := hs
      have hBi : (g.add 0 none 0).B i = g.B i := hle.B i (by omega)
      have hsat : (Chunk.cells T' (snL (lenE E) t.size j cs)).sat (g.add 0 none 0) i w := ⟨vs, by rw [hBi]; exact h1, snL_ok hn hV hm j cs _ h2⟩
      have hget : ∀ k, getE (setE (addE E (.vect T t fun _ => [])) i (.cells T' (snL (lenE E) t.size j cs))) k = if i = k then .cells T' (snL (lenE E) t.size j cs) else getE (addE E (.vect T t fun _ => [])) k := by
        intro k
        rw [getE_set]
        by_cases hik : i = k
        · subst hik; simp [lenE_add]; omega
        · simp [hik]
      have hblk : ∀ k b, (getE (setE (addE E (.vect T t fun _ => [])) i (.cells T' (snL (lenE E) t.size j cs))) k).own (g.add 0 none 0) k b = (getE (addE E (.vect T t fun _ => [])) k).own (g.add 0 none 0) k b := by
        intro k b
        rw [hget]
        split
        · rename_i e; subst e; rw [hg]; rfl
        · rfl
      refine ⟨B, hB, ⟨henv, ⟨by rw [lenE_set]; exact hN.sim.len, hN.sim.phi, fun k => ?_, fun k m b hk hm' => ?_, fun k b hk => ?_⟩, ⟨hN.ext.os, hN.ext.tape, hN.ext.output, hN.ext.size, hN.ext.keep, hN.ext.phi, hN.ext.phin, fun k b hk => ?_, hN.ext.n, hN.ext.ids, hN.ext.kk, fun k T2 t2 xs2 hk hv => ?_, hN.ext.idw, hN.ext.idm⟩⟩, hd⟩
      · rw [hget]
        split
        · rename_i e; subst e; exact hsat
        · exact hN.sim.sat k
      · rw [hblk] at hk hm'; exact hN.sim.dis k m b hk hm'
      · rw [hblk] at hk; exact hN.sim.dphi k b hk
      · rw [hblk] at hk; exact hN.ext.own k b hk
      · rw [hget] at hv
        split at hv
        · cases hv
        · exact hN.ext.kin k T2 t2 xs2 hk hv
    · exact base
theorem LoopN.nil {P : Program} {N : Nat} {M : List Bool} {S : Sc} {body : Code} {env : Env} {E : List Chunk} {K : Ex → Env → List Chunk → Prop} (T : TypeId) (t : Ty) (p : Option (Nat × Nat)) (ts : List Nat)
    (h : fEnv (snEnv (lenE E) t.size ts env) fun env' => fEE (snE T t E p) fun E' => LoopN P N S M body env' E' K) : LoopN P N S M body env E K where
  h := by
    intro r g a w hr hM hI hN
    obtain ⟨g', h'⟩ := hI.nil T t p ts
    rw [fEnv_eq, fEE_eq] at h
    exact h.h r g' a w hr hM h' hN
theorem CodeN.nil {P : Program} {N : Nat} {M : List Bool} {S : Sc} {c : Code} {env : Env} {E : List Chunk} {K : Ex → Env → List Chunk → Prop} (T : TypeId) (t : Ty) (p : Option (Nat × Nat)) (ts : List Nat)
    (h : fEnv (snEnv (lenE E) t.size ts env) fun env' => fEE (snE T t E p) fun E' => CodeN P N S M c env' E' K) : CodeN P N S M c env E K where
  h := by
    intro r g a w hr hM hI hN
    obtain ⟨g', h'⟩ := hI.nil T t p ts
    rw [fEnv_eq, fEE_eq] at h
    exact h.h r g' a w hr hM h' hN
theorem RangeQ.intro {P : Program} {N : Nat} {S : Sc} {gop : Operand} {ps : List Nat} {assign body : Code} {φ : List Nat} {env : Env} {E : List Chunk} {K : Ex → Env → List Chunk → Prop} {env1 : Env} {E1 : List Chunk}
    {gf : FuncId} {lb : List AV} {α : Type} {encs : α → List AV} {xs : List α} (hit : ItMeets P gf lb encs xs) (captured : List AV) {X : Type} (inv : Nat → X → Prop) (Kx : Ex → X → Prop) (ch : X → List Chunk) (x0 : X)
    (h1 : ev env1 gop = .fn (.func gf) [] captured) (h2 : LeL [] captured lb) (h3 : ∀ x, (encs x).length = ps.length) (h4 : ∀ p ∈ ps, p < N) (h5 : LeE (idn (lenE E)) E1 (idn (lenE E)) (ch x0)) (h6 : ∀ x, shapeB (ch x0) (ch x) = true) (h7 : noDraw assign = true ∧ noDraw body = true) (h8 : inv 0 x0)
    (h9 : ∀ (S1 S2 : Sc) k x y, xs[k]? = some y → inv k x → sCode P N S1 (cellsL (ch x0)) assign (bindP ps (encs y) (mapEnv (okF (ch x0)) env1)) (ch x) fun e env' E' => (match e with
      | .normal => sCode P N S2 (cellsL (ch x0)) body env' E' fun e env'' E'' => (match e with
        | .normal => ∃ x' π, nodupB π = true ∧ headB (cellsL (ch x0)) 0 π = true ∧ LeE π E'' π (ch x') ∧ inv (k + 1) x'
        | e => ∃ x' π, nodupB π = true ∧ headB (cellsL (ch x0)) 0 π = true ∧ LeE π E'' π (ch x') ∧ Kx e x')
      | _ => False))
    (h10 : ∀ x, inv xs.length x → flatE (ch x0) (ch x) = true ∧ K .normal (mapEnv (unF φ E) env) (resE (unF φ E) φ 0 E (ch x)))
    (h11 : ∀ e x, Kx e x → e ≠ .normal → flatE (ch x0) (ch x) = true ∧ K e (mapEnv (unF φ E) env) (resE (unF φ E) φ 0 E (ch x))) : RangeQ P N S gop ps assign body φ env E K env1 E1 :=
  ⟨⟨gf, captured, lb, α, encs, xs, X, inv, Kx, ch, x0, h1, h2, hit, h3, h4, h5, h6, h7, h8, h9, h10, h11⟩⟩
end Go.Proofs.Ytafcenlbllmahaa.Fw
set_option linter.unusedVariables false
set_option linter.unusedSimpArgs false
namespace Go.Proofs.Ytafcenlbllmahaa.Fw
open Go Go.RowKit

def lookL (env : Env) : Nat → Nat → List AV
  | _, 0 => [] | k, n + 1 => look env k :: lookL env (k + 1) n
theorem lookL_ok {g : Gh} {env : Env} {vals : Array Value} (h : ER g env vals) : ∀ (n k : Nat), k + n = vals.size → RL g (lookL env k n) (vals.toList.drop k)
  | 0, k, hk => by
    have : vals.toList.drop k = [] := List.drop_eq_nil_of_le (by simp; omega)
    rw [this]; trivial
  | n + 1, k, hk => by
    have hlt : k < vals.toList.length := by simp; omega
    rw [List.drop_eq_getElem_cons hlt]
    refine ⟨?_, lookL_ok h n (k + 1) (by omega)⟩
    have := h k
    rw [Array.getD_eq_getD_getElem?] at this
    have e : vals[k]? = some (vals.toList[k]'hlt) := by rw [← Array.getElem?_toList]; exact List.getElem?_eq_getElem hlt
    rw [e] at this
    exact this

/-- A call of a function that is handed nothing of ours to turn: the chunks of φ rest while it runs. -/
theorem CallN.rest {P : Program} {f : FuncId} {args args₀ : List AV} {env : Env} {E : List Chunk} {K : AV → Env → List Chunk → Prop} {Y : Type} {Q : Y → Prop} {res : Y → AV} {out : Y → List Chunk}
    (hs : Meets P f args₀ [] Q res out) (φ : List Nat) (ha : frzT φ (argEnv 0 args) E fun aenv E1 => LeL [] (lookL aenv 0 args.length) args₀)
    (hfl : ∀ y, Q y → flatV (out y) (res y) = true ∧ flatE (out y) (out y) = true)
    (k : ∀ y, Q y → fV (mapV (renF [] (lenE E)) (res y)) fun r => fEE (merE (renF [] (lenE E)) [] (out y) E) fun E' => K r env E') : CallN P f args env E K where
  callable := hs.callable
  h := by
    intro B g tmps w vals h hr
    have hl := hr.length
    have her : ER g (argEnv 0 args) vals.toArray := argEnv_ok 0 args vals hr (fun j u hj => by simp [Array.getD_eq_getD_getElem?, hj])
    obtain ⟨g1, aenv, E1, hs1, he1, hle, hlike, hΦ1, _⟩ := frzT_ok φ h.sim her ha
    have hargs := lookL_ok he1 args.length 0 (by simpa using hl)
    have hargs : RL (g1.ren []) args₀ vals := LeL_ok _ _ _ hle (by simpa using hargs)
    refine (hs.h (g1.ren []) w vals (hs1.ren (π := []) (E' := []) trivial rfl) hargs).mono ?_
    rintro e w' ⟨y, c, g', hq, rfl, h1, h2, h3⟩
    obtain ⟨hf1, hf2⟩ := hfl y hq
    let g2 : Gh := { g' with Φ := g.Φ }
    have hact : ActLike (out y) g' g2 := ⟨Nat.le_refl _, fun _ _ => rfl, fun _ _ => rfl, fun _ _ => rfl⟩
    have hno : ∀ b, ¬ (⟨g1.ren [], [], w⟩ : Base).owns b := fun b ⟨i, hi⟩ => by simp [getE] at hi; cases hi
    have hno2 : ∀ b, ¬ (⟨g.ren [], [], w⟩ : Base).owns b := fun b ⟨i, hi⟩ => by simp [getE] at hi; cases hi
    have hbk : ∀ i b, (getE (out y) i).own g2 i b = (getE (out y) i).own g' i b := fun i b => Chunk.own_at rfl rfl rfl rfl
    have hsim : Sim g2 (out y) w' := by
      refine ⟨h2.len, fun b o hb => h2.phi b o (h3.phi b o (hΦ1 b o hb)), fun i => ?_, fun i j b hi hj => ?_, fun i b hi => ?_⟩
      · refine flatC_sat hact ?_ (flatE_at hf2 i) (fun _ _ => rfl) (h2.sat i)
        cases hc : getE (out y) i with
        | none => exact .inr rfl
        | cells _ _ => left; simp [actB, hc]
        | vect _ _ _ => left; simp [actB, hc]
        | count k => have := flatE_at hf2 i; rw [hc] at this; cases this
        | row _ _ _ => have := flatE_at hf2 i; rw [hc] at this; cases this
        | smp _ _ _ => have := flatE_at hf2 i; rw [hc] at this; cases this
        | heap _ => have := flatE_at hf2 i; rw [hc] at this; cases this
        | mit _ _ _ _ => have := flatE_at hf2 i; rw [hc] at this; cases this
      · rw [hbk] at hi hj; exact h2.dis i j b hi hj
      · rw [hbk] at hi
        rcases h3.own i b hi with h4 | h4
        · cases hp : g2.Φ b with
          | none => rfl
          | some o => have := lt_heap (h.sim.phi b o hp); exact absurd h4 (by simp only; omega)
        · exact (hno b h4).elim
    have hext : Ext ⟨g.ren [], [], w⟩ g2 (out y) w' :=
      ⟨h3.os, h3.tape, h3.output, h3.size, fun b hb _ => h3.keep b hb (hno b), fun _ _ h => h, fun _ _ h => .inl h, fun i b hi => by
        rw [hbk] at hi
        exact (h3.own i b hi).imp id (fun h => (hno b h).elim), Nat.zero_le _, fun i hi => (by cases hi), h3.kk.trans hlike.k, fun i T' t xs hi => (by cases hi), fun i k hi => (by cases hi), fun i hi => (by cases hi)⟩
    obtain ⟨h4, h5⟩ := h.join (π := []) (E₀ := []) rfl rfl trivial hsim hext
    have hid : ∀ v : AV, mapV (calF [] []) v = v := fun v => by
      have : calF [] [] = id := by funext v; cases v <;> rfl
      rw [this]; exact mapV_id v
    have hidE : ∀ E : List Chunk, mapE (calF [] []) E = E := fun E => by
      have : calF [] [] = id := by funext v; cases v <;> rfl
      rw [this]
      induction E with
      | nil => rfl
      | cons c r ih => simp only [mapE, ih, mapC_id]
    have hk' := k y hq
    rw [fV_eq, fEE_eq] at hk'
    rw [hidE] at h4
    refine ⟨c, _, _, env, _, rfl, ⟨fun t => ?_, h4.sim, h4.ext⟩, h5 _ _ (flatV_ok hact _ _ hf1 h1), hk'⟩
    have := h4.er t
    rw [look_mapEnv, hid] at this
    exact this
/-- A nil slice handed back as a slice of a chunk of its own. -/
theorem RetN.nil {M : List Bool} {env : Env} {E : List Chunk} {l : List AV} {Y : Type} {Q : Y → Prop} {res : Y → List AV} {out : Y → List Chunk} (T : TypeId) (t : Ty) (j : Nat)
    (h : fEE (addE E (.vect T t fun _ => [])) fun E' => fL (snL (lenE E) t.size j l) fun l' => RetN M [] E' l' Q res out) : RetN M env E l Q res out where
  h := by
    intro B g tmps w cs hM hI hr
    rw [fEE_eq, fL_eq] at h
    have hlen := hI.sim.len
    have hN := hI.new (c := .vect T t fun _ => []) (b := 0) (v := none) (l := 0) (w' := w) rfl rfl (Outs.refl _) (Nat.le_refl _) (fun _ _ => rfl)
      ⟨by simp [Gh.add], fun _ => rfl, fun cap hc => by simp [Gh.add] at hc⟩ (fun b hb => by simp [Chunk.own, Gh.add] at hb)
    have hle := g.le_add 0 none 0
    have hm : ∀ v u, R g v u → R (g.add 0 none 0) v u := fun v u h => h.mono hle
    have hn : lenE E < (g.add 0 none 0).n := by rw [hlen]; exact Nat.lt_succ_self _
    have hV : (g.add 0 none 0).V (lenE E) = none := by simp [Gh.add, hlen]
    exact h.h B _ tmps w cs hM ⟨fun t => .undef _, hN.sim, hN.ext⟩ (snL_ok hn hV hm j l cs hr)
end Go.Proofs.Ytafcenlbllmahaa.Fw
set_option linter.unusedVariables false
set_option linter.unusedSimpArgs false
namespace Go.Proofs.Ytafcenlbllmahaa.Fw
open Go Go.RowKit

theorem CallN.frz {P : Program} {f : FuncId} {args : List AV} {env : Env} {E : List Chunk} {K : AV → Env → List Chunk → Prop} (i : Nat) (h : Fw.frz i env E args fun env' E' args' => CallN P f args' env' E' K) (hc : Callable P f) : CallN P f args env E K where
  callable := hc
  h := by
    intro B g tmps w vals hI hr
    obtain ⟨g', env', E', cs', h1, h2, h3⟩ := frz_ok hI hr h
    exact h3.h B g' tmps w vals h1 h2

def disB (π : List Nat) : List Nat → Bool
  | [] => true | i :: r => match inB π i with | true => false | false => disB π r
theorem disB_ok {π : List Nat} : ∀ {φ : List Nat}, disB π φ = true → ∀ i ∈ φ, i ∉ π
  | [], _, i, h => by simp at h
  | j :: r, hd, i, h => by
    simp only [disB] at hd
    split at hd
    · cases hd
    · rename_i hj
      rcases List.mem_cons.1 h with rfl | h
      · intro hm; rw [inB_iff.2 hm] at hj; cases hj
      · exact disB_ok hd i h

theorem CallN.borrow {P : Program} {f : FuncId} {args args₀ : List AV} {env : Env} {E E₀ : List Chunk} {K : AV → Env → List Chunk → Prop} {Y : Type} {Q : Y → Prop} {res : Y → AV} {out : Y → List Chunk}
    (hs : Meets P f args₀ E₀ Q res out) (φ π : List Nat) (hn : nodupB π = true) (hk : allK E₀ = true) (hd : disB π φ = true) (ha : frzT φ (argEnv 0 args) E fun aenv E1 => LeL π (lookL aenv 0 args.length) args₀) (hE : LeE π E π E₀)
    (hfl : ∀ y, Q y → flatV (out y) (res y) = true ∧ flatE (out y) (out y) = true)
    (k : ∀ y, Q y → fV (mapV (renF π (lenE E)) (res y)) fun r => fEnv (mapEnv (calF π E₀) env) fun env' => fEE (merE (renF π (lenE E)) π (out y) (mapE (calF π E₀) E)) fun E' => K r env' E') : CallN P f args env E K where
  callable := hs.callable
  h := by
    intro B g tmps w vals h hr
    have hl := hr.length
    have her : ER g (argEnv 0 args) vals.toArray := argEnv_ok 0 args vals hr (fun j u hj => by simp [Array.getD_eq_getD_getElem?, hj])
    obtain ⟨g1, aenv, E1, hs1, he1, hle, hlike, hΦ1, hΦ2, _⟩ := frzT_ok φ h.sim her ha
    have hargs := lookL_ok he1 args.length 0 (by simpa using hl)
    have hargs : RL (g1.ren π) args₀ vals := LeL_ok _ _ _ hle (by simpa using hargs)
    have hsr := h.sim.ren hE hn
    have hle1 : (g.ren π).le (g1.ren π) := ⟨Nat.le_refl _, hΦ1, fun i _ => by simp [Gh.ren, hlike.B], fun i _ => by simp [Gh.ren, hlike.V], fun i _ => by simp [Gh.ren, hlike.L], hlike.k, fun i k _ _ => by simp [Gh.ren, hlike.W], fun i _ => by simp [Gh.ren, hlike.M]⟩
    have hbr : ∀ c i b, Chunk.own (g1.ren π) i c b = Chunk.own (g.ren π) i c b := fun c i b => Chunk.own_at (by simp [Gh.ren, hlike.B]) (by simp [Gh.ren, hlike.V]) (by simp [Gh.ren, hlike.W]) (by simp [Gh.ren, hlike.M])
    have hat := LeE_at π E₀ hE
    -- a block of E₀ is one of E, at a place of π
    have hof : ∀ j b, (getE E₀ j).own (g.ren π) j b → ∃ i, i ∈ π ∧ (getE E i).own g i b := by
      intro j b hj
      obtain ⟨i, hi, hc⟩ := (hat j).resolve_right (fun hc => by rw [hc] at hj; cases hj)
      exact ⟨i, List.mem_of_getElem? hi, LeC_blk hi _ _ hc hj⟩
    have hnoΦ : ∀ j b, (getE E₀ j).own (g.ren π) j b → g1.Φ b = none := by
      intro j b hj
      obtain ⟨i, hi, hb⟩ := hof j b hj
      cases hp : g1.Φ b with
      | none => rfl
      | some o =>
        rcases hΦ2 b o hp with h1 | ⟨i', hi', h1⟩
        · rw [h.sim.dphi i b hb] at h1; cases h1
        · have := h.sim.dis i i' b hb h1
          subst this
          exact (disB_ok hd i hi' hi).elim
    have hsim1 : Sim (g1.ren π) E₀ w := by
      refine ⟨hsr.len, hs1.phi, fun i => ?_, fun i j b hi hj => ?_, fun i b hi => ?_⟩
      · exact Chunk.sat_frame (fun _ _ h => h.mono hle1) (by simp [Gh.ren, hlike.B]) (by simp [Gh.ren, hlike.V]) (by simp [Gh.ren, hlike.L]) hlike.k (by simp [Gh.ren, hlike.W]) (by simp [Gh.ren, hlike.M]) (fun _ _ => rfl) (hsr.sat i)
      · rw [hbr] at hi hj; exact hsr.dis i j b hi hj
      · rw [hbr] at hi; exact hnoΦ i b hi
    refine (hs.h (g1.ren π) w vals hsim1 hargs).mono ?_
    rintro e w' ⟨y, c, g', hq, rfl, h1, h2, h3⟩
    obtain ⟨hf1, hf2⟩ := hfl y hq
    let g2 : Gh := { g' with Φ := g.Φ }
    have hact : ActLike (out y) g' g2 := ⟨Nat.le_refl _, fun _ _ => rfl, fun _ _ => rfl, fun _ _ => rfl⟩
    have howns : ∀ b, (⟨g1.ren π, E₀, w⟩ : Base).owns b ↔ (⟨g.ren π, E₀, w⟩ : Base).owns b := fun b => ⟨fun ⟨i, hi⟩ => ⟨i, (hbr _ _ _).mp hi⟩, fun ⟨i, hi⟩ => ⟨i, (hbr _ _ _).mpr hi⟩⟩
    have hbk : ∀ i b, (getE (out y) i).own g2 i b = (getE (out y) i).own g' i b := fun i b => Chunk.own_at rfl rfl rfl rfl
    have hsim : Sim g2 (out y) w' := by
      refine ⟨h2.len, fun b o hb => h2.phi b o (h3.phi b o (hΦ1 b o hb)), fun i => ?_, fun i j b hi hj => ?_, fun i b hi => ?_⟩
      · refine flatC_sat hact ?_ (flatE_at hf2 i) (fun _ _ => rfl) (h2.sat i)
        cases hc : getE (out y) i with
        | none => exact .inr rfl
        | cells _ _ => left; simp [actB, hc]
        | vect _ _ _ => left; simp [actB, hc]
        | count k => have := flatE_at hf2 i; rw [hc] at this; cases this
        | row _ _ _ => have := flatE_at hf2 i; rw [hc] at this; cases this
        | smp _ _ _ => have := flatE_at hf2 i; rw [hc] at this; cases this
        | heap _ => have := flatE_at hf2 i; rw [hc] at this; cases this
        | mit _ _ _ _ => have := flatE_at hf2 i; rw [hc] at this; cases this
      · rw [hbk] at hi hj; exact h2.dis i j b hi hj
      · rw [hbk] at hi
        show g.Φ b = none
        cases hp : g.Φ b with
        | none => rfl
        | some o =>
          have h5 := hΦ1 b o hp
          rcases h3.own i b hi with h4 | h4
          · have := lt_heap (h.sim.phi b o hp); exact absurd h4 (by simp only; omega)
          · obtain ⟨j, hj⟩ := (howns b).1 h4
            rw [hnoΦ j b hj] at h5; cases h5
    have hext : Ext ⟨g.ren π, E₀, w⟩ g2 (out y) w' :=
      ⟨h3.os, h3.tape, h3.output, h3.size, fun b hb hno => h3.keep b hb (fun ho => hno ((howns b).1 ho)), fun _ _ h => h, fun _ _ h => .inl h, fun i b hi => by
        rw [hbk] at hi
        exact (h3.own i b hi).imp id (howns b).1, h3.n, fun i hi => by
          have := h3.ids i hi
          simp only [Gh.ren, hlike.B, hlike.V, hlike.L] at this ⊢
          exact this, h3.kk.trans hlike.k, h3.kin, fun i k hi hk => by
          have := h3.idw i k hi (by simpa [Gh.ren, hlike.M] using hk)
          simp only [Gh.ren, hlike.W] at this ⊢
          exact this, fun i hi => by
          have := h3.idm i hi
          simp only [Gh.ren, hlike.M] at this ⊢
          exact this⟩
    obtain ⟨h4, h5⟩ := h.join hn hk hE hsim hext
    have hk' := k y hq
    rw [fV_eq, fEnv_eq, fEE_eq] at hk'
    exact ⟨c, _, _, _, _, rfl, h4, h5 _ _ (flatV_ok hact _ _ hf1 h1), hk'⟩
end Go.Proofs.Ytafcenlbllmahaa.Fw
set_option linter.unusedVariables false
set_option linter.unusedSimpArgs false
namespace Go.Proofs.Ytafcenlbllmahaa.Fw
open Go Go.RowKit

/-- A contract that says less. -/
theorem Meets.le {P : Program} {f : FuncId} {args : List AV} {E : List Chunk} {Y Y' : Type} {Q : Y → Prop} {res : Y → AV} {out : Y → List Chunk} {Q' : Y' → Prop} {res' : Y' → AV} {out' : Y' → List Chunk} (π : List Nat)
    (hm : Meets P f args E Q res out) (hn : nodupB π = true) (hh : headB (cellsL E) 0 π = true)
    (h : ∀ y, Q y → ∃ y', Q' y' ∧ LeV π (res y) (res' y') ∧ LeE π (out y) π (out' y')) : Meets P f args E Q' res' out' where
  callable := hm.callable
  h := by
    intro g w vals hS hr
    refine (hm.h g w vals hS hr).mono ?_
    rintro e w' ⟨y, c, g', hq, rfl, h1, h2, h3⟩
    obtain ⟨y', hq', hv, hE⟩ := h y hq
    have hI : Inv ⟨g, E, w⟩ g' [] (out y) #[] w' := ⟨fun t => .undef _, h2, h3⟩
    have hI' := hI.ren (env' := []) trivial hE hn hh
    exact ⟨y', c, g'.ren π, hq', rfl, LeV_ok _ _ _ hv h1, hI'.sim, hI'.ext⟩
end Go.Proofs.Ytafcenlbllmahaa.Fw
set_option linter.unusedVariables false
set_option linter.unusedSimpArgs false
namespace Go.Proofs.Ytafcenlbllmahaa.Fw
open Go Go.RowKit
def unrow : Chunk → Chunk
  | .row T t xs => .vect T t xs | c => c
theorem unrow_sat {g : Gh} {i : Nat} {w : World} {c : Chunk} (h : c.sat g i w) : (unrow c).sat g i w := by cases c <;> exact h
theorem unrow_own (g : Gh) (i : Nat) (c : Chunk) (b : Nat) : (unrow c).own g i b = c.own g i b := by cases c <;> rfl
theorem Inv.unrow {B : Base} {g : Gh} {env : Env} {E : List Chunk} {tmps : Array Value} {w : World} (h : Inv B g env E tmps w) {i : Nat} (hi : lenE B.E ≤ i) : Inv B g env (setE E i (unrow (getE E i))) tmps w := by
  have hget : ∀ j, getE (setE E i (Fw.unrow (getE E i))) j = if i = j then Fw.unrow (getE E j) else getE E j := by
    intro j
    rw [getE_set]
    by_cases hij : i = j
    · subst hij
      by_cases hl : i < lenE E
      · simp [hl]
      · have : getE E i = .none := by rw [getE_eq, List.getElem?_eq_none (by rw [← lenE_eq]; omega)]; rfl
        simp [hl, this, Fw.unrow]
    · simp [hij]
  have hb : ∀ j b, (getE (setE E i (Fw.unrow (getE E i))) j).own g j b = (getE E j).own g j b := fun j b => by
    rw [hget]; split
    · exact unrow_own _ _ _ _
    · rfl
  refine ⟨h.er, ⟨by rw [lenE_set]; exact h.sim.len, h.sim.phi, fun j => ?_, fun j k b hj hk => h.sim.dis j k b (by rw [← hb]; exact hj) (by rw [← hb]; exact hk), fun j b hj => h.sim.dphi j b (by rw [← hb]; exact hj)⟩,
    ⟨h.ext.os, h.ext.tape, h.ext.output, h.ext.size, h.ext.keep, h.ext.phi, h.ext.phin, fun j b hj => h.ext.own j b (by rw [← hb]; exact hj), h.ext.n, h.ext.ids, h.ext.kk, fun j T' t xs hf hv => ?_, h.ext.idw, h.ext.idm⟩⟩
  · rw [hget]; split
    · exact unrow_sat (h.sim.sat j)
    · exact h.sim.sat j
  · rw [hget] at hv
    split at hv
    · have := fix_lt hf; omega
    · exact h.ext.kin j T' t xs hf hv
theorem RetN.unrow {M : List Bool} {env : Env} {E : List Chunk} {l : List AV} {Y : Type} {Q : Y → Prop} {res : Y → List AV} {out : Y → List Chunk} (i : Nat) (hM : Nat.ble M.length i = true) (h : RetN M env (setE E i (Fw.unrow (getE E i))) l Q res out) : RetN M env E l Q res out where
  h := by
    intro B g tmps w cs hB hI hr
    exact h.h B g tmps w cs hB (hI.unrow (by rw [← cellsL_len, hB]; exact Nat.le_of_ble_eq_true hM)) hr
def flat : Ty → Bool
  | .list _ => false | .pair a b => flat a && flat b | _ => true
theorem eqD_iff : ∀ (t : Ty), flat t = true → ∀ x y : t.den, (eqD t x y = true ↔ x = y)
  | .int k, _, x, y => by
    show (@BEq.beq Int _ x y = true ↔ x = y)
    exact beq_iff_eq
  | .bool, _, x, y => by
    show (@BEq.beq Bool _ x y = true ↔ x = y)
    exact beq_iff_eq
  | .str, _, x, y => by
    show (@BEq.beq (List UInt8) _ x y = true ↔ x = y)
    exact beq_iff_eq
  | .list e, h, x, y => by cases h
  | .pair a b, h, x, y => by
    have h : (flat a && flat b) = true := h
    rw [Bool.and_eq_true] at h
    show ((eqD a x.1 y.1 && eqD b x.2 y.2) = true ↔ x = y)
    rw [Bool.and_eq_true, eqD_iff a h.1, eqD_iff b h.2]
    exact Prod.ext_iff.symm
theorem eqD_no (t : Ty) (h : flat t = true) (x y : t.den) : eqD t x y = false ↔ x ≠ y := by
  rw [← Bool.not_eq_true, eqD_iff t h]
theorem take_eq_step {α : Type} {a b : List α} {i : Nat} {d : α} (hi : i < a.length) (hj : i < b.length) (h : a.take i = b.take i) (he : a.getD i d = b.getD i d) : a.take (i + 1) = b.take (i + 1) := by
  rw [List.getD_eq_getElem?_getD, List.getD_eq_getElem?_getD, List.getElem?_eq_getElem hi, List.getElem?_eq_getElem hj] at he
  rw [List.take_add_one, List.take_add_one, h, List.getElem?_eq_getElem hi, List.getElem?_eq_getElem hj]
  exact congrArg _ (congrArg _ (congrArg _ he))
/-- What a way's conditions come to. -/
theorem bs : (∀ (p : Prop) [Decidable p], (decide p = true) = p) ∧ (∀ (p : Prop) [Decidable p], (decide p = false) = ¬ p) ∧ (∀ (α : Type) [BEq α] [LawfulBEq α] (a b : α), ((a == b) = true) = (a = b)) ∧ (∀ (α : Type) [BEq α] [LawfulBEq α] (a b : α), ((a == b) = false) = ¬ a = b) ∧
    (∀ (α : Type) [BEq α] [LawfulBEq α] (a b : α), ((a != b) = true) = (a ≠ b)) ∧ (∀ (α : Type) [BEq α] [LawfulBEq α] (a b : α), ((a != b) = false) = (a = b)) ∧ (∀ b : Bool, ((!b) = true) = (b = false)) ∧ (∀ b : Bool, ((!b) = false) = (b = true)) ∧ ((!true) = false) ∧ ((!false) = true) :=
  ⟨fun _ _ => propext decide_eq_true_iff, fun _ _ => propext decide_eq_false_iff_not, fun _ _ _ _ _ => propext beq_iff_eq, fun _ _ _ _ _ => propext beq_eq_false_iff_ne, fun _ _ _ _ _ => propext bne_iff_ne, fun _ _ _ _ _ => propext bne_eq_false_iff_eq, fun _ => Bool.not_eq_true' _, fun _ => Bool.not_eq_false' _, rfl, rfl⟩
/-- A call by its contract, what is asked of the arguments shown at once. -/
theorem CallN.q {P : Program} {f : FuncId} {args args₀ : List AV} {env : Env} {E E₀ : List Chunk} {K : AV → Env → List Chunk → Prop} {Y : Type} {Q : Y → Prop} {res : Y → AV} {out : Y → List Chunk}
    (hs : Meets P f args₀ E₀ Q res out) (π : List Nat)
    (k : ∀ y, Q y → fV (mapV (renF π (lenE E)) (res y)) fun r => fEnv (mapEnv (calF π E₀) env) fun env' => fEE (merE (renF π (lenE E)) π (out y) (mapE (calF π E₀) E)) fun E' => K r env' E')
    (hn : nodupB π = true := by rfl) (hk : allK E₀ = true := by rfl)
    (ha : LeL π args args₀ := by ((repeat' ((conv => whnf) <;> first | exact rfl | exact trivial | exact Hp.like_refl _ | apply And.intro | exact Nat.zero_add _)); done))
    (hE : LeE π E π E₀ := by ((repeat' ((conv => whnf) <;> first | exact rfl | exact trivial | exact Hp.like_refl _ | apply And.intro | exact Nat.zero_add _)); done)) : CallN P f args env E K := CallN.intro hs π hn hk ha hE k
theorem RetN.q {M : List Bool} {env : Env} {E : List Chunk} {l : List AV} {Y : Type} {Q : Y → Prop} {res : Y → List AV} {out : Y → List Chunk} (y : Y) (π : List Nat)
    (hE : LeE π E π (out y)) (hl : LeL π l (res y)) (hq : Q y) (hn : nodupB π = true := by rfl) (hh : headB M 0 π = true := by rfl) : RetN M env E l Q res out := RetN.intro y π hn hh hE hl hq
end Go.Proofs.Ytafcenlbllmahaa.Fw
set_option linter.unusedVariables false
set_option linter.unusedSimpArgs false
namespace Go.Proofs.Ytafcenlbllmahaa.Fw
open Go Go.RowKit
theorem CodeN.le {P : Program} {N : Nat} {M : List Bool} {S : Sc} {c : Code} {env env' : Env} {E E' : List Chunk} {K : Ex → Env → List Chunk → Prop} (π : List Nat) (hle : Le M π env E env' E') (h : CodeN P N S M c env' E' K) : CodeN P N S M c env E K where
  h := fun r g a w hr hM hI hN => h.h r (g.ren π) a w hr hM (hI.ren hM hle) hN
/-- A first statement, what is so behind it, and the rest. -/
theorem CodeN.mid {P : Program} {N : Nat} {M : List Bool} {S : Sc} {c a b : Code} {env : Env} {E : List Chunk} {K : Ex → Env → List Chunk → Prop} (hm : P.follows .mixedOrders = true) {X : Type} (inv : X → Prop) (st : X → Env) (ch : X → List Chunk)
    (hc : c = .seq a b)
    (first : sCode P N S M a env E fun e env' E' => match e with
      | .normal => ∃ x, ∃ π, Le M π env' E' (st x) (ch x) ∧ inv x
      | .ret => K .ret env' E' | .exit n => K (.exit n) env' E')
    (rest : ∀ x, inv x → fEnv (st x) fun env => fEE (ch x) fun E => CodeN P N S M b env E K) : CodeN P N S M c env E K := by
  subst hc
  refine ⟨fun r g a' w hr hM h hN => ?_⟩
  obtain ⟨hr1, hr2⟩ := noDraw_and hr rfl
  refine wpIn_seq (Go.wpIn_mono (sCode_ok hm hM a r hr1 h hN first) ?_)
  rintro e a' w' ⟨e', g', env', E', rfl, h1, h2, h4⟩
  cases e' with
  | normal =>
    obtain ⟨x, π, hle, hi⟩ := h4
    have hk := rest x hi
    rw [fEnv_eq, fEE_eq] at hk
    exact hk.h r (g'.ren π) a' w' hr2 hM (h1.ren hM hle) h2
  | ret => exact ⟨.ret, g', env', E', rfl, h1, h2, h4⟩
  | exit n => exact ⟨.exit n, g', env', E', rfl, h1, h2, h4⟩
end Go.Proofs.Ytafcenlbllmahaa.Fw
set_option linter.unusedVariables false
set_option linter.unusedSimpArgs false
namespace Go.Proofs.Ytafcenlbllmahaa.Fw
open Go Go.RowKit

/-- What leads to chunk j leads to block m of heap i. -/
def abF (i j m : Nat) : AV → AV
  | .ptr a o => (match Nat.beq a j with | true => .hp i (fun _ => some (m, o)) | false => .ptr a o)
  | .eptr a s x o => (match Nat.beq a j with | true => .undef | false => .eptr a s x o)
  | .vec a s o n => (match Nat.beq a j with | true => .undef | false => .vec a s o n)
  | .mp a => (match Nat.beq a j with | true => .hm i (fun _ => m) | false => .mp a)
  | .hp a f => (match Nat.beq a j with | true => .undef | false => .hp a f)
  | .hm a f => (match Nat.beq a j with | true => .undef | false => .hm a f)
  | v => v
/-- What a chunk is as a block. -/
inductive AsHO (i : Nat) (f : AV → AV) : Chunk → HO → Prop
  | cells (T : TypeId) (cs : List AV) (c : Nat → HV) (h : ∀ p v, cs[p]? = some v → IsHV i (mapV f v) (c p)) : AsHO i f (.cells T cs) (.cells T cs.length c)
  | map (k : IntKind) (clock : Nat) : AsHO i f (.smp k [] []) (.map [] clock)
def Hp.add (h : Hp) (o : HO) : Hp := ⟨h.m + 1, fun k => if k = h.m then o else h.o k⟩
def Gh.take (g : Gh) (i j : Nat) : Gh :=
  { g with W := fun x k => if x = i then (if k = g.M i then g.B j else g.W i k) else g.W x k, M := fun x => if x = i then g.M i + 1 else g.M x }
section
variable {B : Base} {g : Gh} {env : Env} {E : List Chunk} {tmps : Array Value} {w : World}
theorem abF_ok {i j m : Nat} (hi : i < g.n) (hm : m = g.M i) (v : AV) (u : Value) (hv : isRef v = true) (hr : R g v u) : R (g.take i j) (abF i j m v) u := by
  subst hm
  have hW : ∀ x k, k < g.M x → (g.take i j).W x k = g.W x k := by
    intro x k hk
    simp only [Gh.take]
    split
    · rename_i e; subst e; rw [if_neg (by omega)]
    · rfl
  have hM : ∀ x, g.M x ≤ (g.take i j).M x := by intro x; simp only [Gh.take]; split <;> simp_all
  have hnew : (g.take i j).W i (g.M i) = g.B j := by simp [Gh.take]
  have hlt : g.M i < (g.take i j).M i := by simp [Gh.take]
  cases hr <;> first | (cases hv; done) | skip
  · rename_i a o ha
    simp only [abF]; split
    · rename_i hb
      have hb := Nat.eq_of_beq_eq_true hb
      subst hb
      have := R.hp (g := g.take i a) i (fun _ => some (g.M i, o)) hi (fun x hx => by cases hx; exact hlt)
      simpa [hnew] using this
    · exact .ptr (g := g.take i j) a o ha
  · rename_i a s x o ha hL
    simp only [abF]; split
    · exact .undef _
    · exact .eptr (g := g.take i j) a s x o ha hL
  · rename_i a s o n A c ha hL hn hs
    simp only [abF]; split
    · exact .undef _
    · exact .vec (g := g.take i j) a s o n A c ha hL hn hs
  · rename_i a ha
    simp only [abF]; split
    · rename_i hb
      have hb := Nat.eq_of_beq_eq_true hb
      subst hb
      have := R.hm (g := g.take i a) i (fun _ => g.M i) hi hlt
      rw [hnew] at this; exact this
    · exact .mp (g := g.take i j) a ha
  · rename_i a f ha hf
    simp only [abF]; split
    · exact .undef _
    · have := R.hp (g := g.take i j) a f ha (fun x hx => Nat.lt_of_lt_of_le (hf x hx) (hM a))
      cases hfx : f () with
      | none => rw [hfx] at this; exact this
      | some x => rw [hfx] at this; simp only [Option.map_some] at this ⊢; rw [← hW a x.1 (hf x hfx)]; exact this
  · rename_i a f ha hf
    simp only [abF]; split
    · exact .undef _
    · rw [← hW a _ hf]; exact .hm (g := g.take i j) a f ha (Nat.lt_of_lt_of_le hf (hM a))

/-- Chunk j becomes a block of heap i. -/
theorem Inv.absorb (h : Inv B g env E tmps w) {i j : Nat} {hp : Unit → Hp} {c : Chunk} {o : HO} {h' : Hp} (hi : getE E i = .heap hp) (hj : getE E j = c) (hij : i ≠ j) (hjB : lenE B.E ≤ j) (hc : ∀ ob, c.sat g j w → w.heap[g.B j]? = some ob → o.sat (g.take i j) i ob)
    (hco : c.own g j (g.B j)) (hc1 : oneB c = true) (hl : h'.like ((hp ()).add o)) :
    Inv B (g.take i j) (mapEnv (abF i j (hp ()).m) env) (mapE (abF i j (hp ()).m) (setE (setE E j .none) i (.heap fun _ => h'))) tmps w ∧ ∀ v u, R g v u → R (g.take i j) (mapV (abF i j (hp ()).m) v) u := by
  have hsi := h.sim.sat i
  rw [hi] at hsi
  obtain ⟨hm, hinj, hobs⟩ := hsi
  have hil : i < lenE E := getE_lt (by rw [hi]; simp)
  have hjl : j < lenE E := getE_lt (by rw [hj]; intro e; rw [e] at hco; exact hco)
  have hin : i < g.n := by rw [← h.sim.len]; exact hil
  have hleaf := abF_ok (g := g) (j := j) hin hm.symm
  have hΦ : ∀ b o, g.Φ b = some o → (g.take i j).Φ b = some o := fun _ _ h => h
  have hRall : ∀ v u, R g v u → R (g.take i j) (mapV (abF i j (hp ()).m) v) u := fun v u hr => R.map (g := g) (g' := g.take i j) _ hΦ hleaf hr
  have hW : ∀ x, x ≠ i → (g.take i j).W x = g.W x := by intro x hx; funext k; simp [Gh.take, hx]
  have hM : ∀ x, x ≠ i → (g.take i j).M x = g.M x := by intro x hx; simp [Gh.take, hx]
  have hWi : ∀ k, k < g.M i → (g.take i j).W i k = g.W i k := by intro k hk; simp only [Gh.take, if_true]; rw [if_neg (by omega)]
  have hWn : (g.take i j).W i (g.M i) = g.B j := by simp [Gh.take]
  have hMi : (g.take i j).M i = g.M i + 1 := by simp [Gh.take]
  have hown_i : ∀ k, k < g.M i → (getE E i).own g i (g.W i k) := fun k hk => by rw [hi]; exact ⟨k, hk, rfl⟩
  have hown_j : (getE E j).own g j (g.B j) := by rw [hj]; exact hco
  have hne : ∀ k, k < g.M i → g.W i k ≠ g.B j := fun k hk e => hij (h.sim.dis i j _ (hown_i k hk) (by rw [e]; exact hown_j))
  have hget : ∀ x, getE (mapE (abF i j (hp ()).m) (setE (setE E j .none) i (.heap fun _ => h'))) x = if x = i then .heap (fun _ => h') else if x = j then .none else mapC (abF i j (hp ()).m) (getE E x) := by
    intro x
    rw [getE_mapE, getE_set]
    by_cases hx : i = x
    · subst hx; simp [lenE_set, hil, mapC]
    · rw [if_neg (fun h => hx h.1), getE_set]
      by_cases hxj : j = x
      · subst hxj; rw [if_neg (Ne.symm hx), if_pos rfl, if_pos ⟨rfl, hjl⟩]; rfl
      · rw [if_neg (Ne.symm hx), if_neg (Ne.symm hxj), if_neg (fun h => hxj h.1)]
  have hblk : ∀ x b, (getE (mapE (abF i j (hp ()).m) (setE (setE E j .none) i (.heap fun _ => h'))) x).own (g.take i j) x b → (x ≠ j ∧ (getE E x).own g x b) ∨ (x = i ∧ b = g.B j) := by
    intro x b hb
    rw [hget] at hb
    split at hb
    · rename_i e
      subst e
      obtain ⟨k, hk, rfl⟩ := hb
      rw [hMi] at hk
      by_cases hkm : k = g.M x
      · subst hkm; exact .inr ⟨rfl, hWn⟩
      · refine .inl ⟨hij, ?_⟩
        rw [hWi k (by omega)]
        exact hown_i k (by omega)
    · split at hb
      · cases hb
      · rename_i hxi hxj
        rw [mapC_own, Chunk.own_eq (g := g) (g' := g.take i j) rfl rfl (hW x hxi) (hM x hxi)] at hb
        exact .inl ⟨hxj, hb⟩
  refine ⟨⟨fun t => by rw [look_mapEnv]; exact hRall _ _ (h.er t), ⟨by rw [lenE_mapE, lenE_set, lenE_set]; exact h.sim.len, h.sim.phi, fun x => ?_, fun x y b hx hy => ?_, fun x b hx => ?_⟩,
    ⟨h.ext.os, h.ext.tape, h.ext.output, h.ext.size, h.ext.keep, h.ext.phi, h.ext.phin, fun x b hx => ?_, h.ext.n, h.ext.ids, h.ext.kk, fun x T' t xs hx hv => ?_, fun x k hx hk => ?_, fun x hx => ?_⟩⟩, hRall⟩
  · rw [hget]
    split
    · rename_i e
      subst e
      refine ⟨?_, ?_, ?_⟩
      · rw [hMi, hl.1]; show g.M x + 1 = (hp ()).m + 1; omega
      · intro k k' hk hk' he
        rw [hMi] at hk hk'
        by_cases h1 : k = g.M x <;> by_cases h2 : k' = g.M x
        · omega
        · subst h1; rw [hWn, hWi k' (by omega)] at he; exact (hne k' (by omega) he.symm).elim
        · subst h2; rw [hWn, hWi k (by omega)] at he; exact (hne k (by omega) he).elim
        · rw [hWi k (by omega), hWi k' (by omega)] at he; exact hinj k k' (by omega) (by omega) he
      · intro k hk
        rw [hMi] at hk
        have hlk := hl.2 k (by rw [hl.1]; show k < (hp ()).m + 1; omega)
        by_cases h1 : k = g.M x
        · subst h1
          have hsj := h.sim.sat j
          rw [hj] at hsj
          have hlt := sat_lt hsj hco
          obtain ⟨ob, hob⟩ : ∃ ob, w.heap[g.B j]? = some ob := ⟨_, Array.getElem?_eq_getElem hlt⟩
          refine ⟨ob, by rw [hWn]; exact hob, HO.sat_like hlk ?_⟩
          have := hc ob hsj hob
          simpa [Hp.add, hm] using this
        · obtain ⟨ob, h4, h5⟩ := hobs k (by omega)
          refine ⟨ob, by rw [hWi k (by omega)]; exact h4, HO.sat_like hlk ?_⟩
          have e : ((hp ()).add o).o k = (hp ()).o k := by simp only [Hp.add]; rw [if_neg (by omega)]
          rw [e]
          exact HO.sat_turn (HV.av_same (g := g) (g' := g.take x j) (i := x) (i' := x) (fun _ _ _ h => h) (fun h => h) (fun _ k hk => hWi k hk) (fun _ => by rw [hMi]; exact Nat.le_succ _)) h5
    · split
      · trivial
      · rename_i hxi hxj
        exact Chunk.sat_map (g := g) (g' := g.take i j) _ hΦ hleaf rfl rfl rfl rfl (hW x hxi) (hM x hxi) (fun h => h) (fun _ _ => rfl) (h.sim.sat x)
  · rcases hblk x b hx with ⟨h1, h2⟩ | ⟨h1, h2⟩ <;> rcases hblk y b hy with ⟨h3, h4⟩ | ⟨h3, h4⟩
    · exact h.sim.dis x y b h2 h4
    · subst h4; exact (h1 (h.sim.dis x j _ h2 hown_j)).elim
    · subst h2; exact (h3 (h.sim.dis y j _ h4 hown_j)).elim
    · exact h1.trans h3.symm
  · rcases hblk x b hx with ⟨h1, h2⟩ | ⟨h1, h2⟩
    · exact h.sim.dphi x b h2
    · subst h2; exact h.sim.dphi j _ hown_j
  · rcases hblk x b hx with ⟨h1, h2⟩ | ⟨h1, h2⟩
    · exact h.ext.own x b h2
    · subst h2; exact h.ext.own j _ hown_j
  · rw [hget] at hv
    split at hv
    · cases hv
    · split at hv
      · cases hv
      · cases hcj : getE E x <;> rw [hcj] at hv <;> first | (cases hv; done) | exact h.ext.kin x _ _ _ hx hcj
  · by_cases hxi : x = i
    · subst hxi; rw [hWi k (Nat.lt_of_lt_of_le hk (h.ext.idm x hx))]; exact h.ext.idw x k hx hk
    · rw [hW x hxi]; exact h.ext.idw x k hx hk
  · by_cases hxi : x = i
    · subst hxi; rw [hMi]; exact Nat.le_succ_of_le (h.ext.idm x hx)
    · rw [hM x hxi]; exact h.ext.idm x hx
theorem AsHO.ok {i j m : Nat} {c : Chunk} {o : HO} (hi : i < g.n) (hm : m = g.M i) (ha : AsHO i (abF i j m) c o) (hclk : ∀ es clock, o = .map es clock → ∀ ms cl, w.heap[g.B j]? = some (.map ms cl) → cl = clock) (ob : Obj) (hs : c.sat g j w) (hb : w.heap[g.B j]? = some ob) : o.sat (g.take i j) i ob := by
  cases ha with
  | cells T cs cc hcc =>
    obtain ⟨vs, h1, h2⟩ := hs
    rw [h1] at hb
    cases hb
    refine ⟨vs, rfl, by have := h2.length; simp at this; exact this.symm, fun p u hp => ?_⟩
    have hlt : p < cs.length := by
      have h3 := h2.length
      have := (Array.getElem?_eq_some_iff.1 hp).1
      simp at h3; omega
    have hr := h2.at_ p _ u (List.getElem?_eq_getElem hlt) (by simpa using hp)
    exact (hcc p _ (List.getElem?_eq_getElem hlt)).R (g := g.take i j) hi (R.map (g := g) (g' := g.take i j) _ (fun _ _ h => h) (abF_ok hi hm) hr)
  | map k clock =>
    obtain ⟨es, cl, h1, h2, h3⟩ := hs
    rw [h1] at hb
    cases hb
    have := hclk _ _ rfl _ _ h1
    subst this
    refine ⟨es, rfl, ?_⟩
    have : es.toList = [] := by simpa using h2
    rw [this]
    exact trivial
/-- A heap of nothing. -/
theorem Inv.heap0 (h : Inv B g env E tmps w) (o : Nat → HO) : ∃ g', Inv B g' env (addE E (.heap fun _ => ⟨0, o⟩)) tmps w ∧ ∀ v u, R g v u → R g' v u := by
  let g0 : Gh := { g with M := fun x => if x < g.n then g.M x else 0 }
  have hM0 : ∀ x, x < g.n → g0.M x = g.M x := fun x hx => by show (if x < g.n then g.M x else 0) = _; rw [if_pos hx]
  have hle : g.le g0 := ⟨Nat.le_refl _, fun _ _ h => h, fun _ _ => rfl, fun _ _ => rfl, fun _ _ => rfl, rfl, fun _ _ _ _ => rfl, fun i hi => by rw [hM0 i hi]; exact Nat.le_refl _⟩
  have hlen := h.sim.len
  have hout : ∀ x, ¬ x < g.n → getE E x = .none := fun x hx => getE_ge E x (by omega)
  have hown : ∀ x b, (getE E x).own g0 x b → (getE E x).own g x b := by
    intro x b hb
    by_cases hx : x < g.n
    · rwa [Chunk.own_eq (g := g) (g' := g0) rfl rfl rfl (hM0 x hx)] at hb
    · rw [hout x hx] at hb; cases hb
  have h0 : Inv B g0 env E tmps w := by
    refine ⟨fun t => (h.er t).mono hle, ⟨hlen, h.sim.phi, fun x => ?_, fun x y b hx hy => h.sim.dis x y b (hown x b hx) (hown y b hy), fun x b hx => h.sim.dphi x b (hown x b hx)⟩,
      ⟨h.ext.os, h.ext.tape, h.ext.output, h.ext.size, h.ext.keep, h.ext.phi, h.ext.phin, fun x b hx => h.ext.own x b (hown x b hx), h.ext.n, h.ext.ids, h.ext.kk, h.ext.kin, h.ext.idw, fun x hx => ?_⟩⟩
    · by_cases hx : x < g.n
      · exact Chunk.sat_frame (fun _ _ h => h.mono hle) rfl rfl rfl rfl rfl (hM0 x hx) (fun _ _ => rfl) (h.sim.sat x)
      · rw [hout x hx]; trivial
    · rw [hM0 x (Nat.lt_of_lt_of_le (fix_lt hx) h.ext.n)]; exact h.ext.idm x hx
  have hz : (g0.add 0 none 0).M g0.n = 0 := by show (if g.n < g.n then g.M g.n else 0) = 0; rw [if_neg (Nat.lt_irrefl _)]
  refine ⟨g0.add 0 none 0, h0.new (c := .heap fun _ => ⟨0, o⟩) (b := 0) (v := none) (l := 0) (w' := w) rfl rfl (Outs.refl _) (Nat.le_refl _) (fun _ _ => rfl) ⟨hz, fun k k' hk => by rw [hz] at hk; omega, fun k hk => by rw [hz] at hk; omega⟩ (fun b hb => ?_), fun v u hr => (hr.mono hle).mono (g0.le_add _ _ _)⟩
  obtain ⟨k, hk, _⟩ := hb
  rw [hz] at hk; omega
end

section
variable {P : Program} {N : Nat} {M : List Bool} {S : Sc} {c : Code} {env : Env} {E : List Chunk} {K : Ex → Env → List Chunk → Prop}
theorem Iv.absorb {g : Gh} {a : Act} {w : World} (h : Iv S g env E a w) (hM : ∀ B, S.at_ B → cellsL B.E = M) {i j : Nat} {hp : Unit → Hp} {ch : Chunk} {o : HO} {h' : Hp} (hi : getE E i = .heap hp) (hj : getE E j = ch) (hij : i ≠ j) (hjM : M.length ≤ j)
    (hc : ∀ ob, ch.sat g j w → w.heap[g.B j]? = some ob → o.sat (g.take i j) i ob) (hco : ch.own g j (g.B j)) (hc1 : oneB ch = true) (hl : h'.like ((hp ()).add o)) :
    Iv S (g.take i j) (mapEnv (abF i j (hp ()).m) env) (mapE (abF i j (hp ()).m) (setE (setE E j .none) i (.heap fun _ => h'))) a w := by
  obtain ⟨B, hB, h, hd⟩ := h
  exact ⟨B, hB, (h.absorb hi hj hij (by rw [← cellsL_len, hM B hB]; exact hjM) hc hco hc1 hl).1, hd⟩
/-- A cell becomes a block of a heap. -/
theorem CodeN.absorb (i j : Nat) (hjM : Nat.ble M.length j = true) {hp : Unit → Hp} {T : TypeId} {cs : List AV} (h' : Hp) (cc : Nat → HV) (hi : getE E i = .heap hp) (hj : getE E j = .cells T cs) (hcc : ∀ p v, cs[p]? = some v → IsHV i (mapV (abF i j (hp ()).m) v) (cc p))
    (hl : h'.like ((hp ()).add (.cells T cs.length cc)))
    (k : fEnv (mapEnv (abF i j (hp ()).m) env) fun env => fEE (mapE (abF i j (hp ()).m) (setE (setE E j .none) i (.heap fun _ => h'))) fun E => CodeN P N S M c env E K) : CodeN P N S M c env E K where
  h := by
    intro r g a w hr hM hI hN
    rw [fEnv_eq, fEE_eq] at k
    have hij : i ≠ j := fun e => by subst e; rw [hi] at hj; cases hj
    have hs := hI.sim
    have hin : i < g.n := by rw [← hs.len]; exact getE_lt (by rw [hi]; simp)
    have hm : (hp ()).m = g.M i := by have := hs.sat i; rw [hi] at this; exact this.1.symm
    exact k.h r _ a w hr hM (hI.absorb hM hi hj hij (Nat.le_of_ble_eq_true hjM) (AsHO.ok hin hm (.cells T cs cc hcc) (fun _ _ e => by cases e)) rfl rfl hl) hN
/-- A new map becomes a block of a heap. -/
theorem CodeN.absorbM (i j : Nat) (hjM : Nat.ble M.length j = true) {hp : Unit → Hp} {kk : IntKind} (h' : Nat → Hp) (hi : getE E i = .heap hp) (hj : getE E j = .smp kk [] [])
    (hl : ∀ clock, (h' clock).like ((hp ()).add (.map [] clock)))
    (k : ∀ clock, fEnv (mapEnv (abF i j (hp ()).m) env) fun env => fEE (mapE (abF i j (hp ()).m) (setE (setE E j .none) i (.heap fun _ => h' clock))) fun E => CodeN P N S M c env E K) : CodeN P N S M c env E K where
  h := by
    intro r g a w hr hM hI hN
    have hij : i ≠ j := fun e => by subst e; rw [hi] at hj; cases hj
    have hs := hI.sim
    have hin : i < g.n := by rw [← hs.len]; exact getE_lt (by rw [hi]; simp)
    have hm : (hp ()).m = g.M i := by have := hs.sat i; rw [hi] at this; exact this.1.symm
    have hsj := hs.sat j
    rw [hj] at hsj
    obtain ⟨es, cl, h1, _⟩ := hsj
    have k := k cl
    rw [fEnv_eq, fEE_eq] at k
    exact k.h r _ a w hr hM (hI.absorb hM hi hj hij (Nat.le_of_ble_eq_true hjM) (AsHO.ok hin hm (.map kk cl) (fun es' cl' e ms cl2 hb => by cases e; rw [h1] at hb; cases hb; rfl)) rfl rfl (hl cl)) hN
theorem CodeN.heap0 (o : Nat → HO) (k : fEE (addE E (.heap fun _ => ⟨0, o⟩)) fun E => CodeN P N S M c env E K) : CodeN P N S M c env E K where
  h := by
    intro r g a w hr hM hI hN
    rw [fEE_eq] at k
    obtain ⟨B, hB, h, hd⟩ := hI
    obtain ⟨g', h', _⟩ := h.heap0 o
    exact k.h r g' a w hr hM ⟨B, hB, h', hd⟩ hN
variable {l : List AV} {Y : Type} {Q : Y → Prop} {res : Y → List AV} {out : Y → List Chunk}
theorem RetN.absorb (i j : Nat) (hjM : Nat.ble M.length j = true) {hp : Unit → Hp} {T : TypeId} {cs : List AV} (h' : Hp) (cc : Nat → HV) (hi : getE E i = .heap hp) (hj : getE E j = .cells T cs) (hcc : ∀ p v, cs[p]? = some v → IsHV i (mapV (abF i j (hp ()).m) v) (cc p))
    (hl : h'.like ((hp ()).add (.cells T cs.length cc)))
    (k : fEE (mapE (abF i j (hp ()).m) (setE (setE E j .none) i (.heap fun _ => h'))) fun E => fL (mapL (abF i j (hp ()).m) l) fun l => RetN M [] E l Q res out) : RetN M env E l Q res out where
  h := by
    intro B g tmps w vals hM hI hr
    rw [fEE_eq, fL_eq] at k
    have hij : i ≠ j := fun e => by subst e; rw [hi] at hj; cases hj
    have hs := hI.sim
    have hin : i < g.n := by rw [← hs.len]; exact getE_lt (by rw [hi]; simp)
    have hm : (hp ()).m = g.M i := by have := hs.sat i; rw [hi] at this; exact this.1.symm
    obtain ⟨h1, h2⟩ := hI.absorb hi hj hij (by rw [← cellsL_len, hM]; exact Nat.le_of_ble_eq_true hjM) (AsHO.ok hin hm (.cells T cs cc hcc) (fun _ _ e => by cases e)) rfl rfl hl
    exact k.h B _ tmps w vals hM ⟨fun t => .undef _, h1.sim, h1.ext⟩ (RL.map (g := g) (g' := g.take i j) _ (fun _ _ h => h) (abF_ok hin hm) hr)
theorem RetN.absorbM (i j : Nat) (hjM : Nat.ble M.length j = true) {hp : Unit → Hp} {kk : IntKind} (h' : Nat → Hp) (hi : getE E i = .heap hp) (hj : getE E j = .smp kk [] [])
    (hl : ∀ clock, (h' clock).like ((hp ()).add (.map [] clock)))
    (k : ∀ clock, fEE (mapE (abF i j (hp ()).m) (setE (setE E j .none) i (.heap fun _ => h' clock))) fun E => fL (mapL (abF i j (hp ()).m) l) fun l => RetN M [] E l Q res out) : RetN M env E l Q res out where
  h := by
    intro B g tmps w vals hM hI hr
    have hij : i ≠ j := fun e => by subst e; rw [hi] at hj; cases hj
    have hs := hI.sim
    have hin : i < g.n := by rw [← hs.len]; exact getE_lt (by rw [hi]; simp)
    have hm : (hp ()).m = g.M i := by have := hs.sat i; rw [hi] at this; exact this.1.symm
    have hsj := hs.sat j
    rw [hj] at hsj
    obtain ⟨es, cl, h1, _⟩ := hsj
    have k := k cl
    rw [fEE_eq, fL_eq] at k
    obtain ⟨h2, h3⟩ := hI.absorb hi hj hij (by rw [← cellsL_len, hM]; exact Nat.le_of_ble_eq_true hjM) (AsHO.ok hin hm (.map kk cl) (fun es' cl' e ms cl2 hb => by cases e; rw [h1] at hb; cases hb; rfl)) rfl rfl (hl cl)
    exact k.h B _ tmps w vals hM ⟨fun t => .undef _, h2.sim, h2.ext⟩ (RL.map (g := g) (g' := g.take i j) _ (fun _ _ h => h) (abF_ok hin hm) hr)
theorem RetN.heap0 (o : Nat → HO) (k : fEE (addE E (.heap fun _ => ⟨0, o⟩)) fun E => RetN M [] E l Q res out) : RetN M env E l Q res out where
  h := by
    intro B g tmps w vals hM hI hr
    rw [fEE_eq] at k
    obtain ⟨g', h', hm⟩ := hI.heap0 o
    refine k.h B g' tmps w vals hM ⟨fun t => .undef _, h'.sim, h'.ext⟩ (RL.mk hr.length fun i y u h1 h2 => hm _ _ (hr.at_ i y u h1 h2))
end
end Go.Proofs.Ytafcenlbllmahaa.Fw
set_option linter.unusedVariables false
set_option linter.unusedSimpArgs false
namespace Go.Proofs.Ytafcenlbllmahaa.Wh
open Go Go.RowKit Fw
structure Lk where
  id : Int
  slot : Int
  prev : Option Nat
  next : Option Nat
structure Wl where
  n : Nat
  lk : Nat → Lk
  first : Nat → Option Nat
  last : Nat → Option Nat
  at_ : List (Nat × Int × Nat)
  clk : Nat
  mask : Int
abbrev WheelT : TypeId := 69
abbrev LinkT : TypeId := 79
def pt (x : Option Nat) : Option (Nat × Nat) := x.map fun k => (k + 2, 0)
def wheelC (w : Wl) (j : Nat) : HV :=
  if j < 128 then .hp (pt (if j % 2 = 0 then w.first (j / 2) else w.last (j / 2))) else if j = 128 then .hm 0 else .dat (.list (.int .u64)) [w.mask]
def linkC (l : Lk) : Nat → HV
  | 0 => .dat (.int .i64) l.id | 1 => .dat (.int .i64) l.slot | 2 => .hp (pt l.prev) | _ => .hp (pt l.next)
def atE (es : List (Nat × Int × Nat)) : List (Nat × Int × HV) := es.map fun e => (e.1, e.2.1, .hp (pt (some e.2.2)))
def hpO (w : Wl) : Nat → HO
  | 0 => .map (atE w.at_) w.clk
  | 1 => .cells WheelT 130 (wheelC w)
  | k + 2 => .cells LinkT 4 (linkC (w.lk k))
def hpW (w : Wl) : Hp := ⟨w.n + 2, hpO w⟩
def upd {α : Type} (f : Nat → α) (k : Nat) (v : α) : Nat → α := fun j => if j = k then v else f j
theorem upd_same {α : Type} (f : Nat → α) (k : Nat) (v : α) : upd f k v k = v := by simp [upd]
theorem upd_other {α : Type} (f : Nat → α) (k : Nat) (v : α) {j : Nat} (h : j ≠ k) : upd f k v j = f j := by simp [upd, h]

/-! ### reading -/
section
variable {P : Program} {t i : Nat} {w : Wl} {f : Unit → Option (Nat × Nat)} {K : AV → Prop}
theorem ldFirst (s : Nat) (hs : s < 64) (hf : f () = some (1, s * 2)) (ht : isSc P t = true) (k : K (.hp i fun _ => pt (w.first s))) : LdH P t i (fun _ => hpW w) f K :=
  ⟨1, s * 2, WheelT, 130, wheelC w, .hp (pt (w.first s)), hf, rfl, by omega, by
    unfold wheelC; rw [if_pos (by omega), if_pos (by omega), show s * 2 / 2 = s by omega], ht, k⟩
theorem ldLast (s : Nat) (hs : s < 64) (hf : f () = some (1, s * 2 + 1)) (ht : isSc P t = true) (k : K (.hp i fun _ => pt (w.last s))) : LdH P t i (fun _ => hpW w) f K :=
  ⟨1, s * 2 + 1, WheelT, 130, wheelC w, .hp (pt (w.last s)), hf, rfl, by omega, by
    unfold wheelC; rw [if_pos (by omega), if_neg (by omega), show (s * 2 + 1) / 2 = s by omega], ht, k⟩
theorem ldAt (hf : f () = some (1, 128)) (ht : isSc P t = true) (k : K (.hm i fun _ => 0)) : LdH P t i (fun _ => hpW w) f K :=
  ⟨1, 128, WheelT, 130, wheelC w, .hm 0, hf, rfl, by omega, rfl, ht, k⟩
theorem ldMask (hf : f () = some (1, 129)) (ht : isSc P t = true) (k : K (.lst (.int .u64) fun _ => [w.mask])) : LdH P t i (fun _ => hpW w) f K :=
  ⟨1, 129, WheelT, 130, wheelC w, .dat (.list (.int .u64)) [w.mask], hf, rfl, by omega, rfl, ht, k⟩
theorem ldId (n : Nat) (hf : f () = some (n + 2, 0)) (ht : isSc P t = true) (k : K (.int .i64 fun _ => (w.lk n).id)) : LdH P t i (fun _ => hpW w) f K :=
  ⟨n + 2, 0, LinkT, 4, linkC (w.lk n), _, hf, rfl, by omega, rfl, ht, k⟩
theorem ldSlot (n : Nat) (hf : f () = some (n + 2, 1)) (ht : isSc P t = true) (k : K (.int .i64 fun _ => (w.lk n).slot)) : LdH P t i (fun _ => hpW w) f K :=
  ⟨n + 2, 1, LinkT, 4, linkC (w.lk n), _, hf, rfl, by omega, rfl, ht, k⟩
theorem ldPrev (n : Nat) (hf : f () = some (n + 2, 2)) (ht : isSc P t = true) (k : K (.hp i fun _ => pt (w.lk n).prev)) : LdH P t i (fun _ => hpW w) f K :=
  ⟨n + 2, 2, LinkT, 4, linkC (w.lk n), _, hf, rfl, by omega, rfl, ht, k⟩
theorem ldNext (n : Nat) (hf : f () = some (n + 2, 3)) (ht : isSc P t = true) (k : K (.hp i fun _ => pt (w.lk n).next)) : LdH P t i (fun _ => hpW w) f K :=
  ⟨n + 2, 3, LinkT, 4, linkC (w.lk n), _, hf, rfl, by omega, rfl, ht, k⟩
theorem getH_atE (es : List (Nat × Int × Nat)) (n : Int) : getH (atE es) n = (getH es n).map fun k => HV.hp (pt (some k)) := by
  induction es with
  | nil => rfl
  | cons e r ih =>
    obtain ⟨b, k, x⟩ := e
    simp only [atE, List.map_cons, getH]
    split
    · rfl
    · exact ih
theorem delH_atE (es : List (Nat × Int × Nat)) (n : Int) : delH (atE es) n = atE (delH es n) := by
  induction es with
  | nil => rfl
  | cons e r ih =>
    obtain ⟨b, k, x⟩ := e
    simp only [atE, List.map_cons, delH]
    split
    · rfl
    · rw [List.map_cons]; congr 1
theorem putH_atE (es : List (Nat × Int × Nat)) (c : Nat) (n : Int) (v : Nat) : putH (atE es) c n (.hp (pt (some v))) = atE (putH es c n v) := by
  induction es with
  | nil => rfl
  | cons e r ih =>
    obtain ⟨b, k, x⟩ := e
    simp only [atE, List.map_cons, putH]
    split
    · rfl
    · rw [List.map_cons]; congr 1
theorem lkAt (hz : mapZ P t = some (.pointer none)) {g : Unit → Nat} {n : Unit → Int} (hg : g () = 0)
    (k1 : ∀ k, getH w.at_ (n ()) = some k → K (.tup [.hp i fun _ => pt (some k), .tt])) (k0 : getH w.at_ (n ()) = none → K (.tup [.pnil, .ff])) : LkH P t true i (fun _ => hpW w) g n K :=
  ⟨atE w.at_, w.clk, _, by rw [hg]; rfl, hz, fun v hv => by
    rw [getH_atE] at hv
    cases h : getH w.at_ (n ()) with
    | none => rw [h] at hv; cases hv
    | some k => rw [h] at hv; cases hv; exact k1 k h, fun hv => by
    rw [getH_atE] at hv
    cases h : getH w.at_ (n ()) with
    | none => exact k0 h
    | some k => rw [h] at hv; cases hv⟩
end

/-! ### writing -/
theorem like_self {o o' : HO} (h : o = o') : o.like o' := by subst h; exact HO.like_refl _
theorem like_link {l l' : Nat → HV} {T n} (h : ∀ j, j < n → l j = l' j) : (HO.cells T n l).like (.cells T n l') := ⟨rfl, rfl, h⟩
section
variable {i : Nat} {w : Wl} {f : Unit → Option (Nat × Nat)} {v : AV} {K : Hp → Prop}
theorem stFirst (s : Nat) (x : Option Nat) (hs : s < 64) (hf : f () = some (1, s * 2)) (hv : IsHV i v (.hp (pt x))) (k : K (hpW { w with first := upd w.first s x })) : StH i v (fun _ => hpW w) f K := by
  refine ⟨1, s * 2, WheelT, 130, wheelC w, .hp (pt x), hpW { w with first := upd w.first s x }, hf, rfl, by omega, hv, ⟨rfl, fun j hj => ?_⟩, k⟩
  match j with
  | 0 => exact like_self rfl
  | 1 =>
    refine like_link fun j hj => ?_
    by_cases h : j = s * 2
    · subst h; rw [if_pos rfl]; unfold wheelC; rw [if_pos (by omega), if_pos (by omega)]
      show HV.hp (pt (upd w.first s x _)) = _
      rw [show s * 2 / 2 = s by omega, upd_same]
    · rw [if_neg h]; unfold wheelC
      by_cases h1 : j < 128
      · rw [if_pos h1, if_pos h1]
        by_cases h2 : j % 2 = 0
        · rw [if_pos h2, if_pos h2]
          show HV.hp (pt (upd w.first s x _)) = _
          rw [upd_other _ _ _ (by omega)]
        · rw [if_neg h2, if_neg h2]
      · rw [if_neg h1, if_neg h1]
  | k + 2 => exact like_self rfl
theorem stLast (s : Nat) (x : Option Nat) (hs : s < 64) (hf : f () = some (1, s * 2 + 1)) (hv : IsHV i v (.hp (pt x))) (k : K (hpW { w with last := upd w.last s x })) : StH i v (fun _ => hpW w) f K := by
  refine ⟨1, s * 2 + 1, WheelT, 130, wheelC w, .hp (pt x), hpW { w with last := upd w.last s x }, hf, rfl, by omega, hv, ⟨rfl, fun j hj => ?_⟩, k⟩
  match j with
  | 0 => exact like_self rfl
  | 1 =>
    refine like_link fun j hj => ?_
    by_cases h : j = s * 2 + 1
    · subst h; rw [if_pos rfl]; unfold wheelC; rw [if_pos (by omega), if_neg (by omega)]
      show HV.hp (pt (upd w.last s x _)) = _
      rw [show (s * 2 + 1) / 2 = s by omega, upd_same]
    · rw [if_neg h]; unfold wheelC
      by_cases h1 : j < 128
      · rw [if_pos h1, if_pos h1]
        by_cases h2 : j % 2 = 0
        · rw [if_pos h2, if_pos h2]
        · rw [if_neg h2, if_neg h2]
          show HV.hp (pt (upd w.last s x _)) = _
          rw [upd_other _ _ _ (by omega)]
      · rw [if_neg h1, if_neg h1]
  | k + 2 => exact like_self rfl
theorem stMask (x : Int) (hf : f () = some (1, 129)) (hv : IsHV i v (.dat (.list (.int .u64)) [x])) (k : K (hpW { w with mask := x })) : StH i v (fun _ => hpW w) f K := by
  refine ⟨1, 129, WheelT, 130, wheelC w, .dat (.list (.int .u64)) [x], hpW { w with mask := x }, hf, rfl, by omega, hv, ⟨rfl, fun j hj => ?_⟩, k⟩
  match j with
  | 0 => exact like_self rfl
  | 1 =>
    refine like_link fun j hj => ?_
    by_cases h : j = 129
    · subst h; rfl
    · rw [if_neg h]; unfold wheelC
      by_cases h1 : j < 128
      · rw [if_pos h1, if_pos h1]
      · rw [if_neg h1, if_neg h1, if_pos (by omega), if_pos (by omega)]
  | k + 2 => exact like_self rfl
theorem stPrev (n : Nat) (x : Option Nat) (hf : f () = some (n + 2, 2)) (hv : IsHV i v (.hp (pt x))) (k : K (hpW { w with lk := upd w.lk n { w.lk n with prev := x } })) : StH i v (fun _ => hpW w) f K := by
  refine ⟨n + 2, 2, LinkT, 4, linkC (w.lk n), .hp (pt x), hpW { w with lk := upd w.lk n { w.lk n with prev := x } }, hf, rfl, by omega, hv, ⟨rfl, fun j hj => ?_⟩, k⟩
  match j with
  | 0 => exact like_self rfl
  | 1 => exact like_self rfl
  | j + 2 =>
    by_cases h : j = n
    · subst h
      simp only [hpW, Hp.set, hpO, upd_same, if_true]
      refine like_link fun q hq => ?_
      match q with
      | 0 => rfl
      | 1 => rfl
      | 2 => rfl
      | q + 3 => rfl
    · simp only [hpW, Hp.set, hpO]
      rw [if_neg (by omega), upd_other _ _ _ h]
      exact HO.like_refl _
theorem stNext (n : Nat) (x : Option Nat) (hf : f () = some (n + 2, 3)) (hv : IsHV i v (.hp (pt x))) (k : K (hpW { w with lk := upd w.lk n { w.lk n with next := x } })) : StH i v (fun _ => hpW w) f K := by
  refine ⟨n + 2, 3, LinkT, 4, linkC (w.lk n), .hp (pt x), hpW { w with lk := upd w.lk n { w.lk n with next := x } }, hf, rfl, by omega, hv, ⟨rfl, fun j hj => ?_⟩, k⟩
  match j with
  | 0 => exact like_self rfl
  | 1 => exact like_self rfl
  | j + 2 =>
    by_cases h : j = n
    · subst h
      simp only [hpW, Hp.set, hpO, upd_same, if_true]
      refine like_link fun q hq => ?_
      match q, hq with
      | 0, _ => rfl
      | 1, _ => rfl
      | 2, _ => rfl
      | 3, _ => rfl
    · simp only [hpW, Hp.set, hpO]
      rw [if_neg (by omega), upd_other _ _ _ h]
      exact HO.like_refl _
theorem deAt {P : Program} {t : Nat} (hz : mapZ P t = some (.pointer none)) {g : Unit → Nat} {n : Unit → Int} (hg : g () = 0) (k : K (hpW { w with at_ := delH w.at_ (n ()) })) : DeH P t n (fun _ => hpW w) g K := by
  refine ⟨atE w.at_, w.clk, _, hpW { w with at_ := delH w.at_ (n ()) }, by rw [hg]; rfl, hz, ⟨rfl, fun j hj => ?_⟩, k⟩
  rw [hg]
  match j with
  | 0 => simp only [hpW, Hp.set, hpO, if_true, delH_atE]; exact HO.like_refl _
  | 1 => exact like_self rfl
  | j + 2 => exact like_self rfl
theorem muAt {P : Program} {t : Nat} (hz : mapZ P t = some (.pointer none)) {g : Unit → Nat} {n : Unit → Int} (x : Nat) (hg : g () = 0) (hv : IsHV i v (.hp (pt (some x)))) (hno : getH w.at_ (n ()) = none) (k : K (hpW { w with at_ := putH w.at_ w.clk (n ()) x, clk := w.clk + 1 })) : MuH P t i n v (fun _ => hpW w) g K := by
  refine ⟨atE w.at_, w.clk, _, .hp (pt (some x)), hpW { w with at_ := putH w.at_ w.clk (n ()) x, clk := w.clk + 1 }, by rw [hg]; rfl, hz, hv, ⟨rfl, fun j hj => ?_⟩, k⟩
  rw [hg]
  match j with
  | 0 =>
    simp only [hpW, Hp.set, hpO, if_true, putO, putH_atE, getH_atE, hno]
    exact HO.like_refl _
  | 1 => exact like_self rfl
  | j + 2 => exact like_self rfl
end
end Go.Proofs.Ytafcenlbllmahaa.Wh
set_option linter.unusedVariables false
set_option linter.unusedSimpArgs false
namespace Go.Proofs.Ytafcenlbllmahaa.Wh
open Go Go.RowKit Fw

/-! ### maps -/
def keysH {α : Type} (es : List (Nat × Int × α)) : List Int := es.map (·.2.1)
theorem getH_none {α : Type} {es : List (Nat × Int × α)} {n : Int} : getH es n = none ↔ n ∉ keysH es := by
  induction es with
  | nil => simp [getH, keysH]
  | cons e r ih =>
    obtain ⟨b, k, x⟩ := e
    simp only [getH, keysH, List.map_cons, List.mem_cons, not_or]
    split
    · rename_i h; subst h; simp
    · rename_i h; rw [ih]; simp only [keysH]; constructor
      · intro h'; exact ⟨fun e => h e.symm, h'⟩
      · intro h'; exact h'.2
theorem getH_mem {α : Type} {es : List (Nat × Int × α)} {n : Int} {v : α} (h : getH es n = some v) : ∃ b, (b, n, v) ∈ es := by
  induction es with
  | nil => simp [getH] at h
  | cons e r ih =>
    obtain ⟨b, k, x⟩ := e
    simp only [getH] at h
    split at h
    · rename_i hk; cases h; subst hk; exact ⟨b, .head _⟩
    · obtain ⟨b', h'⟩ := ih h; exact ⟨b', .tail _ h'⟩
theorem mem_getH {α : Type} {es : List (Nat × Int × α)} {b : Nat} {n : Int} {v : α} (hn : (keysH es).Nodup) (h : (b, n, v) ∈ es) : getH es n = some v := by
  induction es with
  | nil => simp at h
  | cons e r ih =>
    obtain ⟨b', k, x⟩ := e
    simp only [keysH, List.map_cons, List.nodup_cons] at hn
    simp only [getH]
    rcases List.mem_cons.1 h with e | h
    · cases e; simp
    · rw [if_neg (fun e => by subst e; exact hn.1 (List.mem_map.2 ⟨_, h, rfl⟩))]; exact ih hn.2 h
theorem getH_put {α : Type} (es : List (Nat × Int × α)) (c : Nat) (n m : Int) (v : α) : getH (putH es c n v) m = if m = n then some v else getH es m := by
  induction es with
  | nil => simp [putH, getH, eq_comm]
  | cons e r ih =>
    obtain ⟨b, k, x⟩ := e
    simp only [putH]
    by_cases hk : k = n
    · subst hk; rw [if_pos rfl]; simp only [getH]
      by_cases hm : m = k
      · subst hm; simp
      · rw [if_neg (fun e => hm e.symm), if_neg hm, if_neg (fun e => hm e.symm)]
    · rw [if_neg hk]; simp only [getH, ih]
      by_cases hm : m = n
      · subst hm; rw [if_neg hk, if_pos rfl, if_pos rfl]
      · rw [if_neg hm, if_neg hm]
theorem keys_put {α : Type} (es : List (Nat × Int × α)) (c : Nat) (n : Int) (v : α) : keysH (putH es c n v) = if n ∈ keysH es then keysH es else keysH es ++ [n] := by
  induction es with
  | nil => simp [putH, keysH]
  | cons e r ih =>
    obtain ⟨b, k, x⟩ := e
    simp only [putH]
    by_cases hk : k = n
    · subst hk; simp [keysH]
    · rw [if_neg hk]
      have e1 : ∀ l : List (Nat × Int × α), keysH ((b, k, x) :: l) = k :: keysH l := fun _ => rfl
      rw [e1, e1, ih]
      by_cases hm : n ∈ keysH r
      · rw [if_pos hm, if_pos (List.mem_cons_of_mem _ hm)]
      · rw [if_neg hm, if_neg (fun h => by rcases List.mem_cons.1 h with h | h; exact hk h.symm; exact hm h)]; rfl
theorem nodup_put {α : Type} {es : List (Nat × Int × α)} (h : (keysH es).Nodup) (c : Nat) (n : Int) (v : α) : (keysH (putH es c n v)).Nodup := by
  rw [keys_put]
  split
  · exact h
  · rename_i hn
    rw [List.nodup_append]
    exact ⟨h, by simp, fun a ha b hb => by simp at hb; subst hb; intro e; subst e; exact hn ha⟩
theorem keys_del {α : Type} (es : List (Nat × Int × α)) (n : Int) : keysH (delH es n) = (keysH es).erase n := by
  induction es with
  | nil => rfl
  | cons e r ih =>
    obtain ⟨b, k, x⟩ := e
    simp only [delH]
    by_cases hk : k = n
    · subst hk; simp [keysH]
    · rw [if_neg hk]
      simp only [keysH, List.map_cons] at ih ⊢
      rw [ih, List.erase_cons_tail (by simpa using hk)]
theorem nodup_del {α : Type} {es : List (Nat × Int × α)} (h : (keysH es).Nodup) (n : Int) : (keysH (delH es n)).Nodup := by
  rw [keys_del]; exact h.erase n
theorem getH_del {α : Type} {es : List (Nat × Int × α)} (h : (keysH es).Nodup) (n m : Int) : getH (delH es n) m = if m = n then none else getH es m := by
  induction es with
  | nil => simp [delH, getH]
  | cons e r ih =>
    obtain ⟨b, k, x⟩ := e
    simp only [keysH, List.map_cons, List.nodup_cons] at h
    simp only [delH]
    by_cases hk : k = n
    · subst hk
      rw [if_pos rfl]
      by_cases hm : m = k
      · subst hm; rw [if_pos rfl]; exact getH_none.2 h.1
      · rw [if_neg hm]; simp only [getH]; rw [if_neg (fun e => hm e.symm)]
    · rw [if_neg hk]; simp only [getH, ih h.2]
      by_cases hm : m = n
      · subst hm; rw [if_neg hk, if_pos rfl, if_pos rfl]
      · rw [if_neg hm, if_neg hm]
theorem len_put {α : Type} (es : List (Nat × Int × α)) (c : Nat) (n : Int) (v : α) : (putH es c n v).length = match getH es n with | some _ => es.length | none => es.length + 1 := by
  induction es with
  | nil => rfl
  | cons e r ih =>
    obtain ⟨b, k, x⟩ := e
    simp only [putH, getH]
    by_cases hk : k = n
    · rw [if_pos hk, if_pos hk]; rfl
    · rw [if_neg hk, if_neg hk, List.length_cons, ih]
      cases getH r n <;> rfl
theorem len_del {α : Type} (es : List (Nat × Int × α)) (n : Int) : (delH es n).length = match getH es n with | some _ => es.length - 1 | none => es.length := by
  induction es with
  | nil => rfl
  | cons e r ih =>
    obtain ⟨b, k, x⟩ := e
    simp only [delH, getH]
    by_cases hk : k = n
    · rw [if_pos hk, if_pos hk]; rfl
    · rw [if_neg hk, if_neg hk, List.length_cons, ih]
      cases hg : getH r n with
      | none => rfl
      | some y =>
        have : r ≠ [] := fun e => by subst e; simp [getH] at hg
        have := List.length_pos_iff.2 this
        simp only [List.length_cons]; omega

/-! ### rows -/
structure LOk (w : Wl) (rows : Nat → List Nat) : Prop where
  fst : ∀ s, s < 64 → w.first s = (rows s).head?
  lst : ∀ s, s < 64 → w.last s = (rows s).getLast?
  lk : ∀ s i k, s < 64 → (rows s)[i]? = some k → (w.lk k).slot = s ∧ (w.lk k).prev = (if i = 0 then none else (rows s)[i - 1]?) ∧ (w.lk k).next = (rows s)[i + 1]? ∧ k < w.n
  nd : ∀ s, s < 64 → (rows s).Nodup
theorem nd_idx {L : List Nat} (h : L.Nodup) {a b x : Nat} (ha : L[a]? = some x) (hb : L[b]? = some x) : a = b := by
  have h1 := (List.getElem?_eq_some_iff.1 ha)
  have h2 := (List.getElem?_eq_some_iff.1 hb)
  exact (List.getElem_inj h).1 (h1.2.trans h2.2.symm)
/-- The link k of row s taken out of the row. -/
def unl1 (w : Wl) (s k : Nat) : Wl := match (w.lk k).prev with
  | none => { w with first := upd w.first s (w.lk k).next } | some p => { w with lk := upd w.lk p { w.lk p with next := (w.lk k).next } }
def unl2 (w : Wl) (s k : Nat) : Wl := match (w.lk k).next with
  | none => { w with last := upd w.last s (w.lk k).prev } | some q => { w with lk := upd w.lk q { w.lk q with prev := (w.lk k).prev } }
theorem unl_rest (w : Wl) (s k : Nat) : (unl2 (unl1 w s k) s k).n = w.n ∧ (unl2 (unl1 w s k) s k).at_ = w.at_ ∧ (unl2 (unl1 w s k) s k).clk = w.clk ∧ (unl2 (unl1 w s k) s k).mask = w.mask := by
  unfold unl2; split <;> (unfold unl1; split <;> exact ⟨rfl, rfl, rfl, rfl⟩)
theorem unl1_lk (w : Wl) (s k x : Nat) : ((unl1 w s k).lk x).id = (w.lk x).id ∧ ((unl1 w s k).lk x).slot = (w.lk x).slot ∧ ((unl1 w s k).lk x).prev = (w.lk x).prev ∧ ((unl1 w s k).lk x).next = if (w.lk k).prev = some x then (w.lk k).next else (w.lk x).next := by
  unfold unl1
  split
  · rename_i h; rw [h]; simp
  · rename_i p h
    rw [h]
    show (upd w.lk p _ x).id = _ ∧ (upd w.lk p _ x).slot = _ ∧ (upd w.lk p _ x).prev = _ ∧ (upd w.lk p _ x).next = _
    by_cases hx : x = p
    · subst hx; rw [upd_same, if_pos rfl]; exact ⟨rfl, rfl, rfl, rfl⟩
    · rw [upd_other _ _ _ hx, if_neg (fun e => hx (by cases e; rfl))]
      exact ⟨rfl, rfl, rfl, rfl⟩
theorem unl_lk (w : Wl) (s k x : Nat) : ((unl2 (unl1 w s k) s k).lk x).id = (w.lk x).id ∧ ((unl2 (unl1 w s k) s k).lk x).slot = (w.lk x).slot ∧ ((unl2 (unl1 w s k) s k).lk x).prev = (if (w.lk k).next = some x then (w.lk k).prev else (w.lk x).prev) ∧
    ((unl2 (unl1 w s k) s k).lk x).next = if (w.lk k).prev = some x then (w.lk k).next else (w.lk x).next := by
  obtain ⟨k1, k2, k3, k4⟩ := unl1_lk w s k k
  obtain ⟨x1, x2, x3, x4⟩ := unl1_lk w s k x
  have k4' : ((unl1 w s k).lk k).next = (w.lk k).next := by rw [k4]; split <;> rfl
  unfold unl2
  rw [k4', k3]
  cases hn : (w.lk k).next with
  | none =>
    rw [if_neg (by simp)]
    rw [hn] at x4
    exact ⟨x1, x2, x3, x4⟩
  | some q =>
    show (upd (unl1 w s k).lk q _ x).id = _ ∧ (upd (unl1 w s k).lk q _ x).slot = _ ∧ (upd (unl1 w s k).lk q _ x).prev = _ ∧ (upd (unl1 w s k).lk q _ x).next = _
    by_cases hx : x = q
    · subst hx
      rw [hn] at x4
      rw [upd_same, if_pos rfl]
      exact ⟨x1, x2, rfl, x4⟩
    · rw [hn] at x4
      rw [upd_other _ _ _ hx, if_neg (fun e => hx (by cases e; rfl))]
      exact ⟨x1, x2, x3, x4⟩
theorem unl_first (w : Wl) (s k t : Nat) : (unl2 (unl1 w s k) s k).first t = if t = s ∧ (w.lk k).prev = none then (w.lk k).next else w.first t := by
  have e : (unl2 (unl1 w s k) s k).first t = (unl1 w s k).first t := by unfold unl2; split <;> rfl
  rw [e]; unfold unl1
  split
  · rename_i h; simp only [h, and_true]; unfold upd; rfl
  · rename_i p h; rw [if_neg (by rw [h]; simp)]
theorem unl_last (w : Wl) (s k t : Nat) : (unl2 (unl1 w s k) s k).last t = if t = s ∧ (w.lk k).next = none then (w.lk k).prev else w.last t := by
  obtain ⟨k1, k2, k3, k4⟩ := unl1_lk w s k k
  have k4' : ((unl1 w s k).lk k).next = (w.lk k).next := by rw [k4]; split <;> rfl
  have e : (unl1 w s k).last = w.last := by unfold unl1; split <;> rfl
  unfold unl2
  rw [k4', k3]
  split
  · rename_i h; simp only [h, and_true, e]; unfold upd; rfl
  · rename_i p h; rw [if_neg (by rw [h]; simp)]; simp only [e]
theorem erase_get (L : List Nat) (i j : Nat) : (L.eraseIdx i)[j]? = if j < i then L[j]? else L[j + 1]? := by rw [List.getElem?_eraseIdx]
theorem head_get (L : List Nat) : L.head? = L[0]? := by cases L <;> rfl
theorem last_get (L : List Nat) : L.getLast? = if L.length = 0 then none else L[L.length - 1]? := by
  rw [List.getLast?_eq_getElem?]
  split
  · rename_i h; rw [h]; have := List.length_eq_zero_iff.1 h; subst this; rfl
  · rfl
theorem LOk.unl {w : Wl} {rows : Nat → List Nat} (h : LOk w rows) {s i k : Nat} (hs : s < 64) (hi : (rows s)[i]? = some k) : LOk (unl2 (unl1 w s k) s k) (upd rows s ((rows s).eraseIdx i)) := by
  obtain ⟨a1, a2, a3, a4⟩ := h.lk s i k hs hi
  have hil := (List.getElem?_eq_some_iff.1 hi).1
  have hnd := h.nd s hs
  have hpn : (w.lk k).prev = none ↔ i = 0 := by
    rw [a2]
    constructor
    · intro e; split at e
      · assumption
      · have := List.getElem?_eq_none_iff.1 e; omega
    · intro e; rw [if_pos e]
  have hnn : (w.lk k).next = none ↔ i + 1 = (rows s).length := by
    rw [a3]
    constructor
    · intro e; have := List.getElem?_eq_none_iff.1 e; omega
    · intro e; exact List.getElem?_eq_none (by omega)
  refine ⟨fun t ht => ?_, fun t ht => ?_, fun t j x ht hj => ?_, fun t ht => ?_⟩
  · rw [unl_first]
    by_cases hts : t = s
    · subst hts
      rw [upd_same, head_get, erase_get]
      by_cases h0 : i = 0
      · rw [if_pos ⟨rfl, hpn.2 h0⟩, a3, h0]; simp
      · rw [if_neg (fun e => h0 (hpn.1 e.2)), if_pos (by omega), h.fst t ht, head_get]
    · rw [upd_other _ _ _ hts, if_neg (fun e => hts e.1)]; exact h.fst t ht
  · rw [unl_last]
    by_cases hts : t = s
    · subst hts
      rw [upd_same, last_get, List.length_eraseIdx, if_pos hil]
      by_cases h0 : i + 1 = (rows t).length
      · rw [if_pos ⟨rfl, hnn.2 h0⟩, a2]
        by_cases hi0 : i = 0
        · rw [if_pos hi0, if_pos (by omega)]
        · rw [if_neg hi0, if_neg (by omega), erase_get, if_pos (by omega)]
          congr 1; omega
      · rw [if_neg (fun e => h0 (hnn.1 e.2)), if_neg (by omega), h.lst t ht, last_get, if_neg (by omega), erase_get, if_neg (by omega)]
        congr 1; omega
    · rw [upd_other _ _ _ hts, if_neg (fun e => hts e.1)]; exact h.lst t ht
  · obtain ⟨u1, u2, u3, u4⟩ := unl_lk w s k x
    rw [u2, u3, u4, (unl_rest w s k).1]
    by_cases hts : t = s
    · subst hts
      rw [upd_same] at hj ⊢
      rw [erase_get] at hj
      have hprev : (w.lk k).prev = some x ↔ j + 1 = i := by
        rw [a2]
        constructor
        · intro e
          split at e
          · cases e
          · split at hj
            · have := nd_idx hnd e hj; omega
            · have := nd_idx hnd e hj; omega
        · intro e
          rw [if_neg (by omega)]; rw [if_pos (by omega)] at hj
          rw [← hj]; congr 1; omega
      have hnext : (w.lk k).next = some x ↔ j = i := by
        rw [a3]
        constructor
        · intro e
          split at hj
          · have := nd_idx hnd e hj; omega
          · have := nd_idx hnd e hj; omega
        · intro e
          subst e; rw [if_neg (by omega)] at hj; exact hj
      have hold : (w.lk x).slot = t ∧ (w.lk x).prev = (if (if j < i then j else j + 1) = 0 then none else (rows t)[(if j < i then j else j + 1) - 1]?) ∧ (w.lk x).next = (rows t)[(if j < i then j else j + 1) + 1]? ∧ x < w.n := by
        refine h.lk t _ x hs ?_
        rw [← hj]; split <;> rfl
      refine ⟨hold.1, ?_, ?_, hold.2.2.2⟩
      · by_cases hji : j = i
        · rw [if_pos (hnext.2 hji), a2]
          subst hji
          by_cases h0 : j = 0
          · rw [if_pos h0, if_pos h0]
          · rw [if_neg h0, if_neg h0, erase_get, if_pos (by omega)]
        · rw [if_neg (fun e => hji (hnext.1 e)), hold.2.1]
          by_cases hlt : j < i
          · rw [if_pos hlt]
            by_cases h0 : j = 0
            · rw [if_pos h0, if_pos h0]
            · rw [if_neg h0, if_neg h0, erase_get, if_pos (by omega)]
          · rw [if_neg hlt, if_neg (by omega), if_neg (by omega), erase_get, if_neg (by omega)]
            congr 1; omega
      · by_cases hji : j + 1 = i
        · rw [if_pos (hprev.2 hji), a3, erase_get, if_neg (by omega)]
          congr 1; omega
        · rw [if_neg (fun e => hji (hprev.1 e)), hold.2.2.1, erase_get]
          by_cases hlt : j < i
          · rw [if_pos hlt, if_pos (by omega)]
          · rw [if_neg hlt, if_neg (by omega)]
    · rw [upd_other _ _ _ hts] at hj ⊢
      obtain ⟨b1, b2, b3, b4⟩ := h.lk t j x ht hj
      have hne : ∀ y : Nat, (∃ j' : Nat, (rows s)[j']? = some y) → y ≠ x := by
        rintro y ⟨j', hj'⟩ e
        subst e
        have := (h.lk s j' y hs hj').1
        rw [b1] at this; omega
      refine ⟨b1, ?_, ?_, b4⟩
      · rw [if_neg (fun e => hne x ⟨i + 1, by rw [← a3]; exact e⟩ rfl)]; exact b2
      · rw [if_neg (fun e => by
          rw [a2] at e
          split at e
          · cases e
          · exact hne x ⟨_, e⟩ rfl)]; exact b3
  · by_cases hts : t = s
    · subst hts; rw [upd_same]; exact hnd.sublist (List.eraseIdx_sublist _ _)
    · rw [upd_other _ _ _ hts]; exact h.nd t ht
/-- A new link behind row s. -/
def app0 (w : Wl) (s : Nat) (id : Int) : Wl := { w with n := w.n + 1, lk := upd w.lk w.n ⟨id, s, w.last s, none⟩ }
def app1 (w : Wl) (s : Nat) (k : Nat) : Wl := match w.last s with
  | none => { w with first := upd w.first s (some k) } | some p => { w with lk := upd w.lk p { w.lk p with next := some k } }
def app (w : Wl) (s : Nat) (id : Int) : Wl := { app1 (app0 w s id) s w.n with last := upd (app1 (app0 w s id) s w.n).last s (some w.n) }
theorem app_rest (w : Wl) (s : Nat) (id : Int) : (app w s id).n = w.n + 1 ∧ (app w s id).at_ = w.at_ ∧ (app w s id).clk = w.clk ∧ (app w s id).mask = w.mask ∧ (app w s id).last = upd w.last s (some w.n) := by
  unfold app app1; split <;> exact ⟨rfl, rfl, rfl, rfl, rfl⟩
theorem app_first (w : Wl) (s t : Nat) (id : Int) : (app w s id).first t = if t = s ∧ w.last s = none then some w.n else w.first t := by
  show (app1 (app0 w s id) s w.n).first t = _
  unfold app1
  have e : (app0 w s id).last s = w.last s := rfl
  rw [e]
  split
  · rename_i h; simp only [h, and_true]; unfold upd; rfl
  · rename_i p h; rw [if_neg (by rw [h]; simp)]; rfl
theorem app_lk (w : Wl) (s : Nat) (id : Int) (x : Nat) (hp : ∀ p, w.last s = some p → p ≠ w.n) : (app w s id).lk x = if x = w.n then ⟨id, s, w.last s, none⟩ else if w.last s = some x then { w.lk x with next := some w.n } else w.lk x := by
  show (app1 (app0 w s id) s w.n).lk x = _
  unfold app1
  have e : (app0 w s id).last s = w.last s := rfl
  rw [e]
  split
  · rename_i h; rw [if_neg (by rw [h]; simp) (c := w.last s = some x)]; show upd _ _ _ x = _; unfold upd; rfl
  · rename_i p h
    have hpn := hp p h
    show upd (app0 w s id).lk p _ x = _
    by_cases hx : x = p
    · subst hx
      rw [upd_same, if_neg hpn, if_pos h]
      show ({ (upd w.lk w.n _) x with next := _ } : Lk) = _
      rw [upd_other _ _ _ hpn]
    · rw [upd_other _ _ _ hx]
      show upd _ _ _ x = _
      unfold upd
      split
      · rfl
      · rw [if_neg (fun e => hx (by rw [h] at e; cases e; rfl))]
theorem LOk.app {w : Wl} {rows : Nat → List Nat} (h : LOk w rows) {s : Nat} (hs : s < 64) (id : Int) : LOk (app w s id) (upd rows s (rows s ++ [w.n])) := by
  have hlt : ∀ t x, t < 64 → x ∈ rows t → x < w.n := fun t x ht hx => by
    obtain ⟨j, hj⟩ := List.mem_iff_getElem?.1 hx
    exact (h.lk t j x ht hj).2.2.2
  have hp : ∀ p, w.last s = some p → p ≠ w.n := fun p hp => by
    rw [h.lst s hs] at hp
    have := hlt s p hs (List.mem_of_getLast? hp)
    omega
  refine ⟨fun t ht => ?_, fun t ht => ?_, fun t j x ht hj => ?_, fun t ht => ?_⟩
  · rw [app_first]
    by_cases hts : t = s
    · subst hts
      rw [upd_same, h.lst t ht]
      cases hr : rows t with
      | nil => simp
      | cons a r => rw [if_neg (by simp), h.fst t ht, hr]; rfl
    · rw [upd_other _ _ _ hts, if_neg (fun e => hts e.1)]; exact h.fst t ht
  · rw [(app_rest w s id).2.2.2.2]
    by_cases hts : t = s
    · subst hts; rw [upd_same, upd_same]; simp
    · rw [upd_other _ _ _ hts, upd_other _ _ _ hts]; exact h.lst t ht
  · rw [(app_rest w s id).1, app_lk w s id x hp]
    by_cases hts : t = s
    · subst hts
      rw [upd_same] at hj ⊢
      rw [List.getElem?_append] at hj
      split at hj
      · rename_i hjl
        obtain ⟨b1, b2, b3, b4⟩ := h.lk t j x ht hj
        rw [if_neg (by omega)]
        have hlast : w.last t = some x ↔ j + 1 = (rows t).length := by
          rw [h.lst t ht, last_get, if_neg (by omega)]
          constructor
          · intro e; have := nd_idx (h.nd t ht) e hj; omega
          · intro e; rw [← hj]; congr 1; omega
        have hpr : (if j = 0 then none else (rows t)[j - 1]?) = (if j = 0 then none else (rows t ++ [w.n])[j - 1]?) := by
          split
          · rfl
          · rw [List.getElem?_append, if_pos (by omega)]
        by_cases hl : j + 1 = (rows t).length
        · rw [if_pos (hlast.2 hl)]
          refine ⟨b1, by rw [← hpr]; exact b2, ?_, by omega⟩
          rw [List.getElem?_append, if_neg (by omega), hl]; simp
        · rw [if_neg (fun e => hl (hlast.1 e))]
          refine ⟨b1, by rw [← hpr]; exact b2, ?_, by omega⟩
          rw [List.getElem?_append, if_pos (by omega)]; exact b3
      · rename_i hjl
        have hj0 : j = (rows t).length := by
          have := (List.getElem?_eq_some_iff.1 hj).1; simp at this; omega
        subst hj0
        simp at hj
        subst hj
        rw [if_pos rfl]
        refine ⟨rfl, ?_, ?_, by omega⟩
        · show w.last t = _
          rw [h.lst t ht, last_get]
          split
          · rfl
          · rw [List.getElem?_append, if_pos (by omega)]
        · exact (List.getElem?_eq_none (by simp)).symm
    · rw [upd_other _ _ _ hts] at hj ⊢
      obtain ⟨b1, b2, b3, b4⟩ := h.lk t j x ht hj
      rw [if_neg (by omega), if_neg (fun e => by
        rw [h.lst s hs] at e
        obtain ⟨j', hj'⟩ := List.mem_iff_getElem?.1 (List.mem_of_getLast? e)
        have := (h.lk s j' x hs hj').1
        rw [b1] at this; omega)]
      exact ⟨b1, b2, b3, by omega⟩
  · by_cases hts : t = s
    · subst hts
      rw [upd_same, List.nodup_append]
      exact ⟨h.nd t ht, by simp, fun a ha b hb => by simp at hb; subst hb; have := hlt t a ht ha; omega⟩
    · rw [upd_other _ _ _ hts]; exact h.nd t ht
end Go.Proofs.Ytafcenlbllmahaa.Wh
set_option linter.unusedVariables false
set_option linter.unusedSimpArgs false
namespace Go.Proofs.Ytafcenlbllmahaa.Bt
open Go Go.RowKit Fw
/-- The number that words are, the first one lowest. -/
def numOf : List Int → Nat
  | [] => 0
  | x :: r => x.toNat + 18446744073709551616 * numOf r
def wordsOf (k N : Nat) : List Int := (List.range k).map fun i => ((N / 2 ^ (64 * i) % 2 ^ 64 : Nat) : Int)
/-- Words as may be. -/
def Wd (w : List Int) : Prop := ∀ x ∈ w, 0 ≤ x ∧ x < 18446744073709551616
theorem words_len (k N : Nat) : (wordsOf k N).length = k := by simp [wordsOf]
theorem words_at {k N i : Nat} (h : i < k) : (wordsOf k N).getD i 0 = ((N / 2 ^ (64 * i) % 2 ^ 64 : Nat) : Int) := by
  simp [wordsOf, List.getD_eq_getElem?_getD, h]
theorem words_wd (k N : Nat) : Wd (wordsOf k N) := fun x hx => by
  simp only [wordsOf, List.mem_map] at hx
  obtain ⟨i, _, rfl⟩ := hx
  have := Nat.mod_lt (N / 2 ^ (64 * i)) (show 2 ^ 64 > 0 by decide)
  omega
theorem num_lt : ∀ {w : List Int}, Wd w → numOf w < 2 ^ (64 * w.length)
  | [], _ => by simp [numOf]
  | x :: r, h => by
    have h1 := h x (List.mem_cons_self ..)
    have h2 := num_lt (w := r) fun y hy => h y (List.mem_cons_of_mem _ hy)
    have e : 2 ^ (64 * (x :: r).length) = 18446744073709551616 * 2 ^ (64 * r.length) := by
      rw [List.length_cons, Nat.mul_add, Nat.pow_add, Nat.mul_comm]
    rw [e, numOf]; omega
theorem num_at : ∀ {w : List Int}, Wd w → ∀ i, i < w.length → w.getD i 0 = ((numOf w / 2 ^ (64 * i) % 2 ^ 64 : Nat) : Int)
  | [], _, i, h => by simp at h
  | x :: r, hw, i, h => by
    have h1 := hw x (List.mem_cons_self ..)
    cases i with
    | zero =>
      show x = _
      rw [numOf, Nat.mul_zero, Nat.pow_zero, Nat.div_one, show (2 : Nat) ^ 64 = 18446744073709551616 from rfl, Nat.add_mul_mod_self_left]
      omega
    | succ i =>
      have ih := num_at (w := r) (fun y hy => hw y (List.mem_cons_of_mem _ hy)) i (by simpa using h)
      have e : numOf (x :: r) / 2 ^ (64 * (i + 1)) = numOf r / 2 ^ (64 * i) := by
        rw [show 2 ^ (64 * (i + 1)) = 18446744073709551616 * 2 ^ (64 * i) by rw [Nat.mul_add, Nat.pow_add, Nat.mul_comm], ← Nat.div_div_eq_div_mul, numOf]
        congr 1
        omega
      rw [e, ← ih]; rfl
theorem getD_ext {l m : List Int} (h : l.length = m.length) (h2 : ∀ i, i < l.length → l.getD i 0 = m.getD i 0) : l = m := by
  apply List.ext_getElem h
  intro i h3 h4
  have := h2 i h3
  rwa [List.getD_eq_getElem?_getD, List.getD_eq_getElem?_getD, List.getElem?_eq_getElem h3, List.getElem?_eq_getElem h4] at this
theorem words_num {w : List Int} (h : Wd w) : wordsOf w.length (numOf w) = w :=
  getD_ext (words_len _ _) fun i hi => by
    rw [words_len] at hi
    rw [words_at hi, num_at h i hi]
theorem num_words : ∀ {k N : Nat}, N < 2 ^ (64 * k) → numOf (wordsOf k N) = N
  | 0, N, h => by simp at h; subst h; rfl
  | k + 1, N, h => by
    have e : wordsOf (k + 1) N = ((N % 2 ^ 64 : Nat) : Int) :: wordsOf k (N / 2 ^ 64) := by
      unfold wordsOf
      rw [List.range_succ_eq_map, List.map_cons, List.map_map]
      congr 1
      · simp
      · refine List.map_congr_left fun i _ => ?_
        show ((N / 2 ^ (64 * (i + 1)) % 2 ^ 64 : Nat) : Int) = _
        rw [Nat.mul_add, Nat.mul_one, Nat.add_comm, Nat.pow_add, Nat.div_div_eq_div_mul]
    have h2 : N / 2 ^ 64 < 2 ^ (64 * k) := by
      rw [Nat.div_lt_iff_lt_mul (by decide), ← Nat.pow_add]
      rwa [Nat.mul_add] at h
    rw [e, numOf, num_words h2]
    have := Nat.div_add_mod N 18446744073709551616
    show (((N % 18446744073709551616 : Nat) : Int)).toNat + 18446744073709551616 * (N / 18446744073709551616) = N
    omega
theorem words_inj {k M N : Nat} (hM : M < 2 ^ (64 * k)) (hN : N < 2 ^ (64 * k)) (h : wordsOf k M = wordsOf k N) : M = N := by
  rw [← num_words hM, ← num_words hN, h]
/-! ### Fields -/
def fld (N at_ wd : Nat) : Nat := N / 2 ^ at_ % 2 ^ wd
theorem fld_bit (N a b i : Nat) : (fld N a b).testBit i = (decide (i < b) && N.testBit (a + i)) := by
  unfold fld; rw [Nat.testBit_mod_two_pow, Nat.testBit_div_two_pow, Nat.add_comm]
theorem word_bit (N i j : Nat) : (N / 2 ^ (64 * i) % 2 ^ 64).testBit j = (decide (j < 64) && N.testBit (64 * i + j)) := fld_bit N (64 * i) 64 j
/-- A field out of two words. -/
theorem fld_words (N i low wd : Nat) (hl : low < 64) (hw : wd ≤ 64) :
    ((N / 2 ^ (64 * i) % 2 ^ 64) / 2 ^ low ||| (N / 2 ^ (64 * (i + 1)) % 2 ^ 64) * 2 ^ (64 - low) % 2 ^ 64) &&& (2 ^ wd - 1) = fld N (64 * i + low) wd := by
  apply Nat.eq_of_testBit_eq
  intro j
  rw [Nat.testBit_and, Nat.testBit_two_pow_sub_one, Nat.testBit_or, Nat.testBit_div_two_pow, word_bit, Nat.testBit_mod_two_pow, Nat.testBit_mul_two_pow, word_bit, fld_bit]
  by_cases h1 : j < wd
  · by_cases h2 : j + low < 64
    · have e1 : 64 * i + (j + low) = 64 * i + low + j := by omega
      have e2 : ¬ 64 ≤ j + low := by omega
      simp [h1, h2, e1, e2]
    · have e1 : 64 * (i + 1) + (j - (64 - low)) = 64 * i + low + j := by omega
      have e2 : 64 ≤ j + low := by omega
      have e3 : j - (64 - low) < 64 := by omega
      have e4 : j < 64 := by omega
      simp [h1, h2, e1, e2, e3, e4]
  · simp [h1]
theorem fld_word (N i low wd : Nat) (hl : low + wd ≤ 64) : ((N / 2 ^ (64 * i) % 2 ^ 64) / 2 ^ low) &&& (2 ^ wd - 1) = fld N (64 * i + low) wd := by
  apply Nat.eq_of_testBit_eq
  intro j
  rw [Nat.testBit_and, Nat.testBit_two_pow_sub_one, Nat.testBit_div_two_pow, word_bit, fld_bit]
  by_cases h1 : j < wd
  · have e1 : 64 * i + (j + low) = 64 * i + low + j := by omega
    have h2 : j + low < 64 := by omega
    simp [h1, h2, e1]
  · simp [h1]
/-- What is laid into a word, ahead of which all is lower. -/
def andn (a b : Nat) : Nat := (BitVec.ofNat 64 a &&& ~~~BitVec.ofNat 64 b).toNat
theorem andn_bit (a b i : Nat) : (andn a b).testBit i = (decide (i < 64) && a.testBit i && !b.testBit i) := by
  unfold andn
  rw [BitVec.testBit_toNat, BitVec.getLsbD_and, BitVec.getLsbD_not, BitVec.getLsbD_ofNat, BitVec.getLsbD_ofNat]
  by_cases h : i < 64 <;> simp [h]
theorem add_or {N n a : Nat} (h : N < 2 ^ a) : N + n * 2 ^ a = N ||| n * 2 ^ a := by
  rw [Nat.add_comm, Nat.or_comm, Nat.mul_comm]
  exact Nat.two_pow_add_eq_or_of_lt h n
theorem low_bit {N a i : Nat} (h : N < 2 ^ a) (hi : a ≤ i) : N.testBit i = false := Nat.testBit_lt_two_pow (Nat.lt_of_lt_of_le h (Nat.pow_le_pow_right (by decide) hi))
theorem set_low {N i low n wd : Nat} (h : N < 2 ^ (64 * i + low)) (hn : n < 2 ^ wd) (hl : low < 64) (hw : wd ≤ 64) :
    andn (N / 2 ^ (64 * i) % 2 ^ 64) ((2 ^ wd - 1) * 2 ^ low % 2 ^ 64) ||| n * 2 ^ low % 2 ^ 64 = (N + n * 2 ^ (64 * i + low)) / 2 ^ (64 * i) % 2 ^ 64 := by
  apply Nat.eq_of_testBit_eq
  intro j
  rw [Nat.testBit_or, andn_bit, word_bit, Nat.testBit_mod_two_pow, Nat.testBit_mul_two_pow, Nat.testBit_two_pow_sub_one, Nat.testBit_mod_two_pow, Nat.testBit_mul_two_pow, word_bit, add_or h, Nat.testBit_or, Nat.testBit_mul_two_pow]
  by_cases h1 : j < 64
  · by_cases h2 : low ≤ j
    · have e1 : N.testBit (64 * i + j) = false := low_bit h (by omega)
      have e2 : 64 * i + j - (64 * i + low) = j - low := by omega
      simp [h1, h2, e1, e2]
    · have e3 : ¬ (64 * i + low ≤ 64 * i + j) := by omega
      simp [h1, h2]
  · simp [h1]
theorem set_high {N i low n wd : Nat} (h : N < 2 ^ (64 * i + low)) (hn : n < 2 ^ wd) (hl : low < 64) (hw : wd ≤ 64) :
    andn (N / 2 ^ (64 * (i + 1)) % 2 ^ 64) ((2 ^ wd - 1) / 2 ^ (64 - low)) ||| n / 2 ^ (64 - low) = (N + n * 2 ^ (64 * i + low)) / 2 ^ (64 * (i + 1)) % 2 ^ 64 := by
  apply Nat.eq_of_testBit_eq
  intro j
  rw [Nat.testBit_or, andn_bit, word_bit, Nat.testBit_div_two_pow, Nat.testBit_div_two_pow, word_bit, add_or h, Nat.testBit_or, Nat.testBit_mul_two_pow]
  have e1 : N.testBit (64 * (i + 1) + j) = false := low_bit h (by omega)
  have e2 : 64 * (i + 1) + j - (64 * i + low) = j + (64 - low) := by omega
  have e3 : 64 * i + low ≤ 64 * (i + 1) + j := by omega
  by_cases h1 : j < 64
  · simp [h1, e1, e2, e3]
  · have e4 : n.testBit (j + (64 - low)) = false := low_bit hn (by omega)
    simp [h1, e4]
theorem set_other {N i low n wd j : Nat} (h : N < 2 ^ (64 * i + low)) (hn : n < 2 ^ wd) (hl : low < 64) (hj : j ≠ i) (hj2 : j ≠ i + 1 ∨ low + wd ≤ 64) (hw : wd ≤ 64) :
    (N + n * 2 ^ (64 * i + low)) / 2 ^ (64 * j) % 2 ^ 64 = N / 2 ^ (64 * j) % 2 ^ 64 := by
  apply Nat.eq_of_testBit_eq
  intro b
  rw [word_bit, word_bit, add_or h, Nat.testBit_or, Nat.testBit_mul_two_pow]
  by_cases h1 : b < 64
  · by_cases h2 : 64 * i + low ≤ 64 * j + b
    · have e4 : n.testBit (64 * j + b - (64 * i + low)) = false := low_bit hn (by omega)
      simp [e4]
    · simp [h2]
  · simp [h1]
/-! ### As numbers of the program -/
theorem wrap_nat {x : Nat} (h : x < 2 ^ 64) : IntKind.u64.wrap (x : Int) = (x : Int) := by
  simp [IntKind.wrap, IntKind.bits, IntKind.signed]; omega
theorem or_int (a b : Nat) (ha : a < 2 ^ 64) (hb : b < 2 ^ 64) : IntKind.u64.wrap (BitVec.ofInt IntKind.u64.bits (a : Int) ||| BitVec.ofInt IntKind.u64.bits (b : Int)).toNat = ((a ||| b : Nat) : Int) := by
  have e : (BitVec.ofInt IntKind.u64.bits (a : Int) ||| BitVec.ofInt IntKind.u64.bits (b : Int)).toNat = a ||| b := by
    show (BitVec.ofInt 64 (a : Int) ||| BitVec.ofInt 64 (b : Int)).toNat = a ||| b
    rw [BitVec.ofInt_natCast, BitVec.ofInt_natCast, BitVec.toNat_or, BitVec.toNat_ofNat, BitVec.toNat_ofNat, Nat.mod_eq_of_lt ha, Nat.mod_eq_of_lt hb]
  rw [e]
  have : a ||| b < 2 ^ 64 := Nat.or_lt_two_pow ha hb
  simp [IntKind.wrap, IntKind.bits, IntKind.signed]; omega
theorem and_int (a b : Nat) (ha : a < 2 ^ 64) (hb : b < 2 ^ 64) : IntKind.u64.wrap (BitVec.ofInt IntKind.u64.bits (a : Int) &&& BitVec.ofInt IntKind.u64.bits (b : Int)).toNat = ((a &&& b : Nat) : Int) := by
  have e : (BitVec.ofInt IntKind.u64.bits (a : Int) &&& BitVec.ofInt IntKind.u64.bits (b : Int)).toNat = a &&& b := by
    show (BitVec.ofInt 64 (a : Int) &&& BitVec.ofInt 64 (b : Int)).toNat = a &&& b
    rw [BitVec.ofInt_natCast, BitVec.ofInt_natCast, BitVec.toNat_and, BitVec.toNat_ofNat, BitVec.toNat_ofNat, Nat.mod_eq_of_lt ha, Nat.mod_eq_of_lt hb]
  rw [e]
  have : a &&& b < 2 ^ 64 := Nat.lt_of_le_of_lt Nat.and_le_left ha
  simp [IntKind.wrap, IntKind.bits, IntKind.signed]; omega
theorem andn_int (a b : Nat) : IntKind.u64.wrap (BitVec.ofInt IntKind.u64.bits (a : Int) &&& ~~~ BitVec.ofInt IntKind.u64.bits (b : Int)).toNat = ((andn a b : Nat) : Int) := by
  have e : (BitVec.ofInt IntKind.u64.bits (a : Int) &&& ~~~ BitVec.ofInt IntKind.u64.bits (b : Int)) = BitVec.ofNat 64 a &&& ~~~BitVec.ofNat 64 b := by
    show (BitVec.ofInt 64 (a : Int) &&& ~~~ BitVec.ofInt 64 (b : Int)) = _
    rw [BitVec.ofInt_natCast, BitVec.ofInt_natCast]
  have : (BitVec.ofNat 64 a &&& ~~~BitVec.ofNat 64 b).toNat < 2 ^ 64 := BitVec.isLt _
  rw [e]
  exact wrap_nat this
theorem shl_int (a b : Nat) (h : b ≤ 64) : IntKind.u64.wrap ((a : Int) * 2 ^ (min ((b : Int)).toNat IntKind.u64.bits)) = ((a * 2 ^ b % 2 ^ 64 : Nat) : Int) := by
  have e : min ((b : Int)).toNat IntKind.u64.bits = b := by rw [Int.toNat_natCast]; exact Nat.min_eq_left h
  rw [e]
  simp [IntKind.wrap, IntKind.bits, IntKind.signed]
theorem shr_int (a b : Nat) (h : b ≤ 64) : ((a : Int)).fdiv (2 ^ (min ((b : Int)).toNat IntKind.u64.bits)) = ((a / 2 ^ b : Nat) : Int) := by
  have e : min ((b : Int)).toNat IntKind.u64.bits = b := by rw [Int.toNat_natCast]; exact Nat.min_eq_left h
  have h2 : (2 : Int) ^ b = ((2 ^ b : Nat) : Int) := by simp
  rw [e, h2, Int.fdiv_eq_ediv_of_nonneg _ (Int.natCast_nonneg _)]
  exact (Int.natCast_ediv _ _).symm
end Go.Proofs.Ytafcenlbllmahaa.Bt
set_option linter.unusedVariables false
set_option linter.unusedSimpArgs false
namespace Go.Proofs.Ytafcenlbllmahaa.Wh
open Go Go.RowKit Fw
theorem andn_lt (a b : Nat) : Bt.andn a b < 2 ^ 64 := BitVec.isLt _
open Bt (andn andn_bit or_int and_int andn_int shl_int shr_int wrap_nat)
theorem hm : Try.prog.follows .mixedOrders = true := by kernel_rfl
theorem wr {x : Int} (h : -9223372036854775808 ≤ x ∧ x ≤ 9223372036854775807) : IntKind.i64.wrap x = x := by rw [IntKind.wrap_i64]; omega
theorem pow_le {n : Nat} (h : n ≤ 64) : 2 ^ n ≤ 18446744073709551616 := Nat.pow_le_pow_right (by decide) h
theorem shl2 (a b : Nat) (h : b ≤ 64) : IntKind.u64.wrap ((a : Int) * 2 ^ (min b IntKind.u64.bits)) = ((a * 2 ^ b % 2 ^ 64 : Nat) : Int) := shl_int a b h
theorem shr2 (a b : Nat) (h : b ≤ 64) : ((a : Int)).fdiv (2 ^ (min b IntKind.u64.bits)) = ((a / 2 ^ b : Nat) : Int) := shr_int a b h
theorem maskM (n : Nat) (h : n ≤ 64) : Meets Try.prog 55 [.int .i64 fun _ => (n : Int)] [] (Y := Unit) (fun _ => True) (fun _ => .int .u64 fun _ => ((2 ^ n - 1 : Nat) : Int)) (fun _ => []) := by
  have hp := pow_le h
  have h1 : 1 ≤ 2 ^ n := Nat.one_le_two_pow
  refine Meets.intro hm (fn := Try.f55) Try.func55 rfl (by decide) (Nat.le_of_ble_eq_true rfl) (fun _ => rfl) ?_; intro S hok; (conv => whnf)
  (repeat' ((conv => whnf); first | apply And.intro | exact ⟨by kernel_rfl⟩ | apply DrawN.mk | apply CodeN.step hm rfl | exact trivial | exact rfl | (intro hh; try simp only [bs] at hh))); all_goals (conv => whnf)
  · (refine RetN.q () [] ?_ ?_ ?_ <;> (repeat' ((conv => whnf) <;> first | exact rfl | exact trivial | exact Fw.Hp.like_refl _ | apply And.intro | exact Nat.zero_add _)); all_goals ((conv => whnf); try simp only []))
    have e : n = 64 := by omega
    subst e; rfl
  · exact Ob.mk (by simp only []; omega)
  · (refine RetN.q () [] ?_ ?_ ?_ <;> (repeat' ((conv => whnf) <;> first | exact rfl | exact trivial | exact Fw.Hp.like_refl _ | apply And.intro | exact Nat.zero_add _)); all_goals ((conv => whnf); try simp only []))
    have h2 : 2 ^ n * 2 ≤ 18446744073709551616 := by rw [← Nat.pow_succ]; exact pow_le (by omega)
    have e := shl_int 1 n h
    rw [Nat.one_mul, Nat.mod_eq_of_lt (by omega)] at e
    have e : IntKind.u64.wrap (1 * 2 ^ min ((n : Int)).toNat IntKind.u64.bits) = ((2 ^ n : Nat) : Int) := e
    rw [e]
    have e2 := wrap_nat (x := 2 ^ n - 1) (by omega)
    rw [← e2]
    congr 1
    omega
theorem thereM (x : Int) (a : Nat) (h : a < 64) : Meets Try.prog 61 [.lst (.int .u64) fun _ => [x], .int .i64 fun _ => (a : Int), .int .i64 fun _ => 1] [] (Y := Unit) (fun _ => True) (fun _ => .tt) (fun _ => []) := by
  have e1 : IntKind.i64.wrap (64 * 1) = 64 := by decide
  have e2 : IntKind.i64.wrap (64 - (a : Int)) = 64 - a := wr (by omega)
  refine Meets.intro hm (fn := Try.f61) Try.func61 rfl (by decide) (Nat.le_of_ble_eq_true rfl) (fun _ => rfl) ?_; intro S hok; (conv => whnf)
  (repeat' ((conv => whnf); first | apply And.intro | exact ⟨by kernel_rfl⟩ | apply DrawN.mk | apply CodeN.step hm rfl | exact trivial | exact rfl | (intro hh; try simp only [bs] at hh))); all_goals (conv => whnf)
  all_goals (try simp only [List.length_cons, List.length_nil, Nat.zero_add, Int.ofNat_one, e1, e2] at *)
  all_goals first
    | (exfalso; omega)
    | skip
  (refine RetN.q () [] ?_ ?_ ?_ <;> (repeat' ((conv => whnf) <;> first | exact rfl | exact trivial | exact Fw.Hp.like_refl _ | apply And.intro | exact Nat.zero_add _)); all_goals ((conv => whnf); try simp only []))
  refine decide_eq_true ?_
  omega
theorem cloneU (xs : List Int) (hl : xs.length ≤ 100000) : Meets Try.prog 62 [.lst (.int .u64) fun _ => xs] [] (Y := Unit) (fun _ => True)
    (fun _ => .vec 0 1 (fun _ => 0) (fun _ => xs.length)) (fun _ => [.vect 91 (.int .u64) fun _ => xs]) := by
  refine Meets.intro hm (fn := Try.f62) Try.func62 rfl (by decide) (Nat.le_of_ble_eq_true rfl) (fun _ => rfl) ?_; intro S hok; (conv => whnf)
  (repeat' ((conv => whnf); first | apply And.intro | exact ⟨by kernel_rfl⟩ | apply DrawN.mk | apply CodeN.step hm rfl | exact trivial | exact rfl | (intro hh; try simp only [bs] at hh))); all_goals (conv => whnf)
  · have hx : xs = [] := ‹_ = true → xs = []› hh
    refine RetN.nil 91 (.int .u64) 0 ?_
    (conv => whnf)
    (refine RetN.q () [0] ?_ ?_ ?_ <;> (repeat' ((conv => whnf) <;> first | exact rfl | exact trivial | exact Fw.Hp.like_refl _ | apply And.intro | exact Nat.zero_add _)); all_goals ((conv => whnf); try simp only []))
    all_goals simp [hx]
  · refine ⟨⟨rfl, ?_, ?_⟩⟩
    · show 0 + xs.length ≤ _
      omega
    · show (0 + xs.length) * 8 ≤ _
      omega
  · (refine RetN.q () [0] ?_ ?_ ?_ <;> (repeat' ((conv => whnf) <;> first | exact rfl | exact trivial | exact Fw.Hp.like_refl _ | apply And.intro | exact Nat.zero_add _)); all_goals ((conv => whnf); try simp only []))
    all_goals simp
/-- One bit laid. -/
def setBit (x s b : Nat) : Nat := andn x (2 ^ s % 2 ^ 64) ||| (b * 2 ^ s % 2 ^ 64)
theorem setBit_lt (x s b : Nat) : setBit x s b < 2 ^ 64 := Nat.or_lt_two_pow (andn_lt _ _) (Nat.mod_lt _ (by decide))
theorem setBit_bit {x s b : Nat} (hb : b ≤ 1) (hs : s < 64) (j : Nat) (hj : j < 64) : (setBit x s b).testBit j = if j = s then decide (b = 1) else x.testBit j := by
  unfold setBit
  rw [Nat.testBit_or, andn_bit, Nat.testBit_mod_two_pow, Nat.testBit_mod_two_pow, Nat.testBit_two_pow, Nat.testBit_mul_two_pow]
  by_cases h : j = s
  · subst h
    have : b = 0 ∨ b = 1 := by omega
    rcases this with rfl | rfl <;> simp [hj]
  · have h' : ¬ s = j := fun e => h e.symm
    have : b.testBit (j - s) = false ∨ ¬ s ≤ j := by
      by_cases hsj : s ≤ j
      · left
        obtain ⟨d, hd⟩ : ∃ d, j - s = d + 1 := ⟨j - s - 1, by omega⟩
        rw [hd, Nat.testBit_succ]
        have : b / 2 = 0 := by omega
        rw [this]; simp
      · exact .inr hsj
    rcases this with h2 | h2 <;> simp [hj, h, h', h2]
theorem setM (x s b : Nat) (hx : x < 2 ^ 64) (hs : s < 64) (hb : b ≤ 1) : Meets Try.prog 54 [.lst (.int .u64) fun _ => [(x : Int)], .int .i64 fun _ => (s : Int), .int .i64 fun _ => 1, .int .u64 fun _ => (b : Int)] [] (Y := Unit) (fun _ => True) (fun _ => .tup [.lst (.int .u64) fun _ => [(setBit x s b : Int)], .tt]) (fun _ => []) := by
  have ei0 : (s : Int).tdiv 64 = 0 := by rw [Int.tdiv_eq_ediv_of_nonneg (by omega)]; omega
  have el : (s : Int).tmod 64 = (s : Int) := by rw [Int.tmod_eq_emod_of_nonneg (by omega)]; omega
  have ei : IntKind.i64.wrap 0 = 0 := by decide
  have es : IntKind.i64.wrap ((s : Int) + 1) = ((s + 1 : Nat) : Int) := by rw [wr (by omega)]; omega
  have hp : (2 : Nat) ^ 64 = 18446744073709551616 := rfl
  have ev : IntKind.u64.wrap (BitVec.ofInt IntKind.u64.bits (b : Int) &&& BitVec.ofInt IntKind.u64.bits ((2 ^ 1 - 1 : Nat) : Int)).toNat = (b : Int) := by
    rw [and_int _ _ (by omega) (by decide)]
    have : b = 0 ∨ b = 1 := by omega
    rcases this with rfl | rfl <;> rfl
  refine Meets.intro hm (fn := Try.f54) Try.func54 rfl (by decide) (Nat.le_of_ble_eq_true rfl) (fun _ => rfl) ?_; intro S hok; (conv => whnf)
  (repeat' ((conv => whnf); first | apply And.intro | exact ⟨by kernel_rfl⟩ | apply DrawN.mk | apply CodeN.step hm rfl | exact trivial | exact rfl | (intro hh; try simp only [bs] at hh))); all_goals (conv => whnf)
  (refine CallN.q (thereM (x : Int) s hs) [] (fun _ _ => ?_); (repeat' ((conv => whnf); first | apply And.intro | exact ⟨by kernel_rfl⟩ | apply DrawN.mk | apply CodeN.step hm rfl | exact trivial | exact rfl | (intro hh; try simp only [bs] at hh; try exact absurd hh (by decide)))); all_goals (conv => whnf); all_goals try exact ⟨by decide⟩)
  (refine CallN.q (cloneU [(x : Int)] (by simp)) [] (fun _ _ => ?_); (repeat' ((conv => whnf); first | apply And.intro | exact ⟨by kernel_rfl⟩ | apply DrawN.mk | apply CodeN.step hm rfl | exact trivial | exact rfl | (intro hh; try simp only [bs] at hh; try exact absurd hh (by decide)))); all_goals (conv => whnf); all_goals try exact ⟨by decide⟩)
  (refine CallN.q (maskM 1 (by decide)) [] (fun _ _ => ?_); (repeat' ((conv => whnf); first | apply And.intro | exact ⟨by kernel_rfl⟩ | apply DrawN.mk | apply CodeN.step hm rfl | exact trivial | exact rfl | (intro hh; try simp only [bs] at hh; try exact absurd hh (by decide)))); all_goals (conv => whnf); all_goals try exact ⟨by decide⟩)
  all_goals (try simp only [ei0, el, ei, es, Int.toNat_natCast, List.length_cons, List.length_nil] at hh ⊢)
  all_goals first
    | (refine Ob.mk ?_; first | omega | (simp only [ei0, ei]; decide) | (simp only []; omega))
    | skip
  (refine CallN.q (maskM 1 (by decide)) [] (fun _ _ => ?_); (repeat' ((conv => whnf); first | apply And.intro | exact ⟨by kernel_rfl⟩ | apply DrawN.mk | apply CodeN.step hm rfl | exact trivial | exact rfl | (intro hh; try simp only [bs] at hh; try exact absurd hh (by decide)))); all_goals (conv => whnf); all_goals try exact ⟨by decide⟩)
  all_goals (try simp only [ei0, el, ei, es, Int.toNat_natCast, List.length_cons, List.length_nil] at hh ⊢)
  all_goals first
    | (refine Ob.mk ?_; first | omega | (simp only [ei0, ei]; decide) | (simp only []; omega))
    | (exfalso; omega)
    | skip
  (refine RetN.frz 0 ?_; (conv => whnf))
  (refine RetN.q () [] ?_ ?_ ?_ <;> (repeat' ((conv => whnf) <;> first | exact rfl | exact trivial | exact Fw.Hp.like_refl _ | apply And.intro | exact Nat.zero_add _)); all_goals ((conv => whnf); try simp only []))
  show [IntKind.u64.wrap (BitVec.ofInt IntKind.u64.bits (IntKind.u64.wrap (BitVec.ofInt IntKind.u64.bits (x : Int) &&& ~~~BitVec.ofInt IntKind.u64.bits (IntKind.u64.wrap (((2 ^ 1 - 1 : Nat) : Int) * 2 ^ min s IntKind.u64.bits))).toNat) ||| BitVec.ofInt IntKind.u64.bits (IntKind.u64.wrap (IntKind.u64.wrap (BitVec.ofInt IntKind.u64.bits (b : Int) &&& BitVec.ofInt IntKind.u64.bits ((2 ^ 1 - 1 : Nat) : Int)).toNat * 2 ^ min s IntKind.u64.bits))).toNat] = _
  rw [ev, shl2 _ _ (by omega), shl2 _ _ (by omega), andn_int, or_int _ _ (andn_lt _ _) (Nat.mod_lt _ (by decide))]
  unfold setBit
  rw [show (2 ^ 1 - 1) * 2 ^ s = 2 ^ s by simp]

/-- Where the first one is, from a place on. -/
structure FirstOne (x from_ k : Nat) : Prop where
  ge : from_ ≤ k
  lt : k < 64
  one : x.testBit k = true
  no : ∀ j, from_ ≤ j → j < k → x.testBit j = false
def cutLow (x f : Nat) : Nat := x / 2 ^ f * 2 ^ f % 2 ^ 64
theorem cutLow_bit (x f j : Nat) : (cutLow x f).testBit j = (decide (j < 64) && (decide (f ≤ j) && x.testBit j)) := by
  unfold cutLow
  rw [Nat.testBit_mod_two_pow, Nat.testBit_mul_two_pow, Nat.testBit_div_two_pow]
  by_cases h : f ≤ j
  · rw [show j - f + f = j by omega]
  · simp [h]
theorem bits_zero {n : Nat} (h : n < 2 ^ 64) : n = 0 ↔ ∀ j, j < 64 → n.testBit j = false := by
  constructor
  · rintro rfl j _; simp
  · intro h'
    apply Nat.eq_of_testBit_eq
    intro j
    by_cases hj : j < 64
    · rw [h' j hj]; simp
    · rw [Nat.testBit_lt_two_pow (Nat.lt_of_lt_of_le h (Nat.pow_le_pow_right (by decide) (by omega)))]; simp
theorem mod_zero {n e : Nat} : n % 2 ^ e = 0 ↔ ∀ j, j < e → n.testBit j = false := by
  constructor
  · intro h j hj
    have : (n % 2 ^ e).testBit j = n.testBit j := by rw [Nat.testBit_mod_two_pow]; simp [hj]
    rw [← this, h]; simp
  · intro h
    apply Nat.eq_of_testBit_eq
    intro j
    rw [Nat.testBit_mod_two_pow]
    by_cases hj : j < e
    · rw [h j hj]; simp
    · simp [hj]
/-- Half by half: n are the ones of N from 'at' on, the first of them among 2^e. -/
structure Half (N : Nat) (e n at_ : Nat) : Prop where
  bit : ∀ j, n.testBit j = N.testBit (at_ + j)
  no : ∀ j, j < at_ → N.testBit j = false
  some_ : ∃ j, j < 2 ^ e ∧ n.testBit j = true
  lt : n < 2 ^ 64
  bd : at_ + 2 ^ e ≤ 64
theorem Half.left {N e n a : Nat} (h : Half N (e + 1) n a) (hz : n % 2 ^ (2 ^ e) = 0) : Half N e (n / 2 ^ (2 ^ e)) (a + 2 ^ e) := by
  have hz := mod_zero.1 hz
  have he : 2 ^ (e + 1) = 2 ^ e + 2 ^ e := by rw [Nat.pow_succ]; omega
  obtain ⟨j, hj, hb⟩ := h.some_
  have hbd := h.bd
  rw [he] at hj hbd
  have hge : 2 ^ e ≤ j := by
    rcases Nat.lt_or_ge j (2 ^ e) with h' | h'
    · rw [hz j h'] at hb; cases hb
    · exact h'
  refine ⟨fun i => ?_, fun i hi => ?_, ⟨j - 2 ^ e, by omega, ?_⟩, Nat.lt_of_le_of_lt (Nat.div_le_self _ _) h.lt, by omega⟩
  · rw [Nat.testBit_div_two_pow, h.bit]; congr 1; omega
  · rcases Nat.lt_or_ge i a with h' | h'
    · exact h.no i h'
    · have := hz (i - a) (by omega)
      rw [h.bit] at this
      rw [← this]; congr 1; omega
  · rw [Nat.testBit_div_two_pow, show j - 2 ^ e + 2 ^ e = j by omega]; exact hb
theorem Half.stay {N e n a : Nat} (h : Half N (e + 1) n a) (hz : n % 2 ^ (2 ^ e) ≠ 0) : Half N e n a := by
  have he : 2 ^ (e + 1) = 2 ^ e + 2 ^ e := by rw [Nat.pow_succ]; omega
  have hbd := h.bd
  rw [he] at hbd
  have hb' : a + 2 ^ e ≤ 64 := Nat.le_trans (Nat.add_le_add_left (Nat.le_add_right _ _) a) hbd
  refine ⟨h.bit, h.no, ?_, h.lt, hb'⟩
  refine Classical.byContradiction fun hno => hz (mod_zero.2 fun j hj => ?_)
  cases hb : n.testBit j with
  | false => rfl
  | true => exact (hno ⟨j, hj, hb⟩).elim
theorem Half.done {N n a : Nat} (h : Half N 0 n a) : N.testBit a = true ∧ a < 64 := by
  obtain ⟨j, hj, hb⟩ := h.some_
  have : j = 0 := by simp at hj; exact hj
  subst this
  have h2 : a + 1 ≤ 64 := h.bd
  rw [h.bit] at hb
  exact ⟨hb, by omega⟩
theorem Half.begin {N : Nat} (h : N < 2 ^ 64) (h0 : N ≠ 0) : Half N 6 N 0 := by
  refine ⟨fun j => by rw [Nat.zero_add], fun j hj => by omega, ?_, h, by decide⟩
  refine Classical.byContradiction fun hno => h0 ((bits_zero h).2 fun j hj => ?_)
  cases hb : N.testBit j with
  | false => rfl
  | true => exact (hno ⟨j, hj, hb⟩).elim
def halfOf (e : Nat) : Nat := match e with | 0 => 0 | e + 1 => 2 ^ e
theorem nextM (x f : Nat) (hx : x < 2 ^ 64) (hf : f ≤ 64) : Meets Try.prog 43 [.lst (.int .u64) fun _ => [(x : Int)], .int .i64 fun _ => (f : Int)] [] (Y := Option Nat)
    (fun y => match y with | some k => FirstOne x f k | none => ∀ j, f ≤ j → j < 64 → x.testBit j = false)
    (fun y => .tup [.int .i64 fun _ => ((y.getD 0 : Nat) : Int), .bool fun _ => y.isSome]) (fun _ => []) := by
  have e1 : (if (0 : Int) > (f : Int) then 0 else (f : Int)) = (f : Int) := if_neg (by omega)
  have hp : (2 : Nat) ^ 64 = 18446744073709551616 := rfl
  have e2 : IntKind.i64.wrap ((f : Int).tdiv 64) = ((f / 64 : Nat) : Int) := by
    rw [Int.tdiv_eq_ediv_of_nonneg (by omega), wr (by omega)]; omega
  have e3 : (f : Int).tmod 64 = ((f % 64 : Nat) : Int) := by rw [Int.tmod_eq_emod_of_nonneg (by omega)]; omega
  refine Meets.intro hm (fn := Try.f43) Try.func43 rfl (by decide) (Nat.le_of_ble_eq_true rfl) (fun _ => rfl) ?_; intro S hok; (conv => whnf)
  (repeat' ((conv => whnf); first | apply And.intro | exact ⟨by kernel_rfl⟩ | apply DrawN.mk | apply CodeN.step hm rfl | exact trivial | exact rfl | (intro hh; try simp only [bs] at hh))); all_goals (conv => whnf)
  · exact Ob.mk (by decide)
  refine LoopN.intro hm (X := Nat) (fun i => i = f / 64 ∨ (i = 1 ∧ ∀ j, f ≤ j → j < 64 → x.testBit j = false)) (fun i => 2 - i)
    (fun i => [(6, .int .i64 fun _ => (i : Int)), (1, .int .i64 fun _ => (f : Int)), (0, .lst (.int .u64) fun _ => [(x : Int)])]) (fun _ => []) (f / 64) [] ⟨rfl, rfl, ?_, ?_⟩ (.inl rfl) (fun i hi => ?_)
  · (repeat' ((conv => whnf) <;> first | exact rfl | exact trivial | exact Fw.Hp.like_refl _ | apply And.intro | exact Nat.zero_add _))
  · (repeat' ((conv => whnf) <;> first | exact rfl | exact trivial | exact Fw.Hp.like_refl _ | apply And.intro | exact Nat.zero_add _)); all_goals ((conv => whnf); try simp only [])
    rw [e1]; exact e2
  (repeat' ((conv => whnf); first | apply And.intro | exact ⟨by kernel_rfl⟩ | apply DrawN.mk | apply CodeN.step hm rfl | exact trivial | exact rfl | (intro hh; try simp only [bs] at hh))); all_goals (conv => whnf)
  all_goals (try simp only [List.length_cons, List.length_nil, Nat.zero_add, e2] at hh)
  all_goals (try (have hlt : (i : Int) < 1 := by assumption))
  all_goals first
    | (exact Ob.mk (by decide))
    | (refine Ob.mk ?_; simp only [e3]; omega)
    | (refine Ob.mk ?_; simp only [List.length_cons, List.length_nil]; omega)
    | skip
  all_goals first
    | (exfalso; have h1 := ‹¬ (i : Int) = IntKind.i64.wrap ((f : Int).tdiv 64)›; rw [e2] at h1; omega)
    | skip
  · have h1 := ‹(i : Int) = IntKind.i64.wrap ((f : Int).tdiv 64)›
    rw [e2] at h1
    have hi0 : i = 0 := by omega
    subst hi0
    have hf64 : f < 64 := by omega
    have hcut : IntKind.u64.wrap (Int.fdiv ([(x : Int)].getD (((0 : Nat) : Int)).toNat (Ty.int .u64).dflt) (2 ^ min ((f : Int).tmod 64).toNat IntKind.u64.bits) * 2 ^ min ((f : Int).tmod 64).toNat IntKind.u64.bits) = (cutLow x f : Int) := by
      rw [e3, show f % 64 = f by omega]
      exact (congrArg (fun z : Int => IntKind.u64.wrap (z * 2 ^ min f IntKind.u64.bits)) (shr2 x f (by omega))).trans (shl2 _ f (by omega))
    rw [hcut] at hh
    refine ⟨1, [], ⟨rfl, rfl, ?_, ?_⟩, .inr ⟨rfl, fun j h2 h3 => ?_⟩, by omega⟩
    · (repeat' ((conv => whnf) <;> first | exact rfl | exact trivial | exact Fw.Hp.like_refl _ | apply And.intro | exact Nat.zero_add _))
    · (repeat' ((conv => whnf) <;> first | exact rfl | exact trivial | exact Fw.Hp.like_refl _ | apply And.intro | exact Nat.zero_add _))
    · have := (bits_zero (n := cutLow x f) (Nat.mod_lt _ (by decide))).1 (by omega) j h3
      rw [cutLow_bit] at this
      simpa [h2, h3] using this
  · have h1 := ‹(i : Int) = IntKind.i64.wrap ((f : Int).tdiv 64)›
    rw [e2] at h1
    have hi0 : i = 0 := by omega
    subst hi0
    have hf64 : f < 64 := by omega
    have hcut : IntKind.u64.wrap (Int.fdiv ([(x : Int)].getD (((0 : Nat) : Int)).toNat (Ty.int .u64).dflt) (2 ^ min ((f : Int).tmod 64).toNat IntKind.u64.bits) * 2 ^ min ((f : Int).tmod 64).toNat IntKind.u64.bits) = (cutLow x f : Int) := by
      rw [e3, show f % 64 = f by omega]
      exact (congrArg (fun z : Int => IntKind.u64.wrap (z * 2 ^ min f IntKind.u64.bits)) (shr2 x f (by omega))).trans (shl2 _ f (by omega))
    rw [hcut] at hh
    refine LoopN.intro hm (X := Nat × Nat × Nat) (fun y => Half (cutLow x f) y.1 y.2.1 y.2.2) (fun y => y.1)
      (fun y => [(9, .int .i64 fun _ => (halfOf y.1 : Int)), (8, .int .i64 fun _ => (y.2.2 : Int)), (7, .int .u64 fun _ => (y.2.1 : Int)), (6, .int .i64 fun _ => 0)]) (fun _ => []) (6, cutLow x f, 0) [] ⟨rfl, rfl, ?_, ?_⟩ (.begin (Nat.mod_lt _ (by decide)) (by omega)) (fun y hy => ?_)
    · (repeat' ((conv => whnf) <;> first | exact rfl | exact trivial | exact Fw.Hp.like_refl _ | apply And.intro | exact Nat.zero_add _))
    · (repeat' ((conv => whnf) <;> first | exact rfl | exact trivial | exact Fw.Hp.like_refl _ | apply And.intro | exact Nat.zero_add _)); all_goals ((conv => whnf); try simp only [])
      exact hcut
    obtain ⟨e, n, a⟩ := y
    have hn := hy.lt
    have hbd := hy.bd
    simp only at hn hbd
    cases e with
    | zero =>
      have d12 : (cutLow x f).testBit a = true ∧ a < 64 := hy.done
      obtain ⟨d1, d2⟩ := d12
      (repeat' ((conv => whnf); first | apply And.intro | exact ⟨by kernel_rfl⟩ | apply DrawN.mk | apply CodeN.step hm rfl | exact trivial | exact rfl | (intro hh; try simp only [bs] at hh))); all_goals (conv => whnf)
      · exact absurd hh (by decide)
      · refine RetN.q (some a) [] ?_ ?_ ?_ <;> (repeat' ((conv => whnf) <;> first | exact rfl | exact trivial | exact Fw.Hp.like_refl _ | apply And.intro | exact Nat.zero_add _)); all_goals ((conv => whnf); try simp only [])
        · show IntKind.i64.wrap (IntKind.i64.wrap (0 * 64) + (a : Int)) = _
          rw [show IntKind.i64.wrap (0 * 64) = 0 by decide, wr (x := 0 + (a : Int)) (by clear hbd hy; omega), Int.zero_add]; rfl
        · rw [cutLow_bit] at d1
          simp only [Bool.and_eq_true, decide_eq_true_eq] at d1
          refine ⟨d1.2.1, d2, d1.2.2, fun j h2 h3 => ?_⟩
          have := hy.no j h3
          rw [cutLow_bit] at this
          have h4 : j < 64 := by omega
          simpa [h2, h4] using this
    | succ e =>
      have h32 : 2 ^ e ≤ 32 := by rw [Nat.pow_succ] at hbd; omega
      have h1e : 1 ≤ 2 ^ e := Nat.one_le_two_pow
      have hp2 := pow_le (n := 2 ^ e) (by omega)
      have hq1 : 1 ≤ 2 ^ 2 ^ e := Nat.one_le_two_pow
      have hand : IntKind.u64.wrap (BitVec.ofInt IntKind.u64.bits (n : Int) &&& BitVec.ofInt IntKind.u64.bits ((2 ^ (2 ^ e) - 1 : Nat) : Int)).toNat = ((n % 2 ^ (2 ^ e) : Nat) : Int) := by
        rw [and_int _ _ hn (by omega), Nat.and_two_pow_sub_one_eq_mod]
      have hhalf : IntKind.i64.wrap (((2 ^ e : Nat) : Int).tdiv 2) = (halfOf e : Int) := by
        rw [Int.tdiv_eq_ediv_of_nonneg (by omega), wr (by omega)]
        cases e with
        | zero => rfl
        | succ e =>
          show (((2 ^ (e + 1) : Nat) : Int)) / 2 = ((2 ^ e : Nat) : Int)
          rw [Nat.pow_succ]; omega
      (repeat' ((conv => whnf); first | apply And.intro | exact ⟨by kernel_rfl⟩ | apply DrawN.mk | apply CodeN.step hm rfl | exact trivial | exact rfl | (intro hh; try simp only [bs] at hh))); all_goals (conv => whnf)
      · (refine CallN.q (maskM (2 ^ e) (by omega)) [] (fun _ _ => ?_); (repeat' ((conv => whnf); first | apply And.intro | exact ⟨by kernel_rfl⟩ | apply DrawN.mk | apply CodeN.step hm rfl | exact trivial | exact rfl | (intro hh; try simp only [bs] at hh; try exact absurd hh (by decide)))); all_goals (conv => whnf); all_goals try exact ⟨by decide⟩)
        all_goals (try (have hh2 : IntKind.u64.wrap (BitVec.ofInt IntKind.u64.bits (n : Int) &&& BitVec.ofInt IntKind.u64.bits ((2 ^ (2 ^ e) - 1 : Nat) : Int)).toNat = 0 := by assumption))
        · refine Ob.mk ?_
          show (0 : Int) ≤ ((2 ^ e : Nat) : Int)
          omega
        · rw [hand] at hh
          refine ⟨(e, n / 2 ^ (2 ^ e), a + 2 ^ e), [], ⟨rfl, rfl, ?_, ?_⟩, hy.left (Int.ofNat.inj hh), Nat.lt_succ_self _⟩
          · (repeat' ((conv => whnf) <;> first | exact rfl | exact trivial | exact Fw.Hp.like_refl _ | apply And.intro | exact Nat.zero_add _))
          · (repeat' ((conv => whnf) <;> first | exact rfl | exact trivial | exact Fw.Hp.like_refl _ | apply And.intro | exact Nat.zero_add _)); all_goals ((conv => whnf); try simp only [])
            · exact hhalf
            · show IntKind.i64.wrap ((a : Int) + ((2 ^ e : Nat) : Int)) = _
              rw [wr (by omega)]; omega
            · exact shr2 n (2 ^ e) (by omega)
        · rw [hand] at hh
          refine ⟨(e, n, a), [], ⟨rfl, rfl, ?_, ?_⟩, hy.stay (fun h => hh (congrArg Int.ofNat h)), Nat.lt_succ_self _⟩
          · (repeat' ((conv => whnf) <;> first | exact rfl | exact trivial | exact Fw.Hp.like_refl _ | apply And.intro | exact Nat.zero_add _))
          · (repeat' ((conv => whnf) <;> first | exact rfl | exact trivial | exact Fw.Hp.like_refl _ | apply And.intro | exact Nat.zero_add _)); all_goals ((conv => whnf); try simp only [])
            exact hhalf
      · exfalso
        apply hh
        show (0 : Int) < ((2 ^ e : Nat) : Int)
        omega
  · refine RetN.q none [] ?_ ?_ ?_ <;> (repeat' ((conv => whnf) <;> first | exact rfl | exact trivial | exact Fw.Hp.like_refl _ | apply And.intro | exact Nat.zero_add _)); all_goals ((conv => whnf); try simp only [])
    intro j h2 h3
    rcases hi with h1 | ⟨h1, h4⟩
    · omega
    · exact h4 j h2 h3
end Go.Proofs.Ytafcenlbllmahaa.Wh
set_option linter.unusedVariables false
set_option linter.unusedSimpArgs false
namespace Go.Proofs.Ytafcenlbllmahaa.Wh
open Go Go.RowKit Fw
structure WOk (w : Wl) (rows : Nat → List Nat) : Prop extends LOk w rows where
  atk : ∀ id k, getH w.at_ id = some k ↔ ∃ s, s < 64 ∧ k ∈ rows s ∧ (w.lk k).id = id
  keys : (keysH w.at_).Nodup
  m0 : 0 ≤ w.mask ∧ w.mask < 18446744073709551616
  msk : ∀ s, s < 64 → w.mask.toNat.testBit s = !(rows s).isEmpty
  ids : ∀ s k, s < 64 → k ∈ rows s → 0 ≤ (w.lk k).id ∧ (w.lk k).id ≤ 1048575
/-- 'pos': the row of an id. -/
structure WRel (w : Wl) (pos : Int → Option Nat) : Prop where
  h : ∃ rows, WOk w rows ∧ ∀ id s, pos id = some s ↔ s < 64 ∧ ∃ k, k ∈ rows s ∧ (w.lk k).id = id
def updI (pos : Int → Option Nat) (id : Int) (v : Option Nat) : Int → Option Nat := fun j => if j = id then v else pos j
/-- The mask with the bit of a row as the row is. -/
structure MaskOf (w : Wl) (s : Nat) (x : Int) : Prop where
  h : 0 ≤ x ∧ x < 18446744073709551616 ∧ ∀ j, j < 64 → x.toNat.testBit j = if j = s then (w.first s).isSome else w.mask.toNat.testBit j
theorem WRel.mask0 {w : Wl} {pos : Int → Option Nat} (h : WRel w pos) : 0 ≤ w.mask ∧ w.mask < 18446744073709551616 := by obtain ⟨r, h, _⟩ := h.h; exact h.m0
theorem WRel.at_none {w : Wl} {pos : Int → Option Nat} (h : WRel w pos) (id : Int) : getH w.at_ id = none ↔ pos id = none := by
  obtain ⟨rows, h, hp⟩ := h.h
  constructor
  · intro hg
    cases hq : pos id with
    | none => rfl
    | some s =>
      obtain ⟨hs, k, hk, hid⟩ := (hp id s).1 hq
      rw [(h.atk id k).2 ⟨s, hs, hk, hid⟩] at hg; cases hg
  · intro hq
    cases hg : getH w.at_ id with
    | none => rfl
    | some k =>
      obtain ⟨s, hs, hk, hid⟩ := (h.atk id k).1 hg
      rw [(hp id s).2 ⟨hs, k, hk, hid⟩] at hq; cases hq
theorem WOk.row_lt {w : Wl} {rows : Nat → List Nat} (h : WOk w rows) {s k : Nat} (hs : s < 64) (hk : k ∈ rows s) : k < w.n ∧ (w.lk k).slot = s := by
  obtain ⟨i, hi⟩ := List.mem_iff_getElem?.1 hk
  have := h.lk s i k hs hi
  exact ⟨this.2.2.2, this.1⟩
theorem WOk.uniq {w : Wl} {rows : Nat → List Nat} (h : WOk w rows) {s t k l : Nat} (hs : s < 64) (ht : t < 64) (hk : k ∈ rows s) (hl : l ∈ rows t) (he : (w.lk k).id = (w.lk l).id) : k = l := by
  have h1 := (h.atk (w.lk k).id k).2 ⟨s, hs, hk, rfl⟩
  have h2 := (h.atk (w.lk k).id l).2 ⟨t, ht, hl, he.symm⟩
  rw [h1] at h2; exact Option.some.inj h2
/-- What Drop does, by the link that the map tells. -/
def dropW (w : Wl) (k : Nat) (id : Int) (x : Int) : Wl := { unl2 (unl1 w (w.lk k).slot.toNat k) (w.lk k).slot.toNat k with at_ := delH w.at_ id, mask := x }
theorem mem_erase {L : List Nat} (hn : L.Nodup) {i k : Nat} (hi : L[i]? = some k) (x : Nat) : x ∈ L.eraseIdx i ↔ x ∈ L ∧ x ≠ k := by
  constructor
  · intro hx
    refine ⟨(List.eraseIdx_sublist L i).subset hx, fun e => ?_⟩
    subst e
    obtain ⟨j, hj⟩ := List.mem_iff_getElem?.1 hx
    rw [erase_get] at hj
    split at hj
    · have := nd_idx hn hj hi; omega
    · have := nd_idx hn hj hi; omega
  · rintro ⟨hx, hne⟩
    obtain ⟨j, hj⟩ := List.mem_iff_getElem?.1 hx
    refine List.mem_iff_getElem?.2 ?_
    rcases Nat.lt_trichotomy j i with h | h | h
    · exact ⟨j, by rw [erase_get, if_pos h]; exact hj⟩
    · subst h; rw [hi] at hj; cases hj; exact (hne rfl).elim
    · exact ⟨j - 1, by rw [erase_get, if_neg (by omega), show j - 1 + 1 = j by omega]; exact hj⟩
theorem WRel.drop {w : Wl} {pos : Int → Option Nat} (h : WRel w pos) {id : Int} {k : Nat} (hk : getH w.at_ id = some k) :
    0 ≤ (w.lk k).slot ∧ (w.lk k).slot < 64 ∧ pos id = some (w.lk k).slot.toNat ∧
    ∀ x, MaskOf (unl2 (unl1 w (w.lk k).slot.toNat k) (w.lk k).slot.toNat k) (w.lk k).slot.toNat x → WRel (dropW w k id x) (updI pos id none) := by
  obtain ⟨rows, h, hp⟩ := h.h
  obtain ⟨s, hs, hks, hid⟩ := (h.atk id k).1 hk
  obtain ⟨i, hi⟩ := List.mem_iff_getElem?.1 hks
  have hsl := (h.lk s i k hs hi).1
  have hst : (w.lk k).slot.toNat = s := by rw [hsl]; simp
  refine ⟨by omega, by omega, by rw [hst]; exact (hp id s).2 ⟨hs, k, hks, hid⟩, fun x hx => ?_⟩
  rw [hst] at hx
  have hu := h.toLOk.unl hs hi
  have hrest := unl_rest w s k
  have hlid : ∀ x, ((unl2 (unl1 w s k) s k).lk x).id = (w.lk x).id := fun x => (unl_lk w s k x).1
  have hmem : ∀ t y, t < 64 → (y ∈ upd rows s ((rows s).eraseIdx i) t ↔ y ∈ rows t ∧ y ≠ k) := by
    intro t y ht
    by_cases hts : t = s
    · subst hts; rw [upd_same]; exact mem_erase (h.nd t ht) hi y
    · rw [upd_other _ _ _ hts]
      refine ⟨fun hy => ⟨hy, fun e => ?_⟩, And.left⟩
      subst e
      have h1 := (h.row_lt ht hy).2
      rw [hsl] at h1; omega
  unfold dropW
  rw [hst]
  refine .mk ⟨upd rows s ((rows s).eraseIdx i), ⟨⟨hu.fst, hu.lst, hu.lk, hu.nd⟩, fun id' k' => ?_, nodup_del h.keys id, ⟨hx.h.1, hx.h.2.1⟩, fun t ht => ?_, fun t y ht hy => ?_⟩, fun id' t => ?_⟩
  · show getH (delH w.at_ id) id' = some k' ↔ ∃ t, t < 64 ∧ k' ∈ upd rows s ((rows s).eraseIdx i) t ∧ ((unl2 (unl1 w s k) s k).lk k').id = id'
    rw [getH_del h.keys, hlid]
    by_cases he : id' = id
    · subst he
      rw [if_pos rfl]
      refine ⟨fun e => (by cases e), fun ⟨t, ht, h1, h2⟩ => ?_⟩
      have h3 := (hmem t k' ht).1 h1
      exact (h3.2 (h.uniq ht hs h3.1 hks (h2.trans hid.symm))).elim
    · rw [if_neg he, h.atk]
      constructor
      · rintro ⟨t, ht, h1, h2⟩
        exact ⟨t, ht, (hmem t k' ht).2 ⟨h1, fun e => by subst e; exact he (h2.symm.trans hid)⟩, h2⟩
      · rintro ⟨t, ht, h1, h2⟩
        exact ⟨t, ht, ((hmem t k' ht).1 h1).1, h2⟩
  · show x.toNat.testBit t = _
    rw [hx.h.2.2 t ht]
    by_cases hts : t = s
    · subst hts
      rw [if_pos rfl, hu.fst t ht]
      cases upd rows t ((rows t).eraseIdx i) t <;> rfl
    · rw [if_neg hts, upd_other _ _ _ hts, hrest.2.2.2]; exact h.msk t ht
  · show 0 ≤ ((unl2 (unl1 w s k) s k).lk y).id ∧ _
    rw [hlid]; exact h.ids t y ht ((hmem t y ht).1 hy).1
  · show updI pos id none id' = some t ↔ t < 64 ∧ ∃ k', k' ∈ upd rows s ((rows s).eraseIdx i) t ∧ ((unl2 (unl1 w s k) s k).lk k').id = id'
    unfold updI
    by_cases he : id' = id
    · subst he
      rw [if_pos rfl]
      refine ⟨fun e => (by cases e), fun ⟨ht, k', h1, h2⟩ => ?_⟩
      rw [hlid] at h2
      have h3 := (hmem t k' ht).1 h1
      exact (h3.2 (h.uniq ht hs h3.1 hks (h2.trans hid.symm))).elim
    · rw [if_neg he, hp]
      constructor
      · rintro ⟨ht, k', h1, h2⟩
        exact ⟨ht, k', (hmem t k' ht).2 ⟨h1, fun e => by subst e; exact he (h2.symm.trans hid)⟩, by rw [hlid]; exact h2⟩
      · rintro ⟨ht, k', h1, h2⟩
        exact ⟨ht, k', ((hmem t k' ht).1 h1).1, by rw [hlid] at h2; exact h2⟩
/-- What Add does of an id that is not there. -/
def addW (w : Wl) (s : Nat) (id : Int) (x : Int) : Wl := { app w s id with at_ := putH w.at_ w.clk id w.n, clk := w.clk + 1, mask := x }
theorem WRel.add {w : Wl} {pos : Int → Option Nat} (h : WRel w pos) {id : Int} {s : Nat} (hs : s < 64) (hid : 0 ≤ id ∧ id ≤ 1048575) (hno : pos id = none) :
    getH w.at_ id = none ∧ ∀ x, MaskOf (app w s id) s x → WRel (addW w s id x) (updI pos id (some s)) := by
  have hg := (h.at_none id).2 hno
  refine ⟨hg, fun x hx => ?_⟩
  obtain ⟨rows, h, hp⟩ := h.h
  have hu := h.toLOk.app hs id
  have hrest := app_rest w s id
  have hlast : ∀ p, w.last s = some p → p ≠ w.n := fun p hp => by
    rw [h.lst s hs] at hp
    have := (h.row_lt hs (List.mem_of_getLast? hp)).1
    omega
  have hlid : ∀ y, y ≠ w.n → ((app w s id).lk y).id = (w.lk y).id := fun y hy => by
    rw [app_lk w s id y hlast, if_neg hy]; split <;> rfl
  have hnew : ((app w s id).lk w.n).id = id := by rw [app_lk w s id w.n hlast, if_pos rfl]
  have hne : ∀ t y, t < 64 → y ∈ rows t → y ≠ w.n := fun t y ht hy => by have := (h.row_lt ht hy).1; omega
  have hmem : ∀ t y, (y ∈ upd rows s (rows s ++ [w.n]) t ↔ y ∈ rows t ∨ (t = s ∧ y = w.n)) := by
    intro t y
    by_cases hts : t = s
    · subst hts; rw [upd_same]; simp
    · rw [upd_other _ _ _ hts]; simp [hts]
  have hfresh : ∀ t y, t < 64 → y ∈ rows t → (w.lk y).id ≠ id := fun t y ht hy e => by
    have := (h.atk id y).2 ⟨t, ht, hy, e⟩
    rw [hg] at this; cases this
  refine .mk ⟨upd rows s (rows s ++ [w.n]), ⟨⟨hu.fst, hu.lst, hu.lk, hu.nd⟩, fun id' k' => ?_, nodup_put h.keys _ _ _, ⟨hx.h.1, hx.h.2.1⟩, fun t ht => ?_, fun t y ht hy => ?_⟩, fun id' t => ?_⟩
  · show getH (putH w.at_ w.clk id w.n) id' = some k' ↔ ∃ t, t < 64 ∧ k' ∈ upd rows s (rows s ++ [w.n]) t ∧ ((app w s id).lk k').id = id'
    rw [getH_put]
    by_cases he : id' = id
    · subst he
      rw [if_pos rfl]
      constructor
      · intro e; cases e
        exact ⟨s, hs, (hmem s w.n).2 (.inr ⟨rfl, rfl⟩), hnew⟩
      · rintro ⟨t, ht, h1, h2⟩
        rcases (hmem t k').1 h1 with h3 | ⟨_, h3⟩
        · rw [hlid k' (hne t k' ht h3)] at h2
          exact (hfresh t k' ht h3 h2).elim
        · rw [h3]
    · rw [if_neg he, h.atk]
      constructor
      · rintro ⟨t, ht, h1, h2⟩
        exact ⟨t, ht, (hmem t k').2 (.inl h1), by rw [hlid k' (hne t k' ht h1)]; exact h2⟩
      · rintro ⟨t, ht, h1, h2⟩
        rcases (hmem t k').1 h1 with h3 | ⟨_, h3⟩
        · rw [hlid k' (hne t k' ht h3)] at h2
          exact ⟨t, ht, h3, h2⟩
        · subst h3; rw [hnew] at h2; exact (he h2.symm).elim
  · show x.toNat.testBit t = _
    rw [hx.h.2.2 t ht]
    by_cases hts : t = s
    · subst hts
      rw [if_pos rfl, hu.fst t ht]
      cases upd rows t (rows t ++ [w.n]) t <;> rfl
    · rw [if_neg hts, upd_other _ _ _ hts, hrest.2.2.2.1]; exact h.msk t ht
  · show 0 ≤ ((app w s id).lk y).id ∧ ((app w s id).lk y).id ≤ _
    rcases (hmem t y).1 hy with h3 | ⟨_, h3⟩
    · rw [hlid y (hne t y ht h3)]; exact h.ids t y ht h3
    · subst h3; rw [hnew]; exact hid
  · show updI pos id (some s) id' = some t ↔ t < 64 ∧ ∃ k', k' ∈ upd rows s (rows s ++ [w.n]) t ∧ ((app w s id).lk k').id = id'
    unfold updI
    by_cases he : id' = id
    · subst he
      rw [if_pos rfl]
      constructor
      · intro e; cases e
        exact ⟨hs, w.n, (hmem s w.n).2 (.inr ⟨rfl, rfl⟩), hnew⟩
      · rintro ⟨ht, k', h1, h2⟩
        rcases (hmem t k').1 h1 with h3 | ⟨h4, h3⟩
        · rw [hlid k' (hne t k' ht h3)] at h2
          exact (hfresh t k' ht h3 h2).elim
        · rw [h4]
    · rw [if_neg he, hp]
      constructor
      · rintro ⟨ht, k', h1, h2⟩
        exact ⟨ht, k', (hmem t k').2 (.inl h1), by rw [hlid k' (hne t k' ht h1)]; exact h2⟩
      · rintro ⟨ht, k', h1, h2⟩
        rcases (hmem t k').1 h1 with h3 | ⟨_, h3⟩
        · rw [hlid k' (hne t k' ht h3)] at h2
          exact ⟨ht, k', h3, h2⟩
        · subst h3; rw [hnew] at h2; exact (he h2.symm).elim
theorem nodup_len : ∀ (n : Nat) (l : List Nat), l.Nodup → (∀ x ∈ l, x < n) → l.length ≤ n
  | 0, l, _, h => by
    cases l with
    | nil => simp
    | cons a r => have := h a (List.mem_cons_self ..); omega
  | n + 1, l, hn, h => by
    by_cases hm : n ∈ l
    · have h1 := nodup_len n (l.erase n) (hn.erase n) (fun x hx => by
        have := (List.Nodup.mem_erase_iff hn).1 hx
        have := h x this.2
        omega)
      rw [List.length_erase_of_mem hm] at h1
      omega
    · have := nodup_len n l hn (fun x hx => by
        have := h x hx
        have : x ≠ n := fun e => by subst e; exact hm hx
        omega)
      omega
theorem nodup_lenI {n : Nat} {l : List Int} (hn : l.Nodup) (h : ∀ x ∈ l, 0 ≤ x ∧ x < n) : l.length ≤ n := by
  have := nodup_len n (l.map Int.toNat) ?_ ?_
  · simpa using this
  · rw [List.nodup_iff_pairwise_ne, List.pairwise_map]
    refine List.Pairwise.imp_of_mem ?_ (List.nodup_iff_pairwise_ne.1 hn)
    intro a b ha hb hab e
    have := h a ha
    have := h b hb
    omega
  · intro x hx
    obtain ⟨y, hy, rfl⟩ := List.mem_map.1 hx
    have := h y hy
    omega
/-- A row, as it is walked. -/
theorem WRel.row {w : Wl} {pos : Int → Option Nat} (h : WRel w pos) {s : Nat} (hs : s < 64) : ∃ L : List Nat, w.first s = L[0]? ∧ (∀ i k, L[i]? = some k → (w.lk k).next = L[i + 1]?) ∧ L.length ≤ 1048576 ∧
    (L.map fun k => (w.lk k).id).Nodup ∧ (∀ id, id ∈ (L.map fun k => (w.lk k).id) ↔ pos id = some s) := by
  obtain ⟨rows, h, hp⟩ := h.h
  have hnd : ((rows s).map fun k => (w.lk k).id).Nodup := by
    rw [List.nodup_iff_pairwise_ne, List.pairwise_map]
    refine List.Pairwise.imp_of_mem ?_ (List.nodup_iff_pairwise_ne.1 (h.nd s hs))
    intro a b ha hb hab e
    exact hab (h.uniq hs hs ha hb e)
  refine ⟨rows s, by rw [h.fst s hs, head_get], fun i k hi => (h.lk s i k hs hi).2.2.1, ?_, hnd, fun id => ?_⟩
  · have := nodup_lenI (n := 1048576) hnd (fun x hx => by
      obtain ⟨k, hk, rfl⟩ := List.mem_map.1 hx
      have := h.ids s k hs hk
      omega)
    simpa using this
  · rw [hp]
    simp only [List.mem_map]
    exact ⟨fun ⟨k, h1, h2⟩ => ⟨hs, k, h1, h2⟩, fun ⟨_, k, h1, h2⟩ => ⟨k, h1, h2⟩⟩
theorem WRel.bit {w : Wl} {pos : Int → Option Nat} (h : WRel w pos) {s : Nat} (hs : s < 64) : w.mask.toNat.testBit s = true ↔ ∃ id, pos id = some s := by
  obtain ⟨rows, h, hp⟩ := h.h
  rw [h.msk s hs]
  constructor
  · intro hb
    cases hr : rows s with
    | nil => rw [hr] at hb; cases hb
    | cons k r => exact ⟨(w.lk k).id, (hp _ s).2 ⟨hs, k, by rw [hr]; exact List.mem_cons_self .., rfl⟩⟩
  · rintro ⟨id, hid⟩
    obtain ⟨_, k, hk, _⟩ := (hp id s).1 hid
    cases hr : rows s with
    | nil => rw [hr] at hk; cases hk
    | cons _ _ => rfl
def wl0 (c : Nat) : Wl := ⟨0, fun _ => ⟨0, 0, none, none⟩, fun _ => none, fun _ => none, [], c, 0⟩
theorem wrel0 (c : Nat) : WRel (wl0 c) (fun _ => none) := by
  refine .mk ⟨fun _ => [], ⟨⟨fun _ _ => rfl, fun _ _ => rfl, fun _ _ _ _ h => by simp at h, fun _ _ => List.nodup_nil⟩, fun id k => ?_, List.nodup_nil, ⟨Int.le_refl 0, show (0 : Int) < _ by decide⟩, fun s _ => by simp [wl0], fun _ _ _ h => by simp at h⟩, fun id s => ?_⟩
  · simp [wl0, getH]
  · simp
end Go.Proofs.Ytafcenlbllmahaa.Wh
set_option linter.unusedVariables false
set_option linter.unusedSimpArgs false
namespace Go.Proofs.Ytafcenlbllmahaa.Wh
open Go Go.RowKit Fw
abbrev WP : AV := .hp 0 fun _ => some (1, 0)
def chW (w : Wl) : List Chunk := [.heap fun _ => hpW w]
theorem mask_of (w : Wl) (s b : Nat) (hs : s < 64) (hb : b = if (w.first s).isSome then 1 else 0) (h0 : 0 ≤ w.mask ∧ w.mask < 18446744073709551616) : MaskOf w s (setBit w.mask.toNat s b : Int) := by
  have hl := setBit_lt w.mask.toNat s b
  refine .mk ⟨by omega, by omega, fun j hj => ?_⟩
  rw [Int.toNat_natCast, setBit_bit (by rw [hb]; split <;> omega) hs j hj, hb]
  cases (w.first s).isSome <;> rfl
theorem setI (x : Int) (s b : Nat) (hx : 0 ≤ x ∧ x < 18446744073709551616) (hs : s < 64) (hb : b ≤ 1) : Meets Try.prog 54 [.lst (.int .u64) fun _ => [x], .int .i64 fun _ => (s : Int), .int .i64 fun _ => 1, .int .u64 fun _ => (b : Int)] [] (Y := Unit) (fun _ => True) (fun _ => .tup [.lst (.int .u64) fun _ => [(setBit x.toNat s b : Int)], .tt]) (fun _ => []) := by
  have h := setM x.toNat s b (by omega) hs hb
  rwa [Int.toNat_of_nonneg hx.1] at h
theorem markM (w : Wl) (s : Nat) (hs : s < 64) (h0 : 0 ≤ w.mask ∧ w.mask < 18446744073709551616) : Meets Try.prog 41 [WP, .int .i64 fun _ => (s : Int)] (chW w) (Y := Int) (fun x => MaskOf w s x)
    (fun _ => .tup []) (fun x => chW { w with mask := x }) := by
  have hm0 : w.mask = ((w.mask.toNat : Nat) : Int) := (Int.toNat_of_nonneg h0.1).symm
  refine Meets.intro hm (fn := Try.f41) Try.func41 rfl (by decide) (Nat.le_of_ble_eq_true rfl) (fun _ => rfl) ?_; intro S hok; (conv => whnf)
  (repeat' ((conv => whnf); first | apply And.intro | exact ⟨by kernel_rfl⟩ | apply DrawN.mk | apply CodeN.step hm rfl | exact trivial | exact rfl | (intro hh; try simp only [bs] at hh))); all_goals (conv => whnf)
  (all_goals first | exact Ob.mk (fun h => by cases h) | exact Ob.mk ⟨(fun h => by cases h), by simp only []; omega, by simp only []; omega⟩ | skip)
  refine ldFirst s hs (by show some (1, 0 + 0 + (s : Int).toNat * 2 + 0) = _; simp) rfl ?_
  (repeat' ((conv => whnf); first | apply And.intro | exact ⟨by kernel_rfl⟩ | apply DrawN.mk | apply CodeN.step hm rfl | exact trivial | exact rfl | (intro hh; try simp only [bs] at hh))); all_goals (conv => whnf)
  (all_goals first | exact Ob.mk (fun h => by cases h) | exact Ob.mk ⟨(fun h => by cases h), by simp only []; omega, by simp only []; omega⟩ | skip)
  · refine ldMask rfl rfl ?_
    (repeat' ((conv => whnf); first | apply And.intro | exact ⟨by kernel_rfl⟩ | apply DrawN.mk | apply CodeN.step hm rfl | exact trivial | exact rfl | (intro hh; try simp only [bs] at hh))); all_goals (conv => whnf)
    have hn : (w.first s).isSome = true := by cases h : w.first s <;> simp [h, pt] at *
    (refine CallN.q (setI w.mask s 1 h0 hs (by omega)) [] (fun y hy => ?_); (repeat' ((conv => whnf); first | apply And.intro | exact ⟨by kernel_rfl⟩ | apply DrawN.mk | apply CodeN.step hm rfl | exact trivial | exact rfl | (intro hh; try simp only [bs] at hh))); all_goals (conv => whnf))
    (all_goals first | exact Ob.mk (fun h => by cases h) | exact Ob.mk ⟨(fun h => by cases h), by simp only []; omega, by simp only []; omega⟩ | skip)
    refine stMask _ rfl (.eq (.dat (.list (.int .u64)) [(setBit w.mask.toNat s 1 : Int)])) ?_
    (repeat' ((conv => whnf); first | apply And.intro | exact ⟨by kernel_rfl⟩ | apply DrawN.mk | apply CodeN.step hm rfl | exact trivial | exact rfl | (intro hh; try simp only [bs] at hh))); all_goals (conv => whnf)
    (refine RetN.q (setBit w.mask.toNat s 1 : Int) [0] ?_ ?_ ?_ <;> (repeat' ((conv => whnf) <;> first | exact rfl | exact trivial | exact Fw.Hp.like_refl _ | apply And.intro | exact Nat.zero_add _)); all_goals ((conv => whnf); try simp only []))
    exact mask_of w s 1 hs (by rw [hn]; rfl) h0
  · refine ldMask rfl rfl ?_
    (repeat' ((conv => whnf); first | apply And.intro | exact ⟨by kernel_rfl⟩ | apply DrawN.mk | apply CodeN.step hm rfl | exact trivial | exact rfl | (intro hh; try simp only [bs] at hh))); all_goals (conv => whnf)
    have hn : (w.first s).isSome = false := by cases h : w.first s <;> simp [h, pt] at *
    (refine CallN.q (setI w.mask s 0 h0 hs (by omega)) [] (fun y hy => ?_); (repeat' ((conv => whnf); first | apply And.intro | exact ⟨by kernel_rfl⟩ | apply DrawN.mk | apply CodeN.step hm rfl | exact trivial | exact rfl | (intro hh; try simp only [bs] at hh))); all_goals (conv => whnf))
    (all_goals first | exact Ob.mk (fun h => by cases h) | exact Ob.mk ⟨(fun h => by cases h), by simp only []; omega, by simp only []; omega⟩ | skip)
    refine stMask _ rfl (.eq (.dat (.list (.int .u64)) [(setBit w.mask.toNat s 0 : Int)])) ?_
    (repeat' ((conv => whnf); first | apply And.intro | exact ⟨by kernel_rfl⟩ | apply DrawN.mk | apply CodeN.step hm rfl | exact trivial | exact rfl | (intro hh; try simp only [bs] at hh))); all_goals (conv => whnf)
    (refine RetN.q (setBit w.mask.toNat s 0 : Int) [0] ?_ ?_ ?_ <;> (repeat' ((conv => whnf) <;> first | exact rfl | exact trivial | exact Fw.Hp.like_refl _ | apply And.intro | exact Nat.zero_add _)); all_goals ((conv => whnf); try simp only []))
    exact mask_of w s 0 hs (by rw [hn]; rfl) h0
theorem mayM (w : Wl) (s : Int) : Meets Try.prog 42 [WP, .int .i64 fun _ => s] (chW w) (Y := Unit) (fun _ => True)
    (fun _ => .bool fun _ => decide (0 ≤ s) && decide (s < 64)) (fun _ => chW w) := by
  refine Meets.intro hm (fn := Try.f42) Try.func42 rfl (by decide) (Nat.le_of_ble_eq_true rfl) (fun _ => rfl) ?_; intro S hok; (conv => whnf)
  (repeat' ((conv => whnf); first | apply And.intro | exact ⟨by kernel_rfl⟩ | apply DrawN.mk | apply CodeN.step hm rfl | exact trivial | exact rfl | (intro hh; try simp only [bs] at hh; try exact absurd hh (by decide)))); all_goals (conv => whnf)
  · (refine RetN.q () [0] ?_ ?_ ?_ <;> (repeat' ((conv => whnf) <;> first | exact rfl | exact trivial | exact Fw.Hp.like_refl _ | apply And.intro | exact Nat.zero_add _)); all_goals ((conv => whnf); try simp only []))
    simp [hh]
  · (refine RetN.q () [0] ?_ ?_ ?_ <;> (repeat' ((conv => whnf) <;> first | exact rfl | exact trivial | exact Fw.Hp.like_refl _ | apply And.intro | exact Nat.zero_add _)); all_goals ((conv => whnf); try simp only []))
    simp [hh]
section
variable {i : Nat} {w : Wl} {f : Unit → Option (Nat × Nat)} {v : AV} {K : Hp → Prop}
theorem stU1n (s k : Nat) (h : (w.lk k).prev = none) (hs : s < 64) (hf : f () = some (1, s * 2)) (hv : IsHV i v (.hp (pt (w.lk k).next))) (kk : K (hpW (unl1 w s k))) : StH i v (fun _ => hpW w) f K :=
  stFirst s _ hs hf hv (by unfold unl1 at kk; rw [h] at kk; exact kk)
theorem stU1s (s k p : Nat) (h : (w.lk k).prev = some p) (hf : f () = some (p + 2, 3)) (hv : IsHV i v (.hp (pt (w.lk k).next))) (kk : K (hpW (unl1 w s k))) : StH i v (fun _ => hpW w) f K :=
  stNext p _ hf hv (by unfold unl1 at kk; rw [h] at kk; exact kk)
theorem stU2n (s k : Nat) (h : (w.lk k).next = none) (hs : s < 64) (hf : f () = some (1, s * 2 + 1)) (hv : IsHV i v (.hp (pt (w.lk k).prev))) (kk : K (hpW (unl2 w s k))) : StH i v (fun _ => hpW w) f K :=
  stLast s _ hs hf hv (by unfold unl2 at kk; rw [h] at kk; exact kk)
theorem stU2s (s k p : Nat) (h : (w.lk k).next = some p) (hf : f () = some (p + 2, 2)) (hv : IsHV i v (.hp (pt (w.lk k).prev))) (kk : K (hpW (unl2 w s k))) : StH i v (fun _ => hpW w) f K :=
  stPrev p _ hf hv (by unfold unl2 at kk; rw [h] at kk; exact kk)
end
theorem updI_same {pos : Int → Option Nat} {id : Int} {v : Option Nat} (h : pos id = v) : updI pos id v = pos := by
  funext j; unfold updI; split
  · rename_i e; rw [e, h]
  · rfl
theorem pt_none {x : Option Nat} : (pt x).isNone = true ↔ x = none := by cases x <;> simp [pt]
theorem pt_some {x : Option Nat} : (pt x).isNone = false ↔ ∃ p, x = some p := by cases x <;> simp [pt]
def delA (w : Wl) (id : Int) : Wl := { w with at_ := delH w.at_ id }
def mskA (w : Wl) (x : Int) : Wl := { w with mask := x }
theorem deAt2 {w : Wl} {K : Hp → Prop} {P : Program} {t : Nat} (hz : mapZ P t = some (.pointer none)) {g : Unit → Nat} {n : Unit → Int} (hg : g () = 0) (k : K (hpW (delA w (n ())))) : DeH P t n (fun _ => hpW w) g K := deAt hz hg k
theorem drop_eq (w : Wl) (k s : Nat) (id x : Int) (h : (w.lk k).slot.toNat = s) : dropW w k id x = mskA (delA (unl2 (unl1 w s k) s k) id) x := by
  subst h; unfold dropW mskA delA; rw [(unl_rest w _ k).2.1]
theorem markM2 (w : Wl) (s : Nat) (hs : s < 64) (h0 : 0 ≤ w.mask ∧ w.mask < 18446744073709551616) : Meets Try.prog 41 [WP, .int .i64 fun _ => (s : Int)] (chW w) (Y := Int) (fun x => MaskOf w s x)
    (fun _ => .tup []) (fun x => chW (mskA w x)) := markM w s hs h0
theorem dropM (w : Wl) (pos : Int → Option Nat) (hw : WRel w pos) (id : Int) : Meets Try.prog 34 [WP, .int .i64 fun _ => id] (chW w) (Y := Wl) (fun w' => WRel w' (updI pos id none))
    (fun _ => .bool fun _ => (pos id).isSome) chW := by
  refine Meets.intro hm (fn := Try.f34) Try.func34 rfl (by decide) (Nat.le_of_ble_eq_true rfl) (fun _ => rfl) ?_; intro S hok; (conv => whnf)
  (repeat' ((conv => whnf); first | apply And.intro | exact ⟨by kernel_rfl⟩ | apply DrawN.mk | apply CodeN.step hm rfl | exact trivial | exact rfl | (intro hh; try simp only [bs] at hh; try exact absurd hh (by decide)))); all_goals (conv => whnf)
  (all_goals first | exact Ob.mk (fun h => by cases h) | exact Ob.mk ⟨(fun h => by cases h), by simp only []; omega, by simp only []; omega⟩ | skip)
  refine ldAt rfl rfl ?_
  (repeat' ((conv => whnf); first | apply And.intro | exact ⟨by kernel_rfl⟩ | apply DrawN.mk | apply CodeN.step hm rfl | exact trivial | exact rfl | (intro hh; try simp only [bs] at hh))); all_goals (conv => whnf)
  refine lkAt rfl rfl (fun k hk => ?_) (fun hk => ?_)
  rotate_left
  · have hp := (hw.at_none id).1 hk
    (repeat' ((conv => whnf); first | apply And.intro | exact ⟨by kernel_rfl⟩ | apply DrawN.mk | apply CodeN.step hm rfl | exact trivial | exact rfl | (intro hh; try simp only [bs] at hh; try exact absurd hh (by decide)))); all_goals (conv => whnf)
    (refine RetN.q w [0] ?_ ?_ ?_ <;> (repeat' ((conv => whnf) <;> first | exact rfl | exact trivial | exact Fw.Hp.like_refl _ | apply And.intro | exact Nat.zero_add _)); all_goals ((conv => whnf); try simp only []))
    · rw [hp]; rfl
    · rw [updI_same hp]; exact hw
  obtain ⟨h1, h2, h3, h4⟩ := hw.drop hk
  generalize hsl : (w.lk k).slot.toNat = s at *
  have hs : s < 64 := by omega
  have hsI : (w.lk k).slot = (s : Int) := by omega
  have hslot : ((unl2 (unl1 w s k) s k).lk k).slot = (s : Int) := (unl_lk w s k k).2.1.trans hsI
  have hrest := unl_rest w s k
  have hmm : 0 ≤ (unl2 (unl1 w s k) s k).mask ∧ (unl2 (unl1 w s k) s k).mask < 18446744073709551616 := by rw [hrest.2.2.2]; exact hw.mask0
  (repeat' ((conv => whnf); first | apply And.intro | exact ⟨by kernel_rfl⟩ | apply DrawN.mk | apply CodeN.step hm rfl | exact trivial | exact rfl | (intro hh; try simp only [bs] at hh; try exact absurd hh (by decide)))); all_goals (conv => whnf)
  (all_goals first | exact Ob.mk (fun h => by cases h) | exact Ob.mk ⟨(fun h => by cases h), by simp only []; omega, by simp only []; omega⟩ | skip)
  refine ldSlot k rfl rfl ?_
  rw [hsI]
  (repeat' ((conv => whnf); first | apply And.intro | exact ⟨by kernel_rfl⟩ | apply DrawN.mk | apply CodeN.step hm rfl | exact trivial | exact rfl | (intro hh; try simp only [bs] at hh; try exact absurd hh (by decide)))); all_goals (conv => whnf)
  (all_goals first | exact Ob.mk (fun h => by cases h) | exact Ob.mk ⟨(fun h => by cases h), by simp only []; omega, by simp only []; omega⟩ | skip)
  refine ldPrev k rfl rfl ?_
  (repeat' ((conv => whnf); first | apply And.intro | exact ⟨by kernel_rfl⟩ | apply DrawN.mk | apply CodeN.step hm rfl | exact trivial | exact rfl | (intro hh; try simp only [bs] at hh; try exact absurd hh (by decide)))); all_goals (conv => whnf)
  (all_goals first | exact Ob.mk (fun h => by cases h) | exact Ob.mk ⟨(fun h => by cases h), by simp only []; omega, by simp only []; omega⟩ | skip)
  · have hp := pt_none.1 hh
    refine ldNext k rfl rfl ?_
    (repeat' ((conv => whnf); first | apply And.intro | exact ⟨by kernel_rfl⟩ | apply DrawN.mk | apply CodeN.step hm rfl | exact trivial | exact rfl | (intro hh; try simp only [bs] at hh; try exact absurd hh (by decide)))); all_goals (conv => whnf)
    (all_goals first | exact Ob.mk (fun h => by cases h) | exact Ob.mk ⟨(fun h => by cases h), by simp only []; omega, by simp only []; omega⟩ | skip)
    refine stU1n s k hp hs (by show some (1, 0 + 0 + (s : Int).toNat * 2 + 0) = _; simp) (.eq (.hp _)) ?_
    (repeat' ((conv => whnf); first | apply And.intro | exact ⟨by kernel_rfl⟩ | apply DrawN.mk | apply CodeN.step hm rfl | exact trivial | exact rfl | (intro hh; try simp only [bs] at hh; try exact absurd hh (by decide)))); all_goals (conv => whnf)
    (all_goals first | exact Ob.mk (fun h => by cases h) | exact Ob.mk ⟨(fun h => by cases h), by simp only []; omega, by simp only []; omega⟩ | skip)
    refine ldNext k rfl rfl ?_
    (repeat' ((conv => whnf); first | apply And.intro | exact ⟨by kernel_rfl⟩ | apply DrawN.mk | apply CodeN.step hm rfl | exact trivial | exact rfl | (intro hh; try simp only [bs] at hh; try exact absurd hh (by decide)))); all_goals (conv => whnf)
    (all_goals first | exact Ob.mk (fun h => by cases h) | exact Ob.mk ⟨(fun h => by cases h), by simp only []; omega, by simp only []; omega⟩ | skip)
    · refine ldPrev k rfl rfl ?_
      (repeat' ((conv => whnf); first | apply And.intro | exact ⟨by kernel_rfl⟩ | apply DrawN.mk | apply CodeN.step hm rfl | exact trivial | exact rfl | (intro hh; try simp only [bs] at hh; try exact absurd hh (by decide)))); all_goals (conv => whnf)
      (all_goals first | exact Ob.mk (fun h => by cases h) | exact Ob.mk ⟨(fun h => by cases h), by simp only []; omega, by simp only []; omega⟩ | skip)
      refine stU2n s k (pt_none.1 hh) hs (by show some (1, 0 + 0 + (s : Int).toNat * 2 + 1) = _; simp) (.eq (.hp _)) ?_
      (repeat' ((conv => whnf); first | apply And.intro | exact ⟨by kernel_rfl⟩ | apply DrawN.mk | apply CodeN.step hm rfl | exact trivial | exact rfl | (intro hh; try simp only [bs] at hh; try exact absurd hh (by decide)))); all_goals (conv => whnf)
      (all_goals first | exact Ob.mk (fun h => by cases h) | exact Ob.mk ⟨(fun h => by cases h), by simp only []; omega, by simp only []; omega⟩ | skip)
      refine ldAt rfl rfl ?_
      (repeat' ((conv => whnf); first | apply And.intro | exact ⟨by kernel_rfl⟩ | apply DrawN.mk | apply CodeN.step hm rfl | exact trivial | exact rfl | (intro hh; try simp only [bs] at hh; try exact absurd hh (by decide)))); all_goals (conv => whnf)
      refine deAt2 rfl rfl ?_
      (repeat' ((conv => whnf); first | apply And.intro | exact ⟨by kernel_rfl⟩ | apply DrawN.mk | apply CodeN.step hm rfl | exact trivial | exact rfl | (intro hh; try simp only [bs] at hh; try exact absurd hh (by decide)))); all_goals (conv => whnf)
      (all_goals first | exact Ob.mk (fun h => by cases h) | exact Ob.mk ⟨(fun h => by cases h), by simp only []; omega, by simp only []; omega⟩ | skip)
      refine ldSlot k rfl rfl ?_
      rw [show ((delA (unl2 (unl1 w s k) s k) id).lk k).slot = (s : Int) from hslot]
      (repeat' ((conv => whnf); first | apply And.intro | exact ⟨by kernel_rfl⟩ | apply DrawN.mk | apply CodeN.step hm rfl | exact trivial | exact rfl | (intro hh; try simp only [bs] at hh; try exact absurd hh (by decide)))); all_goals (conv => whnf)
      (refine CallN.q (markM2 (delA (unl2 (unl1 w s k) s k) id) s hs hmm) [0] ?_; rintro x hx; (repeat' ((conv => whnf); first | apply And.intro | exact ⟨by kernel_rfl⟩ | apply DrawN.mk | apply CodeN.step hm rfl | exact trivial | exact rfl | (intro hh; try simp only [bs] at hh; try exact absurd hh (by decide)))); all_goals (conv => whnf); all_goals try exact ⟨by decide⟩)
      (refine RetN.q (dropW w k id x) [0] ?_ ?_ ?_ <;> (repeat' ((conv => whnf) <;> first | exact rfl | exact trivial | exact Fw.Hp.like_refl _ | apply And.intro | exact Nat.zero_add _)); all_goals ((conv => whnf); try simp only []))
      · rw [← drop_eq w k s id x hsl]; exact Hp.like_refl _
      · rw [h3]; rfl
      · exact h4 x ⟨hx.h⟩
    · obtain ⟨q, hq⟩ := pt_some.1 hh
      refine ldNext k rfl rfl ?_
      (repeat' ((conv => whnf); first | apply And.intro | exact ⟨by kernel_rfl⟩ | apply DrawN.mk | apply CodeN.step hm rfl | exact trivial | exact rfl | (intro hh; try simp only [bs] at hh; try exact absurd hh (by decide)))); all_goals (conv => whnf)
      (all_goals first | exact Ob.mk (fun h => by cases h) | exact Ob.mk ⟨(fun h => by cases h), by simp only []; omega, by simp only []; omega⟩ | skip)
      refine ldPrev k rfl rfl ?_
      (repeat' ((conv => whnf); first | apply And.intro | exact ⟨by kernel_rfl⟩ | apply DrawN.mk | apply CodeN.step hm rfl | exact trivial | exact rfl | (intro hh; try simp only [bs] at hh; try exact absurd hh (by decide)))); all_goals (conv => whnf)
      all_goals try exact Ob.mk (fun h => by rw [hq] at h; cases h)
      refine stU2s s k q hq (by rw [hq]; rfl) (.eq (.hp _)) ?_
      (repeat' ((conv => whnf); first | apply And.intro | exact ⟨by kernel_rfl⟩ | apply DrawN.mk | apply CodeN.step hm rfl | exact trivial | exact rfl | (intro hh; try simp only [bs] at hh; try exact absurd hh (by decide)))); all_goals (conv => whnf)
      (all_goals first | exact Ob.mk (fun h => by cases h) | exact Ob.mk ⟨(fun h => by cases h), by simp only []; omega, by simp only []; omega⟩ | skip)
      refine ldAt rfl rfl ?_
      (repeat' ((conv => whnf); first | apply And.intro | exact ⟨by kernel_rfl⟩ | apply DrawN.mk | apply CodeN.step hm rfl | exact trivial | exact rfl | (intro hh; try simp only [bs] at hh; try exact absurd hh (by decide)))); all_goals (conv => whnf)
      refine deAt2 rfl rfl ?_
      (repeat' ((conv => whnf); first | apply And.intro | exact ⟨by kernel_rfl⟩ | apply DrawN.mk | apply CodeN.step hm rfl | exact trivial | exact rfl | (intro hh; try simp only [bs] at hh; try exact absurd hh (by decide)))); all_goals (conv => whnf)
      (all_goals first | exact Ob.mk (fun h => by cases h) | exact Ob.mk ⟨(fun h => by cases h), by simp only []; omega, by simp only []; omega⟩ | skip)
      refine ldSlot k rfl rfl ?_
      rw [show ((delA (unl2 (unl1 w s k) s k) id).lk k).slot = (s : Int) from hslot]
      (repeat' ((conv => whnf); first | apply And.intro | exact ⟨by kernel_rfl⟩ | apply DrawN.mk | apply CodeN.step hm rfl | exact trivial | exact rfl | (intro hh; try simp only [bs] at hh; try exact absurd hh (by decide)))); all_goals (conv => whnf)
      (refine CallN.q (markM2 (delA (unl2 (unl1 w s k) s k) id) s hs hmm) [0] ?_; rintro x hx; (repeat' ((conv => whnf); first | apply And.intro | exact ⟨by kernel_rfl⟩ | apply DrawN.mk | apply CodeN.step hm rfl | exact trivial | exact rfl | (intro hh; try simp only [bs] at hh; try exact absurd hh (by decide)))); all_goals (conv => whnf); all_goals try exact ⟨by decide⟩)
      (refine RetN.q (dropW w k id x) [0] ?_ ?_ ?_ <;> (repeat' ((conv => whnf) <;> first | exact rfl | exact trivial | exact Fw.Hp.like_refl _ | apply And.intro | exact Nat.zero_add _)); all_goals ((conv => whnf); try simp only []))
      · rw [← drop_eq w k s id x hsl]; exact Hp.like_refl _
      · rw [h3]; rfl
      · exact h4 x ⟨hx.h⟩
  · obtain ⟨p, hp⟩ := pt_some.1 hh
    refine ldPrev k rfl rfl ?_
    (repeat' ((conv => whnf); first | apply And.intro | exact ⟨by kernel_rfl⟩ | apply DrawN.mk | apply CodeN.step hm rfl | exact trivial | exact rfl | (intro hh; try simp only [bs] at hh; try exact absurd hh (by decide)))); all_goals (conv => whnf)
    (all_goals first | exact Ob.mk (fun h => by cases h) | exact Ob.mk ⟨(fun h => by cases h), by simp only []; omega, by simp only []; omega⟩ | skip)
    refine ldNext k rfl rfl ?_
    (repeat' ((conv => whnf); first | apply And.intro | exact ⟨by kernel_rfl⟩ | apply DrawN.mk | apply CodeN.step hm rfl | exact trivial | exact rfl | (intro hh; try simp only [bs] at hh; try exact absurd hh (by decide)))); all_goals (conv => whnf)
    all_goals try exact Ob.mk (fun h => by rw [hp] at h; cases h)
    refine stU1s s k p hp (by rw [hp]; rfl) (.eq (.hp _)) ?_
    (repeat' ((conv => whnf); first | apply And.intro | exact ⟨by kernel_rfl⟩ | apply DrawN.mk | apply CodeN.step hm rfl | exact trivial | exact rfl | (intro hh; try simp only [bs] at hh; try exact absurd hh (by decide)))); all_goals (conv => whnf)
    (all_goals first | exact Ob.mk (fun h => by cases h) | exact Ob.mk ⟨(fun h => by cases h), by simp only []; omega, by simp only []; omega⟩ | skip)
    refine ldNext k rfl rfl ?_
    (repeat' ((conv => whnf); first | apply And.intro | exact ⟨by kernel_rfl⟩ | apply DrawN.mk | apply CodeN.step hm rfl | exact trivial | exact rfl | (intro hh; try simp only [bs] at hh; try exact absurd hh (by decide)))); all_goals (conv => whnf)
    (all_goals first | exact Ob.mk (fun h => by cases h) | exact Ob.mk ⟨(fun h => by cases h), by simp only []; omega, by simp only []; omega⟩ | skip)
    · refine ldPrev k rfl rfl ?_
      (repeat' ((conv => whnf); first | apply And.intro | exact ⟨by kernel_rfl⟩ | apply DrawN.mk | apply CodeN.step hm rfl | exact trivial | exact rfl | (intro hh; try simp only [bs] at hh; try exact absurd hh (by decide)))); all_goals (conv => whnf)
      (all_goals first | exact Ob.mk (fun h => by cases h) | exact Ob.mk ⟨(fun h => by cases h), by simp only []; omega, by simp only []; omega⟩ | skip)
      refine stU2n s k (pt_none.1 hh) hs (by show some (1, 0 + 0 + (s : Int).toNat * 2 + 1) = _; simp) (.eq (.hp _)) ?_
      (repeat' ((conv => whnf); first | apply And.intro | exact ⟨by kernel_rfl⟩ | apply DrawN.mk | apply CodeN.step hm rfl | exact trivial | exact rfl | (intro hh; try simp only [bs] at hh; try exact absurd hh (by decide)))); all_goals (conv => whnf)
      (all_goals first | exact Ob.mk (fun h => by cases h) | exact Ob.mk ⟨(fun h => by cases h), by simp only []; omega, by simp only []; omega⟩ | skip)
      refine ldAt rfl rfl ?_
      (repeat' ((conv => whnf); first | apply And.intro | exact ⟨by kernel_rfl⟩ | apply DrawN.mk | apply CodeN.step hm rfl | exact trivial | exact rfl | (intro hh; try simp only [bs] at hh; try exact absurd hh (by decide)))); all_goals (conv => whnf)
      refine deAt2 rfl rfl ?_
      (repeat' ((conv => whnf); first | apply And.intro | exact ⟨by kernel_rfl⟩ | apply DrawN.mk | apply CodeN.step hm rfl | exact trivial | exact rfl | (intro hh; try simp only [bs] at hh; try exact absurd hh (by decide)))); all_goals (conv => whnf)
      (all_goals first | exact Ob.mk (fun h => by cases h) | exact Ob.mk ⟨(fun h => by cases h), by simp only []; omega, by simp only []; omega⟩ | skip)
      refine ldSlot k rfl rfl ?_
      rw [show ((delA (unl2 (unl1 w s k) s k) id).lk k).slot = (s : Int) from hslot]
      (repeat' ((conv => whnf); first | apply And.intro | exact ⟨by kernel_rfl⟩ | apply DrawN.mk | apply CodeN.step hm rfl | exact trivial | exact rfl | (intro hh; try simp only [bs] at hh; try exact absurd hh (by decide)))); all_goals (conv => whnf)
      (refine CallN.q (markM2 (delA (unl2 (unl1 w s k) s k) id) s hs hmm) [0] ?_; rintro x hx; (repeat' ((conv => whnf); first | apply And.intro | exact ⟨by kernel_rfl⟩ | apply DrawN.mk | apply CodeN.step hm rfl | exact trivial | exact rfl | (intro hh; try simp only [bs] at hh; try exact absurd hh (by decide)))); all_goals (conv => whnf); all_goals try exact ⟨by decide⟩)
      (refine RetN.q (dropW w k id x) [0] ?_ ?_ ?_ <;> (repeat' ((conv => whnf) <;> first | exact rfl | exact trivial | exact Fw.Hp.like_refl _ | apply And.intro | exact Nat.zero_add _)); all_goals ((conv => whnf); try simp only []))
      · rw [← drop_eq w k s id x hsl]; exact Hp.like_refl _
      · rw [h3]; rfl
      · exact h4 x ⟨hx.h⟩
    · obtain ⟨q, hq⟩ := pt_some.1 hh
      refine ldNext k rfl rfl ?_
      (repeat' ((conv => whnf); first | apply And.intro | exact ⟨by kernel_rfl⟩ | apply DrawN.mk | apply CodeN.step hm rfl | exact trivial | exact rfl | (intro hh; try simp only [bs] at hh; try exact absurd hh (by decide)))); all_goals (conv => whnf)
      (all_goals first | exact Ob.mk (fun h => by cases h) | exact Ob.mk ⟨(fun h => by cases h), by simp only []; omega, by simp only []; omega⟩ | skip)
      refine ldPrev k rfl rfl ?_
      (repeat' ((conv => whnf); first | apply And.intro | exact ⟨by kernel_rfl⟩ | apply DrawN.mk | apply CodeN.step hm rfl | exact trivial | exact rfl | (intro hh; try simp only [bs] at hh; try exact absurd hh (by decide)))); all_goals (conv => whnf)
      all_goals try exact Ob.mk (fun h => by rw [hq] at h; cases h)
      refine stU2s s k q hq (by rw [hq]; rfl) (.eq (.hp _)) ?_
      (repeat' ((conv => whnf); first | apply And.intro | exact ⟨by kernel_rfl⟩ | apply DrawN.mk | apply CodeN.step hm rfl | exact trivial | exact rfl | (intro hh; try simp only [bs] at hh; try exact absurd hh (by decide)))); all_goals (conv => whnf)
      (all_goals first | exact Ob.mk (fun h => by cases h) | exact Ob.mk ⟨(fun h => by cases h), by simp only []; omega, by simp only []; omega⟩ | skip)
      refine ldAt rfl rfl ?_
      (repeat' ((conv => whnf); first | apply And.intro | exact ⟨by kernel_rfl⟩ | apply DrawN.mk | apply CodeN.step hm rfl | exact trivial | exact rfl | (intro hh; try simp only [bs] at hh; try exact absurd hh (by decide)))); all_goals (conv => whnf)
      refine deAt2 rfl rfl ?_
      (repeat' ((conv => whnf); first | apply And.intro | exact ⟨by kernel_rfl⟩ | apply DrawN.mk | apply CodeN.step hm rfl | exact trivial | exact rfl | (intro hh; try simp only [bs] at hh; try exact absurd hh (by decide)))); all_goals (conv => whnf)
      (all_goals first | exact Ob.mk (fun h => by cases h) | exact Ob.mk ⟨(fun h => by cases h), by simp only []; omega, by simp only []; omega⟩ | skip)
      refine ldSlot k rfl rfl ?_
      rw [show ((delA (unl2 (unl1 w s k) s k) id).lk k).slot = (s : Int) from hslot]
      (repeat' ((conv => whnf); first | apply And.intro | exact ⟨by kernel_rfl⟩ | apply DrawN.mk | apply CodeN.step hm rfl | exact trivial | exact rfl | (intro hh; try simp only [bs] at hh; try exact absurd hh (by decide)))); all_goals (conv => whnf)
      (refine CallN.q (markM2 (delA (unl2 (unl1 w s k) s k) id) s hs hmm) [0] ?_; rintro x hx; (repeat' ((conv => whnf); first | apply And.intro | exact ⟨by kernel_rfl⟩ | apply DrawN.mk | apply CodeN.step hm rfl | exact trivial | exact rfl | (intro hh; try simp only [bs] at hh; try exact absurd hh (by decide)))); all_goals (conv => whnf); all_goals try exact ⟨by decide⟩)
      (refine RetN.q (dropW w k id x) [0] ?_ ?_ ?_ <;> (repeat' ((conv => whnf) <;> first | exact rfl | exact trivial | exact Fw.Hp.like_refl _ | apply And.intro | exact Nat.zero_add _)); all_goals ((conv => whnf); try simp only []))
      · rw [← drop_eq w k s id x hsl]; exact Hp.like_refl _
      · rw [h3]; rfl
      · exact h4 x ⟨hx.h⟩
end Go.Proofs.Ytafcenlbllmahaa.Wh
set_option linter.unusedVariables false
set_option linter.unusedSimpArgs false
namespace Go.Proofs.Ytafcenlbllmahaa.Wh
open Go Go.RowKit Fw
theorem app0_like (w : Wl) (s : Nat) (id : Int) : (hpW (app0 w s id)).like ((hpW w).add (.cells LinkT 4 (linkC ⟨id, s, w.last s, none⟩))) := by
  refine ⟨rfl, fun j hj => ?_⟩
  match j with
  | 0 => exact like_self (by simp [hpW, Hp.add, hpO, app0])
  | 1 => exact like_self (by simp [hpW, Hp.add]; rfl)
  | k + 2 =>
    by_cases h : k = w.n
    · subst h; exact like_self (by simp [hpW, Hp.add, hpO, app0, upd_same])
    · refine like_self ?_
      simp only [hpW, Hp.add, hpO, app0]
      rw [upd_other _ _ _ h]; exact (if_neg (show ¬ (k + 2 = w.n + 2) by omega)).symm
def putA (w : Wl) (id : Int) (k : Nat) : Wl := { w with at_ := putH w.at_ w.clk id k, clk := w.clk + 1 }
theorem add_eq (w : Wl) (s : Nat) (id x : Int) : mskA (putA (app w s id) id w.n) x = addW w s id x := by
  obtain ⟨h1, h2, h3, h4, h5⟩ := app_rest w s id
  unfold mskA putA addW; simp only [h2, h3]
section
variable {i : Nat} {f : Unit → Option (Nat × Nat)} {v : AV} {K : Hp → Prop}
theorem stA1n (w : Wl) (s : Nat) (id : Int) (h : w.last s = none) (hs : s < 64) (hf : f () = some (1, s * 2)) (hv : IsHV i v (.hp (pt (some w.n)))) (kk : K (hpW (app1 (app0 w s id) s w.n))) : StH i v (fun _ => hpW (app0 w s id)) f K :=
  stFirst s _ hs hf hv (by unfold app1 at kk; rw [show (app0 w s id).last s = none from h] at kk; exact kk)
theorem stA1s (w : Wl) (s p : Nat) (id : Int) (h : w.last s = some p) (hf : f () = some (p + 2, 3)) (hv : IsHV i v (.hp (pt (some w.n)))) (kk : K (hpW (app1 (app0 w s id) s w.n))) : StH i v (fun _ => hpW (app0 w s id)) f K :=
  stNext p _ hf hv (by unfold app1 at kk; rw [show (app0 w s id).last s = some p from h] at kk; exact kk)
theorem stA2 (w : Wl) (s : Nat) (id : Int) (hs : s < 64) (hf : f () = some (1, s * 2 + 1)) (hv : IsHV i v (.hp (pt (some w.n)))) (kk : K (hpW (app w s id))) : StH i v (fun _ => hpW (app1 (app0 w s id) s w.n)) f K :=
  stLast s _ hs hf hv kk
theorem muAt2 {P : Program} {t : Nat} {w : Wl} (hz : mapZ P t = some (.pointer none)) {g : Unit → Nat} {n : Unit → Int} (x : Nat) (hg : g () = 0) (hv : IsHV i v (.hp (pt (some x)))) (hno : getH w.at_ (n ()) = none) (k : K (hpW (putA w (n ()) x))) : MuH P t i n v (fun _ => hpW w) g K := muAt hz x hg hv hno k
end
theorem updI_twice (pos : Int → Option Nat) (id : Int) (u v : Option Nat) : updI (updI pos id u) id v = updI pos id v := by
  funext j; unfold updI; split <;> rfl
theorem addM (w : Wl) (pos : Int → Option Nat) (hw : WRel w pos) (s : Nat) (hs : s < 64) (id : Int) (h0 : 0 ≤ id) (h1 : id ≤ 1048575) : Meets Try.prog 35 [WP, .int .i64 fun _ => (s : Int), .int .i64 fun _ => id] (chW w) (Y := Wl) (fun w' => WRel w' (updI pos id (some s)))
    (fun _ => .int .i64 fun _ => 0) chW := by
  refine Meets.intro hm (fn := Try.f35) Try.func35 rfl (by decide) (Nat.le_of_ble_eq_true rfl) (fun _ => rfl) ?_; intro S hok; (conv => whnf)
  (repeat' ((conv => whnf); first | apply And.intro | exact ⟨by kernel_rfl⟩ | apply DrawN.mk | apply CodeN.step hm rfl | exact trivial | exact rfl | (intro hh; try simp only [bs] at hh; try exact absurd hh (by decide)))); all_goals (conv => whnf)
  (refine CallN.q (mayM w s) [0] (fun _ _ => ?_); (repeat' ((conv => whnf); first | apply And.intro | exact ⟨by kernel_rfl⟩ | apply DrawN.mk | apply CodeN.step hm rfl | exact trivial | exact rfl | (intro hh; try simp only [bs] at hh; try exact absurd hh (by decide)))); all_goals (conv => whnf); all_goals try exact ⟨by decide⟩)
  all_goals first | (exfalso; omega) | (exfalso; simp at hh; omega) | skip
  (refine CallN.q (dropM w pos hw id) [0] ?_; rintro w1 hw1; (repeat' ((conv => whnf); first | apply And.intro | exact ⟨by kernel_rfl⟩ | apply DrawN.mk | apply CodeN.step hm rfl | exact trivial | exact rfl | (intro hh; try simp only [bs] at hh; try exact absurd hh (by decide)))); all_goals (conv => whnf); all_goals try exact ⟨by decide⟩)
  (all_goals first | exact Ob.mk (fun h => by cases h) | exact Ob.mk ⟨(fun h => by cases h), by simp only []; omega, by simp only []; omega⟩ | skip)
  obtain ⟨hno1, hadd⟩ := hw1.add (id := id) (s := s) hs ⟨h0, h1⟩ (by simp [updI])
  obtain ⟨e1, e2, e3, e4, e5⟩ := app_rest w1 s id
  have hno : getH (app w1 s id).at_ id = none := by rw [e2]; exact hno1
  have hmm : 0 ≤ (putA (app w1 s id) id w1.n).mask ∧ (putA (app w1 s id) id w1.n).mask < 18446744073709551616 := by
    show 0 ≤ (app w1 s id).mask ∧ (app w1 s id).mask < _
    rw [e4]; exact hw1.mask0
  (all_goals first | exact Ob.mk (fun h => by cases h) | exact Ob.mk ⟨(fun h => by cases h), by simp only []; omega, by simp only []; omega⟩ | skip)
  refine ldLast s hs (by show some (1, 0 + 0 + (s : Int).toNat * 2 + 1) = _; simp) rfl ?_
  (repeat' ((conv => whnf); first | apply And.intro | exact ⟨by kernel_rfl⟩ | apply DrawN.mk | exact trivial | exact rfl | (intro hh; try simp only [bs] at hh))); all_goals (conv => whnf)
  refine CodeN.absorb 0 1 rfl (hpW (app0 w1 s id)) (linkC ⟨id, s, w1.last s, none⟩) rfl rfl (fun p v h => ?_) ?_ ?_
  · match p with
    | 0 => cases h; exact .eq (.dat (.int .i64) id)
    | 1 => cases h; exact .eq (.dat (.int .i64) (s : Int))
    | 2 => cases h; exact .eq (.hp _)
    | 3 => cases h; exact .pnil
  · exact app0_like w1 s id
  (conv => whnf)
  (repeat' ((conv => whnf); first | apply And.intro | exact ⟨by kernel_rfl⟩ | apply DrawN.mk | apply CodeN.step hm rfl | exact trivial | exact rfl | (intro hh; try simp only [bs] at hh))); all_goals (conv => whnf)
  (all_goals first | exact Ob.mk (fun h => by cases h) | exact Ob.mk ⟨(fun h => by cases h), by simp only []; omega, by simp only []; omega⟩ | skip)
  refine ldLast s hs (by show some (1, 0 + 0 + (s : Int).toNat * 2 + 1) = _; simp) rfl ?_
  (repeat' ((conv => whnf); first | apply And.intro | exact ⟨by kernel_rfl⟩ | apply DrawN.mk | apply CodeN.step hm rfl | exact trivial | exact rfl | (intro hh; try simp only [bs] at hh; try exact absurd hh (by decide)))); all_goals (conv => whnf)
  (all_goals first | exact Ob.mk (fun h => by cases h) | exact Ob.mk ⟨(fun h => by cases h), by simp only []; omega, by simp only []; omega⟩ | skip)
  · have hl := pt_none.1 hh
    refine stA1n w1 s id hl hs (by show some (1, 0 + 0 + (s : Int).toNat * 2 + 0) = _; simp) (.eq (.hp (pt (some w1.n)))) ?_
    (repeat' ((conv => whnf); first | apply And.intro | exact ⟨by kernel_rfl⟩ | apply DrawN.mk | apply CodeN.step hm rfl | exact trivial | exact rfl | (intro hh; try simp only [bs] at hh; try exact absurd hh (by decide)))); all_goals (conv => whnf)
    (all_goals first | exact Ob.mk (fun h => by cases h) | exact Ob.mk ⟨(fun h => by cases h), by simp only []; omega, by simp only []; omega⟩ | skip)
    refine stA2 w1 s id hs (by show some (1, 0 + 0 + (s : Int).toNat * 2 + 1) = _; simp) (.eq (.hp (pt (some w1.n)))) ?_
    (repeat' ((conv => whnf); first | apply And.intro | exact ⟨by kernel_rfl⟩ | apply DrawN.mk | apply CodeN.step hm rfl | exact trivial | exact rfl | (intro hh; try simp only [bs] at hh; try exact absurd hh (by decide)))); all_goals (conv => whnf)
    (all_goals first | exact Ob.mk (fun h => by cases h) | exact Ob.mk ⟨(fun h => by cases h), by simp only []; omega, by simp only []; omega⟩ | skip)
    refine ldAt rfl rfl ?_
    (repeat' ((conv => whnf); first | apply And.intro | exact ⟨by kernel_rfl⟩ | apply DrawN.mk | apply CodeN.step hm rfl | exact trivial | exact rfl | (intro hh; try simp only [bs] at hh; try exact absurd hh (by decide)))); all_goals (conv => whnf)
    refine muAt2 rfl w1.n rfl (.eq (.hp (pt (some w1.n)))) hno ?_
    (repeat' ((conv => whnf); first | apply And.intro | exact ⟨by kernel_rfl⟩ | apply DrawN.mk | apply CodeN.step hm rfl | exact trivial | exact rfl | (intro hh; try simp only [bs] at hh; try exact absurd hh (by decide)))); all_goals (conv => whnf)
    (refine CallN.q (markM2 (putA (app w1 s id) id w1.n) s hs hmm) [0] ?_; rintro x hx; (repeat' ((conv => whnf); first | apply And.intro | exact ⟨by kernel_rfl⟩ | apply DrawN.mk | apply CodeN.step hm rfl | exact trivial | exact rfl | (intro hh; try simp only [bs] at hh; try exact absurd hh (by decide)))); all_goals (conv => whnf); all_goals try exact ⟨by decide⟩)
    (refine RetN.q (addW w1 s id x) [0] ?_ ?_ ?_ <;> (repeat' ((conv => whnf) <;> first | exact rfl | exact trivial | exact Fw.Hp.like_refl _ | apply And.intro | exact Nat.zero_add _)); all_goals ((conv => whnf); try simp only []))
    · rw [add_eq]; exact Hp.like_refl _
    · have := hadd x ⟨hx.h⟩
      exact cast (congrArg (WRel (addW w1 s id x)) (updI_twice pos id none (some s))) this
  · obtain ⟨p, hl⟩ := pt_some.1 hh
    refine ldLast s hs (by show some (1, 0 + 0 + (s : Int).toNat * 2 + 1) = _; simp) rfl ?_
    (repeat' ((conv => whnf); first | apply And.intro | exact ⟨by kernel_rfl⟩ | apply DrawN.mk | apply CodeN.step hm rfl | exact trivial | exact rfl | (intro hh; try simp only [bs] at hh; try exact absurd hh (by decide)))); all_goals (conv => whnf)
    all_goals try exact Ob.mk (fun h => by rw [hl] at h; cases h)
    (all_goals first | exact Ob.mk (fun h => by cases h) | exact Ob.mk ⟨(fun h => by cases h), by simp only []; omega, by simp only []; omega⟩ | skip)
    refine stA1s w1 s p id hl (by rw [hl]; rfl) (.eq (.hp (pt (some w1.n)))) ?_
    (repeat' ((conv => whnf); first | apply And.intro | exact ⟨by kernel_rfl⟩ | apply DrawN.mk | apply CodeN.step hm rfl | exact trivial | exact rfl | (intro hh; try simp only [bs] at hh; try exact absurd hh (by decide)))); all_goals (conv => whnf)
    (all_goals first | exact Ob.mk (fun h => by cases h) | exact Ob.mk ⟨(fun h => by cases h), by simp only []; omega, by simp only []; omega⟩ | skip)
    refine stA2 w1 s id hs (by show some (1, 0 + 0 + (s : Int).toNat * 2 + 1) = _; simp) (.eq (.hp (pt (some w1.n)))) ?_
    (repeat' ((conv => whnf); first | apply And.intro | exact ⟨by kernel_rfl⟩ | apply DrawN.mk | apply CodeN.step hm rfl | exact trivial | exact rfl | (intro hh; try simp only [bs] at hh; try exact absurd hh (by decide)))); all_goals (conv => whnf)
    (all_goals first | exact Ob.mk (fun h => by cases h) | exact Ob.mk ⟨(fun h => by cases h), by simp only []; omega, by simp only []; omega⟩ | skip)
    refine ldAt rfl rfl ?_
    (repeat' ((conv => whnf); first | apply And.intro | exact ⟨by kernel_rfl⟩ | apply DrawN.mk | apply CodeN.step hm rfl | exact trivial | exact rfl | (intro hh; try simp only [bs] at hh; try exact absurd hh (by decide)))); all_goals (conv => whnf)
    refine muAt2 rfl w1.n rfl (.eq (.hp (pt (some w1.n)))) hno ?_
    (repeat' ((conv => whnf); first | apply And.intro | exact ⟨by kernel_rfl⟩ | apply DrawN.mk | apply CodeN.step hm rfl | exact trivial | exact rfl | (intro hh; try simp only [bs] at hh; try exact absurd hh (by decide)))); all_goals (conv => whnf)
    (refine CallN.q (markM2 (putA (app w1 s id) id w1.n) s hs hmm) [0] ?_; rintro x hx; (repeat' ((conv => whnf); first | apply And.intro | exact ⟨by kernel_rfl⟩ | apply DrawN.mk | apply CodeN.step hm rfl | exact trivial | exact rfl | (intro hh; try simp only [bs] at hh; try exact absurd hh (by decide)))); all_goals (conv => whnf); all_goals try exact ⟨by decide⟩)
    (refine RetN.q (addW w1 s id x) [0] ?_ ?_ ?_ <;> (repeat' ((conv => whnf) <;> first | exact rfl | exact trivial | exact Fw.Hp.like_refl _ | apply And.intro | exact Nat.zero_add _)); all_goals ((conv => whnf); try simp only []))
    · rw [add_eq]; exact Hp.like_refl _
    · have := hadd x ⟨hx.h⟩
      exact cast (congrArg (WRel (addW w1 s id x)) (updI_twice pos id none (some s))) this
end Go.Proofs.Ytafcenlbllmahaa.Wh
set_option linter.unusedVariables false
set_option linter.unusedSimpArgs false
namespace Go.Proofs.Ytafcenlbllmahaa.Wh
open Go Go.RowKit Fw
/-- 'l' has the ids of row s, each once. -/
structure RowOf (pos : Int → Option Nat) (s : Nat) (l : List Int) : Prop where
  nd : l.Nodup
  mem : ∀ id, id ∈ l ↔ pos id = some s
  len : l.length ≤ 1048576
theorem take_succ {L : List Nat} {i k : Nat} (h : L[i]? = some k) : L.take (i + 1) = L.take i ++ [k] := by
  rw [List.take_add_one, h]; rfl
theorem rowM (w : Wl) (pos : Int → Option Nat) (hw : WRel w pos) (s : Nat) (hs : s < 64) : Meets Try.prog 37 [WP, .int .i64 fun _ => (s : Int)] (chW w) (Y := List Int) (RowOf pos s)
    (fun l => .lst (.int .i64) fun _ => l) (fun _ => chW w) := by
  obtain ⟨L, hL0, hL, hLl, hnd, hmem⟩ := hw.row hs
  refine Meets.intro hm (fn := Try.f37) Try.func37 rfl (by decide) (Nat.le_of_ble_eq_true rfl) (fun _ => rfl) ?_; intro S hok; (conv => whnf)
  (repeat' ((conv => whnf); first | apply And.intro | exact ⟨by kernel_rfl⟩ | apply DrawN.mk | apply CodeN.step hm rfl | exact trivial | exact rfl | (intro hh; try simp only [bs] at hh; try exact absurd hh (by decide)))); all_goals (conv => whnf)
  (refine CallN.q (mayM w s) [0] (fun _ _ => ?_); (repeat' ((conv => whnf); first | apply And.intro | exact ⟨by kernel_rfl⟩ | apply DrawN.mk | exact trivial | exact rfl | (intro hh; try simp only [bs] at hh))); all_goals (conv => whnf); all_goals try exact ⟨by decide⟩)
  (repeat' ((conv => whnf); first | apply And.intro | exact ⟨by kernel_rfl⟩ | apply DrawN.mk | apply CodeN.step hm rfl | exact trivial | exact rfl | (intro hh; try simp only [bs] at hh; try exact absurd hh (by decide)))); all_goals (conv => whnf)
  · exfalso; simp at hh; omega
  (all_goals first | exact Ob.mk (fun h => by cases h) | exact Ob.mk ⟨(fun h => by cases h), by simp only []; omega, by simp only []; omega⟩ | skip)
  refine ldFirst s hs (by show some (1, 0 + 0 + (s : Int).toNat * 2 + 0) = _; simp) rfl ?_
  (repeat' ((conv => whnf); first | apply And.intro | exact ⟨by kernel_rfl⟩ | apply DrawN.mk | exact trivial | exact rfl | (intro hh; try simp only [bs] at hh))); all_goals (conv => whnf)
  refine CodeN.nil 3 (.int .i64) none [5] ?_
  (conv => whnf)
  apply CodeN.step hm rfl
  (conv => whnf)
  refine LoopN.intro hm (X := Nat) (fun i => i ≤ L.length) (fun i => L.length + 1 - i)
    (fun i => [(0, WP), (4, .snil), (5, .vec 1 1 (fun _ => 0) fun _ => i), (6, .hp 0 fun _ => pt L[i]?)])
    (fun i => [.heap fun _ => hpW w, .vect 3 (.int .i64) fun _ => (L.take i).map fun k => (w.lk k).id]) 0 [0, 1] ⟨rfl, rfl, ?_, ?_⟩ (Nat.zero_le _) ?_
  · (repeat' ((conv => whnf) <;> first | exact rfl | exact trivial | exact Fw.Hp.like_refl _ | apply And.intro | exact Nat.zero_add _))
  · (repeat' ((conv => whnf) <;> first | exact rfl | exact trivial | exact Fw.Hp.like_refl _ | apply And.intro | exact Nat.zero_add _)); all_goals ((conv => whnf); try simp only [])
    rw [hL0]
  · intro i hi
    (repeat' ((conv => whnf); first | apply And.intro | exact ⟨by kernel_rfl⟩ | apply DrawN.mk | apply CodeN.step hm rfl | exact trivial | exact rfl | (intro hh; try simp only [bs] at hh; try exact absurd hh (by decide)))); all_goals (conv => whnf)
    rotate_right
    · have hi' : L.length ≤ i := List.getElem?_eq_none_iff.1 (pt_none.1 hh)
      (refine RetN.frz 1 ?_; (conv => whnf))
      (refine RetN.q (L.map fun k => (w.lk k).id) [0] ?_ ?_ ?_ <;> (repeat' ((conv => whnf) <;> first | exact rfl | exact trivial | exact Fw.Hp.like_refl _ | apply And.intro | exact Nat.zero_add _)); all_goals ((conv => whnf); try simp only []))
      · rw [List.take_of_length_le hi', List.drop_zero]; exact List.take_of_length_le (by simpa using hi')
      · exact ⟨hnd, hmem, by simpa using hLl⟩
    all_goals obtain ⟨k, hk⟩ := pt_some.1 hh
    all_goals try exact Ob.mk (fun h => by rw [hk] at h; cases h)
    have hil : i < L.length := (List.getElem?_eq_some_iff.1 hk).1
    refine ldId k (by rw [hk]; rfl) rfl ?_
    (repeat' ((conv => whnf); first | apply And.intro | exact ⟨by kernel_rfl⟩ | apply DrawN.mk | apply CodeN.step hm rfl | exact trivial | exact rfl | (intro hh; try simp only [bs] at hh; try exact absurd hh (by decide)))); all_goals (conv => whnf)
    all_goals try exact Ob.mk (fun h => by rw [hk] at h; cases h)
    · refine ⟨⟨rfl, ?_, ?_⟩⟩
      · show i + 1 ≤ _
        omega
      · show (i + 1) * 8 ≤ _
        omega
    refine ldNext k (by rw [hk]; rfl) rfl ?_
    (repeat' ((conv => whnf); first | apply And.intro | exact ⟨by kernel_rfl⟩ | apply DrawN.mk | apply CodeN.step hm rfl | exact trivial | exact rfl | (intro hh; try simp only [bs] at hh; try exact absurd hh (by decide)))); all_goals (conv => whnf)
    refine ⟨i + 1, [0, 1], ⟨rfl, rfl, ?_, ?_⟩, by omega, by omega⟩
    · (repeat' ((conv => whnf) <;> first | exact rfl | exact trivial | exact Fw.Hp.like_refl _ | apply And.intro | exact Nat.zero_add _)); all_goals ((conv => whnf); try simp only [])
      rw [take_succ hk]
      simp [List.take_of_length_le, List.take_take]
    · (repeat' ((conv => whnf) <;> first | exact rfl | exact trivial | exact Fw.Hp.like_refl _ | apply And.intro | exact Nat.zero_add _)); all_goals ((conv => whnf); try simp only [])
      rw [hL i k hk]
end Go.Proofs.Ytafcenlbllmahaa.Wh
set_option linter.unusedVariables false
set_option linter.unusedSimpArgs false
namespace Go.Proofs.Ytafcenlbllmahaa.Wh
open Go Go.RowKit Fw
/-- The first row from f on that has something. -/
structure FirstRow (pos : Int → Option Nat) (f : Nat) (y : Option Nat) : Prop where
  some_ : ∀ k, y = some k → f ≤ k ∧ k < 64 ∧ (∃ id, pos id = some k) ∧ ∀ j, f ≤ j → j < k → ∀ id, pos id ≠ some j
  none_ : y = none → ∀ j, f ≤ j → j < 64 → ∀ id, pos id ≠ some j
theorem nextWM (w : Wl) (pos : Int → Option Nat) (hw : WRel w pos) (f : Nat) (hf : f ≤ 64) : Meets Try.prog 36 [WP, .int .i64 fun _ => (f : Int)] (chW w) (Y := Option Nat) (FirstRow pos f)
    (fun y => .tup [.int .i64 fun _ => ((y.getD 0 : Nat) : Int), .bool fun _ => y.isSome]) (fun _ => chW w) := by
  have hm0 := hw.mask0
  have hmn : w.mask = ((w.mask.toNat : Nat) : Int) := (Int.toNat_of_nonneg hm0.1).symm
  have hn := nextM w.mask.toNat f (by have : (2 : Nat) ^ 64 = 18446744073709551616 := rfl; omega) hf
  rw [← hmn] at hn
  have hbit : ∀ j, j < 64 → w.mask.toNat.testBit j = false → ∀ id, pos id ≠ some j := fun j hj hb id e => by
    have := (hw.bit hj).2 ⟨id, e⟩
    rw [hb] at this; cases this
  refine Meets.intro hm (fn := Try.f36) Try.func36 rfl (by decide) (Nat.le_of_ble_eq_true rfl) (fun _ => rfl) ?_; intro S hok; (conv => whnf)
  (repeat' ((conv => whnf); first | apply And.intro | exact ⟨by kernel_rfl⟩ | apply DrawN.mk | apply CodeN.step hm rfl | exact trivial | exact rfl | (intro hh; try simp only [bs] at hh; try exact absurd hh (by decide)))); all_goals (conv => whnf)
  (all_goals first | exact Ob.mk (fun h => by cases h) | exact Ob.mk ⟨(fun h => by cases h), by simp only []; omega, by simp only []; omega⟩ | skip)
  refine ldMask rfl rfl ?_
  (repeat' ((conv => whnf); first | apply And.intro | exact ⟨by kernel_rfl⟩ | apply DrawN.mk | apply CodeN.step hm rfl | exact trivial | exact rfl | (intro hh; try simp only [bs] at hh; try exact absurd hh (by decide)))); all_goals (conv => whnf)
  (refine CallN.q (hn) [] ?_; rintro y hy; (repeat' ((conv => whnf); first | apply And.intro | exact ⟨by kernel_rfl⟩ | apply DrawN.mk | apply CodeN.step hm rfl | exact trivial | exact rfl | (intro hh; try simp only [bs] at hh; try exact absurd hh (by decide)))); all_goals (conv => whnf); all_goals try exact ⟨by decide⟩)
  (refine RetN.q y [0] ?_ ?_ ?_ <;> (repeat' ((conv => whnf) <;> first | exact rfl | exact trivial | exact Fw.Hp.like_refl _ | apply And.intro | exact Nat.zero_add _)); all_goals ((conv => whnf); try simp only []))
  refine .mk (fun k e => ?_) (fun e => ?_)
  · subst e
    exact ⟨hy.ge, hy.lt, (hw.bit hy.lt).1 hy.one, fun j h1 h2 => hbit j (by have := hy.lt; omega) (hy.no j h1 h2)⟩
  · subst e
    exact fun j h1 h2 => hbit j h2 (hy j h1 h2)
set_option maxRecDepth 4000 in
theorem newM : Meets Try.prog 20 [] [] (Y := Wl) (fun w => WRel w fun _ => none)
    (fun _ => WP) chW := by
  refine Meets.intro hm (fn := Try.f20) Try.func20 rfl (by decide) (Nat.le_of_ble_eq_true rfl) (fun _ => rfl) ?_; intro S hok; (conv => whnf)
  (repeat' ((conv => whnf); first | apply And.intro | exact ⟨by kernel_rfl⟩ | apply DrawN.mk | apply CodeN.step hm rfl | exact trivial | exact rfl | (intro hh; try simp only [bs] at hh; try exact absurd hh (by decide)))); all_goals (conv => whnf)
  · exact ⟨by decide⟩
  (refine RetN.frz 1 ?_; (conv => whnf))
  refine RetN.heap0 (fun _ => .map [] 0) ?_
  (conv => whnf)
  refine RetN.absorbM 3 0 rfl (fun c => ⟨1, fun _ => .map [] c⟩) rfl rfl (fun c => ⟨rfl, fun j hj => ?_⟩) (fun c => ?_)
  · have : j = 0 := by change j < 1 at hj; omega
    subst this; exact HO.like_refl _
  (conv => whnf)
  refine RetN.absorb 3 2 rfl (hpW (wl0 c)) (wheelC (wl0 c)) rfl rfl (fun p v h => ?_) ?_ ?_
  · have h2 : (List.replicate 128 AV.pnil ++ [AV.hm 3 fun _ => 0, .lst (.int .u64) fun _ => [0]])[p]? = some v := h
    by_cases hp : p < 128
    · rw [List.getElem?_append_left (by simpa using hp)] at h2
      rw [List.getElem?_replicate, if_pos hp] at h2
      cases h2
      have e : wheelC (wl0 c) p = .hp none := by
        unfold wheelC wl0 pt
        rw [if_pos hp]
        simp
      rw [e]; exact .pnil
    · rw [List.getElem?_append_right (by simpa using hp)] at h2
      have hl := (List.getElem?_eq_some_iff.1 h2).1
      simp only [List.length_replicate, List.length_cons, List.length_nil] at hl h2
      obtain rfl | rfl : p = 128 ∨ p = 129 := by omega
      · cases h2; exact .eq (.hm 0)
      · cases h2; exact .eq (.dat (.list (.int .u64)) [0])
  · refine ⟨rfl, fun j hj => ?_⟩
    match j, hj with
    | 0, _ => exact HO.like_refl _
    | 1, _ => exact HO.like_refl _
    | j + 2, hj => exact absurd hj (by show ¬ (j + 2 < 0 + 2); omega)
  (conv => whnf)
  (refine RetN.q (wl0 c) [3] ?_ ?_ ?_ <;> (repeat' ((conv => whnf) <;> first | exact rfl | exact trivial | exact Fw.Hp.like_refl _ | apply And.intro | exact Nat.zero_add _)); all_goals ((conv => whnf); try simp only []))
  exact wrel0 c
end Go.Proofs.Ytafcenlbllmahaa.Wh
set_option linter.unusedVariables false
set_option linter.unusedSimpArgs false
namespace Go.Proofs.Ytafcenlbllmahaa.Ti
open Go Go.RowKit Fw Wh
def cmpI (x y : Int) : Int := if x < y then -1 else if y < x then 1 else 0
theorem isNaNM (x : Int) : Meets Try.prog 40 [.int .i64 fun _ => x] [] (Y := Unit) (fun _ => True) (fun _ => .bool fun _ => false) (fun _ => []) := by
  refine Meets.intro hm (fn := Try.f40) Try.func40 rfl (by decide) (Nat.le_of_ble_eq_true rfl) (fun _ => rfl) ?_; intro S hok; (conv => whnf)
  (repeat' ((conv => whnf); first | apply And.intro | exact ⟨by kernel_rfl⟩ | apply DrawN.mk | apply CodeN.step hm rfl | exact trivial | exact rfl | (intro hh; try simp only [bs] at hh; try exact absurd hh (by decide)))); all_goals (conv => whnf)
  (refine RetN.q () [] ?_ ?_ ?_ <;> (repeat' ((conv => whnf) <;> first | exact rfl | exact trivial | exact Fw.Hp.like_refl _ | apply And.intro | exact Nat.zero_add _)); all_goals ((conv => whnf); try simp only []))
  all_goals simp
theorem compareM (x y : Int) : Meets Try.prog 32 [.int .i64 fun _ => x, .int .i64 fun _ => y] [] (Y := Unit) (fun _ => True) (fun _ => .int .i64 fun _ => cmpI x y) (fun _ => []) := by
  refine Meets.intro hm (fn := Try.f32) Try.func32 rfl (by decide) (Nat.le_of_ble_eq_true rfl) (fun _ => rfl) ?_; intro S hok; (conv => whnf)
  (repeat' ((conv => whnf); first | apply And.intro | exact ⟨by kernel_rfl⟩ | apply DrawN.mk | apply CodeN.step hm rfl | exact trivial | exact rfl | (intro hh; try simp only [bs] at hh; try exact absurd hh (by decide)))); all_goals (conv => whnf)
  (refine CallN.q (isNaNM x) [] (fun _ _ => ?_); (repeat' ((conv => whnf); first | apply And.intro | exact ⟨by kernel_rfl⟩ | apply DrawN.mk | apply CodeN.step hm rfl | exact trivial | exact rfl | (intro hh; try simp only [bs] at hh; try exact absurd hh (by decide)))); all_goals (conv => whnf); all_goals try exact ⟨by decide⟩)
  (refine CallN.q (isNaNM y) [] (fun _ _ => ?_); (repeat' ((conv => whnf); first | apply And.intro | exact ⟨by kernel_rfl⟩ | apply DrawN.mk | apply CodeN.step hm rfl | exact trivial | exact rfl | (intro hh; try simp only [bs] at hh; try exact absurd hh (by decide)))); all_goals (conv => whnf); all_goals try exact ⟨by decide⟩)
  · (refine RetN.q () [] ?_ ?_ ?_ <;> (repeat' ((conv => whnf) <;> first | exact rfl | exact trivial | exact Fw.Hp.like_refl _ | apply And.intro | exact Nat.zero_add _)); all_goals ((conv => whnf); try simp only []))
    simp [cmpI, hh]
  · (refine RetN.q () [] ?_ ?_ ?_ <;> (repeat' ((conv => whnf) <;> first | exact rfl | exact trivial | exact Fw.Hp.like_refl _ | apply And.intro | exact Nat.zero_add _)); all_goals ((conv => whnf); try simp only []))
    rename_i h1
    simp [cmpI, hh, h1]
  · (refine RetN.q () [] ?_ ?_ ?_ <;> (repeat' ((conv => whnf) <;> first | exact rfl | exact trivial | exact Fw.Hp.like_refl _ | apply And.intro | exact Nat.zero_add _)); all_goals ((conv => whnf); try simp only []))
    rename_i h1
    simp [cmpI, hh, h1]
theorem orM (x y : Int) : Meets Try.prog 31 [.vec 0 1 (fun _ => 0) fun _ => 2] [.vect 3 (.int .i64) fun _ => [x, y]] (Y := Unit) (fun _ => True) (fun _ => .int .i64 fun _ => if x = 0 then y else x)
    (fun _ => [.vect 3 (.int .i64) fun _ => [x, y]]) := by
  refine Meets.intro hm (fn := Try.f31) Try.func31 rfl (by decide) (Nat.le_of_ble_eq_true rfl) (fun _ => rfl) ?_; intro S hok; (conv => whnf)
  (repeat' ((conv => whnf); first | apply And.intro | exact ⟨by kernel_rfl⟩ | apply DrawN.mk | apply CodeN.step hm rfl | exact trivial | exact rfl | (intro hh; try simp only [bs] at hh; try exact absurd hh (by decide)))); all_goals (conv => whnf)
  refine LoopN.intro hm (X := Nat) (fun i => i ≤ 2 ∧ (1 ≤ i → x = 0) ∧ (2 ≤ i → y = 0)) (fun i => 2 - i)
    (fun i => [(3, .int .i64 fun _ => 0), (6, .vec 0 1 (fun _ => 0) fun _ => 2), (7, .int .i64 fun _ => 2), (8, .int .i64 fun _ => (i : Int))])
    (fun i => [.vect 3 (.int .i64) fun _ => [x, y]]) 0 [0] ⟨rfl, rfl, ?_, ?_⟩ ⟨by omega, by omega, by omega⟩ ?_
  · (repeat' ((conv => whnf) <;> first | exact rfl | exact trivial | exact Fw.Hp.like_refl _ | apply And.intro | exact Nat.zero_add _))
  · (repeat' ((conv => whnf) <;> first | exact rfl | exact trivial | exact Fw.Hp.like_refl _ | apply And.intro | exact Nat.zero_add _)); all_goals ((conv => whnf); try simp only [])
  · intro i hi
    obtain ⟨h1, h2, h3⟩ := hi
    have e0 : [x, y].getD 0 (Ty.int .i64).dflt = x := rfl
    have e1 : [x, y].getD 1 (Ty.int .i64).dflt = y := rfl
    obtain rfl | rfl | rfl : i = 0 ∨ i = 1 ∨ i = 2 := by omega
    · (repeat' ((conv => whnf); first | apply And.intro | exact ⟨by kernel_rfl⟩ | apply DrawN.mk | apply CodeN.step hm rfl | exact trivial | exact rfl | (intro hh; try simp only [bs] at hh; try exact absurd hh (by decide)))); all_goals (conv => whnf)
      · exact ⟨by simp⟩
      · (refine RetN.q () [0] ?_ ?_ ?_ <;> (repeat' ((conv => whnf) <;> first | exact rfl | exact trivial | exact Fw.Hp.like_refl _ | apply And.intro | exact Nat.zero_add _)); all_goals ((conv => whnf); try simp only []))
        change x ≠ 0 at hh
        simp [hh, e0]
      · change x = 0 at hh
        refine ⟨1, [0], ⟨rfl, rfl, ?_, ?_⟩, ⟨by omega, fun _ => hh, by omega⟩, by omega⟩
        · (repeat' ((conv => whnf) <;> first | exact rfl | exact trivial | exact Fw.Hp.like_refl _ | apply And.intro | exact Nat.zero_add _)); all_goals ((conv => whnf); try simp only [])
        · (repeat' ((conv => whnf) <;> first | exact rfl | exact trivial | exact Fw.Hp.like_refl _ | apply And.intro | exact Nat.zero_add _)); all_goals ((conv => whnf); try simp only [])
    · have hx := h2 (by omega)
      (repeat' ((conv => whnf); first | apply And.intro | exact ⟨by kernel_rfl⟩ | apply DrawN.mk | apply CodeN.step hm rfl | exact trivial | exact rfl | (intro hh; try simp only [bs] at hh; try exact absurd hh (by decide)))); all_goals (conv => whnf)
      · exact ⟨by simp⟩
      · (refine RetN.q () [0] ?_ ?_ ?_ <;> (repeat' ((conv => whnf) <;> first | exact rfl | exact trivial | exact Fw.Hp.like_refl _ | apply And.intro | exact Nat.zero_add _)); all_goals ((conv => whnf); try simp only []))
        simp [hx, e1]
      · change y = 0 at hh
        refine ⟨2, [0], ⟨rfl, rfl, ?_, ?_⟩, ⟨by omega, fun _ => hx, fun _ => hh⟩, by omega⟩
        · (repeat' ((conv => whnf) <;> first | exact rfl | exact trivial | exact Fw.Hp.like_refl _ | apply And.intro | exact Nat.zero_add _)); all_goals ((conv => whnf); try simp only [])
        · (repeat' ((conv => whnf) <;> first | exact rfl | exact trivial | exact Fw.Hp.like_refl _ | apply And.intro | exact Nat.zero_add _)); all_goals ((conv => whnf); try simp only [])
    · (repeat' ((conv => whnf); first | apply And.intro | exact ⟨by kernel_rfl⟩ | apply DrawN.mk | apply CodeN.step hm rfl | exact trivial | exact rfl | (intro hh; try simp only [bs] at hh; try exact absurd hh (by decide)))); all_goals (conv => whnf)
      all_goals try exact absurd hh (by decide)
      (refine RetN.q () [0] ?_ ?_ ?_ <;> (repeat' ((conv => whnf) <;> first | exact rfl | exact trivial | exact Fw.Hp.like_refl _ | apply And.intro | exact Nat.zero_add _)); all_goals ((conv => whnf); try simp only []))
      simp [h2 (by omega), h3 (by omega)]
/-! ### the map of what is due -/
def dueE (es : List (Nat × Int × Int)) : List (Nat × Int × HV) := es.map fun e => (e.1, e.2.1, .dat (.int .i64) e.2.2)
def hpD (es : List (Nat × Int × Int)) (c : Nat) : Hp := ⟨1, fun _ => .map (dueE es) c⟩
def dueOf (es : List (Nat × Int × Int)) (id : Int) : Int := (getH es id).getD 0
def cmpT (es : List (Nat × Int × Int)) (a b : Int) : Int := if cmpI (dueOf es a) (dueOf es b) = 0 then cmpI a b else cmpI (dueOf es a) (dueOf es b)
theorem getH_due (es : List (Nat × Int × Int)) (n : Int) : getH (dueE es) n = (getH es n).map fun d => HV.dat (.int .i64) d := by
  induction es with
  | nil => rfl
  | cons e r ih =>
    obtain ⟨b, k, x⟩ := e
    simp only [dueE, List.map_cons, getH]
    split
    · rfl
    · exact ih
theorem lkDue {P : Program} {t i c : Nat} {es : List (Nat × Int × Int)} {K : AV → Prop} {g : Unit → Nat} {n : Unit → Int} (hz : mapZ P t = some (.int .i64 0)) (hg : g () = 0)
    (k : K (.int .i64 fun _ => dueOf es (n ()))) : LkH P t false i (fun _ => hpD es c) g n K :=
  ⟨dueE es, c, _, rfl, hz, fun v hv => by
    rw [getH_due] at hv
    cases h : getH es (n ()) with
    | none => rw [h] at hv; cases hv
    | some d => rw [h] at hv; cases hv; have e : dueOf es (n ()) = d := by simp [dueOf, h]
                rw [e] at k; exact k, fun hv => by
    rw [getH_due] at hv
    cases h : getH es (n ()) with
    | none => have e : dueOf es (n ()) = 0 := by simp [dueOf, h]
              rw [e] at k; exact k
    | some d => rw [h] at hv; cases hv⟩
theorem lkDue2 {P : Program} {t i c : Nat} {es : List (Nat × Int × Int)} {K : AV → Prop} {g : Unit → Nat} {n : Unit → Int} (hz : mapZ P t = some (.int .i64 0)) (hg : g () = 0)
    (k1 : ∀ d, getH es (n ()) = some d → K (.tup [.int .i64 fun _ => d, .tt])) (k0 : getH es (n ()) = none → K (.tup [.int .i64 fun _ => 0, .ff])) : LkH P t true i (fun _ => hpD es c) g n K :=
  ⟨dueE es, c, _, rfl, hz, fun v hv => by
    rw [getH_due] at hv
    cases h : getH es (n ()) with
    | none => rw [h] at hv; cases hv
    | some d => rw [h] at hv; cases hv; exact k1 d h, fun hv => by
    rw [getH_due] at hv
    cases h : getH es (n ()) with
    | none => exact k0 h
    | some d => rw [h] at hv; cases hv⟩
/-- The timer, told at rest: what the closure reads of it. -/
abbrev TR : AV := .cptr [.undef, .hm 1 fun _ => 0, .undef, .undef, .undef, .undef, .undef, .undef] 0
theorem closeM (es : List (Nat × Int × Int)) (c : Nat) (a b : Int) : Meets Try.prog 30 [.int .i64 fun _ => a, .int .i64 fun _ => b, .cptr [TR] 0] [.none, .heap fun _ => hpD es c] (Y := Unit) (fun _ => True) (fun _ => .int .i64 fun _ => cmpT es a b)
    (fun _ => [.none, .heap fun _ => hpD es c]) := by
  refine Meets.intro hm (fn := Try.f30) Try.func30 rfl (by decide) (Nat.le_of_ble_eq_true rfl) (fun _ => rfl) ?_; intro S hok; (conv => whnf)
  (repeat' ((conv => whnf); first | apply And.intro | exact ⟨by kernel_rfl⟩ | apply DrawN.mk | apply CodeN.step hm rfl | exact trivial | exact rfl | (intro hh; try simp only [bs] at hh; try exact absurd hh (by decide)))); all_goals (conv => whnf)
  refine lkDue rfl rfl ?_
  (repeat' ((conv => whnf); first | apply And.intro | exact ⟨by kernel_rfl⟩ | apply DrawN.mk | apply CodeN.step hm rfl | exact trivial | exact rfl | (intro hh; try simp only [bs] at hh; try exact absurd hh (by decide)))); all_goals (conv => whnf)
  refine lkDue rfl rfl ?_
  (repeat' ((conv => whnf); first | apply And.intro | exact ⟨by kernel_rfl⟩ | apply DrawN.mk | apply CodeN.step hm rfl | exact trivial | exact rfl | (intro hh; try simp only [bs] at hh; try exact absurd hh (by decide)))); all_goals (conv => whnf)
  (refine CallN.q (compareM (dueOf es a) (dueOf es b)) [] (fun _ _ => ?_); (repeat' ((conv => whnf); first | apply And.intro | exact ⟨by kernel_rfl⟩ | apply DrawN.mk | apply CodeN.step hm rfl | exact trivial | exact rfl | (intro hh; try simp only [bs] at hh; try exact absurd hh (by decide)))); all_goals (conv => whnf); all_goals try exact ⟨by decide⟩)
  all_goals ((refine CallN.q (compareM a b) [] (fun _ _ => ?_); (repeat' ((conv => whnf); first | apply And.intro | exact ⟨by kernel_rfl⟩ | apply DrawN.mk | apply CodeN.step hm rfl | exact trivial | exact rfl | (intro hh; try simp only [bs] at hh; try exact absurd hh (by decide)))); all_goals (conv => whnf); all_goals try exact ⟨by decide⟩))
  (refine CallN.q (orM (cmpI (dueOf es a) (dueOf es b)) (cmpI a b)) [2] (fun _ _ => ?_); (repeat' ((conv => whnf); first | apply And.intro | exact ⟨by kernel_rfl⟩ | apply DrawN.mk | apply CodeN.step hm rfl | exact trivial | exact rfl | (intro hh; try simp only [bs] at hh; try exact absurd hh (by decide)))); all_goals (conv => whnf); all_goals try exact ⟨by decide⟩)
  (refine RetN.q () [0, 1] ?_ ?_ ?_ <;> (repeat' ((conv => whnf) <;> first | exact rfl | exact trivial | exact Fw.Hp.like_refl _ | apply And.intro | exact Nat.zero_add _)); all_goals ((conv => whnf); try simp only []))
end Go.Proofs.Ytafcenlbllmahaa.Ti
set_option linter.unusedVariables false
set_option linter.unusedSimpArgs false
namespace Go.Proofs.Ytafcenlbllmahaa.Fw
open Go Go.RowKit Go.Sort Go.Shelf
/-- A world that has grown, as the kit says it. -/
theorem grow_of {W w' : World} (hos : w'.os = W.os) (ht : w'.tape = W.tape) (ho : Outs W w') (hs : W.heap.size ≤ w'.heap.size) (hk : ∀ b, b < W.heap.size → w'.heap[b]? = W.heap[b]?) : ∃ q os, w' = grow (W.drewN q) os := by
  refine ⟨w'.drawn - W.drawn, w'.heap.extract W.heap.size w'.heap.size, ?_⟩
  have hh : w'.heap = W.heap ++ w'.heap.extract W.heap.size w'.heap.size := by
    apply Array.ext_getElem?
    intro b
    by_cases hb : b < W.heap.size
    · rw [hk b hb, Array.getElem?_append_left hb]
    · rw [Array.getElem?_append_right (by omega), Array.getElem?_extract]
      by_cases hb2 : b < w'.heap.size
      · rw [if_pos (by omega), show W.heap.size + (b - W.heap.size) = b by omega]
      · rw [if_neg (by omega), Array.getElem?_eq_none (by omega)]
  have hd : w'.drawn = W.drawn + (w'.drawn - W.drawn) := by have := ho.d; omega
  obtain ⟨heap, tape, drawn, os, output⟩ := w'
  simp only [grow, World.drewN]
  simp only [] at hos ht hh hd
  congr 1
  exact ho.o
theorem Outs.drewN (w : World) (n : Nat) : Outs w (w.drewN n) := ⟨rfl, Nat.le_add_right _ _⟩
theorem mapBlock_other {w : World} {blk b : Nat} (f : Array Value → Array Value) (h : b ≠ blk) : (mapBlock w blk f).heap[b]? = w.heap[b]? := by
  unfold mapBlock; simp only [Array.getElem?_modify]; rw [if_neg (fun e => h e.symm)]
theorem mapBlock_at {w : World} {blk : Nat} (f : Array Value → Array Value) {vs : Array Value} {T : TypeId} {fr : Nat × Nat} (h : w.heap[blk]? = some (.cells vs T fr)) : (mapBlock w blk f).heap[blk]? = some (.cells (f vs) T fr) := by
  unfold mapBlock; simp only [Array.getElem?_modify, h, if_true]; rfl
theorem mapBlock_size (w : World) (blk : Nat) (f : Array Value → Array Value) : (mapBlock w blk f).heap.size = w.heap.size := by
  unfold mapBlock; simp
theorem Grown.grow (w : World) (os : Array Obj) : Grown w (grow w os) :=
  ⟨rfl, rfl, ⟨rfl, Nat.le_refl _⟩, by show w.heap.size ≤ (w.heap ++ os).size; simp, fun b hb => by show (w.heap ++ os)[b]? = _; rw [Array.getElem?_append_left hb]⟩
theorem WSet.putRow {w : World} {blk : Nat} {vs : Array Value} {T : TypeId} (n : Nat) {α : Type} [Inhabited α] (enc : α → Value) (d : Array α) (h : w.heap[blk]? = some (.cells vs T (0, 0))) :
    WSet w (putRow enc (Sort.ahead w n) blk 0 d) blk (.cells (putCells enc 0 d vs) T (0, 0)) :=
  ⟨rfl, rfl, ⟨rfl, Nat.le_add_right _ _⟩, mapBlock_size _ _ _, mapBlock_at (w := Sort.ahead w n) _ h, fun k hk => mapBlock_other (w := Sort.ahead w n) _ hk⟩
theorem putCells_get (xs : List Int) (vs : Array Value) (k : Nat) : (putCells (Value.int .i64) 0 xs.toArray vs)[k]? = if k < xs.length then (vs[k]?.map fun _ => Value.int .i64 (xs.getD k 0)) else vs[k]? := by
  unfold putCells
  rw [Array.getElem?_mapIdx]
  by_cases hk : k < xs.length
  · rw [if_pos hk]
    cases vs[k]? with
    | none => rfl
    | some v =>
      simp only [Option.map_some]
      rw [if_pos ⟨Nat.zero_le _, by simpa using hk⟩]
      congr 2
      simp [hk]
  · rw [if_neg hk]
    cases vs[k]? with
    | none => rfl
    | some v => simp only [Option.map_some]; rw [if_neg (by simp; omega)]
theorem drop_take1 {α : Type} {l : List α} {k : Nat} {v : α} (h : l[k]? = some v) : (l.drop k).take 1 = [v] := by
  obtain ⟨hk, rfl⟩ := List.getElem?_eq_some_iff.1 h
  rw [List.drop_eq_getElem_cons hk]; rfl
/-- The ints of a chunk that a slice's row holds, written anew. -/
theorem sat_ints {g : Gh} {i : Nat} {w w' : World} {T : TypeId} {xs ys : List Int} {vs : Array Value} {cap : Nat} (h : (Chunk.row T (.int .i64) fun _ => xs).sat g i w) (hV : g.V i = some cap) (hb : w.heap[g.B i]? = some (.cells vs T (0, 0)))
    (hl : ys.length = xs.length) (hw : w'.heap[g.B i]? = some (.cells (putCells (Value.int .i64) 0 ys.toArray vs) T (0, 0))) : (Chunk.row T (.int .i64) fun _ => ys).sat g i w' := by
  obtain ⟨h1, h2, h3⟩ := h
  refine ⟨hl.trans h1, fun e => (by rw [hV] at e; cases e), fun c hc => ?_⟩
  rw [hV] at hc; cases hc
  obtain ⟨vs', e1, e2, e3, e4⟩ := h3 cap hV
  have e3 : xs.length ≤ cap := e3
  rw [hb] at e1
  cases e1
  have hs : Ty.size (.int .i64) = 1 := rfl
  rw [hs] at e2
  refine ⟨_, hw, ?_, by rw [hl]; exact e3, fun k x hk => ?_⟩
  · rw [hs]; unfold putCells; simp; omega
  · have hk1 : k < ys.length := (List.getElem?_eq_some_iff.1 hk).1
    have hk2 : k < vs.size := by omega
    have hg := putCells_get ys vs k
    rw [if_pos hk1, Array.getElem?_eq_getElem hk2] at hg
    have hx : ys.getD k 0 = x := by rw [List.getD_eq_getElem?_getD, hk]; rfl
    rw [hx] at hg
    rw [hs, Nat.mul_one]
    rw [drop_take1 (by rw [Array.getElem?_toList]; exact hg)]
    exact ⟨.int .i64 (fun _ => x), trivial⟩

theorem Sim.none0 {g : Gh} {c : Chunk} {D : List Chunk} {w : World} (h : Sim g (c :: D) w) : Sim g (.none :: D) w := by
  refine ⟨h.len, h.phi, fun i => ?_, fun i j b hi hj => ?_, fun i b hi => ?_⟩
  · match i with
    | 0 => trivial
    | i + 1 => exact h.sat (i + 1)
  · match i, j, hi, hj with
    | 0, _, hi, _ => exact hi.elim
    | _ + 1, 0, _, hj => exact hj.elim
    | i + 1, j + 1, hi, hj => exact h.dis (i + 1) (j + 1) b hi hj
  · match i, hi with
    | 0, hi => exact hi.elim
    | i + 1, hi => exact h.dphi (i + 1) b hi
section
variable {P : Program} {ρ : Ren}
def ltF (cf : Int → Int → Int) (x y : Int) : Bool := decide (cf x y < 0)
/-- slices.SortFunc on a slice of ints, with a closure that reads. -/
theorem sortMeets (L : SlLaysF.n6 P ρ) (T : TypeId) {gf : FuncId} {caps : List AV} {D : List Chunk} {cf : Int → Int → Int} (hO : SWO (ltOf cf)) (hT : ∀ x y, ltOf cf x y = false → ltOf cf y x = false → x = y)
    (hcl : ∀ (g : Gh) (W : World) (ws : List Value), Sim g (.none :: D) W → RL g caps ws → ∀ x y : Int, Calls P gf (#[Value.int .i64 x, Value.int .i64 y] ++ ws.toArray) W fun e w' => e = .returned (.int .i64 (cf x y)) ∧ ∃ q os', w' = grow (W.drewN q) os')
    (eg : ∀ args w, (callFunc gf args).run P w = .ok (.enter gf args) w) (hcall : Callable P (ρ.f 6)) (hD : ∀ c ∈ D, ∀ T t xs, c ≠ .vect T t xs) (xs : List Int) (hn : xs.length < 4611686018427387904) :
    Meets P (ρ.f 6) [.vec 0 1 (fun _ => 0) fun _ => xs.length, .fn (.func gf) [] caps] (.row T (.int .i64) (fun _ => xs) :: D) (Y := Unit) (fun _ => True) (fun _ => .tup [])
      (fun _ => .row T (.int .i64) (fun _ => xs.mergeSort fun x y => !(ltOf cf) y x) :: D) where
  callable := hcall
  h := by
    intro g w vals hS hr
    match vals, hr with
    | [v0, v1], hr =>
    obtain ⟨h0, h1, _⟩ := hr
    cases h1 with
    | fn f az bs vs ws hl hl' hr1 hr2 =>
    obtain rfl : vs = #[] := by apply Array.eq_empty_of_size_eq_zero; simpa using hl.symm
    have hE0 : getE (.row T (.int .i64) (fun _ => xs) :: D) 0 = .row T (.int .i64) fun _ => xs := rfl
    have hs0 := hS.sat 0
    rw [hE0] at hs0
    have hlen : (xs.mergeSort fun x y => !(ltOf cf) y x).length = xs.length := List.length_mergeSort _
    have hrl : RL g caps ws.toList := RL.mk (by simpa using hl') fun i y u hy hu => hr2 i y u hy (by simpa using hu)
    cases h0 with
    | vec i sz off n A c hi hL hnone hsome =>
    have hER : ER g [] #[] := fun t => by
      have : look [] t = .undef := rfl
      rw [this]; exact .undef _
    have hI := Inv.start hS hER
    cases hV : g.V 0 with
    | none =>
      obtain ⟨rfl, hn0, rfl, _⟩ := hnone hV
      have hx : xs = [] := List.length_eq_zero_iff.1 hn0
      subst hx
      refine (AnyF.slices_SortFunc_none (P := P) (ρ := ρ) { L with } none 0 (.func (.func gf) #[] ws) w).mono ?_
      rintro e w' ⟨rfl, rfl⟩
      have hmn : ([] : List Int).mergeSort (fun x y => !(ltOf cf) y x) = [] := List.mergeSort_nil
      exact ⟨(), _, g, trivial, rfl, .tup _ _ rfl (by simp), by rw [hmn]; exact hS, by rw [hmn]; exact hI.ext⟩
    | some cap =>
      obtain ⟨h4, h5, h6, h7, h8⟩ := hsome cap hV
      have hA := h7 (.inr rfl)
      subst hA
      obtain ⟨s1, s2, s3⟩ := hs0
      obtain ⟨vs, e1, e2, e3, e4⟩ := s3 cap hV
      have hblk : (getE (.row T (.int .i64) (fun _ => xs) :: D) 0).own g 0 (g.B 0) := by rw [hE0]; exact ⟨by rw [hV]; simp, rfl⟩
      have e3 : xs.length ≤ cap := e3
      have e2 : vs.size = cap := by simpa [Ty.size] using e2
      have hget : ∀ (k : Nat) (x : Int), xs[k]? = some x → vs[k]? = some (Value.int .i64 x) := fun k x hk => by
        have := e4 k x hk
        have hk1 : k < xs.length := (List.getElem?_eq_some_iff.1 hk).1
        have hk2 : k < vs.size := by omega
        rw [show Ty.size (Ty.int .i64) = 1 from rfl, Nat.mul_one, drop_take1 (v := vs[k]) (by simp [hk2])] at this
        have h9 := this.1
        rw [Array.getElem?_eq_getElem hk2]
        generalize vs[k] = u at h9
        cases h9; rfl
      have hlt := lt_heap e1
      have hH : Holds (Value.int .i64) w (g.B 0) 0 xs.toArray := fun j hj => by
        have hj' : j < xs.length := by simpa using hj
        have hj2 : j < vs.size := by omega
        refine ⟨?_, ?_⟩
        · have h9 := hget j (xs[j]) (List.getElem?_eq_getElem hj')
          have h10 : xs.toArray[j]! = xs[j] := by simp [hj']
          rw [h10]
          unfold World.cell?
          rw [e1]
          simpa using h9
        · unfold World.frozen?
          rw [e1]
          simp
      have hcmp : CmpLays1 P gf ws (Value.int .i64) cf (g.B 0) 0 xs.toArray.size w := fun m os dk hdk x y => by
        have hS2 : Sim g (.none :: D) (sortWorld (Value.int .i64) w (g.B 0) 0 m dk os) := by
          have hI2 := hI.set (c := .row T (.int .i64) fun _ => dk.toList) hblk (WSet.putRow m (Value.int .i64) dk e1)
            (sat_ints (ys := dk.toList) (hS.sat 0) hV e1 (by simpa using hdk) (mapBlock_at (w := Sort.ahead w m) (putCells (Value.int .i64) 0 dk) e1)) ⟨by rw [hV]; simp, rfl⟩ (fun T' t' xs' hc => by cases hc)
          exact Sim.none0 (hI2.sim.grown (Grown.grow _ os))
        have := hcl g _ ws.toList hS2 hrl x y
        simpa using this
      refine (Any.slices_SortFunc_total L (Value.int .i64) (fun _ => rfl) cf hO gf ws (g.B 0) 0 c xs.toArray w eg hcmp hH hlt (by simpa using hn) hT).mono ?_
      rintro e w' ⟨rfl, n, os, rfl⟩
      have hI2 := hI.set (c := .row T (.int .i64) fun _ => xs.mergeSort fun x y => !(ltOf cf) y x) hblk (WSet.putRow n (Value.int .i64) (xs.mergeSort fun x y => !(ltOf cf) y x).toArray e1) (sat_ints (hS.sat 0) hV e1 hlen (mapBlock_at (w := Sort.ahead w n) _ e1)) ⟨by rw [hV]; simp, rfl⟩ (fun T' t' xs' hc => by cases hc)
      exact ⟨(), _, g, trivial, rfl, .tup _ _ rfl (by simp), hI2.sim.grown (Grown.grow _ os), hI2.ext.grow (Grown.grow _ os)⟩
end
end Go.Proofs.Ytafcenlbllmahaa.Fw
namespace Go.Proofs.Ytafcenlbllmahaa.Lay
open Go Go.Shelf
def sortInt_ren : Go.Shelf.Ren := ⟨fun | 6 => 29 | 15 => 39 | 14 => 38 | 28 => 52 | 29 => 53 | 20 => 44 | 21 => 45 | 22 => 46 | 23 => 47 | 24 => 48 | 25 => 49 | 26 => 50 | 27 => 51 | 46 => 56 | 47 => 57 | 48 => 58 | 49 => 59 | 50 => 60 | 57 => 63 | n => n, fun | 22 => 39 | 24 => 3 | 25 => 61 | 3 => 3 | 39 => 75 | 0 => 0 | 53 => 89 | 55 => 91 | 4 => 4 | 46 => 83 | 45 => 82 | 50 => 43 | 5 => 5 | 9 => 9 | 66 => 95 | 70 => 99 | 76 => 103 | 77 => 104 | n => n, fun | n => n⟩
theorem sortInt : Go.Proofs.SlLaysF.n6 Try.prog sortInt_ren := {
  mixed := by kernel_rfl
  f6 := ⟨Try.f29.name, by decide, Try.func29.trans (congrArg some (by kernel_rfl))⟩
  f14 := ⟨Try.f38.name, by decide, Try.func38.trans (congrArg some (by kernel_rfl))⟩
  f15 := Try.func39.trans (congrArg some (by kernel_rfl))
  f20 := ⟨Try.f44.name, by decide, Try.func44.trans (congrArg some (by kernel_rfl))⟩
  f21 := ⟨Try.f45.name, by decide, Try.func45.trans (congrArg some (by kernel_rfl))⟩
  f22 := ⟨Try.f46.name, by decide, Try.func46.trans (congrArg some (by kernel_rfl))⟩
  f23 := ⟨Try.f47.name, by decide, Try.func47.trans (congrArg some (by kernel_rfl))⟩
  f24 := ⟨Try.f48.name, by decide, Try.func48.trans (congrArg some (by kernel_rfl))⟩
  f25 := ⟨Try.f49.name, by decide, Try.func49.trans (congrArg some (by kernel_rfl))⟩
  f26 := ⟨Try.f50.name, by decide, Try.func50.trans (congrArg some (by kernel_rfl))⟩
  f27 := ⟨Try.f51.name, by decide, Try.func51.trans (congrArg some (by kernel_rfl))⟩
  f28 := Try.func52.trans (congrArg some (by kernel_rfl))
  f29 := Try.func53.trans (congrArg some (by kernel_rfl))
  f46 := ⟨Try.f56.name, by decide, Try.func56.trans (congrArg some (by kernel_rfl))⟩
  f47 := Try.func57.trans (congrArg some (by kernel_rfl))
  f48 := Try.func58.trans (congrArg some (by kernel_rfl))
  f49 := ⟨Try.f59.name, by decide, Try.func59.trans (congrArg some (by kernel_rfl))⟩
  f50 := ⟨Try.f60.name, by decide, Try.func60.trans (congrArg some (by kernel_rfl))⟩
  f57 := ⟨Try.f63.name, by decide, Try.func63.trans (congrArg some (by kernel_rfl))⟩
  t0 := Try.underlying0
  a0 := Try.isAgg0
  z0 := Try.sizeOf0
  v0 := Try.zeroValue0
  t3 := Try.underlying3
  a3 := Try.isAgg3
  z3 := Try.sizeOf3
  v3 := Try.zeroValue3
  t4 := Try.underlying4
  a4 := Try.isAgg4
  z4 := Try.sizeOf4
  v4 := Try.zeroValue4
  t5 := Try.underlying5
  a5 := Try.isAgg5
  z5 := Try.sizeOf5
  v5 := Try.zeroValue5
  t9 := Try.underlying9
  a9 := Try.isAgg9
  z9 := Try.sizeOf9
  v9 := Try.zeroValue9
  t22 := Try.underlying39
  a22 := Try.isAgg39
  z22 := Try.sizeOf39
  v22 := Try.zeroValue39
  a24 := Try.isAgg3
  z24 := Try.sizeOf3
  t25 := Try.underlying61
  a25 := Try.isAgg61
  z25 := Try.sizeOf61
  v25 := Try.zeroValue61
  t39 := Try.underlying75
  a39 := Try.isAgg75
  z39 := Try.sizeOf75
  v39 := Try.zeroValue75
  t45 := Try.underlying82
  a45 := Try.isAgg82
  z45 := Try.sizeOf82
  v45 := Try.zeroValue82
  t46 := Try.underlying83
  a46 := Try.isAgg83
  z46 := Try.sizeOf83
  v46 := Try.zeroValue83
  t50 := Try.underlying43
  a50 := Try.isAgg43
  z50 := Try.sizeOf43
  v50 := Try.zeroValue43
  t53 := Try.underlying89
  a53 := Try.isAgg89
  z53 := Try.sizeOf89
  v53 := Try.zeroValue89
  t55 := Try.underlying91
  a55 := Try.isAgg91
  z55 := Try.sizeOf91
  v55 := Try.zeroValue91
  t66 := Try.underlying95
  a66 := Try.isAgg95
  z66 := Try.sizeOf95
  v66 := Try.zeroValue95
  t70 := Try.underlying99
  a70 := Try.isAgg99
  z70 := Try.sizeOf99
  v70 := Try.zeroValue99
  t76 := Try.underlying103
  a76 := Try.isAgg103
  z76 := Try.sizeOf103
  v76 := Try.zeroValue103
  t77 := Try.underlying104
  a77 := Try.isAgg104
  z77 := Try.sizeOf104
  v77 := Try.zeroValue104 }
end Go.Proofs.Ytafcenlbllmahaa.Lay
set_option linter.unusedVariables false
set_option linter.unusedSimpArgs false
namespace Go.Proofs.Ytafcenlbllmahaa.Ti
open Go Go.RowKit Fw Wh Go.Sort
theorem EntR_eq {g g' : Gh} {i : Nat} : ∀ {es : List (Nat × Int × Int)} {a b : List MapEntry}, EntR g i (dueE es) a → EntR g' i (dueE es) b → a = b
  | [], [], [], _, _ => rfl
  | e :: r, x :: a, y :: b, h, h' => by
    obtain ⟨h1, h2, h3, h4⟩ := h
    obtain ⟨h1', h2', h3', h4'⟩ := h'
    have hv : x.val = y.val := by
      change R g (.int .i64 fun _ => e.2.2) x.val at h3
      change R g' (.int .i64 fun _ => e.2.2) y.val at h3'
      generalize x.val = u at h3 ⊢
      generalize y.val = v at h3' ⊢
      cases h3; cases h3'; rfl
    have : x = y := by
      obtain ⟨k, v, n⟩ := x
      obtain ⟨k', v', n'⟩ := y
      simp only [] at h1 h2 h1' h2' hv
      rw [h1, h1', h2, h2', hv]
    rw [this, EntR_eq h4 h4']
  | [], x :: a, _, h, _ => h.elim
  | [], [], y :: b, _, h => h.elim
  | _ :: _, [], _, h, _ => h.elim
  | _ :: _, _ :: _, [], _, h => h.elim
theorem exactD {f : FuncId} {args : List AV} {es : List (Nat × Int × Int)} {c : Nat} {n : Int} (hM : Meets Try.prog f args [.none, .heap fun _ => hpD es c] (Y := Unit) (fun _ => True) (fun _ => .int .i64 fun _ => n) (fun _ => [.none, .heap fun _ => hpD es c]))
    {g : Gh} {W : World} {vals : List Value} (hS : Sim g [.none, .heap fun _ => hpD es c] W) (hr : RL g args vals) : Calls Try.prog f vals.toArray W fun e w' => e = .returned (.int .i64 n) ∧ ∃ q os', w' = grow (W.drewN q) os' := by
  refine (hM.h g W vals hS hr).mono ?_
  rintro e w' ⟨_, v, g', _, rfl, hv, hS', hx⟩
  cases hv
  refine ⟨rfl, grow_of hx.os hx.tape hx.output hx.size fun b hb => ?_⟩
  by_cases ho : (⟨g, [.none, .heap fun _ => hpD es c], W⟩ : Base).owns b
  · obtain ⟨i, hi⟩ := ho
    match i, hi with
    | 0, hi => exact hi.elim
    | i + 2, hi => exact hi.elim
    | 1, hi =>
      obtain ⟨k, hk, rfl⟩ := hi
      have hs := hS.sat 1
      have hs' := hS'.sat 1
      obtain ⟨m1, m2, m3⟩ := hs
      obtain ⟨m1', m2', m3'⟩ := hs'
      have hk0 : k = 0 := by
        have : g.M 1 = 1 := m1
        change k < g.M 1 at hk
        omega
      subst hk0
      have hk' : 0 < g'.M 1 := by rw [m1']; exact Nat.one_pos
      obtain ⟨ob, h1, h2⟩ := m3 0 hk
      obtain ⟨ob', h1', h2'⟩ := m3' 0 hk'
      have hw : g'.W 1 0 = g.W 1 0 := hx.idw 1 0 rfl hk
      show w'.heap[g.W 1 0]? = _
      rw [h1, ← hw, h1']
      obtain ⟨ms, rfl, h3⟩ := h2
      obtain ⟨ms', rfl, h3'⟩ := h2'
      have := EntR_eq h3 h3'
      rw [show ms = ms' from Array.ext' this]
  · exact hx.keep b hb ho
theorem cmpI_neg (x y : Int) : (cmpI x y < 0) ↔ x < y := by
  unfold cmpI; split
  · simp [*]
  · split <;> simp [*] <;> omega
theorem cmpI_zero (x y : Int) : (cmpI x y = 0) ↔ x = y := by
  unfold cmpI; split
  · constructor <;> intro h <;> omega
  · split
    · constructor <;> intro h <;> omega
    · constructor <;> intro h <;> omega
theorem ltT (es : List (Nat × Int × Int)) (a b : Int) : ltOf (cmpT es) a b = true ↔ dueOf es a < dueOf es b ∨ (dueOf es a = dueOf es b ∧ a < b) := by
  unfold ltOf cmpT
  rw [decide_eq_true_eq]
  by_cases h : dueOf es a = dueOf es b
  · rw [if_pos ((cmpI_zero _ _).2 h), cmpI_neg]
    constructor
    · exact fun h2 => .inr ⟨h, h2⟩
    · rintro (h2 | h2) <;> omega
  · rw [if_neg (fun e => h ((cmpI_zero _ _).1 e)), cmpI_neg]
    constructor
    · exact .inl
    · rintro (h2 | h2) <;> omega
theorem swoT (es : List (Nat × Int × Int)) : SWO (ltOf (cmpT es)) where
  irrefl x := by
    cases h : ltOf (cmpT es) x x with
    | false => rfl
    | true => have := (ltT es x x).1 h; omega
  trans x y z h1 h2 := by
    rw [ltT] at *; omega
  ntrans x y z h1 h2 := by
    cases h : ltOf (cmpT es) x z with
    | false => rfl
    | true =>
      exfalso
      have h3 := (ltT es x z).1 h
      have h4 : ¬ (dueOf es x < dueOf es y ∨ (dueOf es x = dueOf es y ∧ x < y)) := fun e => by rw [(ltT es x y).2 e] at h1; cases h1
      have h5 : ¬ (dueOf es y < dueOf es z ∨ (dueOf es y = dueOf es z ∧ y < z)) := fun e => by rw [(ltT es y z).2 e] at h2; cases h2
      omega
theorem totT (es : List (Nat × Int × Int)) (x y : Int) (h1 : ltOf (cmpT es) x y = false) (h2 : ltOf (cmpT es) y x = false) : x = y := by
  have h4 : ¬ (dueOf es x < dueOf es y ∨ (dueOf es x = dueOf es y ∧ x < y)) := fun e => by rw [(ltT es x y).2 e] at h1; cases h1
  have h5 : ¬ (dueOf es y < dueOf es x ∨ (dueOf es y = dueOf es x ∧ y < x)) := fun e => by rw [(ltT es y x).2 e] at h2; cases h2
  omega
def sortT (es : List (Nat × Int × Int)) (xs : List Int) : List Int := xs.mergeSort fun x y => !(ltOf (cmpT es)) y x
end Go.Proofs.Ytafcenlbllmahaa.Ti
set_option linter.unusedVariables false
set_option linter.unusedSimpArgs false
namespace Go.Proofs.Ytafcenlbllmahaa.Ti
inductive Pl
  | late | row (i s : Nat) | far
  deriving DecidableEq
def lv (now d : Int) : Pl :=
  if d ≤ now then .late
  else if d / 64 = now / 64 then .row 0 (d % 64).toNat
  else if d / 4096 = now / 4096 then .row 1 (d / 64 % 64).toNat
  else if d / 262144 = now / 262144 then .row 2 (d / 4096 % 64).toNat
  else if d / 16777216 = now / 16777216 then .row 3 (d / 262144 % 64).toNat
  else .far
/-- The digit of a level; what stands ahead of it. -/
def dig (i : Nat) (n : Int) : Int := match i with | 0 => n % 64 | 1 => n / 64 % 64 | 2 => n / 4096 % 64 | _ => n / 262144 % 64
def pw (i : Nat) : Int := match i with | 0 => 1 | 1 => 64 | 2 => 4096 | 3 => 262144 | _ => 16777216
/-- When row s of level i begins, seen from a time. -/
def beg (i : Nat) (now : Int) (s : Nat) : Int := now / pw (i + 1) * pw (i + 1) + s * pw i
theorem lv_late {now d : Int} : lv now d = .late ↔ d ≤ now := by
  unfold lv; split
  · simp [*]
  · repeat' split
    all_goals simp [*]
theorem lv_row {now d : Int} {i s : Nat} (h : lv now d = .row i s) : now < d ∧ i < 4 ∧ s < 64 ∧ d / pw (i + 1) = now / pw (i + 1) ∧ dig i d = s ∧ dig i now < s := by
  unfold lv at h
  split at h
  · cases h
  split at h
  · cases h; simp only [pw, dig]; omega
  split at h
  · cases h; simp only [pw, dig]; omega
  split at h
  · cases h; simp only [pw, dig]; omega
  split at h
  · cases h; simp only [pw, dig]; omega
  · cases h
theorem lv_far {now d : Int} (h : lv now d = .far) : now < d ∧ d / 16777216 ≠ now / 16777216 := by
  unfold lv at h
  split at h
  · cases h
  split at h
  · cases h
  split at h
  · cases h
  split at h
  · cases h
  split at h
  · cases h
  · omega
/-- Where it lies, told by what is asked. -/
theorem lv_row0 {now d : Int} (h0 : now < d) (h : d / 64 = now / 64) : lv now d = .row 0 (d % 64).toNat := by
  unfold lv; rw [if_neg (by omega), if_pos h]
theorem lv_row1 {now d : Int} (h0 : now < d) (h : d / 64 ≠ now / 64) (h1 : d / 4096 = now / 4096) : lv now d = .row 1 (d / 64 % 64).toNat := by
  unfold lv; rw [if_neg (by omega), if_neg h, if_pos h1]
theorem lv_row2 {now d : Int} (h0 : now < d) (h1 : d / 4096 ≠ now / 4096) (h2 : d / 262144 = now / 262144) : lv now d = .row 2 (d / 4096 % 64).toNat := by
  unfold lv; rw [if_neg (by omega), if_neg (by omega), if_neg h1, if_pos h2]
theorem lv_row3 {now d : Int} (h0 : now < d) (h2 : d / 262144 ≠ now / 262144) (h3 : d / 16777216 = now / 16777216) : lv now d = .row 3 (d / 262144 % 64).toNat := by
  unfold lv; rw [if_neg (by omega), if_neg (by omega), if_neg (by omega), if_neg h2, if_pos h3]
theorem lv_far' {now d : Int} (h0 : now < d) (h3 : d / 16777216 ≠ now / 16777216) : lv now d = .far := by
  unfold lv; rw [if_neg (by omega), if_neg (by omega), if_neg (by omega), if_neg (by omega), if_neg h3]
/-- Of level i: from a later time, ahead of its row. -/
theorem lv_wait {now to d : Int} {i s : Nat} (h : lv now d = .row i s) (h1 : now ≤ to) (h2 : to < beg i now s) : lv to d = .row i s := by
  unfold beg at h2
  unfold lv at h
  split at h
  · cases h
  split at h
  · cases h; simp only [pw] at h2; exact lv_row0 (by omega) (by omega)
  split at h
  · cases h; simp only [pw] at h2; exact lv_row1 (by omega) (by omega) (by omega)
  split at h
  · cases h; simp only [pw] at h2; exact lv_row2 (by omega) (by omega) (by omega)
  split at h
  · cases h; simp only [pw] at h2; exact lv_row3 (by omega) (by omega) (by omega)
  · cases h
theorem lv_wait_far {now to d : Int} (h : lv now d = .far) (h1 : now ≤ to) (h2 : to < d / 16777216 * 16777216) : lv to d = .far := by
  have := lv_far h
  exact lv_far' (by omega) (by omega)
/-- Of a higher level, the time being in the block of now of that level still. -/
theorem lv_above {now to d : Int} {i s j t : Nat} (h : lv now d = .row i s) (h1 : now ≤ to) (hj : j < i) (ht : t < 64) (h2 : to ≤ beg j now t) : lv to d = .row i s := by
  refine lv_wait h h1 ?_
  have := lv_row h
  obtain ⟨_, hi, hs, h3, h4, h5⟩ := this
  have : i = 1 ∨ i = 2 ∨ i = 3 := by omega
  rcases this with rfl | rfl | rfl
  · obtain rfl : j = 0 := by omega
    simp only [beg, pw, dig] at *; omega
  · have : j = 0 ∨ j = 1 := by omega
    rcases this with rfl | rfl <;> (simp only [beg, pw, dig] at *; omega)
  · have : j = 0 ∨ j = 1 ∨ j = 2 := by omega
    rcases this with rfl | rfl | rfl <;> (simp only [beg, pw, dig] at *; omega)
theorem lv_above_far {now to d : Int} {j t : Nat} (h : lv now d = .far) (h1 : now ≤ to) (hj : j < 4) (ht : t < 64) (h2 : to ≤ beg j now t) : lv to d = .far := by
  refine lv_wait_far h h1 ?_
  have := lv_far h
  have : j = 0 ∨ j = 1 ∨ j = 2 ∨ j = 3 := by omega
  rcases this with rfl | rfl | rfl | rfl <;> (simp only [beg, pw] at *; omega)
theorem beg_gt {now : Int} {i s : Nat} (h0 : 0 ≤ now) (hi : i < 4) (h : dig i now < s) : now < beg i now s := by
  have : i = 0 ∨ i = 1 ∨ i = 2 ∨ i = 3 := by omega
  rcases this with rfl | rfl | rfl | rfl <;> (simp only [beg, pw, dig] at *; omega)
theorem beg_lt {now : Int} {i s t : Nat} (hi : i < 4) (h : s < t) : beg i now s < beg i now t := by
  have : i = 0 ∨ i = 1 ∨ i = 2 ∨ i = 3 := by omega
  rcases this with rfl | rfl | rfl | rfl <;> (simp only [beg, pw] at *; omega)
end Go.Proofs.Ytafcenlbllmahaa.Ti
