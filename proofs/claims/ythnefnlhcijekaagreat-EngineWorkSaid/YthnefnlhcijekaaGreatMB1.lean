/- What the laws of this chapter rest on, for every input; part 2. -/
import Derived.Test.YthnefnlhcijekaaGreatMB0
import Derived.Lib.AppendStr
import Derived.RangeFuncNested
import Derived.RangeFuncLeaves
import Derived.Laws.Externs
import Derived.OrdersIn
import Derived.Deep.LoopGhost
import Derived.RangeFuncRecord
set_option linter.unusedVariables false
set_option linter.unusedSimpArgs false
namespace Go.Proofs.YthnefnlhcijekaaGreat.Fw
open Go Go.RowKit
theorem sb {P:Program} {w:World} {a:Addr} {u:TypeId} {k:Addr} {v:Value} {b:Bool} {r:World×List Addr} (h:w.viewStore P a u k v b=.ok r):r.1.drawn=w.drawn:=by
 unfold World.viewStore at h
 simp only[bind,Except.bind]at h
 repeat' (split at h <;> try cases h)
 all_goals first|rfl|skip
theorem s6 {P:Program} {w:World} {a:Addr} {v:Value} {b:Bool} {r:World×List Addr} (h:w.farStore P a v b=.ok r):r.1.drawn=w.drawn:=by
 unfold World.farStore at h
 split at h
 ·split at h
  ·rename_i h1;cases h;exact sb h1
  ·cases h
 ·cases h
theorem Eo {α:Type}:∀ (k:Ask α) (w:World),w.drawn≤(w.ask k).2.drawn:=by
 intro k
 induction k with
 | done a=>intro w;exact abr _
 | ask YC range k ih =>
  intro w
  simp only[World.ask]
  split
  ·exact ih _ _
  ·exact abW (adh _) (ih _ { w with drawn:=w.drawn+1 })
theorem Ep (w:World) (c:Sys):w.drawn≤(w.sys c).2.drawn:=by
 unfold World.sys
 have:=Eo (Kernel.perform c w.os) w
 split
 ·exact abr _
 ·rename_i h;rw[h]at this;exact this
theorem qS {α:Type} (P:Program):∀ (m:Sem α) (w:World) (v:α) (w':World),m.run P w=.ok v w'→w.drawn≤w'.drawn:=by
  intro m
  induction m with
  | pure a=>intro w v w' h;simp only[Sem.run]at h;cases h;exact abr _
  | load m a k ih =>
    intro w v w' h;simp only[Sem.run]at h
    split at h
    · exact ih _ _ _ _ h
    · split at h
      · exact ih _ _ _ _ h
      · cases h
  | store m a x k ih =>
    intro w v w' h
    cases x <;> simp only[Sem.run]at h <;> first
      | (cases h;done)
      | (split at h
         · split at h
           · cases h
           · have:=ih _ _ _ h;exact this
         · split at h
           · rename_i hf
             have:=s6 hf
             have:=ih _ _ _ h
             simp only[]at *
             omega
           · cases h)
  | new o k ih=>intro w v w' h;simp only[Sem.run]at h;exact ih _ { w with heap:=w.heap.push o } _ _ h
  | shape o k ih=>intro w v w' h;simp only[Sem.run]at h;exact ih _ _ _ _ h
  | freeze a n k ih =>
    intro w v w' h;simp only[Sem.run]at h
    have:=ih _ _ _ h
    have e:(w.freeze a n).drawn=w.drawn:=by unfold World.freeze;split <;> rfl
    omega
  | frozen a k ih=>intro w v w' h;simp only[Sem.run]at h;exact ih _ _ _ _ h
  | getObj r k ih =>
    intro w v w' h;simp only[Sem.run]at h
    split at h
    · cases h
    · exact ih _ _ _ _ h
    · cases h
  | setObj r o k ih =>
    intro w v w' h;simp only[Sem.run]at h
    split at h
    · cases h
    · exact ih { w with heap:=w.heap.setIfInBounds r o } _ _ h
    · cases h
  | choose q k ih =>
    intro w v w' h;simp only[Sem.run]at h
    split at h
    · exact ih _ _ _ _ h
    · exact abW (adh _) (ih _ { w with drawn:=w.drawn+1 } _ _ h)
  | sys c k ih =>
    intro w v w' h;simp only[Sem.run]at h
    exact abW (Ep w c) (ih _ _ _ _ h)
  | program k ih=>intro w v w' h;simp only[Sem.run]at h;exact ih _ _ _ _ h
  | mark m k ih=>intro w v w' h;simp only[Sem.run]at h;exact ih _ _ _ h
  | halt h=>intro w v w' h;simp only[Sem.run]at h;cases h
theorem yE {g:Gh} {t:Ty} (xs:List t.den) (u:Nat→Nat→Value) (h:∀ (i:Nat) (x:t.den) (j:Nat) (y:AV),xs[i]?=some x→(enc t (fun _=>x) [])[j]?=some y→R g y (u i j)) :
  Data g t xs ((List.range (xs.length*t.size)).map fun k=>u (k / t.size) (k % t.size)):=by
 have hp:=Ty.size_pos t
 refine⟨by simp,fun k x hk=>?_⟩
 have bm:k<xs.length:=(abk.1 hk).1
 have hl:k*t.size+t.size≤xs.length*t.size:=by rw[←ad5];exact abU _ bm
 refine RL.mk (by rw[bz];simp;omega) fun j y v h1 h2=>?_
 have hj:j<t.size:=by rw[←bz t (fun _=>x)];exact(abk.1 h1).1
 rw[abK,if_pos hj,abI,ach,aeg (by omega)]at h2
 simp only[acb,ab6]at h2
 subst h2
 have e1:(k*t.size+j) / t.size=k:=by rw[aen,Nat.mul_add_div hp,Nat.div_eq_of_lt hj,ab8]
 have e2:(k*t.size+j) % t.size=j:=by rw[aen,Nat.mul_add_mod,acs hj]
 rw[e1,e2]
 exact h k x j y hk h1
section
variable {P:Program} {B:bU} {g:Gh} {env:Env} {E:List Chunk} {tmps:Array Value} {w:World}
variable {a:Act} {o:Oper} {K:AV→Env→List Chunk→Prop}
theorem Ct {t:Ty} {x:AV} {v:Value} {K:(Unit→List t.den)→Prop} (hS:fg g E w) (hr:R g x v) (h:JU t E x K) :
  ∃ ys A m c news,v=.slice A m c∧(ys ()).length=m∧m≤9223372036854775807∧Data g t (ys ()) news∧(A=none→m=0)∧(∀ ad,A=some ad→∀ j u,news[j]?=some u→w.cell? (ad.add j)=some u)∧K ys:=by
 unfold JU at h
 split at h <;> try exact h.elim
 ·cases hr
  exact⟨fun _=>[],none,0,0,[],rfl,rfl,by omega,Data.nil g t,fun _=>rfl,(fun ad (hA:none=some ad)=>by cases hA),h⟩
 ·rename_i t' xs
  split at h <;> try exact h.elim
  rename_i ht _
  subst ht
  cases hr with|aG _ _ A c u hc hm ha hr =>
  refine⟨xs,A,_,c,_,rfl,rfl,hm,yE (xs ()) u hr,fun hA=>?_,fun ad hA j v hv=>?_,h⟩
  ·cases hx:xs ()with
   | nil=>rfl
   | cons y r =>
    have he:0<(enc t' (fun _=>y) []).length:=by rw[bz];exact Ty.size_pos t'
    obtain⟨b,off,cells,T,fr,h1,_⟩:=ha 0 y 0 _ (by rw[hx];rfl) (abj he)
    rw[hA]at h1;cases h1
  ·have hj:j<(xs ()).length*t'.size:=by simpa using(abk.1 hv).1
   have hp:=Ty.size_pos t'
   have hk:j / t'.size<(xs ()).length:=by rwa [ad6 hp]
   have AB:j % t'.size<(enc t' (fun _=>(xs ())[j / t'.size]'hk) []).length:=by rw[bz];exact acM _ hp
   have qQ:=ha (j / t'.size) _ (j % t'.size) _ (abj hk) (abj AB)
   have UF:=qQ
   obtain⟨b,off,cells,T,fr,h1,_⟩:=UF
   rw[hA]at h1
   cases h1
   rw[hA]at qQ
   have:=qQ.cell hS
   rw[b7 rfl]
   rw[aen,Nat.div_add_mod]at this
   rw[this]
   rw[ach,aeg hj]at hv
   simpa using hv
 ·rename_i i s o n
  split at h <;> try exact h.elim
  rename_i T t' xs hE
  split at h <;> try exact h.elim
  rename_i ht _
  subst ht
  split at h <;> try exact h.elim
  rename_i cv
  have cv:=abl cv
  subst cv
  have hs:=hS.sat i
  rw[hE]at hs
  cases hr with|vec _ _ _ _ A c hi hL hn sQ =>
  have hlen:(((xs ()).drop (o ())).take (n ())).length=n ():=by have:=hs.1;simp;omega
  cases hV:g.V i with
  | none =>
   obtain⟨h1,h2,h3,h4⟩:=hn hV
   refine⟨fun u=>((xs u).drop (o u)).take (n u),A,_,c,[],rfl,hlen,by omega,⟨?_,fun k x hk=>?_⟩,fun _=>h2,(fun ad (hA:A=some ad)=>by rw[h1]at hA;cases hA),h⟩
   ·show[].length=(((xs ()).drop (o ())).take (n ())).length*_
    rw[hlen,h2];simp
   ·have hk:(((xs ()).drop (o ())).take (n ()))[k]?=some x:=hk
    rw[h2]at hk;simp at hk
  | some cap =>
   obtain⟨vs,hb,Ch,cX,Np,hd⟩:=iY hs hV
   obtain⟨h0,h1,h2,h3,h4⟩:=sQ cap hV
   have mb:=(hd.drop (o ())).take (n ())
   refine⟨fun u=>((xs u).drop (o u)).take (n u),A,_,c,_,rfl,hlen,by omega,mb,fun h=>(h4 h).elim,fun ad hA j u hu=>?_,h⟩
   have hj:j<n ()*t'.size:=by
    have:=(abk.1 hu).1
    have e:=mb.1
    rw[hlen]at e
    omega
   have hp:=Ty.size_pos t'
   have rK:0<n ():=(adC (n ())).resolve_left fun h=>by rw[h]at hj;simp at hj
   have:=h3 (.inl (by omega))
   rw[this]at hA
   cases hA
   rw[b7 rfl,cell_of_heap hb]
   rw[abK,if_pos hj,abI,abK]at hu
   split at hu
   ·simpa using hu
   ·cases hu
theorem nY {t e sz ty:Nat} (ht:aT P t=some (.slice e)) (hs:bT P e=some sz) (A:Option Addr) (n c c':Nat) (TJ:n≤c) :
  (Builtin.append_ #[t,t] ty #[.slice A n c,.slice none 0 c']).run P w=.ok (.slice A n c) w:=by
 cases A <;> simp[Builtin.append_,ag ht,aW hs,Builtin.lenOf,Builtin.firstCells,TJ,storeCells]
theorem s7 {t e sz vD ty:Nat} {z:Value} {d:Ty} (ht:aT P t=some (.slice e)) (hs:bT P e=some sz) (sa:iT P e=some vD) (hz:gv P e=some z) (Gw:z.cells.size=sz) (hd:sz=d.size)
  {v:Value} {n:Nat} {xs:List Value} (cT:w.ownsRow 0 e sz v n xs) {A:Option Addr} {m c:Nat} {ys:List d.den} {news:List Value} (mZ:ys.length=m) (yi:Data g d ys news) (hA:A=none→m=0)
  (dw:∀ ad,A=some ad→∀ j u,news[j]?=some u→w.cell? (ad.add j)=some u) (hb:(n+m)*vD≤140737488355328) (mc:n+m≤9223372036854775807) :
  ∃ v' w',(Builtin.append_ #[t,t] ty #[v,.slice A m c]).run P w=.ok v' w'∧w'.ownsRow 0 e sz v' (n+m) (xs++news)∧w.grownBy w' v.ownBlock∧(v'.ownBlock=v.ownBlock∨v'.ownBlock=some w.heap.size):=by
 obtain⟨i,hi,QA,QB,QC⟩:∃ i,gK P e=some i∧i.zero=some z∧i.size=sz∧i.bytes=vD:=by
  unfold gv at hz;unfold bT at hs;unfold iT at sa
  cases hi:gK P e with
  | none=>simp[hi]at hz
  | some i=>simp[hi]at hz hs sa;exact⟨i,rfl,hz,hs,sa⟩
 have sS:=Ty.size_pos d
 cases A with
 | none =>
  have hm:=hA rfl
  subst hm
  have rK:news=[]:=acg (by rw[yi.1,mZ];simp)
  subst rK
  have L2:w.ownsRow 0 e sz v (n+0) (xs++[]):=by simpa using cT
  rcases cT.2 with⟨rfl,rfl⟩|⟨gb,cap,cur,rfl,_,_,TJ,_⟩
  ·exact⟨_,_,nY ht hs _ _ _ _ (abr _),L2,World.grownBy.refl w _,.inl rfl⟩
  ·exact⟨_,_,nY ht hs _ _ _ _ TJ,L2,World.grownBy.refl w _,.inl rfl⟩
 | some ad =>
  obtain⟨v',w',h1,h2,h3,_,h5⟩:=run_append_own_at (P:=P) w 0 t ty e i z sz vD (aw ht) (bA hi) QA QB QC Gw (by omega) v n xs cT ad m c news (by rw[yi.1,mZ,hd]) (dw ad rfl) yi.Cp (by simp only[maxLen];omega) hb (abw _)
  exact⟨v',w',h1,h2,h3,h5⟩
theorem me {t t2 e ty:Nat} (ht:aT P t=some (.slice e)) (nW:aT P t2=some .string) (hs:bT P e=some 1) (sa:iT P e=some 1) (hz:gv P e=some (.int .u8 0))
  {v:Value} {n:Nat} {xs:List Value} (cT:w.ownsRow 0 e 1 v n xs) (s:ByteArray) (hb:n+s.size≤140737488355328) :
  ∃ v' w',(Builtin.append_ #[t,t2] ty #[v,.string s]).run P w=.ok v' w'∧w'.ownsRow 0 e 1 v' (n+s.size) (xs++Lib.strCells s)∧w.grownBy w' v.ownBlock∧(v'.ownBlock=v.ownBlock∨v'.ownBlock=some w.heap.size):=by
 obtain⟨i,hi,QA,QB,QC⟩:∃ i,gK P e=some i∧i.zero=some (.int .u8 0)∧i.size=1∧i.bytes=1:=by
  unfold gv at hz;unfold bT at hs;unfold iT at sa
  cases hi:gK P e with
  | none=>simp[hi]at hz
  | some i=>simp[hi]at hz hs sa;exact⟨i,rfl,hz,hs,sa⟩
 have QD:n+s.size≤maxLen:=by simp only[maxLen];omega
 obtain⟨v',w',h1,h2,h3,h4⟩:=Lib.run_append_own_string (P:=P) w 0 t t2 ty e i (aw ht) (aw nW) (bA hi) QA QB QC v n xs cT s QD hb (abw _)
 refine⟨v',w',h1,h2,h3,?_⟩
 rcases cT.2 with⟨rfl,rfl⟩|⟨gb,cap,cur,rfl,_,hg,TJ,Js,vA,Xe⟩
 ·by_cases hm:s.size=0
  ·rw[h4.2 ⟨rfl,hm⟩];exact .inl rfl
  ·have hr:=run_append_nil_string (P:=P) w t t2 ty e i (.int .u8 0) (aw ht) (aw nW) (bA hi) QA s (by omega) (by simp only[abx]at hb;omega) (by rw[QC];omega)
   rw[hr]at h1
   injection h1 with h1 _
   subst h1
   exact .inr rfl
 ·by_cases Gy:n+s.size≤cap
  ·have YD:cur.size=cap:=by simpa using vA
   have hr:=Lib.run_append_room_string (P:=P) w t t2 ty e i (aw ht) (aw nW) (bA hi) QB gb n cap cur hg s Gy (by omega)
   rw[hr]at h1
   injection h1 with h1 _
   subst h1
   exact .inl rfl
  ·have hr:=Lib.run_append_grow_string (P:=P) w t t2 ty e i (.int .u8 0) (aw ht) (aw nW) (bA hi) QA ⟨gb,0,none⟩ n cap xs (by rw[QB];simpa using cT.1) (cT.cells (g:=gb) rfl) s (by omega) (by simp only[maxLen]at QD;omega) (by rw[QC];exact growslice_fits (by omega) (by omega))
   rw[hr]at h1
   injection h1 with h1 _
   subst h1
   exact .inr rfl
theorem fG {ts:Array Nat} {s x:Operand} {v:Value} {w':World} (ho:o.op=.call { callee:=.builtin .append,args:=#[s,x],argTypes:=ts }) (h:(Builtin.append_ ts o.type #[a.eval s,a.eval x]).run P w=.ok v w') :
  (execOp a.eval o).run P w=.ok (.value v) w':=by
 simp[execOp,ho,resolve,invoke,builtin,h]
end
theorem Cu {g g':Gh} {i:Nat} (hn:g'.n=g.n) (h:∀ j,j≠i→g'.B j=g.B j∧g'.V j=g.V j∧g'.L j=g.L j) (hW:g'.W=g.W) (hM:g'.M=g.M) (v:AV) (u:Value) (hv:isRef v=true) (hr:R g v u):R g' (kS i v) u:=by
 have bE:∀ j,Nat.beq j i=false→j≠i:=fun j hj e=>by subst e;simp at hj
 cases hr <;> first|(cases hv;done)|skip
 ·rename_i j off hj
  simp only[kS];split
  ·exact .undef _
  ·rename_i hb
   rw[←(h j (bE j hb)).1];exact .ptr j off (by rw[hn];exact hj)
 ·rename_i j sz idx off hj hL
  simp only[kS];split
  ·exact .undef _
  ·rename_i hb
   have:=h j (bE j hb)
   rw[←this.1];exact .bl j sz idx off (by rw[hn];exact hj) (by rw[this.2.2];exact hL)
 ·rename_i j s o n A c hj hL rH hs
  simp only[kS];split
  ·exact .undef _
  ·rename_i hb
   have:=h j (bE j hb)
   exact .vec j s o n A c (by rw[hn];exact hj) (by rw[this.2.2];exact hL) (by rw[this.2.1];exact rH) (by rw[this.2.1,this.1];exact hs)
 ·rename_i j hj
  simp only[kS];split
  ·exact .undef _
  ·rename_i hb
   rw[←(h j (bE j hb)).1];exact .mp j (by rw[hn];exact hj)
 ·rename_i j f hj hf
  simp only[kS];split
  ·exact .undef _
  ·rw[←hW];exact .hp j f (by rw[hn];exact hj) (by rw[hM];exact hf)
 ·rename_i j f hj hf
  simp only[kS];split
  ·exact .undef _
  ·rw[←hW];exact .hm j f (by rw[hn];exact hj) (by rw[hM];exact hf)
theorem vE {g:Gh} {i s k c:Nat} {o n:Unit→Nat} {A:Option Addr} (h:n ()=k) (hr:R g (.vec i s o n) (.slice A (n ()) c)):R g (.vec i s o n) (.slice A k c):=h▸hr
def Gh.at_ (g:Gh) (i nb:Nat) (nv:Option Nat) (l:Nat):Gh :=
 { g with B:=fun j=>if j=i then nb else g.B j,V:=fun j=>if j=i then nv else g.V j,L:=fun j=>if j=i then l else g.L j }
theorem Gh.Gz (g:Gh) (i nb:Nat) (nv:Option Nat) (l:Nat) (j:Nat) (hj:j≠i):(g.at_ i nb nv l).B j=g.B j∧(g.at_ i nb nv l).V j=g.V j∧(g.at_ i nb nv l).L j=g.L j:=by simp[Gh.at_,hj]
theorem Gh.Ns (g:Gh) (i nb:Nat) (nv:Option Nat) (l:Nat):(g.at_ i nb nv l).B i=nb:=by simp[Gh.at_]
theorem Gh.A2 (g:Gh) (i nb:Nat) (nv:Option Nat) (l:Nat):(g.at_ i nb nv l).V i=nv:=by simp[Gh.at_]
theorem Gh.Nt (g:Gh) (i nb:Nat) (nv:Option Nat) (l:Nat):(g.at_ i nb nv l).L i=l:=by simp[Gh.at_]
section
variable {P:Program} {B:bU} {g:Gh} {env:Env} {E:List Chunk} {tmps:Array Value} {w:World}
variable {a:Act} {o:Oper} {K:AV→Env→List Chunk→Prop}
theorem yF (hS:fg g E w) {i T:Nat} {ty:Ty} {xs:Unit→List ty.den} {s:Nat} {of n:Unit→Nat} {A:Option Addr} {m c:Nat} (hE:af E i=.au T ty xs) (hr:R g (.vec i s of n) (.slice A m c)) (ho:of ()=0) (hs:s=ty.size) :
  ∃ us,w.ownsRow 0 T s (.slice A m c) m us∧Data g ty ((xs ()).take m) us∧(∀ b,(af E i).own g i b↔(Value.slice A m c).ownBlock=some b)∧m=n ():=by
 subst hs
 have gy:=hS.sat i
 rw[hE]at gy
 cases hr with|vec _ _ _ _ A c hi hL hn sQ =>
 cases hV:g.V i with
 | none =>
  obtain⟨h1,h2,h3,h4⟩:=hn hV
  subst h1 h3
  rw[h2]
  exact⟨[],⟨by simp,.inl ⟨rfl,rfl⟩⟩,by simpa using Data.nil g ty,by rw[hE];simp[Value.ownBlock,Chunk.own,hV],rfl⟩
 | some cap =>
  obtain⟨vs,hb,Ch,cX,Np,hd⟩:=iY gy hV
  obtain⟨h0,h1,h2,h3,h4⟩:=sQ cap hV
  have hA:=h3 (.inr ho)
  rw[ho]at hA
  simp only[Nat.zero_mul]at hA
  subst hA
  have hle:n ()≤(xs ()).length:=by omega
  have hmul:n ()*ty.size≤(xs ()).length*ty.size:=abU _ hle
  have QE:(xs ()).length*ty.size≤cap*ty.size:=abU _ cX
  have mb:=hd.take (n ())
  rw[adS,acq hmul]at mb
  exact⟨_,⟨by rw[aby];simp;omega,.inr ⟨g.B i,c,vs,rfl,abw _,hb,by omega,by simp only[maxLen];omega,by rw[Ch];congr 1;omega,rfl⟩⟩,mb,by rw[hE];simp[Value.ownBlock,Chunk.own,hV],rfl⟩
theorem s8 {g':Gh} {i T:Nat} {ty:Ty} {xs:Unit→List ty.den} {v:Value} {m:Nat} {us:List Value} {w':World} (cT:w'.ownsRow 0 T ty.size v m us) (hd:Data g' ty (xs ()) us) (hm:(xs ()).length=m)
  (hL:g'.L i=m) (hV:(v=.slice none 0 0∧g'.V i=none)∨∃ gb cap,v=.slice (some ⟨gb,0,none⟩) m cap∧g'.V i=some cap∧g'.B i=gb) :
  (Chunk.au T ty xs).sat g' i w':=by
 rcases hV with⟨rfl,hV⟩|⟨gb,cap,rfl,hV,hB⟩
 ·rcases cT.2 with⟨_,h2⟩|⟨gb,cap,cur,h2,_⟩
  ·show _∧_∧_
   refine⟨by rw[hm,hL],fun _=>acg (by omega),fun cap hc=>by rw[hV]at hc;cases hc⟩
  ·cases h2
 ·rcases cT.2 with⟨h2,_⟩|⟨gb',Nl,cur,h2,_,h3,h4,h5,h6,h7⟩
  ·cases h2
  ·cases h2
   refine gN (cap:=cap) (vs:=cur) hV (by rw[hm,hL]) (by rw[hB];exact h3) h6 (by omega) ?_
   rw[hm,h7];exact hd
theorem qT {T:Nat} {sz:Nat} {v:Value} {m:Nat} {us:List Value} {w':World} (cT:w'.ownsRow 0 T sz v m us) :
  (v=.slice none 0 0∧m=0)∨∃ gb cap,v=.slice (some ⟨gb,0,none⟩) m cap∧m≤cap∧cap≤9223372036854775807:=by
 rcases cT.2 with h|⟨gb,cap,cur,h2,_,_,h4,h5,_⟩
 ·exact .inl h
 ·exact .inr ⟨gb,cap,h2,h4,by simpa [maxLen]using h5⟩
theorem A3 (z:Array Value) (n m:Nat):(Builtin.zeroCells z n++Builtin.zeroCells z m).toList=(List.replicate (n+m) z.toList).flatten:=by
 have h1:(Builtin.zeroCells z n).toList=(List.replicate n z.toList).flatten:=kb z n
 have h2:(Builtin.zeroCells z m).toList=(List.replicate m z.toList).flatten:=kb z m
 rw[Array.toList_append,h1,h2,←adW,List.replicate_append_replicate]
theorem J2 {t t2 e:Nat} {s x:Operand} {n:Unit→Int} (h:Inv B g env E a.tmps w) (ho:o.op=.call { callee:=.builtin .append,args:=#[s,x],argTypes:=#[t,t2] }) (ht:aT P t=some (.slice e)) (nW:aT P t2=some (.int .i64))
  (es:ev env s=.aY) (ex:ev env x=.int .i64 n) (hk:Nk P e n env E K):iv P o a w B K:=by
 have hs:=h.er.ev s
 have hx:=h.er.ev x
 rw[es]at hs
 rw[ex]at hx
 have u7:a.eval s=.slice none 0 0:=by generalize a.eval s=u at hs;cases hs;rfl
 have FL:=hx.bS
 unfold Nk at hk
 split at hk <;> try exact hk.elim
 rename_i ty sz vD z AA cv sa hz
 split at hk <;> try exact hk.elim
 rename_i cs gU vA
 have gU:ty.size=sz:=abl gU
 have Ed:=(nT g z).cells vA
 obtain⟨d,hd,hk⟩:=kN hk Ed
 rw[fz,bf]at hk
 obtain⟨dZ,oD,vh⟩:=hk
 obtain⟨h0,h1,h2⟩:=dZ.h
 obtain⟨m,hm⟩:∃ m:Nat,n ()=m:=⟨(n ()).toNat,by omega⟩
 have J1:IntKind.i64.wrap (m:Int)=m:=IntWalk.i64_in _ (by omega)
 obtain⟨ti,wL,u5,Qp,Gx⟩:∃ i,P.info? e=some i∧i.bytes=vD∧i.zero=some z∧i.size=sz:=by
  unfold iT at sa
  split at sa
  ·rename_i i hi
   simp only[ab6]at sa
   unfold gv at hz
   rw[hi]at hz
   unfold bT at cv
   rw[hi]at cv
   exact⟨i,bA hi,sa,hz,by simpa using cv⟩
  ·cases sa
 have El:z.cells.size=sz:=by have:=hd.length;rw[bz]at this;simp at this;omega
 have UG:¬((m:Int)*(ti.bytes:Int)>2 ^ 48):=by rw[u5,←hm,show(2:Int) ^ 48=281474976710656 from rfl];omega
 by_cases vF:m=0
 ·subst vF
  have h0:(Builtin.append_ #[t,t2] o.type #[.slice none 0 0,.int .i64 ((0:Nat):Int)]).run P w=.ok (.slice none 0 0) w:=by
   simp[Builtin.append_,ag ht,ag nW,sizeOf,typeInfo,zeroValue,wL,Qp,asInt,asIntOf,IntWalk.i64_in (0:Int) (by omega)]
  have bn:=fG (P:=P) (w:=w) (a:=a) ho (by rw[u7,FL,hm];exact h0)
  exact⟨_,_,_,_,_,_,_,bn,.inl rfl,h,.aY,oD hm⟩
 ·have sS:0<m:=by omega
  let cap:=grownCap w m 0 e
  have cX:m≤cap:=grownCap_ge w m 0 e
  have QF:cap≤maxLen:=grownCap_le_maxLen w m 0 e (by simp only[maxLen];omega)
  let vs:=Builtin.zeroCells z.cells m++Builtin.zeroCells z.cells (cap - m)
  have Cv:(Builtin.append_ #[t,t2] o.type #[.slice none 0 0,.int .i64 (m:Int)]).run P w=.ok (.slice (some ⟨w.heap.size,0,none⟩) m cap) (w.drew.alloc (.cells vs e)):=by
   have UH:¬(281474976710656<Builtin.nextslicecap m 0*ti.bytes):=by
    rw[nextslicecap_zero sS,u5]
    have:((m*vD:Nat):Int)≤140737488355328:=by rw[aeh,←hm];exact h2
    omega
   have YE:¬(9223372036854775807<(m:Int)):=by omega
   have bm:¬((m:Int)<0):=by omega
   have QG:¬(281474976710656<(m:Int)*(ti.bytes:Int)):=by simpa using UG
   by_cases Xf:m*ti.size=0
   ·have:ti.size=0:=by
     rcases Nat.mul_eq_zero.1 Xf with h|h
     ·omega
     ·exact h
    have:=Ty.size_pos ty
    omega
   ·simp[Builtin.append_,ag ht,ag nW,sizeOf,typeInfo,zeroValue,wL,Qp,asInt,asIntOf,J1,bm,QG,vF,UH,YE,Xf,Question.forced,run_firstCells_none,newRow,grownCap,vs,cap]
  have bn:=fG (P:=P) (w:=w) (a:=a) ho (by rw[u7,FL,hm];exact Cv)
  have JR:vs.toList=(List.replicate cap z.cells.toList).flatten:=by
   have:=A3 z.cells m (cap - m)
   rw[show m+(cap - m)=cap by omega]at this;exact this
  have L1:Data g ty (List.replicate cap (d ())) vs.toList:=by rw[JR];exact Data.replicate (by rw[iJ];exact hd) _
  have Em:=L1.take m
  rw[List.take_replicate,acq cX]at Em
  have Ch:vs.size=cap*ty.size:=by
   have:=L1.1
   simpa using this
  have sB:sZ w (w.drew.alloc (.cells vs e)) (.cells vs e):=⟨rfl,rfl,⟨rfl,adh _⟩,by show(w.heap.push _).size=_;simp,by show(w.heap.push _)[w.heap.size]?=_;simp,fun k hk=>by show(w.heap.push _)[k]?=_;rw[Array.getElem?_push,if_neg (by omega)]⟩
  have hZ:=h.wQ e (t:=ty) (xs:=fun u=>List.replicate (n u).toNat (d u)) (cap:=cap) (vs:=vs) Ch (by simp[hm];exact cX) (by simpa [hm]using Em) sB
  refine⟨_,_,_,_,_,_,_,bn,.inl rfl,hZ,?_,vh (by omega)⟩
  have:=l9 g E h.aZ.len w.heap.size cap m sz (fun u=>(n u).toNat) (by simp[hm]) cX (by simpa [maxLen]using QF)
  simpa [hm]using this
theorem rO {e sz m:Nat} {ty:Ty} {ys:Unit→List ty.den} {news:List Value} {v':Value} {w':World} (h:Inv B g env E a.tmps w) (vi:sz=ty.size) (mZ:(ys ()).length=m) (yi:Data g ty (ys ()) news)
  (bn:(execOp a.eval o).run P w=.ok (.value v') w') (h2:w'.ownsRow 0 e sz v' m news) (h3:w.grownBy w' (Value.ownBlock (.slice none 0 0))) (h4:v'.ownBlock=Value.ownBlock (.slice none 0 0)∨v'.ownBlock=some w.heap.size)
  (hk:K (.vec (ah E) sz (fun _=>0) fun u=>(ys u).length) env (dz E (.au e ty ys))):iv P o a w B K:=by
 rcases qT h2 with⟨rfl,vF⟩|⟨gb,cap,rfl,UI,Js⟩
 ·have hinv:=h.new (c:=.au e ty ys) (b:=0) (v:=Option.none) (l:=m) h3.os h3.tape ⟨h3.output,qS P _ _ _ _ bn⟩ h3.size (fun k hk=>h3.block k hk (by simp[Value.ownBlock]))
   (s8 (m:=m) (by rw[←vi];exact h2) (yi.mono (g.jW _ _ _)) mZ (by simp[Gh.add]) (.inl ⟨rfl,by simp[Gh.add]⟩)) (fun b' dJ=>by simp[Chunk.own,Gh.add]at dJ)
  refine⟨_,_,_,_,_,_,_,bn,.inl rfl,hinv,?_,hk⟩
  have:=R.vec (g:=g.add 0 Option.none m) (ah E) sz (fun _=>0) (fun u=>(ys u).length) none 0 (by simp[Gh.add,h.aZ.len]) (by simp[Gh.add,h.aZ.len,mZ]) (fun _=>⟨rfl,by omega,rfl,rfl⟩) (fun cap hc=>by simp[Gh.add,h.aZ.len]at hc)
  rw[mZ]at this
  rw[vF]at this ⊢
  exact this
 ·have UJ:gb=w.heap.size:=by
   rcases h4 with h4|h4 <;> simp[Value.ownBlock]at h4
   exact h4
  subst UJ
  have hinv:=h.new (c:=.au e ty ys) (b:=w.heap.size) (v:=some cap) (l:=m) h3.os h3.tape ⟨h3.output,qS P _ _ _ _ bn⟩ h3.size (fun k hk=>h3.block k hk (by simp[Value.ownBlock]))
   (s8 (m:=m) (by rw[←vi];exact h2) (yi.mono (g.jW _ _ _)) mZ (by simp[Gh.add]) (.inr ⟨_,cap,rfl,by simp[Gh.add],by simp[Gh.add]⟩)) (fun b' dJ=>by simp[Chunk.own,Gh.add]at dJ;omega)
  refine⟨_,_,_,_,_,_,_,bn,.inl rfl,hinv,?_,hk⟩
  have:=l9 g E h.aZ.len w.heap.size cap m sz (fun u=>(ys u).length) (by omega) UI Js
  rw[mZ]at this
  exact this
theorem rP {i T sz m s' c0:Nat} {t':Ty} {xs ys:Unit→List t'.den} {of n:Unit→Nat} {A0:Option Addr} {us news:List Value} {v':Value} {w':World} (h:Inv B g env E a.tmps w) (hE:af E i=.au T t' xs)
  (hs:R g (.vec i s' of n) (.slice A0 (n ()) c0)) (Er:s'=sz) (vi:sz=t'.size) (PS:Data g t' ((xs ()).take (n ())) us) (hblk:∀ b,(af E i).own g i b↔(Value.slice A0 (n ()) c0).ownBlock=some b) (mZ:(ys ()).length=m) (yi:Data g t' (ys ()) news)
  (bn:(execOp a.eval o).run P w=.ok (.value v') w') (h2:w'.ownsRow 0 T sz v' (n ()+m) (us++news)) (h3:w.grownBy w' (Value.slice A0 (n ()) c0).ownBlock) (h4:v'.ownBlock=(Value.slice A0 (n ()) c0).ownBlock∨v'.ownBlock=some w.heap.size)
  (hk:K (.vec i sz (fun _=>0) fun u=>n u+(ys u).length) (bj (kS i) env) (cY (kS i) (bh E i (.au T t' fun u=>(xs u).take (n u)++ys u)))):iv P o a w B K:=by
 have hi:i<ah E:=dV (by rw[hE];simp)
 have Cw:Data g t' ((xs ()).take (n ())++ys ()) (us++news):=PS.append yi
 have hlen:((xs ()).take (n ())++ys ()).length=n ()+m:=by
  have hle:n ()≤(xs ()).length:=by
   have gy:=h.aZ.sat i
   rw[hE]at gy
   cases hs with|vec _ _ _ _ _ _ hi hL hn sQ=>have:=gy.1;omega
  rw[abp,aby,mZ];omega
 have go:∀ (nb:Nat) (nv:Option Nat),(∀ b,(Chunk.au T t' fun u=>(xs u).take (n u)++ys u).own (g.at_ i nb nv (n ()+m)) i b→w.heap.size≤b∨(af E i).own g i b) →
   ((v'=.slice none 0 0∧nv=none)∨∃ gb cap,v'=.slice (some ⟨gb,0,none⟩) (n ()+m) cap∧nv=some cap∧nb=gb∧cap≤9223372036854775807∧n ()+m≤cap)→iv P o a w B K:=by
  intro nb nv hb L3
  have iX:=g.Gz i nb nv (n ()+m)
  have hinv:=h.Ef (w':=w') (g':=g.at_ i nb nv (n ()+m)) (kS i) (c:=.au T t' fun u=>(xs u).take (n u)++ys u) ⟨T,t',xs,hE⟩ rfl rfl rfl rfl (fun b o' hb=>hb)
   (fun v u hv hr=>Cu (g:=g) (g':=g.at_ i nb nv (n ()+m)) (i:=i) rfl iX rfl rfl v u hv hr) hi iX h3.os h3.tape ⟨h3.output,qS P _ _ _ _ bn⟩ h3.size
   (fun k hk bE=>h3.block k hk (fun e=>bE k ((hblk k).2 e.symm) rfl))
   (s8 (g':=g.at_ i nb nv (n ()+m)) (m:=n ()+m) (by rw[←vi];exact h2) ⟨Cw.1,fun k x hx=>RL.iL (g:=g) (g':=g.at_ i nb nv (n ()+m)) (fun b o' hb=>hb) (Cw.2 k x hx)⟩ hlen (g.Nt _ _ _ _) (by
    rcases L3 with⟨e1,e2⟩|⟨gb,cap,e1,e2,e3,_⟩
    ·exact .inl ⟨e1,by rw[g.A2,e2]⟩
    ·exact .inr ⟨gb,cap,e1,by rw[g.A2,e2],by rw[g.Ns,e3]⟩)) hb (fun b o' hb=>.inl hb)
  refine⟨_,_,_,_,_,_,_,bn,.inl rfl,hinv,?_,hk⟩
  have bm:i<(g.at_ i nb nv (n ()+m)).n:=by show i<g.n;rw[←h.aZ.len];exact hi
  rcases L3 with⟨e1,e2⟩|⟨gb,cap,e1,e2,e3,e4,e5⟩
  ·subst e1 e2
   have h0:n ()+m=0:=by
    rcases qT h2 with⟨_,h5⟩|⟨_,_,h5,_⟩
    ·exact h5
    ·cases h5
   have:=R.vec (g:=g.at_ i nb none (n ()+m)) i sz (fun _=>0) (fun u=>n u+(ys u).length) none 0 bm (by rw[g.Nt];simp[mZ]) (fun _=>⟨rfl,by simp[mZ,h0],rfl,rfl⟩) (fun cap hc=>by rw[g.A2]at hc;cases hc)
   have e:n ()+(ys ()).length=0:=by rw[mZ];exact h0
   exact vE e this
  ·subst e1 e2 e3
   have:=R.vec (g:=g.at_ i nb (some cap) (n ()+m)) i sz (fun _=>0) (fun u=>n u+(ys u).length) (some ⟨nb,0,none⟩) cap bm (by rw[g.Nt];simp[mZ]) (fun hc=>by rw[g.A2]at hc;cases hc)
    (fun Nl hc=>by rw[g.A2]at hc;cases hc;exact⟨e4,by simp[mZ];exact e5,by simp,by rw[g.Ns];simp,by simp⟩)
   have e:n ()+(ys ()).length=n ()+m:=by rw[mZ]
   exact vE e this
 rcases qT h2 with⟨hv,vF⟩|⟨gb,cap,hv,UI,Js⟩
 ·exact go 0 none (fun b hb=>by simp[Chunk.own,g.A2]at hb) (.inl ⟨hv,rfl⟩)
 ·refine go gb (some cap) (fun b hb=>?_) (.inr ⟨gb,cap,hv,rfl,rfl,Js,UI⟩)
  simp[Chunk.own,g.A2,g.Ns]at hb
  subst hb
  rw[hv]at h4
  rcases h4 with h4|h4
  ·right;exact(hblk _).2 (by rw[←h4];rfl)
  ·left;simp[Value.ownBlock]at h4;omega
theorem yG (g:Gh) (y:List UInt8):Data g (.int .u8) (y.map fun b=>(b.toNat:Int)) (Lib.strCells ⟨y.toArray⟩):=by
 refine⟨by simp[Lib.strCells,Ty.size],fun k x hk=>?_⟩
 have bm:k<y.length:=by simpa using(abk.1 hk).1
 have e:x=(((y[k]'bm).toNat:Nat):Int):=by
  rw[ach,abj bm]at hk
  simpa using hk.symm
 subst e
 have e2:((Lib.strCells ⟨y.toArray⟩).drop (k*Ty.size (.int .u8))).take (Ty.size (.int .u8))=[Value.int .u8 (y[k]'bm).toNat]:=by
  have AP:k<(Lib.strCells ⟨y.toArray⟩).length:=by simp[Lib.strCells];exact bm
  show((Lib.strCells ⟨y.toArray⟩).drop (k*1)).take 1=_
  rw[aew,acj AP]
  simp[Lib.strCells]
 rw[e2]
 exact⟨.int .u8 fun _=>_,trivial⟩
theorem vj {t t2 e:Nat} {s x:Operand} {y:Unit→List UInt8} (h:Inv B g env E a.tmps w) (ho:o.op=.call { callee:=.builtin .append,args:=#[s,x],argTypes:=#[t,t2] }) (ht:aT P t=some (.slice e)) (ex:ev env x=.str y)
  (hk:match aT P t2,gL P 6 e,bT P e,iT P e,gv P e with
     | some .string,some (.int .u8),some 1,some 1,some (.int .u8 0)=>(match ev env s with
      | .aY=>Ob (fun u=>(y u).length≤140737488355328)∧fN (ah E) fun n=>iM (dz E (.au e (.int .u8) fun u=>(y u).map fun b=>(b.toNat:Int))) fun E=>K (.vec n 1 (fun _=>0) (fun u=>(y u).length)) env E
      | .vec i 1 o n=>(match af E i with
       | .au T (.int .u8) xs=>(match Nat.beq T e with
        | true=>Ob (fun u=>o u=0∧n u+(y u).length≤140737488355328) ∧
         jU (bj (kS i) env) fun env=>iM (cY (kS i) (bh E i (.au e (.int .u8) fun u=>(xs u).take (n u)++(y u).map fun b=>(b.toNat:Int)))) fun E=>K (.vec i 1 (fun _=>0) (fun u=>n u+(y u).length)) env E
        | false=>False)
       | _=>False)
      | _=>False)
     | _,_,_,_,_=>False):iv P o a w B K:=by
 have hs:=h.er.ev s
 have hx:=h.er.ev x
 rw[ex]at hx
 have FL:=hx.ir
 have cv:(ByteArray.mk (y ()).toArray).size=(y ()).length:=by simp[ByteArray.size]
 split at hk <;> try exact hk.elim
 rename_i nW AA rQ sa hz
 split at hk <;> try exact hk.elim
 ·rename_i es
  rw[es]at hs
  have u7:a.eval s=.slice none 0 0:=by generalize a.eval s=u at hs;cases hs;rfl
  rw[fz,bf]at hk
  obtain⟨dZ,hk⟩:=hk
  have dZ:=dZ.h
  obtain⟨v',w',h1,h2,h3,h4⟩:=me (P:=P) (w:=w) (ty:=o.type) ht nW rQ sa hz (v:=.slice none 0 0) (n:=0) (xs:=[]) ⟨by simp,.inl ⟨rfl,rfl⟩⟩ ⟨(y ()).toArray⟩ (by rw[cv];omega)
  have bn:=fG (P:=P) (w:=w) (a:=a) ho (by rw[u7,FL];exact h1)
  simp only[abx,adu]at h2
  exact rO (sz:=1) (ty:=.int .u8) (ys:=fun u=>(y u).map fun b=>(b.toNat:Int)) h rfl (by simp[cv]) (yG g (y ())) bn h2 h3 h4 (by simpa using hk)
 ·rename_i i of n es
  rw[es]at hs
  split at hk <;> try exact hk.elim
  rename_i T xs hE
  split at hk <;> try exact hk.elim
  rename_i GA
  have GA:T=e:=abl GA
  subst GA
  rw[dn,bf]at hk
  obtain⟨dZ,hk⟩:=hk
  obtain⟨QH,GB⟩:=dZ.h
  obtain⟨A0,c0,u7⟩:∃ A0 c0,a.eval s=.slice A0 (n ()) c0:=by generalize a.eval s=u at hs;cases hs with|vec _ _ _ _ A c=>exact⟨A,c,rfl⟩
  rw[u7]at hs
  obtain⟨us,cT,PS,hblk,_⟩:=yF h.aZ hE hs QH rfl
  obtain⟨v',w',h1,h2,h3,h4⟩:=me (P:=P) (w:=w) (ty:=o.type) ht nW rQ sa hz cT ⟨(y ()).toArray⟩ (by rw[cv];exact GB)
  have bn:=fG (P:=P) (w:=w) (a:=a) ho (by rw[u7,FL];exact h1)
  exact rP (sz:=1) (t':=.int .u8) (ys:=fun u=>(y u).map fun b=>(b.toNat:Int)) h hE hs rfl rfl PS hblk (by simp[cv]) (yG g (y ())) bn h2 h3 h4 (by simpa using hk)
theorem Et {t t2:Nat} {s x:Operand} (h:Inv B g env E a.tmps w) (ho:o.op=.call { callee:=.builtin .append,args:=#[s,x],argTypes:=#[t,t2] })
  (hk:cy P .append [t,t2] [ev env s,ev env x] env E K):iv P o a w B K:=by
 have hs:=h.er.ev s
 have hx:=h.er.ev x
 simp only[cy]at hk
 split at hk
 rotate_left
 ·rename_i e TK ht
  split at hk <;> try exact hk.elim
  ·rename_i n es ex
   split at hk <;> try exact hk.elim
   rename_i nW
   exact J2 h ho ht nW es ex hk
  ·rename_i y ex
   exact vj h ho ht ex hk
 ·exact hk.elim
 rename_i e TK ht
 have TK:=abl TK
 subst TK
 split at hk <;> try exact hk.elim
 rename_i ty vD z AA sa hz
 split at hk <;> try exact hk.elim
 rename_i sz cv
 split at hk <;> try exact hk.elim
 rename_i vi
 have vi:sz=ty.size:=abl vi
 split at hk <;> try exact hk.elim
 rename_i Gw
 have Gw:z.cells.size=sz:=abl Gw
 obtain⟨ys,A,m,c,news,FL,mZ,kc,yi,hA,dw,hk⟩:=Ct h.aZ hx hk
 split at hk <;> try exact hk.elim
 ·
  rename_i es
  rw[es]at hs
  have u7:a.eval s=.slice none 0 0:=by generalize a.eval s=u at hs;cases hs;rfl
  rw[fz,bf]at hk
  obtain⟨dZ,hk⟩:=hk
  have dZ:=dZ.h
  obtain⟨v',w',h1,h2,h3,h4⟩:=s7 (P:=P) (w:=w) (t:=t) (ty:=o.type) ht cv sa hz Gw vi (v:=.slice none 0 0) (n:=0) (xs:=[]) ⟨by simp,.inl ⟨rfl,rfl⟩⟩ mZ yi hA dw (by rw[←mZ];simpa using dZ) (by omega)
  have bn:=fG (P:=P) (w:=w) (a:=a) ho (by rw[u7,FL];exact h1)
  simp only[abx,adu]at h2
  exact rO h vi mZ yi bn h2 h3 h4 hk
 ·
  rename_i i s' of n es
  rw[es]at hs
  split at hk <;> try exact hk.elim
  rename_i T t' xs hE
  split at hk <;> try exact hk.elim
  rename_i Jt _
  subst Jt
  split at hk <;> try exact hk.elim
  rename_i Er GA
  have Er:s'=sz:=abl Er
  have GA:T=e:=abl GA
  subst GA
  rw[FX,dn,bf]at hk
  obtain⟨dZ,hk⟩:=hk
  obtain⟨QH,GB,Nu⟩:=dZ.h
  obtain⟨A0,c0,u7⟩:∃ A0 c0,a.eval s=.slice A0 (n ()) c0:=by generalize a.eval s=u at hs;cases hs with|vec _ _ _ _ A c=>exact⟨A,c,rfl⟩
  rw[u7]at hs
  obtain⟨us,cT,PS,hblk,_⟩:=yF h.aZ hE hs QH (by omega)
  rw[Er]at cT
  have mc:n ()+m≤9223372036854775807:=by rw[←mZ];omega
  obtain⟨v',w',h1,h2,h3,h4⟩:=s7 (P:=P) (w:=w) (t:=t) (ty:=o.type) ht cv sa hz Gw vi cT mZ yi hA dw (by rw[←mZ];exact Nu) mc
  have bn:=fG (P:=P) (w:=w) (a:=a) ho (by rw[u7,FL];exact h1)
  exact rP h hE hs Er vi PS hblk mZ yi bn h2 h3 h4 hk
end
theorem J3 {α:Type} (V c:List α) (N p:Nat) (hN:N≤V.length) (hp:p+c.length≤N):(V.take p++c++V.drop (p+c.length)).take N=(V.take N).take p++c++(V.take N).drop (p+c.length):=by
 apply ac5
 intro k
 simp only[abT,abK,abI,abp,aby,abG]
 grind
section
variable {P:Program} {B:bU} {g:Gh} {env:Env} {E:List Chunk} {tmps:Array Value} {w:World}
variable {a:Act} {o:Oper} {K:AV→Env→List Chunk→Prop}
theorem GC (h:Inv B g env E tmps w) {i T:Nat} {ty:Ty} {xs:Unit→List ty.den} {s:Nat} {of n:Unit→Nat} {A:Option Addr} {m c:Nat} (hE:af E i=.au T ty xs) (hr:R g (.vec i s of n) (.slice A m c)) (hs:s=ty.size)
  {ys:Unit→List ty.den} {k:Unit→Nat} {news:List Value} (mZ:(ys ()).length=k ()) (hk:k ()≤m) (hd:Data g ty (ys ()) news) :
  ∃ w',(match A with|some ad=>storeCells ad news|none=>pure ()).run P w=.ok () w'∧Inv B g env (bh E i (.au T ty (lN xs of k ys))) tmps w':=by
 subst hs
 have gy:=h.aZ.sat i
 rw[hE]at gy
 have hlen:((lN xs of k ys) ()).length=(xs ()).length:=by
  have hL:of ()+n ()≤g.L i:=by cases hr with|vec _ _ _ _ _ _ hi hL=>exact hL
  have hm:m=n ():=by cases hr;rfl
  have:=gy.1
  simp only[lN,abp,aby,abG,mZ]
  omega
 cases hr with|vec _ _ _ _ A c hi hL hn sQ =>
 cases hV:g.V i with
 | none =>
  obtain⟨h1,h2,h3,h4⟩:=hn hV
  subst h1
  have hx:xs ()=[]:=gy.2.1 hV
  refine⟨w,rfl,?_⟩
  have e:(lN xs of k ys) ()=[]:=acg (by rw[hlen,hx];rfl)
  have:lN xs of k ys=xs:=by funext u;cases u;rw[e,hx]
  rw[this,←hE]
  have eN:∀ (E:List Chunk) (i:Nat),bh E i (af E i)=E:=by
   intro E
   induction E with
   | nil=>intro i;rfl
   | cons c r ih=>intro i;cases i <;> simp[bh,af,ih]
  rw[eN];exact h
 | some cap =>
  obtain⟨vs,hb,Ch,cX,Np,TG⟩:=iY gy hV
  obtain⟨h0,h1,h2,h3,h4⟩:=sQ cap hV
  have QE:(xs ()).length*ty.size≤cap*ty.size:=abU _ cX
  have tc:news.length=k ()*ty.size:=by rw[hd.1,mZ]
  have oy:of ()*ty.size+news.length≤(xs ()).length*ty.size:=by rw[tc,←ace];exact abU _ (by omega)
  have Cw:Data g ty ((lN xs of k ys) ()) ((vs.toList.take ((xs ()).length*ty.size)).take (of ()*ty.size)++news++(vs.toList.take ((xs ()).length*ty.size)).drop (of ()*ty.size+news.length)):=by
   have d1:=TG.take (of ())
   have d3:=TG.drop (of ()+k ())
   rw[ace,←tc]at d3
   exact(d1.append hd).append d3
  have lO:=J3 vs.toList news ((xs ()).length*ty.size) (of ()*ty.size) (by simp;omega) oy
  have fin:∀ arr:List Value,arr.length=vs.size→arr.take ((xs ()).length*ty.size)=(vs.toList.take ((xs ()).length*ty.size)).take (of ()*ty.size)++news++(vs.toList.take ((xs ()).length*ty.size)).drop (of ()*ty.size+news.length) →
    Inv B g env (bh E i (.au T ty (lN xs of k ys))) tmps (w.setRow (g.B i) arr.toArray):=by
   intro arr A4 s5
   have eN:=gz hb arr.toArray
   exact h.set (c:=.au T ty (lN xs of k ys)) (by rw[hE];simp[Chunk.own,hV]) eN (gN (cap:=cap) (vs:=arr.toArray) hV (by rw[hlen,Np]) eN.at_ (by simpa [Ch]using A4) (by rw[hlen];exact cX) (by rw[hlen];simpa [s5]using Cw)) (by simp[Chunk.own,hV]) (fun _ _ _ _=>⟨_,_,_,hE⟩)
  cases A with
  | none=>exact(h4 rfl).elim
  | some ad =>
   rcases adC (k ())with oD|oD
   ·
    have rK:news=[]:=acg (by rw[tc,oD];simp)
    subst rK
    refine⟨w,by simp[storeCells],?_⟩
    have:=fin vs.toList (by simp) (by simp)
    rw[Array.toArray_toList]at this
    have e:w.setRow (g.B i) vs=w:=setRow_self w (g.B i) vs T (0,0) hb
    rwa [e]at this
   ·have hA:=h3 (.inl (by omega))
    simp only[ab6]at hA
    subst hA
    have bn:=run_storeCells_at P (g.B i) (of ()*ty.size) T news 0 vs w hb (by simp;omega) hd.Cp
    simp only[ab8]at bn
    exact⟨_,bn,fin _ (by simp;omega) lO⟩
theorem td {d:Ty} {sz:Nat} (hd:sz=d.size) {A:Option Addr} {m c k:Nat} {ys:List d.den} {news:List Value} (mZ:ys.length=m) (yi:Data g d ys news) (hA:A=none→m=0)
  (dw:∀ ad,A=some ad→∀ j u,news[j]?=some u→w.cell? (ad.add j)=some u) (hk:k≤m) :
  (Builtin.firstCells sz k (.slice A m c)).run P w=.ok (news.take (k*sz)).toArray w:=by
 cases A with
 | none =>
  have:=hA rfl
  have oD:k=0:=by omega
  subst oD
  simp[Builtin.firstCells]
 | some ad =>
  have hl:(news.take (k*sz)).length=k*sz:=by
   rw[aby,yi.1,mZ,hd]
   exact acq (abU _ hk)
  have:=run_loadCells_list (P:=P) w ad (news.take (k*sz)) (fun j v hv=>dw ad rfl j v (by
   rw[abK]at hv
   split at hv
   ·exact hv
   ·cases hv))
  rw[hl]at this
  simp[Builtin.firstCells,this]
theorem J4 {ts:List Nat} {s x:Operand} (h:Inv B g env E a.tmps w) (ho:o.op=.call { callee:=.builtin .copy,args:=#[s,x],argTypes:=ts.toArray })
  (hk:cy P .copy ts [ev env s,ev env x] env E K):iv P o a w B K:=by
 have hs:=h.er.ev s
 have hx:=h.er.ev x
 simp only[cy]at hk
 split at hk <;> try exact hk.elim
 rename_i t r i s' of n x' es
 simp only[List.cons.injEq,and_true]at es
 obtain⟨es,ex⟩:=es
 subst ex
 rw[es]at hs
 split at hk <;> try exact hk.elim
 rename_i e ht
 split at hk <;> try exact hk.elim
 rename_i sz cv
 split at hk <;> try exact hk.elim
 rename_i T ty xs hE
 split at hk <;> try exact hk.elim
 rename_i vi
 have vi:sz=ty.size:=abl vi
 split at hk <;> try exact hk.elim
 rename_i Er
 have Er:s'=sz:=abl Er
 obtain⟨ys,A,m,c,news,FL,mZ,kc,yi,hA,dw,hk⟩:=Ct h.aZ hx hk
 rw[bf]at hk
 obtain⟨A0,c0,u7⟩:∃ A0 c0,a.eval s=.slice A0 (n ()) c0:=by generalize a.eval s=u at hs;cases hs with|vec _ _ _ _ A c=>exact⟨A,c,rfl⟩
 rw[u7]at hs
 have FM:(((ys ()).take (n ()))).length=min (ys ()).length (n ()):=by simp[Nat.min_comm]
 have YF:Data g ty ((ys ()).take (n ())) (news.take (Nat.min m (n ())*sz)):=by
  have:=yi.take (Nat.min m (n ()))
  rw[vi]
  have e:(ys ()).take (Nat.min m (n ()))=(ys ()).take (n ()):=by
   rw[←mZ]
   show(ys ()).take (min (ys ()).length (n ()))=_
   rw[List.take_eq_take_iff];(try omega)
  rwa [e]at this
 obtain⟨w',bn,hinv⟩:=GC (P:=P) h hE hs (by omega) (ys:=fun u=>(ys u).take (n u)) (k:=fun u=>min (ys u).length (n u)) FM (Nat.min_le_right _ _) YF
 have YG:=td (P:=P) (w:=w) (k:=Nat.min m (n ())) (c:=c) vi mZ yi hA dw (Nat.min_le_left _ _)
 refine⟨_,.int .i64 (Nat.min m (n ()):Nat),_,w',_,_,_,?_,.inl rfl,hinv,R.ve (by rw[mZ]),hk⟩
 have QI:(Builtin.copy_ (t::r).toArray o.type #[a.eval s,a.eval x]).run P w=.ok (.int .i64 (Nat.min m (n ()):Nat)) w':=by
  rw[u7,FL]
  unfold Builtin.copy_
  simp only[ad7,List.getElem?_cons_zero,List.getElem?_cons_succ,Sem.run_bind,ag ht,Result.andThen_ok,Builtin.lenOf,Sem.run_pure,aW cv,YG]
  cases A0 with
  | none=>simp at bn;simp[goInt,bn]
  | some ad=>simp at bn;simp[goInt,bn]
 simp[execOp,ho,resolve,invoke,builtin,QI]
theorem GD {ts:List Nat} {s:Operand} (h:Inv B g env E a.tmps w) (ho:o.op=.call { callee:=.builtin .clear,args:=#[s],argTypes:=ts.toArray })
  (hk:cy P .clear ts [ev env s] env E K):iv P o a w B K:=by
 have hs:=h.er.ev s
 simp only[cy]at hk
 split at hk <;> try exact hk.elim
 rename_i t r i s' of n es
 simp only[List.cons.injEq,and_true]at es
 rw[es]at hs
 split at hk <;> try exact hk.elim
 rename_i e ht
 split at hk <;> try exact hk.elim
 rename_i sz z cv hz
 split at hk <;> try exact hk.elim
 rename_i T ty xs hE
 split at hk <;> try exact hk.elim
 rename_i vi
 have vi:sz=ty.size:=abl vi
 split at hk <;> try exact hk.elim
 rename_i Er
 have Er:s'=sz:=abl Er
 split at hk <;> try exact hk.elim
 rename_i Gw
 have Gw:z.cells.size=sz:=abl Gw
 split at hk <;> try exact hk.elim
 rename_i cs vA
 obtain⟨d,hd,hk⟩:=kN hk ((nT g z).cells vA)
 rw[bf]at hk
 obtain⟨A0,c0,u7⟩:∃ A0 c0,a.eval s=.slice A0 (n ()) c0:=by generalize a.eval s=u at hs;cases hs with|vec _ _ _ _ A c=>exact⟨A,c,rfl⟩
 rw[u7]at hs
 have L1:Data g ty (List.replicate (n ()) (d ())) (List.replicate (n ()) z.cells.toList).flatten:=Data.replicate (by rw[iJ];exact hd) _
 obtain⟨w',bn,hinv⟩:=GC (P:=P) h hE hs (by omega) (ys:=fun u=>List.replicate (n u) (d u)) (k:=n) (by simp) (abr _) L1
 refine⟨_,.tuple #[],_,w',_,_,_,?_,.inl rfl,hinv,R.il (cs:=[]) (vs:=[]) trivial,hk⟩
 have Qy:(Builtin.zeroCells z.cells (n ())).toList=(List.replicate (n ()) z.cells.toList).flatten:=by
  unfold Builtin.zeroCells;exact kb z.cells (n ())
 have Nv:(Builtin.clear_ (t::r).toArray o.type #[a.eval s]).run P w=.ok (.tuple #[]) w':=by
  rw[u7]
  unfold Builtin.clear_
  simp only[ad7,List.getElem?_cons_zero,Sem.run_bind,ag ht,Result.andThen_ok]
  cases A0 with
  | none=>simp at bn;simp[bn]
  | some ad =>
   cases hn:n ()with
   | zero =>
    rw[hn]at bn
    simp[storeCells]at bn
    simp[bn]
   | succ k =>
    rw[hn]at bn Qy
    simp only[]at bn
    simp[ed hz,Qy,bn]
 simp[execOp,ho,resolve,invoke,builtin,Nv]
theorem Eu (q:Int) (h:0≤q∧q<256):((UInt8.ofNat q.toNat).toNat:Int)=q:=by
 rw[UInt8.toNat_ofNat'];omega
theorem sc {pt it:Nat} {x y:Operand} (h:Inv B g env E a.tmps w) (ho:o.op=.call { callee:=.builtin .unsafeString,args:=#[x,y],argTypes:=#[pt,it] })
  (hk:cy P .unsafeString [pt,it] [ev env x,ev env y] env E K):iv P o a w B K:=by
 have hx:=h.er.ev x
 have hy:=h.er.ev y
 simp only[cy]at hk
 split at hk <;> try exact hk.elim
 rename_i ts az pt' it' i idx m YH UA
 injection YH with e1 e2
 injection e2 with e2 _
 subst e1 e2
 injection UA with ex e3
 injection e3 with ey _
 rw[ex]at hx
 rw[ey]at hy
 split at hk <;> try exact hk.elim
 rename_i e UK
 split at hk <;> try exact hk.elim
 rename_i T xs rQ hE
 split at hk <;> try exact hk.elim
 rename_i GA
 have GA:T=e:=abl GA
 subst GA
 rw[dn,bf]at hk
 obtain⟨dZ,hk⟩:=hk
 obtain⟨h0,h1,h2,UL,h3⟩:=dZ.h
 have hi:i<ah E:=dV (by rw[hE];simp)
 have gy:=h.aZ.sat i
 rw[hE]at gy
 obtain⟨s1,s2,s3⟩:=gy
 obtain⟨mm,hm⟩:∃ mm:Nat,m ()=mm:=⟨(m ()).toNat,by omega⟩
 cases hV:g.V i with
 | none=>have:=s2 hV;rw[this]at h2;simp at h2;omega
 | some cap =>
  obtain⟨vs,hb,Ch,cX,hd⟩:=s3 cap hV
  have YI:=hy.bS
  have FL:a.eval x=.pointer (some ⟨g.B i,0,none⟩):=by
   generalize a.eval x=u at hx
   cases hx;simp[h0]
  let l:List UInt8:=((xs ()).take mm).map fun z=>UInt8.ofNat z.toNat
  have L4:l.length=mm:=by simp[l];omega
  have dw:∀ j z,l[j]?=some z→w.cell? ((⟨g.B i,0,none⟩:Addr).add j)=some (.int .u8 z.toNat):=by
   intro j z hz
   have hj:j<mm:=by rw[←L4];exact(abk.1 hz).1
   have PT:j<(xs ()).length:=by omega
   have QJ:z=UInt8.ofNat ((xs ())[j]'PT).toNat:=by
    simp only[l,ach,abK,if_pos hj,abj PT]at hz
    simpa using hz.symm
   have hr:=hd j _ (abj PT)
   have cv:(Ty.int IntKind.u8).size=1:=rfl
   rw[cv]at hr
   cases mb:(vs.toList.drop (j*1)).take 1 with
   | nil=>rw[mb]at hr;exact hr.elim
   | cons u r =>
    rw[mb]at hr
    have Ut:=hr.1.bS
    have:((vs.toList.drop (j*1)).take 1)[0]?=some u:=by rw[mb];rfl
    rw[b7 rfl,cell_of_heap hb]
    simp at this
    rw[abx,this,Ut,QJ]
    have Ed:=h3 _ (abO PT)
    have e:((UInt8.ofNat (Int.toNat ((xs ())[j]'PT))).toNat:Int)=(xs ())[j]'PT:=Eu _ Ed
    rw[e]
  have cv:P.cellsOf T=1:=by
   unfold bT at rQ
   split at rQ
   ·rename_i ti wL
    simp only[ab6]at rQ
    simp[Program.cellsOf,bA wL,rQ]
   ·cases rQ
  have bE:l≠[]:=by
   intro e
   have e2:l.length=0:=by rw[e];rfl
   omega
  have UM:vs.size=cap:=by rw[Ch];exact aew _
  have Cv:=Lib.run_unsafeString_row (P:=P) w pt it o.type T (aw UK) cv (g.B i) vs.size (by simp[World.shape?,hb]) l bE (by rw[L4,UM];omega) (by rw[L4];omega) dw
  rw[L4]at Cv
  have bn:(execOp a.eval o).run P w=.ok (.value (.string ⟨l.toArray⟩)) (w.freeze ⟨g.B i,0,none⟩ mm):=by
   simp[execOp,ho,resolve,invoke,builtin,FL,YI,hm,Cv]
  have Xg:∀ k,k≠g.B i→(w.freeze ⟨g.B i,0,none⟩ mm).heap[k]?=w.heap[k]?:=fun k hk=>by
   unfold World.freeze
   split
   ·rfl
   ·simp only[Array.getElem?_modify];rw[if_neg (fun e=>hk e.symm)]
  have hblk:(af E i).own g i (g.B i):=by rw[hE];simp[Chunk.own,hV]
  have hinv:=h.Ef (w':=w.freeze ⟨g.B i,0,none⟩ mm) (g':=g) (kS i) (c:=.none) ⟨T,_,xs,hE⟩ rfl rfl rfl rfl (fun b o' hb=>hb) (fun v u hv hr=>Cu rfl (fun j _=>⟨rfl,rfl,rfl⟩) rfl rfl v u hv hr) hi (fun j _=>⟨rfl,rfl,rfl⟩)
   (by unfold World.freeze;split <;> rfl) (by unfold World.freeze;split <;> rfl) (by unfold World.freeze;split <;> exact⟨rfl,abr _⟩) (by unfold World.freeze;split <;> simp) (fun k _ hk=>Xg k (hk _ hblk)) trivial (fun b hb=>by cases hb) (fun b o' hb=>.inl hb)
  refine⟨_,_,_,_,_,_,_,bn,.inl rfl,hinv,?_,hk⟩
  exact R.AO (by simp[l,hm])
theorem gO {op:Op} (h:Inv B g env E a.tmps w) (ho:o.op=op) (hk:eV P op env E K) (QK:∀ s d x,op=.convert s d x→∃ u,aT P s=some u):iv P o a w B K:=by
 cases op <;> try (simp only[eV]at hk;done)
 case alloc e=>exact Gr h ho hk
 case box e x=>exact Nn h ho hk
 case store t x v=>exact Gs h ho hk
 case buildSlice t l p=>exact vg h ho hk
 case makeSlice t l c=>exact wV h ho hk
 case makeMap t r =>
  cases r with
  | none=>exact AY h ho hk
  | some _=>simp only[eV]at hk
 case insert t m k x =>
  cases k <;> try (simp only[eV]at hk;done)
  rename_i v
  cases v <;> try (simp only[eV]at hk;done)
  exact JX h ho hk
 case mapUpdate t m k x=>exact wT h ho hk
 case range t x=>exact Gu h ho hk
 case entry x=>exact Gv h ho hk
 case next x b =>
  cases b with
  | true=>simp only[eV]at hk
  | false=>exact J0 h ho hk
 case convert s d x=>obtain⟨u,hu⟩:=QK s d x rfl;exact A1 hu h ho hk
 case call c =>
  obtain⟨callee,args,argTypes⟩:=c
  cases callee <;> try (simp only[eV]at hk;done)
  rename_i b
  simp only[eV]at hk
  obtain⟨args⟩:=args
  obtain⟨ts⟩:=argTypes
  cases b <;> try (simp only[cy]at hk;done)
  case delete=>exact Ej h ho hk
  case append =>
   have oD:=hk
   simp only[cy]at oD
   obtain _|⟨t,_|⟨t2,_|⟨_,_⟩⟩⟩:=ts <;> try (simp at oD;done)
   obtain _|⟨s,_|⟨x,_|⟨_,_⟩⟩⟩:=args <;> try (simp[qF]at oD;done)
   exact Et h ho hk
  case copy =>
   have oD:=hk
   simp only[cy]at oD
   obtain _|⟨s,_|⟨x,_|⟨_,_⟩⟩⟩:=args
   ·cases ts <;> simp[qF]at oD
   ·cases ts <;> simp[qF]at oD
    all_goals (cases hh:ev env s <;> simp[hh]at oD)
   ·exact J4 h ho hk
   ·cases ts <;> simp[qF]at oD
    all_goals (cases hh:ev env s <;> simp[hh]at oD)
  case unsafeString =>
   have oD:=hk
   simp only[cy]at oD
   obtain _|⟨t,_|⟨t2,_|⟨_,_⟩⟩⟩:=ts <;> try (simp at oD;done)
   obtain _|⟨s,_|⟨x,_|⟨_,_⟩⟩⟩:=args <;> try (simp[qF]at oD;done)
   exact sc h ho hk
  case clear =>
   have oD:=hk
   simp only[cy]at oD
   obtain _|⟨s,_|⟨x,_⟩⟩:=args
   ·cases ts <;> simp[qF]at oD
   ·exact GD h ho hk
   ·cases ts <;> simp[qF]at oD
    all_goals (cases hh:ev env s <;> simp[hh]at oD)
end
def fY (P:Program) (f:FuncId):Prop:=∃ fn,P.funcs[f]?=some fn∧fn.body.isSome=true∧fn.name ≠ "runtime.NumGoroutine"
def Fr (r:Option Nat):Fence:={ Fence.wide with round:=r }
theorem iZ {P:Program} {r:Option Nat} {n:Nat} {f:FuncId} {args:Array Value} {w:World} {R:Ending→World→Prop}:CallsIn (Fr r) n P f args w R↔Calls P f args w R:=callsIn_wide (n:=n)
def bU.mark (B:bU) (D:Nat):bU:=⟨{ B.g with Φ:=fun b=>if b=D then some (.deferred (some []))else B.g.Φ b },B.E,B.w⟩
structure Sc where
 at_:bU→Prop
 b0:Nat
 ok:Bool
 hb:ok=true→∀ B,at_ B→b0≤B.w.heap.size
 cl:ok=true→∀ B D,at_ B→b0≤D→at_ (B.mark D)
def Dm (S:Sc) (B:bU) (ds:List Deferred):Prop:=(S.ok=false→ds=[])∧∃ Ds:List Nat,ds=Ds.map (fun D=>{ target:=.collected D,args:=#[] })∧Ds.Nodup∧∀ D∈Ds,S.b0≤D∧B.g.Φ D=some (.deferred (some []))
def Iv (S:Sc) (g:Gh) (env:Env) (E:List Chunk) (a:Act) (w:World):Prop:=∃ B,S.at_ B∧Inv B g env E a.tmps w∧Dm S B a.defers
theorem Iv.aZ {S:Sc} {g:Gh} {env:Env} {E:List Chunk} {a:Act} {w:World} (h:Iv S g env E a w):fg g E w:=by obtain⟨B,_,h,_⟩:=h;exact h.aZ
theorem Iv.er {S:Sc} {g:Gh} {env:Env} {E:List Chunk} {a:Act} {w:World} (h:Iv S g env E a w):ER g env a.tmps:=by obtain⟨B,_,h,_⟩:=h;exact h.er
def Step (y:Bool) (P:Program) (o:Oper) (a:Act) (w:World) (next:Act→World→Prop):Prop :=
 (∀ c,o.op≠.defer c)∧∃ n w1,(execOp a.eval o).run P w=.ok n w1∧(match n with
  | .value v=>next (a.put o.dst v) w1
  | .skip=>next (a.put o.dst Go.undef) w1
  | .enter f args=>Calls P f args w1 fun e w'=>∃ c,e=.returned c∧next (a.put o.dst c) w'
  | .round l f tmps assign body=>y=true∧RoundIn Fence.wide 0 P l f tmps assign body w1 fun e w'=>∃ c,e=.returned c∧next (a.put o.dst c) w'
  | _=>False)
theorem Step.wpIn {y:Bool} {r:Option Nat} {P:Program} {o:Oper} {a:Act} {w:World} {next:Act→World→Prop} {Q:Exit→Act→World→Prop} (h:Step y P o a w next):o.wpIn (Fr r) 0 P a w next Q:=by
 obtain⟨hd,n,w1,hr,h⟩:=h
 refine⟨fun _ _=>trivial,?_⟩
 rw[Oper.semAt_eq _ _ _ hd,hr]
 cases n with
 | value v=>exact h
 | skip=>exact h
 | enter f args=>exact⟨fun h=>by simp[Fr,Fence.wide]at h,iZ.2 (Calls.mono h (by rintro e w' ⟨c,rfl,hc⟩;exact hc))⟩
 | round l f tmps assign body=>exact⟨fun h=>by simp[Fr,Fence.wide]at h,RoundIn.mono (F:=Fr r) h.2 (by rintro e w' ⟨c,rfl,hc⟩;exact hc)⟩
 | _=>exact h.elim
structure ab (P:Program) (f:FuncId) (args:List AV) (env:Env) (E:List Chunk) (K:AV→Env→List Chunk→Prop):Prop where
 aA:fY P f
 h:∀ (B:bU) (g:Gh) (tmps:Array Value) (w:World) (aD:List Value),Inv B g env E tmps w→RL g args aD →
  Calls P f aD.toArray w (fun e w'=>∃ c r g' aj E',e=.returned c∧Inv B g' aj E' tmps w'∧R g' r c∧K r aj E')
def GF (P:Program) (t:Nat) (name:String) (f:FuncId):Bool:=match gK P t with
 | some i=>(match i.methods.find? (·.name == name)with
  | some m=>(match m.path.toList,m.func,P.underlying t with
   | [],some (f',true),some (.pointer _)=>Nat.beq f' f
   | [],some (f',false),some d=>Nat.beq f' f && (match d with|.pointer _=>false|_=>true)
   | _,_,_=>false)
  | none=>false)
 | none=>false
structure GG (P:Program) (t:Nat) (name:String) (f:FuncId):Prop where
 h:∀ (u:Value) (w:World),(method (P.types.size+Made.depth) t u name).run P w=.ok (f,u) w
theorem GG.of {P:Program} {t:Nat} {name:String} {f:FuncId} (h:GF P t name f=true):GG P t name f where
 h:=by
  intro u w
  obtain⟨n,hn⟩:∃ n,P.types.size+Made.depth=n+1:=⟨P.types.size+Made.depth - 1,(by have:0<Made.depth:=(by decide);omega)⟩
  unfold GF at h
  split at h
  ·rename_i i hi
   split at h
   ·rename_i m hm
    split at h
    ·rename_i f' te hp hf hu
     have Nf:=abl h
     subst Nf
     rw[hn]
     simp[method,typeInfo,bA hi,hm,hp,follow,hf,receiverAt,run_underlying hu,Place.get]
    ·rename_i f' d hp hf hu
     rw[abD]at h
     have Nf:=abl h.1
     subst Nf
     rw[hn]
     have hd:=h.2
     cases d <;> first|(cases hd;done)|simp[method,typeInfo,bA hi,hm,hp,follow,hf,receiverAt,run_underlying hu,Place.get]
    ·cases h
   ·cases h
  ·cases h
structure lQ (P:Program) (t:Nat) (name:String) (v:AV) (az:List AV) (env:Env) (E:List Chunk) (K:AV→Env→List Chunk→Prop):Prop where
 h:∃ f,GG P t name f∧ab P f (v::az) env E K
theorem lQ.intro {P:Program} {t:Nat} {name:String} {v:AV} {az:List AV} {env:Env} {E:List Chunk} {K:AV→Env→List Chunk→Prop} (f:FuncId) (h:GF P t name f=true) (hc:ab P f (v::az) env E K):lQ P t name v az env E K:=⟨f,.of h,hc⟩
structure tf (P:Program) (S:Sc) (l:Nat) (args:List AV) (env:Env) (E:List Chunk) (K:AV→Env→List Chunk→Prop):Prop where
 h:∀ (g:Gh) (a:Act) (w:World) (aD:List Value),Iv S g env E a w→RL g args aD →
  YieldAt Fence.wide 0 P l aD.toArray w (fun e w'=>∃ c r g' aj E',e=.returned c∧Iv S g' aj E' a w'∧R g' r c∧K r aj E')
def GH (P:Program) (f:FuncId):Bool:=match nth P.funcs.toList f with
 | some fn=>(match fn.body with|none=>true|some _=>false)|none=>false
structure QL (P:Program) (f:FuncId):Prop where
 h:∃ fn,P.funcs[f]?=some fn∧(fn.name == "runtime.NumGoroutine")=false∧fn.body.isNone=true∧Extern.findNext fn=none∧Extern.find fn=some Extern.AbiNoEscape.same
def bB:List Chunk→List Bool
 | []=>[]|c::r=>dj c::bB r
def PU (l:List Bool) (K:List Bool→Prop):Prop:=match l with
 | []=>K []|true::r=>PU r fun r=>K (true::r)|false::r=>PU r fun r=>K (false::r)
theorem Nw (l:List Bool) (K:List Bool→Prop):PU l K=K l:=by
 induction l generalizing K with
 | nil=>rfl
 | cons c r ih=>cases c <;> simp only[PU,ih]
inductive Ex|normal|ret|exit (n:Nat)
def Ex.out:Ex→Exit
 | .normal=>.normal|.ret=>.ret|.exit n=>.exit n
def A5 (S:Sc) (N:Nat) (K:Ex→Env→List Chunk→Prop):Exit→Act→World→Prop :=
 fun x a w=>∃ e g env E,x=e.out∧Iv S g env E a w∧a.tmps.size=N∧K e env E
def fu:Code→Bool
 | .region _ _ _=>true|.seq a b=>fu a && fu b|.cond _ a b=>fu a && fu b|.block _ b=>fu b|.loop b=>fu b|.rangeFunc _ _ a b=>false|.scope b=>fu b
 | .skip=>true|.label _=>true|.exit _=>true|.ret=>true|_=>false
structure aH (P:Program) (N:Nat) (S:Sc) (M:List Bool) (body:Code) (env:Env) (E:List Chunk) (K:Ex→Env→List Chunk→Prop):Prop where
 h:∀ (r:Option Nat) (g:Gh) (a:Act) (w:World),(r=none∨fu body=true)→(∀ B,S.at_ B→bB B.E=M)→Iv S g env E a w→a.tmps.size=N→(Code.loop body).wpIn (Fr r) 0 P (A5 S N K) a w
structure aC (P:Program) (N:Nat) (S:Sc) (M:List Bool) (c:Code) (env:Env) (E:List Chunk) (K:Ex→Env→List Chunk→Prop):Prop where
 h:∀ (r:Option Nat) (g:Gh) (a:Act) (w:World),(r=none∨fu c=true)→(∀ B,S.at_ B→bB B.E=M)→Iv S g env E a w→a.tmps.size=N→c.wpIn (Fr r) 0 P (A5 S N K) a w
structure Cl (p:Unit→Prop):Prop where h:p ()
def QM:List AV→List AV→List AV
 | [],l=>l|c::r,l=>c::QM r l
theorem GI (l r:List AV):QM l r=l++r:=by induction l <;> simp[QM, *]
section
variable (P:Program) (N:Nat) (S:Sc)
def dh (d:Option Nat) (v:AV) (env:Env) (K:Env→Prop):Prop :=
 match d with
 | none=>K env
 | some d=>(match Nat.blt d N with|true=>fV v fun v=>K ((d,v)::env)|false=>False)
def wW (y:Bool) (o:Oper) (env:Env) (E:List Chunk) (K:Env→List Chunk→Prop):Prop :=
 match o.op with
 | .call { callee:=.value f,args,.. }=>(match ev env f with
  | .fn (.func i) first captured=>fL (QM first (QM (qF env args.toList) captured)) fun az=>(match GH P i with
   | true=>(match az with|[v]=>QL P i∧fV v fun r=>dh N o.dst r env fun env=>K env E|_=>False)
   | false=>ab P i az env E fun r env E=>fV r fun r=>dh N o.dst r env fun env=>K env E)
  | .fn (.yield l) [] []=>(match y with
   | true=>fL (qF env args.toList) fun az=>tf P S l az env E fun r env E=>fV r fun r=>dh N o.dst r env fun env=>K env E
   | false=>False)
  | _=>False)
 | .call { callee:=.invoke recv name,args,.. }=>(match ev env recv with
  | .ot t v=>fL (qF env args.toList) fun az=>lQ P t name v az env E fun r env E=>fV r fun r=>dh N o.dst r env fun env=>K env E
  | _=>False)
 | .alloc e=>eV P (.alloc e) env E fun r env E=>dh N o.dst r env fun env=>K env E
 | .box e x=>eV P (.box e x) env E fun r env E=>dh N o.dst r env fun env=>K env E
 | .store t x v=>eV P (.store t x v) env E fun r env E=>dh N o.dst r env fun env=>K env E
 | .buildSlice t l p=>eV P (.buildSlice t l p) env E fun r env E=>dh N o.dst r env fun env=>K env E
 | .makeSlice t l c=>eV P (.makeSlice t l c) env E fun r env E=>dh N o.dst r env fun env=>K env E
 | .makeMap t r=>eV P (.makeMap t r) env E fun r env E=>dh N o.dst r env fun env=>K env E
 | .insert t m k x=>eV P (.insert t m k x) env E fun r env E=>dh N o.dst r env fun env=>K env E
 | .mapUpdate t m k x=>eV P (.mapUpdate t m k x) env E fun r env E=>dh N o.dst r env fun env=>K env E
 | .range t x=>eV P (.range t x) env E fun r env E=>dh N o.dst r env fun env=>K env E
 | .next x b=>eV P (.next x b) env E fun r env E=>dh N o.dst r env fun env=>K env E
 | .entry x=>eV P (.entry x) env E fun r env E=>dh N o.dst r env fun env=>K env E
 | .convert s d x=>(match aT P s,aT P d with
  | some .string,some (.slice _)=>eV P (.convert s d x) env E fun r env E=>dh N o.dst r env fun env=>K env E
  | _,_=>qV P (.convert s d x) env E fun r=>dh N o.dst r env fun env=>K env E)
 | .call { callee:=.builtin b,args,argTypes }=>(match b with
  | .append|.copy|.clear|.unsafeString|.delete=>cy P b argTypes.toList (qF env args.toList) env E fun r env E=>dh N o.dst r env fun env=>K env E
  | _=>qV P (.call { callee:=.builtin b,args,argTypes }) env E fun r=>dh N o.dst r env fun env=>K env E)
 | op=>qV P op env E fun r=>dh N o.dst r env fun env=>K env E
def Nx (o:Oper):Bool :=
 match o.op with
 | .call { callee:=.value _,.. }|.call { callee:=.invoke _ _,.. }|.alloc _|.box _ _|.store _ _ _|.buildSlice _ _ _|.makeSlice _ _ _|.makeMap _ _|.insert _ _ _ _|.mapUpdate _ _ _ _|.range _ _|.next _ _|.entry _=>false
 | .convert s d _=>(match aT P s,aT P d with|some .string,some (.slice _)=>false|_,_=>true)
 | .call { callee:=.builtin b,.. }=>(match b with|.append|.copy|.clear|.unsafeString|.delete=>false|_=>true)
 | _=>true
def tg (ops:List Oper) (j:Nat):Option Nat:=match nth ops j with|some o=>o.dst|none=>none
def jX (y:Bool) (ops:List Oper):List Oper→Env→List Chunk→(Env→List Chunk→Prop)→Prop
 | [],env,E,K=>K env E
 | o::r,env,E,K=>match o.guard with
  | none=>wW P N S y o env E fun env E=>jX y ops r env E K
  | some (j,want)=>(match tg ops j with
   | none=>False
   | some d=>(match look env d with
    | .bool b=>(b ()=want→wW P N S y o ((d,cond want .tt .ff)::env) E fun env E=>jX y ops r env E K) ∧
      (b ()=!want→dh N o.dst .skip ((d,cond want .ff .tt)::env) fun env=>jX y ops r env E K)
    | .tt=>(match want with|true=>wW P N S y o env E fun env E=>jX y ops r env E K|false=>dh N o.dst .skip env fun env=>jX y ops r env E K)
    | .ff=>(match want with|false=>wW P N S y o env E fun env E=>jX y ops r env E K|true=>dh N o.dst .skip env fun env=>jX y ops r env E K)
    | .skip=>dh N o.dst .skip env fun env=>jX y ops r env E K
    | _=>False))
end
section
variable {P:Program} {N M:Nat} {S:Sc} {y:Bool}
theorem th {B:bU} {g:Gh} {env:Env} {E:List Chunk} {a:Act} {w:World} {d:Option Nat} {v:AV} {u:Value} {K:Env→Prop} (h:Inv B g env E a.tmps w) (hr:R g v u) (hN:a.tmps.size=N) (hk:dh N d v env K) :
  ∃ aj,Inv B g aj E (a.put d u).tmps w∧(a.put d u).tmps.size=N∧(a.put d u).defers=a.defers∧K aj:=by
 unfold dh at hk
 split at hk
 ·exact⟨env,h,hN,rfl,hk⟩
 ·rename_i d
  split at hk <;> try exact hk.elim
  rename_i hd
  rw[gu]at hk
  have mb:d<a.tmps.size:=by rw[hN];exact ab3 hd
  exact⟨_,h.put hr mb,by simp[Act.put,hN],rfl,hk⟩
theorem Iv.put {g:Gh} {env:Env} {E:List Chunk} {a:Act} {w:World} {d:Option Nat} {v:AV} {u:Value} {K:Env→Prop} (h:Iv S g env E a w) (hr:R g v u) (hN:a.tmps.size=N) (hk:dh N d v env K) :
  ∃ aj,Iv S g aj E (a.put d u) w∧(a.put d u).tmps.size=N∧K aj:=by
 obtain⟨B,hB,h,hd⟩:=h
 obtain⟨aj,h1,h2,h3,h4⟩:=th h hr hN hk
 exact⟨aj,⟨B,hB,h1,by rw[h3];exact hd⟩,h2,h4⟩
theorem GJ {g:Gh} {env:Env} {E:List Chunk} {a:Act} {w:World} {o:Oper} {K:Env→List Chunk→Prop} {next:Act→World→Prop}
  (h:Iv S g env E a w) (hN:a.tmps.size=N) (hk:wW P N S y o env E K)
  (rK:∀ g' aj E' a' w',Iv S g' aj E' a' w'→a'.tmps.size=N→K aj E'→next a' w'):Step y P o a w next:=by
 obtain⟨B,hB,h,Ju⟩:=h
 have hn:∀ g' aj E' a' w',a'.defers=a.defers→Inv B g' aj E' a'.tmps w'→a'.tmps.size=N→K aj E'→next a' w':=fun g' aj E' a' w' mb h1=>rK g' aj E' a' w' ⟨B,hB,h1,by rw[mb];exact Ju⟩
 have done:∀ (Kr:AV→Env→List Chunk→Prop),(∀ r env E,Kr r env E→dh N o.dst r env fun env=>K env E)→(∀ c,o.op≠.defer c)→iv P o a w B Kr→Step y P o a w next:=by
  intro Kr YJ eZ ⟨n,c,r,w',g',aj,E',h1,h2,h3,h4,h5⟩
  refine⟨eZ,_,_,h1,?_⟩
  obtain⟨ke,h6,h7,h8,h9⟩:=th h3 h4 hN (YJ r aj E' h5)
  rcases h2 with rfl|⟨rfl,rfl⟩
  ·exact hn _ _ _ _ _ h8 h6 h7 h9
  ·exact hn _ _ _ _ _ h8 h6 h7 h9
 have quiet:∀ op,o.op=op→qV P op env E (fun r=>dh N o.dst r env fun env=>K env E)→Step y P o a w next:=by
  intro op ho hq
  obtain⟨r,c,h1,h2,h3⟩:=LW h.aZ h.er hq o ho
  refine⟨fun c e=>?_,_,_,h1,?_⟩
  ·rw[←ho,e]at hq;exact hq
  obtain⟨ke,h6,h7,h8,h9⟩:=th h h2 hN h3
  exact hn _ _ _ _ _ h8 h6 h7 h9
 unfold wW at hk
 split at hk
 ·rename_i f args ts ho
  split at hk <;> try exact hk.elim
  case h_2 =>
   rename_i l ef
   split at hk <;> try exact hk.elim
   rw[fA]at hk
   have hf:=h.er.ev f
   rw[ef]at hf
   have hv:a.eval f=.func (.yield l) #[] #[]:=by
    generalize a.eval f=u at hf
    cases hf with|fn _ _ _ vs ws hl lK hr rG =>
    have e1:vs=#[]:=acx (by simpa using hl.symm)
    have e2:ws=#[]:=acx (by simpa using lK.symm)
    subst e1 e2;rfl
   obtain⟨fn,tm,az,body,h1,h2⟩:=hk.h g a w _ ⟨B,hB,h,Ju⟩ (h.er.qF args.toList)
   have bn:(execOp a.eval o).run P w=.ok (.round l fn tm az body) w:=by
    have e:(args.map a.eval)=(args.toList.map a.eval).toArray:=by apply acS;simp
    simp[execOp,ho,resolve,hv,Deferred.ofValue,invoke,e,h1]
   refine⟨fun c e=>(by rw[ho]at e;cases e),_,_,bn,?_⟩
   refine⟨rfl,h2.mono ?_⟩
   rintro e w' ⟨c,r,g',aj,E',rfl,h3,h4,h5⟩
   rw[gu]at h5
   obtain⟨ke,h6,h7,h9⟩:=h3.put h4 hN h5
   exact⟨c,rfl,rK _ _ _ _ _ h6 h7 h9⟩
  rename_i i first captured ef
  rw[fA]at hk
  have hf:=h.er.ev f
  rw[ef]at hf
  obtain⟨vs,ws,hv,oC,tj⟩:∃ vs ws,a.eval f=.func (.func i) vs ws∧RL g first vs.toList∧RL g captured ws.toList:=by
   generalize a.eval f=u at hf
   cases hf with|fn _ _ _ vs ws hl lK hr rG =>
   exact⟨vs,ws,rfl,RL.mk (by simpa using hl) fun i y u h1 h2=>hr i y u h1 (by simpa using h2),RL.mk (by simpa using lK) fun i y u h1 h2=>rG i y u h1 (by simpa using h2)⟩
  have eu:=oC.append ((h.er.qF args.toList).append tj)
  rw[GI,GI]at hk
  split at hk
  ·split at hk <;> try exact hk.elim
   rename_i v e1
   rw[e1]at eu
   obtain⟨bE,hk⟩:=hk
   obtain⟨fn,f1,f2,f3,f4,f5⟩:=bE.h
   rw[gu]at hk
   obtain⟨u,hu⟩:∃ u,vs.toList++(args.toList.map a.eval++ws.toList)=[u]:=by
    have:=eu.length
    match hl:vs.toList++(args.toList.map a.eval++ws.toList),this with
    | [u],_=>exact⟨u,rfl⟩
   have e:(vs++Array.map a.eval args++ws)=#[u]:=by
    apply acS
    rw[←hu];simp
   rw[hu]at eu
   have bn:(execOp a.eval o).run P w=.ok (.value u) w:=by
    have:=run_callFunc_extern f1 f2 f3 f4 f5 #[u] w
    rw[Lib.run_noEscape]at this
    simp[execOp,ho,resolve,hv,Deferred.ofValue,invoke,e,this,Result.andThen]
   exact done (fun r aj E'=>dh N o.dst r aj fun env=>K env E') (fun _ _ _ h=>h) (fun c e=>by rw[ho]at e;cases e) ⟨_,_,_,_,_,_,_,bn,.inl rfl,h,eu.1,hk⟩
  have tk:=hk.h B g a.tmps w _ h eu
  obtain⟨fn,Jr,yH,pz⟩:=hk.aA
  have bn:(execOp a.eval o).run P w=.ok (.enter i (vs.toList++(args.toList.map a.eval++ws.toList)).toArray) w:=by
   have hb:fn.body≠none:=by intro e;rw[e]at yH;simp at yH
   have e:(vs++Array.map a.eval args++ws)=(vs.toList++(args.toList.map a.eval++ws.toList)).toArray:=by apply acS;simp
   simp[execOp,ho,resolve,hv,Deferred.ofValue,invoke,callFunc,Jr,pz,hb,←e]
  refine⟨fun c e=>(by rw[ho]at e;cases e),_,_,bn,?_⟩
  refine Calls.mono tk ?_
  rintro e w' ⟨c,r,g',aj,E',rfl,h3,h4,h5⟩
  rw[gu]at h5
  obtain⟨ke,h6,h7,h8,h9⟩:=th h3 h4 hN h5
  exact⟨c,rfl,hn _ _ _ _ _ h8 h6 h7 h9⟩
 ·rename_i recv name args ts ho
  split at hk <;> try exact hk.elim
  rename_i t v er
  rw[fA]at hk
  have hf:=h.er.ev recv
  rw[er]at hf
  obtain⟨u,hv,hu⟩:∃ u,a.eval recv=.iface t u∧R g v u:=by
   generalize a.eval recv=x at hf
   cases hf with|ot _ _ u hu=>exact⟨u,rfl,hu⟩
  obtain⟨i,TL,hk⟩:=hk.h
  have eu:RL g (v::qF env args.toList) (u::args.toList.map a.eval):=⟨hu,h.er.qF args.toList⟩
  have tk:=hk.h B g a.tmps w _ h eu
  obtain⟨fn,Jr,yH,pz⟩:=hk.aA
  have bn:(execOp a.eval o).run P w=.ok (.enter i (u::args.toList.map a.eval).toArray) w:=by
   have hb:fn.body≠none:=by intro e;rw[e]at yH;simp at yH
   have e:(#[u]++(args.map a.eval))=(u::args.toList.map a.eval).toArray:=by apply acS;simp
   have e1:(#[Value.iface t u]++args.map a.eval)[0]?=some (.iface t u):=by rw[Array.getElem?_append];rfl
   have e2:(#[Value.iface t u]++args.map a.eval).extract 1 (#[Value.iface t u]++args.map a.eval).size=args.map a.eval:=by
    apply acS;simp[Array.toList_extract,List.extract]
    rw[abo (by simp)]
   have e3:(callMethod (.iface t u) name (args.map a.eval)).run P w=.ok (.enter i (#[u]++args.map a.eval)) w:=by
    simp[callMethod,TL.h,callFunc,Jr,pz,hb,Result.andThen]
   simp[execOp,ho,resolve,hv]
   rw[←e,←e3]
   unfold invoke
   rw[e1]
   simp only[e2]
  refine⟨fun c e=>(by rw[ho]at e;cases e),_,_,bn,?_⟩
  refine Calls.mono tk ?_
  rintro e w' ⟨c,r,g',aj,E',rfl,h3,h4,h5⟩
  rw[gu]at h5
  obtain⟨ke,h6,h7,h8,h9⟩:=th h3 h4 hN h5
  exact⟨c,rfl,hn _ _ _ _ _ h8 h6 h7 h9⟩
 ·rename_i ho;exact done _ (fun _ _ _ h=>h) (fun c e=>by rw[ho]at e;cases e) (gO h ho hk (fun _ _ _ e=>by cases e))
 ·rename_i ho;exact done _ (fun _ _ _ h=>h) (fun c e=>by rw[ho]at e;cases e) (gO h ho hk (fun _ _ _ e=>by cases e))
 ·rename_i ho;exact done _ (fun _ _ _ h=>h) (fun c e=>by rw[ho]at e;cases e) (gO h ho hk (fun _ _ _ e=>by cases e))
 ·rename_i ho;exact done _ (fun _ _ _ h=>h) (fun c e=>by rw[ho]at e;cases e) (gO h ho hk (fun _ _ _ e=>by cases e))
 ·rename_i ho;exact done _ (fun _ _ _ h=>h) (fun c e=>by rw[ho]at e;cases e) (gO h ho hk (fun _ _ _ e=>by cases e))
 ·rename_i ho;exact done _ (fun _ _ _ h=>h) (fun c e=>by rw[ho]at e;cases e) (gO h ho hk (fun _ _ _ e=>by cases e))
 ·rename_i ho;exact done _ (fun _ _ _ h=>h) (fun c e=>by rw[ho]at e;cases e) (gO h ho hk (fun _ _ _ e=>by cases e))
 ·rename_i ho;exact done _ (fun _ _ _ h=>h) (fun c e=>by rw[ho]at e;cases e) (gO h ho hk (fun _ _ _ e=>by cases e))
 ·rename_i ho;exact done _ (fun _ _ _ h=>h) (fun c e=>by rw[ho]at e;cases e) (gO h ho hk (fun _ _ _ e=>by cases e))
 ·rename_i ho;exact done _ (fun _ _ _ h=>h) (fun c e=>by rw[ho]at e;cases e) (gO h ho hk (fun _ _ _ e=>by cases e))
 ·rename_i ho;exact done _ (fun _ _ _ h=>h) (fun c e=>by rw[ho]at e;cases e) (gO h ho hk (fun _ _ _ e=>by cases e))
 ·rename_i s d x ho
  split at hk
  ·rename_i hs hd;exact done _ (fun _ _ _ h=>h) (fun c e=>by rw[ho]at e;cases e) (gO h ho hk (fun s' d' x' e=>by cases e;exact⟨_,hs⟩))
  ·exact quiet _ ho hk
 ·rename_i b args ts ho
  split at hk
  ·exact done _ (fun _ _ _ h=>h) (fun c e=>by rw[ho]at e;cases e) (gO (op:=.call { callee:=.builtin .append,args:=args,argTypes:=ts }) h ho hk (fun _ _ _ e=>by cases e))
  ·exact done _ (fun _ _ _ h=>h) (fun c e=>by rw[ho]at e;cases e) (gO (op:=.call { callee:=.builtin .copy,args:=args,argTypes:=ts }) h ho hk (fun _ _ _ e=>by cases e))
  ·exact done _ (fun _ _ _ h=>h) (fun c e=>by rw[ho]at e;cases e) (gO (op:=.call { callee:=.builtin .clear,args:=args,argTypes:=ts }) h ho hk (fun _ _ _ e=>by cases e))
  ·exact done _ (fun _ _ _ h=>h) (fun c e=>by rw[ho]at e;cases e) (gO (op:=.call { callee:=.builtin .unsafeString,args:=args,argTypes:=ts }) h ho hk (fun _ _ _ e=>by cases e))
  ·exact done _ (fun _ _ _ h=>h) (fun c e=>by rw[ho]at e;cases e) (gO (op:=.call { callee:=.builtin .delete,args:=args,argTypes:=ts }) h ho hk (fun _ _ _ e=>by cases e))
  ·exact quiet _ ho hk
 ·exact quiet _ rfl hk
theorem pA {g:Gh} {env:Env} {a:Act} {ops:List Oper} {j d:Nat} (hE:ER g env a.tmps) (hd:tg ops j=some d) :
  (∀ b,look env d=.bool b→yielded ⟨ops⟩ a.tmps j=some (b ()))∧(look env d=.tt→yielded ⟨ops⟩ a.tmps j=some true)∧(look env d=.ff→yielded ⟨ops⟩ a.tmps j=some false)∧(look env d=.skip→yielded ⟨ops⟩ a.tmps j=none):=by
 have A6:((⟨ops⟩:Array Oper)[j]?).bind (·.dst)=some d:=by
  unfold tg at hd
  rw[gX]at hd
  cases ho:ops[j]? with
  | none=>rw[ho]at hd;cases hd
  | some o=>rw[ho]at hd;simp[ho,hd]
 have hr:=hE d
 rw[abJ]at hr
 unfold yielded
 rw[A6]
 simp only[Option.bind_some]
 refine⟨fun b hb=>?_,fun hb=>?_,fun hb=>?_,fun hb=>?_⟩ <;> rw[hb]at hr <;> cases hx:a.tmps[d]? <;> rw[hx]at hr <;> simp only[Option.getD_none,acY]at hr
 ·have:=hr.dq;cases this
 ·rw[hr.dq]
 ·have:=hr.kM;cases this
 ·rw[hr.kM]
 ·have:=hr.lY;cases this
 ·rw[hr.lY]
 ·rename_i v
  cases hr
  rfl
end
section
variable {P:Program} {N M:Nat} {S:Sc} {y:Bool}
theorem wX {g:Gh} {b:Unit→Bool} {u:Value} {want:Bool} (h:R g (.bool b) u) (hb:b ()=want):R g (cond want .tt .ff) u:=by
 have:=h.dq
 subst this
 rw[hb]
 cases want
 ·exact .ff
 ·exact .tt
theorem ER.wY {g:Gh} {env:Env} {tmps:Array Value} (h:ER g env tmps) {d:Nat} {v:AV} (hr:R g v (tmps.getD d Go.undef)):ER g ((d,v)::env) tmps:=by
 intro t
 simp only[look]
 split
 ·rename_i hb
  have:d=t:=abl hb
  subst this;exact hr
 ·exact h t
theorem Inv.wY {B:bU} {g:Gh} {env:Env} {E:List Chunk} {tmps:Array Value} {w:World} (h:Inv B g env E tmps w) {d:Nat} {v:AV} (hr:R g v (tmps.getD d Go.undef)):Inv B g ((d,v)::env) E tmps w:=⟨h.er.wY hr,h.aZ,h.ext⟩
theorem Iv.wY {g:Gh} {env:Env} {E:List Chunk} {a:Act} {w:World} (h:Iv S g env E a w) {d:Nat} {v:AV} (hr:R g v (a.tmps.getD d Go.undef)):Iv S g ((d,v)::env) E a w:=by
 obtain⟨B,hB,h,hd⟩:=h
 exact⟨B,hB,h.wY hr,hd⟩
theorem Iv.same {g:Gh} {env:Env} {E:List Chunk} {a:Act} {w w':World} (h:Iv S g env E a w) (hw:yw w w'):Iv S g env E a w':=by
 obtain⟨B,hB,h,hd⟩:=h
 exact⟨B,hB,h.same hw,hd⟩
theorem yI {ops:List Oper} {o:Oper} {g:Gh} {env:Env} {E:List Chunk} {a:Act} {w:World} {next:Env→List Chunk→Prop} {G:Prop}
  (h:Iv S g env E a w)
  (hk:match o.guard with
   | none=>wW P N S y o env E next
   | some (j,want)=>(match tg ops j with
    | none=>False
    | some d=>(match look env d with
     | .bool b=>(b ()=want→wW P N S y o ((d,cond want .tt .ff)::env) E next)∧(b ()=!want→dh N o.dst .skip ((d,cond want .ff .tt)::env) fun env=>next env E)
     | .tt=>(match want with|true=>wW P N S y o env E next|false=>dh N o.dst .skip env fun env=>next env E)
     | .ff=>(match want with|false=>wW P N S y o env E next|true=>dh N o.dst .skip env fun env=>next env E)
     | .skip=>dh N o.dst .skip env fun env=>next env E
     | _=>False)))
  (yes:∀ aj,Iv S g aj E a w→Region.wanted o (yielded ⟨ops⟩ a.tmps)=true→wW P N S y o aj E next→G)
  (no:∀ aj,Iv S g aj E a w→Region.wanted o (yielded ⟨ops⟩ a.tmps)=false→dh N o.dst .skip aj (fun env=>next env E)→G):G:=by
 split at hk
 ·rename_i hg
  exact yes env h (by simp[Region.wanted,hg]) hk
 ·rename_i j want hg
  split at hk <;> try exact hk.elim
  rename_i d hd
  obtain⟨y1,y2,y3,y4⟩:=pA h.er hd
  have hr:=h.er d
  split at hk <;> try exact hk.elim
  ·rename_i b hb
   rw[hb]at hr
   have hy:=y1 b hb
   by_cases hw:b ()=want
   ·exact yes _ (h.wY (wX hr hw)) (by simp[Region.wanted,hg,hy,hw]) (hk.1 hw)
   ·have sB:b ()=!want:=by cases Qw:b () <;> cases want <;> simp_all
    refine no _ (h.wY (v:=cond want .ff .tt) ?_) (by simp[Region.wanted,hg,hy,sB]) (hk.2 sB)
    have:=wX hr sB
    cases want <;> exact this
  ·rename_i hb
   have hy:=y2 hb
   cases want
   ·exact no _ h (by simp[Region.wanted,hg,hy]) hk
   ·exact yes _ h (by simp[Region.wanted,hg,hy]) hk
  ·rename_i hb
   have hy:=y3 hb
   cases want
   ·exact yes _ h (by simp[Region.wanted,hg,hy]) hk
   ·exact no _ h (by simp[Region.wanted,hg,hy]) hk
  ·rename_i hb
   have hy:=y4 hb
   exact no _ h (by simp[Region.wanted,hg,hy]) hk
theorem Ev {ops r:List Oper} {o:Oper} {env:Env} {E:List Chunk} {K:Env→List Chunk→Prop} (hk:jX P N S y ops (o::r) env E K) :
  match o.guard with
   | none=>wW P N S y o env E fun env E=>jX P N S y ops r env E K
   | some (j,want)=>(match tg ops j with
    | none=>False
    | some d=>(match look env d with
     | .bool b=>(b ()=want→wW P N S y o ((d,cond want .tt .ff)::env) E fun env E=>jX P N S y ops r env E K)∧(b ()=!want→dh N o.dst .skip ((d,cond want .ff .tt)::env) fun env=>jX P N S y ops r env E K)
     | .tt=>(match want with|true=>wW P N S y o env E fun env E=>jX P N S y ops r env E K|false=>dh N o.dst .skip env fun env=>jX P N S y ops r env E K)
     | .ff=>(match want with|false=>wW P N S y o env E fun env E=>jX P N S y ops r env E K|true=>dh N o.dst .skip env fun env=>jX P N S y ops r env E K)
     | .skip=>dh N o.dst .skip env fun env=>jX P N S y ops r env E K
     | _=>False)):=by
 unfold jX at hk
 exact hk
theorem qU {r:Option Nat} {ops:List Oper} {Q:Exit→Act→World→Prop} {K:Env→List Chunk→Prop} (hQ:∀ g env E a w,Iv S g env E a w→a.tmps.size=N→K env E→Q .normal a w) :
  ∀ (l:List Oper) {g:Gh} {env:Env} {E:List Chunk} {a:Act} {w:World},Iv S g env E a w→a.tmps.size=N→jX P N S y ops l env E K→wpListIn (Fr r) 0 P ⟨ops⟩ Q l a w
 | [],g,env,E,a,w,h,hN,hk=>hQ g env E a w h hN hk
 | o::l,g,env,E,a,w,h,hN,hk=>by
  refine yI (next:=fun env E=>jX P N S y ops l env E K) h (Ev hk) (fun aj h' hw hs=>?_) (fun aj h' hw hs=>?_)
  ·unfold wpListIn
   rw[if_pos hw]
   exact(GJ h' hN hs fun g' aj E' a' w' h1 h2 h4=>qU hQ l h1 h2 h4).wpIn
  ·unfold wpListIn
   rw[if_neg (by rw[hw];simp)]
   obtain⟨ke,h1,h2,h4⟩:=h'.put (R.skip) hN hs
   exact⟨fun _ _=>trivial,qU hQ l h1 h2 h4⟩
theorem yJ (w:World):yw w { w with drawn:=w.drawn+1 }:=⟨rfl,rfl,⟨rfl,adh _⟩,rfl⟩
end
def fB (n:Nat) (K:Nat→Prop):Prop:=match n with|0=>K 0|m+1=>K (m+1)
theorem GK (n:Nat) (K:Nat→Prop):fB n K=K n:=by cases n <;> rfl
mutual
def sV:AV→AV→Prop
 | _,.undef=>True
 | .skip,.skip=>True
 | .int k n,.int k' m=>(match decEq k k' with|isTrue _=>n ()=m ()|isFalse _=>False)
 | .bool b,.bool c=>b ()=c ()
 | .tt,.bool c=>c ()=true
 | .ff,.bool c=>c ()=false
 | .bool b,.tt=>b ()=true
 | .bool b,.ff=>b ()=false
 | .tt,.tt=>True
 | .ff,.ff=>True
 | .str s,.str t=>s ()=t ()
 | .aG t xs,.aG t' ys=>(match decEq t t' with|isTrue h=>nR h xs fun xs=>xs ()=ys ()|isFalse _=>False)
 | .aY,.aY=>True
 | .agg cs,.agg ds=>L5 cs ds
 | .bM cs,.bM ds=>L5 cs ds
 | .bZ,.bZ=>True
 | .ptr i o,.ptr j p=>(match Nat.beq i j,Nat.beq o p with|true,true=>True|_,_=>False)
 | .bl i s x o,.bl j s' y p=>(match Nat.beq i j,Nat.beq s s',Nat.beq o p with|true,true,true=>x ()=y ()|_,_,_=>False)
 | .dI t x o,.dI t' y p=>(match decEq t t',Nat.beq o p with|isTrue h,true=>LR h x fun x=>x ()=y ()|_,_=>False)
 | .vec i s o n,.vec j s' p m=>(match Nat.beq i j,Nat.beq s s' with|true,true=>o ()=p ()∧n ()=m ()|_,_=>False)
 | .fn f a b,.fn f' a' b'=>(match decEq f f' with|isTrue _=>L5 a a'∧L5 b b'|isFalse _=>False)
 | .gV,.gV=>True
 | .j9,.j9=>True
 | .mp i,.mp j=>(match Nat.beq i j with|true=>True|false=>False)
 | .ka,.ka=>True
 | .hp i f,.hp j h=>(match Nat.beq i j with|true=>f ()=h ()|false=>False)
 | .hm i f,.hm j h=>(match Nat.beq i j with|true=>f ()=h ()|false=>False)
 | _,_=>False
def L5:List AV→List AV→Prop
 | [],[]=>True
 | a::r,e::s=>sV a e∧L5 r s
 | _,_=>False
end
mutual
theorem L6 {g:Gh}:∀ (a e:AV) (u:Value),sV a e→R g a u→R g e u
 | .agg cs,e,u,h,hr=>by
  cases e <;> simp only[sV]at h <;> try exact h.elim
  ·exact .undef _
  ·obtain⟨vs,rfl,hl⟩:=hr.gF
   simpa using R.iV (tl cs _ vs.toList h hl)
 | .bM cs,e,u,h,hr=>by
  cases e <;> simp only[sV]at h <;> try exact h.elim
  ·exact .undef _
  ·obtain⟨vs,rfl,hl⟩:=hr.sw
   simpa using R.il (tl cs _ vs.toList h hl)
 | .fn f az bs,e,u,h,hr=>by
  cases e <;> simp only[sV]at h <;> try exact h.elim
  ·exact .undef _
  ·split at h
   ·rename_i hf _
    subst hf
    cases hr with|fn _ _ _ vs ws hl lK hr rG =>
    simpa using R.DZ (f:=f) (tl az _ vs.toList h.1 (RL.mk (by simpa using hl) fun i y u h1 h2=>hr i y u h1 (by simpa using h2))) (tl bs _ ws.toList h.2 (RL.mk (by simpa using lK) fun i y u h1 h2=>rG i y u h1 (by simpa using h2)))
   ·exact h.elim
 | .undef,e,u,h,hr=>by cases e <;> simp only[sV]at h <;> first|exact h.elim|exact .undef _
 | .ot _ _,e,u,h,hr=>by cases e <;> simp only[sV]at h <;> first|exact h.elim|exact .undef _
 | .cL _ _,e,u,h,hr=>by cases e <;> simp only[sV]at h <;> first|exact h.elim|exact .undef _
 | .skip,e,u,h,hr=>by cases e <;> simp only[sV]at h <;> first|exact h.elim|exact .undef _|exact hr
 | .int k n,e,u,h,hr=>by
  cases e <;> simp only[sV]at h <;> first|exact h.elim|exact .undef _|skip
  split at h
  ·rename_i hk _
   subst hk
   rw[hr.bS];exact R.ve h.symm
  ·exact h.elim
 | .bool b,e,u,h,hr=>by
  cases e <;> simp only[sV]at h <;> first|exact h.elim|exact .undef _|skip
  ·rw[hr.dq];exact R.po h.symm
  ·rw[hr.dq,h];exact .tt
  ·rw[hr.dq,h];exact .ff
 | .tt,e,u,h,hr=>by
  cases e <;> simp only[sV]at h <;> first|exact h.elim|exact .undef _|skip
  ·rw[hr.kM];exact R.po h
  ·exact hr
 | .ff,e,u,h,hr=>by
  cases e <;> simp only[sV]at h <;> first|exact h.elim|exact .undef _|skip
  ·rw[hr.lY];exact R.po h
  ·exact hr
 | .str s,e,u,h,hr=>by
  cases e <;> simp only[sV]at h <;> first|exact h.elim|exact .undef _|skip
  rw[hr.ir];exact R.AO (by rw[h])
 | .aG t xs,e,u,h,hr=>by
  cases e <;> simp only[sV]at h <;> first|exact h.elim|exact .undef _|skip
  rename_i t' ys
  split at h
  ·rename_i ht _
   subst ht
   have e:ys=xs:=by funext u;cases u;exact h.symm
   subst e;exact hr
  ·exact h.elim
 | .aY,e,u,h,hr=>by cases e <;> simp only[sV]at h <;> first|exact h.elim|exact .undef _|exact hr
 | .bZ,e,u,h,hr=>by cases e <;> simp only[sV]at h <;> first|exact h.elim|exact .undef _|exact hr
 | .gV,e,u,h,hr=>by cases e <;> simp only[sV]at h <;> first|exact h.elim|exact .undef _|exact hr
 | .j9,e,u,h,hr=>by cases e <;> simp only[sV]at h <;> first|exact h.elim|exact .undef _|exact hr
 | .ka,e,u,h,hr=>by cases e <;> simp only[sV]at h <;> first|exact h.elim|exact .undef _|exact hr
 | .mp i,e,u,h,hr=>by
  cases e <;> simp only[sV]at h <;> first|exact h.elim|exact .undef _|skip
  split at h <;> try exact h.elim
  rename_i hb
  rw[←abl hb];exact hr
 | .hp i f,e,u,h,hr=>by
  cases e <;> simp only[sV]at h <;> first|exact h.elim|exact .undef _|skip
  rename_i j f'
  split at h <;> try exact h.elim
  rename_i hb
  have e:f'=f:=by funext u;cases u;exact h.symm
  rw[←abl hb,e];exact hr
 | .hm i f,e,u,h,hr=>by
  cases e <;> simp only[sV]at h <;> first|exact h.elim|exact .undef _|skip
  rename_i j f'
  split at h <;> try exact h.elim
  rename_i hb
  have e:f'=f:=by funext u;cases u;exact h.symm
  rw[←abl hb,e];exact hr
 | .ptr i o,e,u,h,hr=>by
  cases e <;> simp only[sV]at h <;> first|exact h.elim|exact .undef _|skip
  split at h <;> try exact h.elim
  rename_i hb ho
  rw[←abl hb,←abl ho];exact hr
 | .bl i s x o,e,u,h,hr=>by
  cases e <;> simp only[sV]at h <;> first|exact h.elim|exact .undef _|skip
  rename_i j s' y p
  split at h <;> try exact h.elim
  rename_i hb hs ho
  have e:y=x:=by funext u;cases u;exact h.symm
  rw[←abl hb,←abl hs,←abl ho,e];exact hr
 | .dI t x o,e,u,h,hr=>by
  cases e <;> simp only[sV]at h <;> first|exact h.elim|exact .undef _|skip
  rename_i t' y p
  split at h <;> try exact h.elim
  rename_i ht _ ho
  subst ht
  have e:y=x:=by funext u;cases u;exact h.symm
  rw[←abl ho,e];exact hr
 | .vec i s o n,e,u,h,hr=>by
  cases e <;> simp only[sV]at h <;> first|exact h.elim|exact .undef _|skip
  rename_i j s' p m
  split at h <;> try exact h.elim
  rename_i hb hs
  have e1:p=o:=by funext u;cases u;exact h.1.symm
  have e2:m=n:=by funext u;cases u;exact h.2.symm
  rw[←abl hb,←abl hs,e1,e2];exact hr
theorem tl {g:Gh}:∀ (az es:List AV) (us:List Value),L5 az es→RL g az us→RL g es us
 | [],es,us,h,hr=>by
  cases es <;> simp only[L5]at h
  cases us
  ·exact trivial
  ·exact hr.elim
 | a::r,es,us,h,hr=>by
  cases es <;> simp only[L5]at h
  cases us
  ·exact hr.elim
  ·exact⟨L6 a _ _ h.1 hr.1,tl r _ _ h.2 hr.2⟩
end
def jF (o:Oper):List Nat:=(o.after.toList.filter (fun e=>Region.binds .any e)).map (·.on)
def Ny (cn:List Nat):List Nat→Nat
 | []=>0|d::r=>Nat.lor (Nat.lor (2 ^ d) (cn.getD d 0)) (Ny cn r)
def Nz:List Oper→List Nat→List Nat
 | [],acc=>acc|o::r,acc=>Nz r (acc++[Ny acc (jF o)])
def yK (P:Program) (o:Oper):Bool:=match o.op with|.assign _=>true|_=>!Nx P o
def kg (P:Program):Nat→List Oper→List (Nat×Oper)
 | _,[]=>[]|i,o::r=>match yK P o with|true=>(i,o)::kg P (i+1) r|false=>kg P (i+1) r
def oE (cn:List Nat) (i:Nat) (D:Nat):List (Nat×Oper)→Bool
 | []=>true
 | p::r=>(match Nat.testBit D p.1 with
  | true=>(match Nat.testBit (cn.getD p.1 0) i with|true=>false|false=>oE cn i D r)
  | false=>(match Nat.testBit (cn.getD i 0) p.1 with|true=>false|false=>oE cn i D r))
def tp (cn:List Nat) (i:Nat) (D:Nat):List (Nat×Oper)→Bool
 | []=>true
 | p::r=>(match Nat.testBit D p.1 with
  | true=>tp cn i D r
  | false=>(match Nat.testBit (cn.getD i 0) p.1 with|true=>false|false=>tp cn i D r))
def A7 (D:Nat):List (Nat×Oper)→Bool
 | []=>true|p::r=>(match Nat.testBit D p.1 with|true=>A7 D r|false=>false)
section
variable (P:Program) (N:Nat) (S:Sc)
def UN (ops:List Oper) (o:Oper) (env:Env) (E:List Chunk) (K:AV→Env→Prop):Prop :=
 match o.guard with
 | none=>qV P o.op env E fun v=>fV v fun v=>K v env
 | some (j,want)=>(match tg ops j with
  | none=>False
  | some d=>(match look env d with
   | .bool b=>(b ()=want→qV P o.op ((d,cond want .tt .ff)::env) E fun v=>fV v fun v=>K v ((d,cond want .tt .ff)::env))∧(b ()=!want→K .skip ((d,cond want .ff .tt)::env))
   | .tt=>(match want with|true=>qV P o.op env E fun v=>fV v fun v=>K v env|false=>K .skip env)
   | .ff=>(match want with|false=>qV P o.op env E fun v=>fV v fun v=>K v env|true=>K .skip env)
   | .skip=>K .skip env
   | _=>False))
def GL (ops:List Oper) (cn:List Nat) (ws:List (Nat×Oper)) (D:Nat) (D0:Option Nat) (E:List Chunk):Nat→List Oper→Env→(Env→Prop)→Prop
 | _,[],env,K=>K env
 | i,o::r,env,K=>match yK P o,oE cn i D ws with
  | false,true=>(match o.dst with
   | some d=>UN P ops o env E fun v env=>(match D0 with
    | none=>GL ops cn ws D D0 E (i+1) r ((d,v)::env) K
    | some D1=>(match oE cn i D1 ws with
     | true=>sV (look env d) v∧GL ops cn ws D D0 E (i+1) r ((d,v)::env) K
     | false=>GL ops cn ws D D0 E (i+1) r ((d,v)::env) K))
   | none=>False)
  | _,_=>GL ops cn ws D D0 E (i+1) r env K
def sW (ops:List Oper) (o:Oper) (env:Env) (E:List Chunk) (K:Env→List Chunk→Prop):Prop :=
 match o.guard with
  | none=>wW P N S false o env E K
  | some (j,want)=>(match tg ops j with
   | none=>False
   | some d=>(match look env d with
    | .bool b=>(b ()=want→wW P N S false o ((d,cond want .tt .ff)::env) E K)∧(b ()=!want→dh N o.dst .skip ((d,cond want .ff .tt)::env) fun env=>K env E)
    | .tt=>(match want with|true=>wW P N S false o env E K|false=>dh N o.dst .skip env fun env=>K env E)
    | .ff=>(match want with|false=>wW P N S false o env E K|true=>dh N o.dst .skip env fun env=>K env E)
    | .skip=>dh N o.dst .skip env fun env=>K env E
    | _=>False))
def vG (cn:List Nat) (ws:List (Nat×Oper)) (D:Nat) (go:Nat×Oper→Prop):List (Nat×Oper)→Prop
 | []=>True
 | p::r=>match Nat.testBit D p.1 with
  | true=>vG cn ws D go r
  | false=>(match tp cn p.1 D ws with|true=>go p∧vG cn ws D go r|false=>vG cn ws D go r)
def after (ops:List Oper) (cn:List Nat) (ws:List (Nat×Oper)) (D:Nat) (env:Env) (E:List Chunk) (K:Env→List Chunk→Prop) (st:Nat→Env→List Chunk→Prop):Prop :=
 match A7 D ws with
 | true=>K env E
 | false=>vG cn ws D (fun p=>fB (Nat.lor D (2 ^ p.1)) fun D'=>sW P N S ops p.2 env E fun env E=>st D' env E) ws
def mf (ops:List Oper) (cn:List Nat) (ws:List (Nat×Oper)):Nat→Nat→Option Nat→Env→List Chunk→(Env→List Chunk→Prop)→Prop
 | 0,D,D0,env,E,K=>GL P ops cn ws D D0 E 0 ops env fun env=>after P N S ops cn ws D env E K fun _ _ _=>False
 | f+1,D,D0,env,E,K=>GL P ops cn ws D D0 E 0 ops env fun env=>after P N S ops cn ws D env E K fun D' env E=>mf ops cn ws f D' (some D) env E K
end
def mg (cn:List Nat):Nat→List Oper→Bool
 | _,[]=>true|i,o::r=>Nat.beq (cn.getD i 0) (Ny cn (jF o)) && (jF o).all (fun d=>Nat.blt d i) && mg cn (i+1) r
def pB (d:Nat) (i:Nat):Nat→List Oper→Bool
 | _,[]=>true|j,o::r=>(Nat.beq i j || !(o.dst == some d)) && pB d i (j+1) r
def mh (P:Program) (cn:List Nat) (i:Nat) (t:Nat):Nat→List Oper→Bool
 | _,[]=>true|j,o::r=>(yK P o || !(o.dst == some t) || Nat.testBit (cn.getD i 0) j) && mh P cn i t (j+1) r
def A8 (o:Oper):Bool:=match o.op with|.select _ _=>false|.defer _=>false|_=>true
def rR (P:Program) (N:Nat) (ops:List Oper) (cn:List Nat):Nat→List Oper→Bool
 | _,[]=>true
 | i,o::r=>A8 o && (o.looksAt ⟨ops⟩).all (fun t=>mh P cn i t 0 ops) && (yK P o || (match o.dst with|some d=>Nat.blt d N && pB d i 0 ops|none=>false)) && rR P N ops cn (i+1) r
def tq (P:Program) (N:Nat) (ops:List Oper) (cn:List Nat) (ws:List (Nat×Oper)):Bool:=mg cn 0 ops && rR P N ops cn 0 ops
theorem wZ {cn:List Nat} {j:Nat}:∀ {ds:List Nat},Nat.testBit (Ny cn ds) j=true→∃ d∈ds,j=d∨Nat.testBit (cn.getD d 0) j=true
 | [],h=>by simp[Ny]at h
 | d::r,h=>by
  have h:Nat.testBit ((2 ^ d ||| cn.getD d 0) ||| Ny cn r) j=true:=h
  rw[ac2,ac2,adm,adm]at h
  rcases h with(h|h)|h
  ·refine⟨d,abq ..,.inl ?_⟩
   rw[Nat.testBit_two_pow]at h
   simp only[decide_eq_true_eq]at h
   omega
  ·exact⟨d,abq ..,.inr h⟩
  ·obtain⟨d',hd,h'⟩:=wZ h
   exact⟨d',abn _ hd,h'⟩
theorem nc {cn:List Nat}:∀ {l:List Oper} {k:Nat},mg cn k l=true→∀ j o,l[j]?=some o→cn.getD (k+j) 0=Ny cn (jF o)∧∀ d∈jF o,d<k+j
 | [],_,_,j,o,h=>by simp at h
 | c::r,k,h,j,o,hj=>by
  simp only[mg,abD,acA]at h
  cases j with
  | zero=>simp at hj;subst hj;exact⟨abl h.1.1,fun d hd=>ab3 (h.1.2 d hd)⟩
  | succ j =>
   have:=nc h.2 j o (by simpa using hj)
   rw[show k+(j+1)=k+1+j by omega];exact this
section
variable {ops:List Oper} {cn:List Nat} {ws:List (Nat×Oper)}
def pC (an:Array Bool) (i:Nat):Prop:=an.getD i false=true
theorem oF (hA:mg cn 0 ops=true) {an:Array Bool} (hd:∀ i o,ops[i]?=some o→pC an i→∀ d∈jF o,pC an d) :
  ∀ (i:Nat) (o:Oper),ops[i]?=some o→(∀ d∈jF o,pC an d)→∀ j,Nat.testBit (cn.getD i 0) j=true→pC an j:=by
 intro i
 induction i using Nat.strongRecOn with
 | _ i ih =>
  intro o ho hl j hj
  obtain⟨h1,h2⟩:=nc hA i o ho
  rw[abx]at h1 h2
  rw[h1]at hj
  obtain⟨d,Ju,rfl|hb⟩:=wZ hj
  ·exact hl _ Ju
  ·have TM:=h2 d Ju
   have dp:=(abk.1 ho).1
   have TN:ops[d]?=some (ops[d]'(by omega)):=abj (by omega)
   exact ih d TM _ TN (hd d _ TN (hl d Ju)) j hb
theorem NA (hA:mg cn 0 ops=true):∀ (i:Nat) (o:Oper),ops[i]?=some o→∀ j,Nat.testBit (cn.getD i 0) j=true→j<i:=by
 intro i
 induction i using Nat.strongRecOn with
 | _ i ih =>
  intro o ho j hj
  obtain⟨h1,h2⟩:=nc hA i o ho
  rw[abx]at h1 h2
  rw[h1]at hj
  obtain⟨d,Ju,rfl|hb⟩:=wZ hj
  ·exact h2 _ Ju
  ·have TM:=h2 d Ju
   have dp:=(abk.1 ho).1
   have TN:ops[d]?=some (ops[d]'(by omega)):=abj (by omega)
   exact Nat.lt_trans (ih d TM _ TN j hb) TM
theorem mi {i D:Nat}:∀ {ws:List (Nat×Oper)},oE cn i D ws=true↔∀ p∈ws,(Nat.testBit D p.1=true→Nat.testBit (cn.getD p.1 0) i=false)∧(Nat.testBit D p.1=false→Nat.testBit (cn.getD i 0) p.1=false)
 | []=>by simp[oE]
 | p::r=>by
  simp only[oE,List.forall_mem_cons]
  cases hD:Nat.testBit D p.1 with
  | true =>
   cases hb:Nat.testBit (cn.getD p.1 0) i with
   | true=>simp
   | false=>simp only[mi (ws:=r)];simp
  | false =>
   cases hb:Nat.testBit (cn.getD i 0) p.1 with
   | true=>simp
   | false=>simp only[mi (ws:=r)];simp
theorem yL {i D:Nat}:∀ {ws:List (Nat×Oper)},(∀ p∈ws,Nat.testBit (cn.getD i 0) p.1=true→Nat.testBit D p.1=true)→tp cn i D ws=true
 | [],_=>rfl
 | p::r,h=>by
  have hr:=yL (ws:=r) fun q hq=>h q (abn _ hq)
  simp only[tp]
  cases hD:Nat.testBit D p.1 with
  | true=>exact hr
  | false =>
   cases hb:Nat.testBit (cn.getD i 0) p.1 with
   | true=>rw[h p (abq ..) hb]at hD;cases hD
   | false=>exact hr
theorem Cx {D:Nat}:∀ {ws:List (Nat×Oper)},(∀ p∈ws,Nat.testBit D p.1=true)→A7 D ws=true
 | [],_=>rfl
 | p::r,h=>by simp only[A7,h p (abq ..)];exact Cx fun q hq=>h q (abn _ hq)
theorem yM {D:Nat} {p:Nat×Oper}:∀ {ws:List (Nat×Oper)},p∈ws→Nat.testBit D p.1=false→A7 D ws=false
 | [],h,_=>by simp at h
 | q::r,h,hp=>by
  simp only[A7]
  cases hD:Nat.testBit D q.1 with
  | false=>rfl
  | true =>
   rcases abE.1 h with rfl|h
   ·rw[hp]at hD;cases hD
   ·exact yM h hp
theorem pD {D:Nat} {go:Nat×Oper→Prop} {Xh:List (Nat×Oper)}:∀ {ws:List (Nat×Oper)},vG cn Xh D go ws→∀ p∈ws,Nat.testBit D p.1=false→tp cn p.1 D Xh=true→go p
 | [],_,p,h,_,_=>by simp at h
 | q::r,hn,p,h,hp,hb=>by
  simp only[vG]at hn
  rcases abE.1 h with rfl|h
  ·rw[hp,hb]at hn;exact hn.1
  ·split at hn
   ·exact pD hn p h hp hb
   ·split at hn
    ·exact pD hn.2 p h hp hb
    ·exact pD hn p h hp hb
theorem tr {d i:Nat}:∀ {l:List Oper} {k:Nat},pB d i k l=true→∀ j o,l[j]?=some o→i=k+j∨o.dst≠some d
 | [],_,_,j,o,h=>by simp at h
 | c::r,k,h,j,o,hj=>by
  simp only[pB,abD,adm,acv]at h
  cases j with
  | zero =>
   simp at hj;subst hj
   rcases h.1 with h1|h1
   ·exact .inl (abl h1)
   ·exact .inr (fun e=>by rw[e]at h1;simp at h1)
  | succ j =>
   have:=tr h.2 j o (by simpa using hj)
   rw[show k+(j+1)=k+1+j by omega];exact this
theorem mj {P:Program} {i t:Nat}:∀ {l:List Oper} {k:Nat},mh P cn i t k l=true→∀ j o,l[j]?=some o→yK P o=false→o.dst=some t→Nat.testBit (cn.getD i 0) (k+j)=true
 | [],_,_,j,o,h,_,_=>by simp at h
 | c::r,k,h,j,o,hj,hw,hd=>by
  simp only[mh,abD,adm,acv]at h
  cases j with
  | zero =>
   simp at hj;subst hj
   rcases h.1 with(h1|h1)|h1
   ·rw[hw]at h1;cases h1
   ·rw[hd]at h1;simp at h1
   ·exact h1
  | succ j =>
   have:=mj h.2 j o (by simpa using hj) hw hd
   rw[show k+(j+1)=k+1+j by omega];exact this
theorem pE {P:Program} {N:Nat}:∀ {l:List Oper} {k:Nat},rR P N ops cn k l=true→∀ j o,l[j]?=some o →
  (∀ cs b,o.op≠.select cs b)∧(∀ t∈o.looksAt ⟨ops⟩,mh P cn (k+j) t 0 ops=true)∧(yK P o=false→∃ d,o.dst=some d∧d<N∧pB d (k+j) 0 ops=true)
 | [],_,_,j,o,h=>by simp at h
 | c::r,k,h,j,o,hj=>by
  simp only[rR,abD,adm,acA]at h
  cases j with
  | zero =>
   simp at hj;subst hj
   refine⟨fun cs b e=>?_,h.1.1.2,fun hw=>?_⟩
   ·have:=h.1.1.1;simp[A8,e]at this
   ·rcases h.1.2 with h1|h1
    ·rw[hw]at h1;cases h1
    ·split at h1
     ·rename_i d hd
      simp only[abD]at h1
      exact⟨d,hd,ab3 h1.1,h1.2⟩
     ·cases h1
  | succ j =>
   have:=pE h.2 j o (by simpa using hj)
   rw[show k+(j+1)=k+1+j by omega];exact this
theorem vH {o:Oper} {a b:Act} (hs:∀ cs c,o.op≠.select cs c) (h:∀ t∈o.looksAt ⟨ops⟩,a.tmps[t]?=b.tmps[t]?) :
  execOp a.eval o=execOp b.eval o∧Region.wanted o (yielded ⟨ops⟩ a.tmps)=Region.wanted o (yielded ⟨ops⟩ b.tmps):=by
 refine⟨execOp_congr o hs fun x hx=>?_,?_⟩
 ·cases x with
  | tmp t =>
   have:=h t (adj _ (List.mem_filterMap.2 ⟨.tmp t,by simpa using hx,rfl⟩))
   show a.tmps.getD t Go.undef=b.tmps.getD t Go.undef
   rw[abJ,abJ,this]
  | const v=>rfl
  | global n=>rfl
  | func f=>rfl
 ·unfold Region.wanted
  cases hg:o.guard with
  | none=>rfl
  | some gw =>
   obtain⟨j,want⟩:=gw
   have hy:yielded ⟨ops⟩ a.tmps j=yielded ⟨ops⟩ b.tmps j:=by
    unfold yielded
    cases ht:((⟨ops⟩:Array Oper)[j]?).bind (·.dst)with
    | none=>rfl
    | some t =>
     have:=h t (List.mem_append_right _ (by simp only[hg];rw[ht];simp))
     simp[this]
   simp only[hy]
end
section
variable {P:Program} {N:Nat} {S:Sc} {ops:List Oper} {cn:List Nat} {ws:List (Nat×Oper)}
theorem NB {o:Oper} {g:Gh} {env:Env} {E:List Chunk} {a:Act} {w:World} {K:AV→Env→Prop} (h:Iv S g env E a w) (hk:UN P ops o env E K) :
  ∃ c v cM,YieldsAt P ⟨ops⟩ w o c a∧Iv S g cM E a w∧R g v c∧K v cM:=by
 have run:∀ cM,Iv S g cM E a w→Region.wanted o (yielded ⟨ops⟩ a.tmps)=true→qV P o.op cM E (fun v=>fV v fun v=>K v cM)→∃ c v cM,YieldsAt P ⟨ops⟩ w o c a∧Iv S g cM E a w∧R g v c∧K v cM:=by
  intro cM h1 hw hq
  obtain⟨r,c,h2,h3,h4⟩:=LW h1.aZ h1.er hq o rfl
  rw[gu]at h4
  exact⟨c,r,cM,.inl ⟨hw,.inl h2⟩,h1,h3,h4⟩
 have skip:∀ cM,Iv S g cM E a w→Region.wanted o (yielded ⟨ops⟩ a.tmps)=false→K .skip cM→∃ c v cM,YieldsAt P ⟨ops⟩ w o c a∧Iv S g cM E a w∧R g v c∧K v cM:=by
  intro cM h1 hw hq
  exact⟨Go.undef,.skip,cM,.inr ⟨hw,rfl⟩,h1,.skip,hq⟩
 unfold UN at hk
 split at hk
 ·rename_i hg
  exact run env h (by simp[Region.wanted,hg]) hk
 ·rename_i j want hg
  split at hk <;> try exact hk.elim
  rename_i d hd
  obtain⟨y1,y2,y3,y4⟩:=pA h.er hd
  have hr:=h.er d
  split at hk <;> try exact hk.elim
  ·rename_i b hb
   rw[hb]at hr
   have hy:=y1 b hb
   by_cases hw:b ()=want
   ·exact run _ (h.wY (wX hr hw)) (by simp[Region.wanted,hg,hy,hw]) (hk.1 hw)
   ·have sB:b ()=!want:=by cases Qw:b () <;> cases want <;> simp_all
    refine skip _ (h.wY (v:=cond want .ff .tt) ?_) (by simp[Region.wanted,hg,hy,sB]) (hk.2 sB)
    have:=wX hr sB
    cases want <;> exact this
  ·rename_i hb
   have hy:=y2 hb
   cases want
   ·exact skip _ h (by simp[Region.wanted,hg,hy]) hk
   ·exact run _ h (by simp[Region.wanted,hg,hy]) hk
  ·rename_i hb
   have hy:=y3 hb
   cases want
   ·exact run _ h (by simp[Region.wanted,hg,hy]) hk
   ·exact skip _ h (by simp[Region.wanted,hg,hy]) hk
  ·rename_i hb
   have hy:=y4 hb
   exact skip _ h (by simp[Region.wanted,hg,hy]) hk
def tu (P:Program) (ops:List Oper) (an:Array Bool) (t:Nat):Prop:=∃ i o,ops[i]?=some o∧yK P o=false∧¬pC an i∧o.dst=some t
def GM (P:Program) (ops:List Oper) (cn:List Nat) (ws:List (Nat×Oper)) (an:Array Bool) (D n:Nat) (a:Act) (w:World):Prop :=
 ∀ i o d,i<n→ops[i]?=some o→yK P o=false→¬pC an i→oE cn i D ws=true→o.dst=some d→YieldsAt P ⟨ops⟩ w o (a.tmps.getD d Go.undef) a
theorem tw (hA:mg cn 0 ops=true) (hC:rR P N ops cn 0 ops=true) {an:Array Bool} {D:Nat} {D0:Option Nat} {E:List Chunk} {w:World} {g:Gh} {K:Env→Prop}
  (vI:∀ i o,ops[i]?=some o→yK P o=false→pC an i→oE cn i D ws=true→∃ D1,D0=some D1∧oE cn i D1 ws=true) :
  ∀ (l:List Oper) (i0:Nat) (env:Env) (a:Act),ops.drop i0=l→Iv S g env E a w→a.tmps.size=N→GM P ops cn ws an D i0 a w→GL P ops cn ws D D0 E i0 l env K →
   ∃ aj a',Iv S g aj E a' w∧a'.tmps.size=N∧GM P ops cn ws an D ops.length a' w∧K aj∧a'.defers=a.defers∧∀ t,¬tu P ops an t→a'.tmps[t]?=a.tmps[t]?
 | [],i0,env,a,hl,h,hN,hp,hk=>by
  have:ops.length≤i0:=by
   have:=congrArg List.length hl
   simp at this;omega
  exact⟨env,a,h,hN,fun i o d hi=>hp i o d (by omega),hk,rfl,fun _ _=>rfl⟩
 | o::r,i0,env,a,hl,h,hN,hp,hk=>by
  have ho:ops[i0]?=some o:=by
   have:=congrArg (·[0]?) hl
   simpa using this
  have lK:ops.drop (i0+1)=r:=by
   have:=congrArg (List.drop 1) hl
   simpa [adR]using this
  obtain⟨QN,w5,A6⟩:=pE hC i0 o ho
  rw[abx]at w5 A6
  have pass:(yK P o=true∨oE cn i0 D ws=false)→GM P ops cn ws an D (i0+1) a w:=by
   intro hc i o' d hi kh hw hn hm hd
   by_cases e:i=i0
   ·subst e
    rw[ho]at kh;cases kh
    rcases hc with hc|hc
    ·rw[hw]at hc;cases hc
    ·rw[hm]at hc;cases hc
   ·exact hp i o' d (by omega) kh hw hn hm hd
  simp only[GL]at hk
  split at hk
  ·rename_i hW hM
   split at hk <;> try exact hk.elim
   rename_i d hd
   obtain⟨c,v,cM,hy,h1,hr,vh⟩:=NB h hk
   obtain⟨d',mb,QO,L7⟩:=A6 hW
   rw[hd]at mb;cases mb
   have lD:GL P ops cn ws D D0 E (i0+1) r ((d,v)::cM) K:=by
    split at vh
    ·exact vh
    ·split at vh
     ·exact vh.2
     ·exact vh
   by_cases A9:pC an i0
   ·obtain⟨D1,rfl,AB⟩:=vI i0 o ho hW A9 hM
    simp only[AB]at vh
    have UO:=L6 _ _ _ vh.1 (h1.er d)
    refine tw hA hC vI r (i0+1) _ a lK (h1.wY UO) hN (fun i o' d2 hi kh hw hn hm FN=>?_) lD
    by_cases e:i=i0
    ·subst e;exact(hn A9).elim
    ·exact hp i o' d2 (by omega) kh hw hn hm FN
   ·have hI:Iv S g ((d,v)::cM) E (a.put (some d) c) w:=by
     obtain⟨B,hB,h2,h3⟩:=h1
     exact⟨B,hB,h2.put hr (by rw[hN];exact QO),h3⟩
    have bE:∀ t,t≠d→(a.put (some d) c).tmps[t]?=a.tmps[t]?:=fun t ht=>by simp[Act.put,ac1 (Ne.symm ht)]
    have look:∀ (j:Nat) (o':Oper),j≤i0→ops[j]?=some o'→execOp (a.put (some d) c).eval o'=execOp a.eval o'∧Region.wanted o' (yielded ⟨ops⟩ (a.put (some d) c).tmps)=Region.wanted o' (yielded ⟨ops⟩ a.tmps):=by
     intro j o' hj kh
     obtain⟨QP,Cy,_⟩:=pE hC j o' kh
     rw[abx]at Cy
     refine vH QP (fun t ht=>bE t (fun e=>?_))
     subst e
     have:=mj (Cy t ht) i0 o ho hW hd
     rw[abx]at this
     have:=NA hA j o' kh i0 this
     omega
    obtain⟨aj,a',e1,e2,e3,e4,e5,e6⟩:=tw hA hC vI r (i0+1) _ (a.put (some d) c) lK hI (by simp[Act.put,hN]) (fun i o' d2 hi kh hw hn hm FN=>by
     by_cases e:i=i0
     ·subst e
      rw[ho]at kh;cases kh
      rw[hd]at FN;cases FN
      have hc:(a.put (some d) c).tmps.getD d Go.undef=c:=by simp[Act.put,abJ,hN,QO]
      rw[hc]
      obtain⟨l1,l2⟩:=look i o (abr _) ho
      exact hy.of_same l1 l2
     ·obtain⟨l1,l2⟩:=look i o' (by omega) kh
      have UP:d2≠d:=fun e'=>by
       subst e'
       rcases tr L7 i o' kh with h2|h2
       ·omega
       ·exact h2 FN
      have hv:(a.put (some d) c).tmps.getD d2 Go.undef=a.tmps.getD d2 Go.undef:=by rw[abJ,abJ,bE d2 UP]
      rw[hv]
      exact(hp i o' d2 (by omega) kh hw hn hm FN).of_same l1 l2) lD
    refine⟨aj,a',e1,e2,e3,e4,e5.trans rfl,fun t ht=>?_⟩
    rw[e6 t ht]
    exact bE t (fun e=>ht ⟨i0,o,ho,hW,A9,by rw[e];exact hd⟩)
  ·rename_i hn
   refine tw hA hC vI r (i0+1) env a lK h hN (pass ?_) hk
   cases hW:yK P o with
   | true=>exact .inl rfl
   | false =>
    cases hM:oE cn i0 D ws with
    | true=>exact(hn hW hM).elim
    | false=>exact .inr rfl
end
section
variable {P:Program} {N:Nat} {S:Sc} {ops:List Oper} {cn:List Nat} {ws:List (Nat×Oper)}
theorem QQ {o:Oper} {g:Gh} {env:Env} {E:List Chunk} {a:Act} {w:World} {K:Env→List Chunk→Prop} (h:Iv S g env E a w) (hN:a.tmps.size=N) (hk:sW P N S ops o env E K) :
  (Region.wanted o (yielded ⟨ops⟩ a.tmps)=true∧Step false P o a w (fun a' w'=>∃ g' aj E',Iv S g' aj E' a' w'∧a'.tmps.size=N∧a'.defers=a.defers∧K aj E')) ∨
  (Region.wanted o (yielded ⟨ops⟩ a.tmps)=false∧∃ aj,Iv S g aj E (a.put o.dst Go.undef) w∧(a.put o.dst Go.undef).tmps.size=N∧K aj E):=by
 unfold sW at hk
 refine yI (next:=K) (y:=false) h hk (fun aj h' hw hs=>.inl ⟨hw,?_⟩) (fun aj h' hw hs=>.inr ⟨hw,?_⟩)
 ·have:=GJ (y:=false) (next:=fun a' w'=>∃ g' aj E',Iv S g' aj E' a' w'∧a'.tmps.size=N∧K aj E') h' hN hs (fun g' aj E' a' w' h1 h2 h3=>⟨g',aj,E',h1,h2,h3⟩)
  obtain⟨hd,n,w1,hr,hm⟩:=this
  refine⟨hd,n,w1,hr,?_⟩
  have up:∀ c w',(∃ g' aj E',Iv S g' aj E' (a.put o.dst c) w'∧(a.put o.dst c).tmps.size=N∧K aj E')→∃ g' aj E',Iv S g' aj E' (a.put o.dst c) w'∧(a.put o.dst c).tmps.size=N∧(a.put o.dst c).defers=a.defers∧K aj E':=by
   rintro c w' ⟨g',aj,E',h1,h2,h3⟩
   exact⟨g',aj,E',h1,h2,by cases o.dst <;> rfl,h3⟩
  cases n with
  | value v=>exact up _ _ hm
  | skip=>exact up _ _ hm
  | enter f args=>exact Calls.mono hm (by rintro e w' ⟨c,rfl,hc⟩;exact⟨c,rfl,up _ _ hc⟩)
  | round l f tmps assign body=>exact absurd hm.1 (by simp)
  | _=>exact hm.elim
 ·obtain⟨ke,h1,h2,h3⟩:=h'.put (R.skip) hN hs
  exact⟨ke,h1,h2,h3⟩
theorem Step.GN {o:Oper} {a b:Act} {w:World} {N1 N2:Act→World→Prop} (h:Step false P o b w N1) (he:execOp a.eval o=execOp b.eval o) (hn:∀ c w',N1 (b.put o.dst c) w'→N2 (a.put o.dst c) w'):Step false P o a w N2:=by
 obtain⟨hd,n,w1,hr,hm⟩:=h
 refine⟨hd,n,w1,by rw[he];exact hr,?_⟩
 cases n with
 | value v=>exact hn _ _ hm
 | skip=>exact hn _ _ hm
 | enter f args=>exact Calls.mono hm (by rintro e w' ⟨c,rfl,hc⟩;exact⟨c,rfl,hn _ _ hc⟩)
 | round l f tmps assign body=>exact absurd hm.1 (by simp)
 | _=>exact hm.elim
theorem yN {an:Array Bool} {i:Nat} (h:i∈Region.ready .any ⟨ops⟩ an):∃ o,ops[i]?=some o∧an.getD i true=false∧∀ d∈jF o,pC an d:=by
 simp only[Region.ready,acr,acV,abD,acv]at h
 obtain⟨h1,h2,h3⟩:=h
 have h1:i<ops.length:=h1
 have ho:ops[i]?=some (ops[i]'h1):=abj h1
 refine⟨_,ho,h2,fun d hd=>?_⟩
 have kh:(⟨ops⟩:Array Oper)[i]?=some (ops[i]'h1):=by simp
 rw[kh]at h3
 simp only[acb,acY,Array.all_eq_true']at h3
 simp only[jF,abR,acr]at hd
 obtain⟨e,⟨he,hb⟩,rfl⟩:=hd
 have:=h3 e (by simpa using he)
 simp only[hb,Bool.not_true,Bool.false_or]at this
 exact this
theorem GO {an:Array Bool} {i:Nat} {o:Oper} (ho:ops[i]?=some o) (h:an.getD i true=false) (hd:∀ d∈jF o,pC an d):i∈Region.ready .any ⟨ops⟩ an:=by
 simp only[Region.ready,acr,acV,abD,acv]
 have hi:=(abk.1 ho).1
 refine⟨hi,h,?_⟩
 have kh:(⟨ops⟩:Array Oper)[i]?=some o:=by simpa using ho
 rw[kh]
 simp only[acb,acY,Array.all_eq_true']
 intro e he
 cases hb:Region.binds .any e with
 | false=>simp
 | true =>
  simp only[Bool.not_true,Bool.false_or]
  exact hd e.on (by simp only[jF,abR,acr];exact⟨e,⟨by simpa using he,hb⟩,rfl⟩)
theorem pF:∀ {l:List Oper} {i:Nat} {p:Nat×Oper},p∈kg P i l→i≤p.1∧l[p.1 - i]?=some p.2∧yK P p.2=true
 | [],_,_,h=>by simp[kg]at h
 | o::r,i,p,h=>by
  simp only[kg]at h
  split at h
  ·rename_i hw
   rcases abE.1 h with rfl|h
   ·exact⟨abr _,by simp,hw⟩
   ·obtain⟨h1,h2,h3⟩:=pF h
    refine⟨by omega,?_,h3⟩
    rw[show p.1 - i=(p.1 - (i+1))+1 by omega];simpa using h2
  ·obtain⟨h1,h2,h3⟩:=pF h
   refine⟨by omega,?_,h3⟩
   rw[show p.1 - i=(p.1 - (i+1))+1 by omega];simpa using h2
theorem yO:∀ {l:List Oper} {i j:Nat} {o:Oper},l[j]?=some o→yK P o=true→(i+j,o)∈kg P i l
 | [],_,j,o,h,_=>by simp at h
 | c::r,i,0,o,h,hw=>by simp at h;subst h;simp[kg,hw]
 | c::r,i,j+1,o,h,hw=>by
  have:=yO (i:=i+1) (by simpa using h) hw
  rw[show i+(j+1)=i+1+j by omega]
  simp only[kg]
  split
  ·exact abn _ this
  ·exact this
theorem jG:∀ (l:List Bool) (i:Nat),l[i]?=some false→(l.set i true).count false+1=l.count false
 | [],i,h=>by simp at h
 | b::r,0,h=>by simp at h;subst h;simp
 | b::r,i+1,h=>by
  have:=jG r i (by simpa using h)
  simp only[List.set_cons_succ,List.count_cons]
  omega
theorem J5 {an:Array Bool} {i:Nat} (hi:i<an.size) (j:Nat):pC (an.setIfInBounds i true) j↔pC an j∨j=i:=by
 unfold pC
 rw[abJ,abJ]
 by_cases h:i=j
 ·subst h;simp[hi]
 ·rw[ac1 h]
  constructor
  ·exact .inl
  ·rintro(h'|h')
   ·exact h'
   ·exact(h h'.symm).elim
theorem yP:∀ {l:List Oper} {k:Nat},rR P N ops cn k l=true→∀ (j:Nat) (o:Oper),l[j]?=some o→∀ c:Call,o.op≠Op.defer c
 | [],_,_,j,o,h=>by simp at h
 | c::r,k,h,j,o,hj=>by
  simp only[rR,abD]at h
  cases j with
  | zero =>
   simp at hj;subst hj
   intro c e
   have:=h.1.1.1;simp[A8,e]at this
  | succ j=>exact yP h.2 j o (by simpa using hj)
theorem Ew {r:Option Nat} {i:Nat} {o:Oper} {v:Value} {a:Act} {w:World} {Q:Exit→Act→World→Prop} {K:Act→World→Prop} (hi:ops[i]?=some o) (hd:∀ c:Call,o.op≠Op.defer c) (hy:YieldsAt P ⟨ops⟩ w o v a)
  (h:K (a.put o.dst v) w):wpOpIn (Fr r) 0 P ⟨ops⟩ Q i K a w:=by
 have cH:(⟨ops⟩:Array Oper)[i]?=some o:=by simpa using hi
 unfold Go.wpOpIn
 rw[cH]
 simp only
 rcases hy with⟨hw,hv|⟨hv,rfl⟩|⟨f,args,hv,hc⟩⟩|⟨hw,rfl⟩
 ·rw[if_pos hw]
  refine⟨fun _ _=>trivial,?_⟩
  rw[Oper.semAt_eq _ _ _ hd,hv];exact h
 ·rw[if_pos hw]
  refine⟨fun _ _=>trivial,?_⟩
  rw[Oper.semAt_eq _ _ _ hd,hv];exact h
 ·rw[if_pos hw]
  refine⟨fun _ _=>trivial,?_⟩
  rw[Oper.semAt_eq _ _ _ hd,hv]
  exact⟨fun h=>by simp[Fr,Fence.wide]at h,iZ.2 (Calls.mono hc (by rintro e w' ⟨rfl,rfl⟩;exact h))⟩
 ·rw[if_neg (by rw[hw];simp)]
  exact⟨fun _ _=>trivial,h⟩
theorem Ey {r:Option Nat} {Q:Exit→Act→World→Prop} {K:Env→List Chunk→Prop} (hA:mg cn 0 ops=true) (hC:rR P N ops cn 0 ops=true) (QR:ws=kg P 0 ops)
  (hQ:∀ g env E a w,Iv S g env E a w→a.tmps.size=N→K env E→Q .normal a w):∀ (f:Nat) (an:Array Bool) (m D:Nat) (a:Act) (w:World),an.size=ops.length→an.toList.count false≤f →
  (∀ i o,ops[i]?=some o→pC an i→∀ d∈jF o,pC an d)→(∀ p∈ws,(pC an p.1↔Nat.testBit D p.1=true)) →
  (∃ g env E b,Iv S g env E b w∧b.tmps.size=N∧a.defers=b.defers∧a.tmps.size=N∧(∀ t,¬tu P ops an t→a.tmps[t]?=b.tmps[t]?)∧GM P ops cn ws an D ops.length b w ∧
   Fw.after P N S ops cn ws D env E K fun D' env E=>(match m with|0=>False|m+1=>mf P N S ops cn ws m D' (some D) env E K)) →
  wpAnyIn (Fr r) 0 P .any ⟨ops⟩ Q f an a w:=by
 have done:∀ (an:Array Bool) (m D:Nat) (a:Act) (w:World),an.size=ops.length→Region.ready .any ⟨ops⟩ an=[]→(∀ p∈ws,(pC an p.1↔Nat.testBit D p.1=true)) →
   (∃ g env E b,Iv S g env E b w∧b.tmps.size=N∧a.defers=b.defers∧a.tmps.size=N∧(∀ t,¬tu P ops an t→a.tmps[t]?=b.tmps[t]?)∧GM P ops cn ws an D ops.length b w ∧
   Fw.after P N S ops cn ws D env E K fun D' env E=>(match m with|0=>False|m+1=>mf P N S ops cn ws m D' (some D) env E K))→Q .normal a w:=by
  intro an m D a w cv hr yQ ⟨g,env,E,b,h1,h2,h3,h4,h5,h6,h7⟩
  have iy:∀ i,i<ops.length→pC an i:=by
   intro i
   induction i using Nat.strongRecOn with
   | _ i ih =>
    intro hi
    refine abV fun hn=>?_
    have ho:ops[i]?=some (ops[i]'hi):=abj hi
    have Em:∀ d∈jF (ops[i]'hi),pC an d:=fun d hd=>by
     have:=(nc hA i _ ho).2 d hd
     exact ih d (by omega) (by omega)
    have YK:an.getD i true=false:=by
     unfold pC at hn
     rw[abJ]at hn ⊢
     have:an[i]?=some (an[i]'(by omega)):=aca (by omega)
     rw[this]at hn ⊢
     simpa using hn
    have:=GO ho YK Em
    rw[hr]at this
    simp at this
  have GP:A7 D ws=true:=Cx fun p hp=>by
   have hm:p∈kg P 0 ops:=by rw[←QR];exact hp
   obtain⟨_,h8,_⟩:=pF hm
   exact(yQ p hp).1 (iy _ (by simpa using(abk.1 h8).1))
  unfold Fw.after at h7
  rw[GP]at h7
  have r8:a=b:=by
   have ht:a.tmps=b.tmps:=by
    apply Array.ext_getElem?
    intro t
    refine h5 t ?_
    rintro⟨i,o,ho,_,hn,_⟩
    exact hn (iy i (abk.1 ho).1)
   cases a;cases b;simp_all
  subst r8
  exact hQ g env E a w h1 h2 h7
 intro f
 induction f with
 | zero =>
  intro an m D a w cv w6 tx yQ dm
  have hr:Region.ready .any ⟨ops⟩ an=[]:=by
   cases hr:Region.ready .any ⟨ops⟩ an with
   | nil=>rfl
   | cons i r =>
    obtain⟨o,ho,hl,_⟩:=yN (ops:=ops) (an:=an) (i:=i) (by rw[hr];exact abq ..)
    have hi:=(abk.1 ho).1
    have AP:an[i]?=some false:=by
     rw[abJ]at hl
     have:an[i]?=some (an[i]'(by omega)):=aca (by omega)
     rw[this]at hl ⊢
     simpa using hl
    have:=jG an.toList i (by simpa using AP)
    omega
  exact⟨hr,done an m D a w cv hr yQ dm⟩
 | succ f ih =>
  intro an m D a w cv w6 tx yQ dm
  refine⟨fun hr=>done an m D a w cv hr yQ dm,fun i hi=>?_⟩
  obtain⟨g,env,E,b,h1,h2,h3,h4,h5,h6,h7⟩:=dm
  obtain⟨o,ho,hl,Em⟩:=yN hi
  have YL:=(abk.1 ho).1
  have dp:i<an.size:=by omega
  have AP:an[i]?=some false:=by
   rw[abJ]at hl
   have:an[i]?=some (an[i]'dp):=aca dp
   rw[this]at hl ⊢
   simpa using hl
  have tc:¬pC an i:=by unfold pC;rw[abJ,AP];simp
  have eN:=J5 (an:=an) dp
  have L8:(an.setIfInBounds i true).toList.count false≤f:=by
   have:=jG an.toList i (by simpa using AP)
   rw[Array.toList_setIfInBounds]
   omega
  have GQ:∀ j o,ops[j]?=some o→pC (an.setIfInBounds i true) j→∀ d∈jF o,pC (an.setIfInBounds i true) d:=by
   intro j o' kh hj d hd
   rcases(eN j).1 hj with hj|rfl
   ·exact(eN d).2 (.inl (tx j o' kh hj d hd))
   ·rw[ho]at kh;cases kh
    exact(eN d).2 (.inl (Em d hd))
  obtain⟨QN,w5,A6⟩:=pE hC i o ho
  rw[abx]at w5 A6
  have NC:=oF hA tx i o ho Em
  have UQ:∀ t∈o.looksAt ⟨ops⟩,a.tmps[t]?=b.tmps[t]?:=by
   intro t ht
   refine h5 t ?_
   rintro⟨j,o',kh,sB,rH,mb⟩
   have:=mj (w5 t ht) j o' kh sB mb
   rw[abx]at this
   exact rH (NC j this)
  obtain⟨hex,Jv⟩:=vH QN UQ
  have Xi:∀ t,tu P ops (an.setIfInBounds i true) t→tu P ops an t:=by
   rintro t ⟨j,o',kh,sB,rH,mb⟩
   exact⟨j,o',kh,sB,fun h=>rH ((eN j).2 (.inl h)),mb⟩
  have L9:∀ {p:Nat×Oper},p∈ws→ops[p.1]?=some p.2∧yK P p.2=true:=by
   intro p hp
   have:p∈kg P 0 ops:=by rw[←QR];exact hp
   obtain⟨_,h8,h9⟩:=pF this
   exact⟨by simpa using h8,h9⟩
  by_cases hW:yK P o=false
  ·
   obtain⟨d,hd,QO,L7⟩:=A6 hW
   have hM:oE cn i D ws=true:=by
    refine mi.2 (fun p hp=>⟨fun hD=>?_,fun hD=>?_⟩)
    ·refine acH.2 fun hb=>?_
     have wM:=(yQ p hp).2 hD
     obtain⟨QS,_⟩:=L9 hp
     exact tc (oF hA tx p.1 p.2 QS (tx _ _ QS wM) i hb)
    ·refine acH.2 fun hb=>?_
     have:=(yQ p hp).1 (NC p.1 hb)
     rw[hD]at this;cases this
   have hy:=h6 i o d YL ho hW tc hM hd
   have YM:=hy.of_same hex Jv
   refine Ew ho (yP hC i o ho) YM ?_
   refine ih _ m D _ w (by simpa using cv) L8 GQ (fun p hp=>?_) ⟨g,env,E,b,h1,h2,by rw[←h3];cases o.dst <;> rfl,by rw[hd];simp[Act.put,h4],fun t ht=>?_,fun j o' d' hj kh sB rH AB mb=>?_,h7⟩
   ·rw[eN]
    constructor
    ·rintro(h8|h8)
     ·exact(yQ p hp).1 h8
     ·obtain⟨QS,Xj⟩:=L9 hp
      rw[h8,ho]at QS;cases QS
      rw[hW]at Xj;cases Xj
    ·exact fun h8=>.inl ((yQ p hp).2 h8)
   ·rw[hd]
    by_cases Ma:t=d
    ·have hs:t<a.tmps.size:=by rw[h4,Ma];exact QO
     have pc:t<b.tmps.size:=by rw[h2,Ma];exact QO
     subst Ma
     have Xk:b.tmps[t]?=some (b.tmps[t]'pc):=aca pc
     rw[Xk]
     simp[Act.put,hs,abJ,Xk]
    ·have:(a.put (some d) (b.tmps.getD d Go.undef)).tmps[t]?=a.tmps[t]?:=by simp[Act.put,ac1 (Ne.symm Ma)]
     rw[this]
     refine h5 t ?_
     rintro⟨j,o',kh,sB,rH,mb⟩
     refine ht ⟨j,o',kh,sB,fun h=>?_,mb⟩
     rcases(eN j).1 h with h|rfl
     ·exact rH h
     ·rw[ho]at kh;cases kh
      rw[hd]at mb;cases mb;exact Ma rfl
   ·exact h6 j o' d' hj kh sB (fun h=>rH ((eN j).2 (.inl h))) AB mb
  ·
   have hW:yK P o=true:=by simpa using hW
   have bc:(i,o)∈ws:=by
    rw[QR]
    have:=yO (P:=P) (i:=0) ho hW
    rwa [abx]at this
   have Xl:Nat.testBit D i=false:=by
    refine acH.2 fun hb=>?_
    exact tc ((yQ _ bc).2 hb)
   have FO:tp cn i D ws=true:=yL fun p hp hb=>(yQ p hp).1 (NC _ hb)
   unfold Fw.after at h7
   rw[yM bc Xl]at h7
   have h7:=pD h7 (i,o) bc Xl FO
   simp only[GK]at h7
   have UR:∀ p∈ws,(pC (an.setIfInBounds i true) p.1↔Nat.testBit (Nat.lor D (2 ^ i)) p.1=true):=by
    intro p hp
    rw[eN,yQ p hp]
    show _↔Nat.testBit (D ||| 2 ^ i) p.1=true
    rw[ac2,Nat.testBit_two_pow,adm,decide_eq_true_eq]
    constructor
    ·rintro(h8|h8)
     ·exact .inl h8
     ·exact .inr h8.symm
    ·rintro(h8|h8)
     ·exact .inl h8
     ·exact .inr h8.symm
   have next:∀ (c:Value) (w':World) (g':Gh) (aj:Env) (E':List Chunk),Iv S g' aj E' (b.put o.dst c) w'→(b.put o.dst c).tmps.size=N→(match(generalizing:=false) m with|0=>False|m+1=>mf P N S ops cn ws m (Nat.lor D (2 ^ i)) (some D) aj E' K) →
     wpAnyIn (Fr r) 0 P .any ⟨ops⟩ Q f (an.setIfInBounds i true) (a.put o.dst c) w':=by
    intro c w' g' aj E' hI AN ND
    have NF:∀ t,¬tu P ops (an.setIfInBounds i true) t→(a.put o.dst c).tmps[t]?=(b.put o.dst c).tmps[t]?:=by
     intro t ht
     have PV:¬tu P ops an t:=by
      rintro⟨m,o',kh,sB,rH,mb⟩
      refine ht ⟨m,o',kh,sB,fun h=>?_,mb⟩
      rcases(eN m).1 h with h|rfl
      ·exact rH h
      ·rw[ho]at kh;cases kh
       rw[hW]at sB;cases sB
     have r8:=h5 t PV
     cases PS:o.dst with
     | none=>simpa [Act.put]using r8
     | some d =>
      by_cases Ma:d=t
      ·subst Ma
       have No:a.tmps.size=b.tmps.size:=by rw[h4,h2]
       simp only[Act.put,Array.getElem?_setIfInBounds_self,No]
      ·simp only[Act.put,ac1 Ma];exact r8
    have vI:∀ j o',ops[j]?=some o'→yK P o'=false→pC (an.setIfInBounds i true) j→oE cn j (Nat.lor D (2 ^ i)) ws=true→∃ D1,some D=some D1∧oE cn j D1 ws=true:=by
     intro j o' kh sB lK AB
     refine⟨D,rfl,mi.2 (fun p hp=>⟨fun hD=>((mi.1 AB) p hp).1 ?_,fun hD=>?_⟩)⟩
     ·show Nat.testBit (D ||| 2 ^ i) p.1=true
      rw[ac2,hD,Bool.true_or]
     ·refine acH.2 fun hb=>?_
      have QT:pC an j:=by
       rcases(eN j).1 lK with h|rfl
       ·exact h
       ·rw[ho]at kh;cases kh
        rw[hW]at sB;cases sB
      have:=(yQ p hp).1 (oF hA tx j o' kh (tx j o' kh QT) p.1 hb)
      rw[hD]at this;cases this
    cases m with
    | zero=>exact ND.elim
    | succ m =>
    have fin:∀ (m':Nat),GL P ops cn ws (Nat.lor D (2 ^ i)) (some D) E' 0 ops aj (fun env=>Fw.after P N S ops cn ws (Nat.lor D (2 ^ i)) env E' K fun D' env E=>(match m' with|0=>False|m+1=>mf P N S ops cn ws m D' (some (Nat.lor D (2 ^ i))) env E K)) →
      wpAnyIn (Fr r) 0 P .any ⟨ops⟩ Q f (an.setIfInBounds i true) (a.put o.dst c) w':=by
     intro m' US
     obtain⟨ke,b',e1,e2,e3,e4,e5,e6⟩:=tw hA hC vI ops 0 aj (b.put o.dst c) (by simp) hI AN (fun m o' d' hm=>by omega) US
     refine ih _ m' (Nat.lor D (2 ^ i)) _ w' (by simpa using cv) L8 GQ UR ⟨g',ke,E',b',e1,e2,?_,?_,fun t ht=>?_,e3,e4⟩
     ·rw[e5]
      have:(a.put o.dst c).defers=a.defers:=by cases o.dst <;> rfl
      have fm:(b.put o.dst c).defers=b.defers:=by cases o.dst <;> rfl
      rw[this,fm,h3]
     ·have:(a.put o.dst c).tmps.size=a.tmps.size:=by cases o.dst <;> simp[Act.put]
      rw[this,h4]
     ·rw[e6 t ht];exact NF t ht
    cases m with
    | zero=>exact fin 0 ND
    | succ m=>exact fin (m+1) ND
   have PW:(⟨ops⟩:Array Oper)[i]?=some o:=by simpa using ho
   unfold wpOpIn
   rw[PW]
   simp only
   rcases QQ h1 h2 h7 with⟨Ek,vJ⟩|⟨Ek,aj,h8,h9,fm⟩
   ·rw[if_pos (by rw[Jv];exact Ek)]
    refine Step.wpIn (vJ.GN hex ?_)
    rintro c w' ⟨g',aj,E',h8,h9,_,fm⟩
    exact next c w' g' aj E' h8 h9 fm
   ·rw[if_neg (by rw[Jv,Ek];simp)]
    exact⟨fun _ _=>trivial,next _ w g aj E h8 h9 fm⟩
theorem vk {r:Option Nat} (hm:P.follows .mixedOrders=true) (ao:tq P N ops cn (kg P 0 ops)=true) {Q:Exit→Act→World→Prop} {K:Env→List Chunk→Prop} {id:Nat} {g:Gh} {env:Env} {E:List Chunk} {a:Act} {w:World}
  (hQ:∀ g env E a w,Iv S g env E a w→a.tmps.size=N→K env E→Q .normal a w) (h:Iv S g env E a { w with drawn:=w.drawn+1 }) (hN:a.tmps.size=N) (hk:mf P N S ops cn (kg P 0 ops) (kg P 0 ops).length 0 none env E K) :
  (Code.region id ⟨ops⟩ true).wpIn (Fr r) 0 P Q a w:=by
 simp only[tq,abD]at ao
 obtain⟨hA,hC⟩:=ao
 refine wpIn_region_any hm ?_
 have NG:∀ i,¬pC (Array.replicate ops.length false) i:=by
  intro i
  unfold pC
  rw[abJ]
  by_cases hi:i<ops.length
  ·simp[Array.getElem?_replicate,hi]
  ·simp[Array.getElem?_replicate,hi]
 have fin:∀ (m:Nat),GL P ops cn (kg P 0 ops) 0 none E 0 ops env (fun env=>Fw.after P N S ops cn (kg P 0 ops) 0 env E K fun D' env E=>(match m with|0=>False|m+1=>mf P N S ops cn (kg P 0 ops) m D' (some 0) env E K)) →
   wpAnyIn (Fr r) 0 P .any ⟨ops⟩ Q (⟨ops⟩:Array Oper).size (Array.replicate (⟨ops⟩:Array Oper).size false) a { w with drawn:=w.drawn+1 }:=by
  intro m US
  obtain⟨ke,b',e1,e2,e3,e4,e5,e6⟩:=tw (an:=Array.replicate ops.length false) hA hC (fun i o _ _ hl _=>(NG i hl).elim) ops 0 env a (by simp) h hN (fun m o' d' hm=>by omega) US
  exact Ey hA hC rfl hQ _ _ m 0 a _ (by simp) (by simp) (fun i o _ hl=>(NG i hl).elim) (fun p _=>⟨fun hl=>(NG _ hl).elim,fun h=>by simp at h⟩) ⟨g,ke,E,b',e1,e2,e5.symm,hN,fun t ht=>(e6 t ht).symm,e3,e4⟩
 generalize (kg P 0 ops).length=m at hk
 cases m with
 | zero=>exact fin 0 hk
 | succ m=>exact fin (m+1) hk
end
def fT (l:List Nat) (K:List Nat→Prop):Prop:=match l with|[]=>K []|n::r=>fB n fun n=>fT r fun r=>K (n::r)
theorem QU (l:List Nat) (K:List Nat→Prop):fT l K=K l:=by
 induction l generalizing K with
 | nil=>rfl
 | cons c r ih=>simp only[fT,GK,ih]
def fW (l:List (Nat×Oper)) (K:List (Nat×Oper)→Prop):Prop:=match l with|[]=>K []|(n,o)::r=>fB n fun n=>fW r fun r=>K ((n,o)::r)
theorem QV (l:List (Nat×Oper)) (K:List (Nat×Oper)→Prop):fW l K=K l:=by
 induction l generalizing K with
 | nil=>rfl
 | cons c r ih=>cases c;simp only[fW,GK,ih]
structure vK (P:Program) (N:Nat) (S:Sc) (ops:List Oper) (env:Env) (E:List Chunk) (K:Env→List Chunk→Prop):Prop where
 h:fT (Nz ops []) fun cn=>fW (kg P 0 ops) fun ws=>mf P N S ops cn ws ws.length 0 none env E K
section
variable (P:Program) (N:Nat) (S:Sc)
def fH (M:List Bool):Code→Env→List Chunk→(Ex→Env→List Chunk→Prop)→Prop
 | .skip,env,E,K=>K .normal env E
 | .label _,env,E,K=>K .normal env E
 | .region _ ⟨ops⟩ false,env,E,K=>jX P N S true ops ops env E (K .normal)
 | .region _ ⟨ops⟩ true,env,E,K=>Cl (fun _=>tq P N ops (Nz ops []) (kg P 0 ops)=true)∧vK P N S ops env E (K .normal)
 | .seq a b,env,E,K=>fH M a env E fun e env E=>match e with|.normal=>aC P N S M b env E K|.ret=>K .ret env E|.exit n=>K (.exit n) env E
 | .cond c t f,env,E,K=>(match ev env c with
  | .bool b=>(b ()=true→fH M t env E K)∧(b ()=false→fH M f env E K)
  | .tt=>fH M t env E K
  | .ff=>fH M f env E K
  | _=>False)
 | .block id b,env,E,K=>fH M b env E fun e env E=>match e with
  | .exit n=>(match Nat.beq n id with|true=>K .normal env E|false=>K (.exit n) env E)
  | .normal=>K .normal env E|.ret=>K .ret env E
 | .exit n,env,E,K=>K (.exit n) env E
 | .ret,env,E,K=>K .ret env E
 | .loop b,env,E,K=>aH P N S M b env E K
 | .scope b,env,E,K=>fH M b env E K
 | c,env,E,K=>aC P N S M c env E K
end
section
variable {P:Program} {N:Nat} {M:List Bool} {S:Sc} {y:Bool}
theorem oG {r:Option Nat} {a b c:Bool} (h:r=none∨c=true) (hc:c=(a && b)):(r=none∨a=true)∧(r=none∨b=true):=by
 subst hc
 rcases h with h|h
 ·exact⟨.inl h,.inl h⟩
 ·rw[abD]at h;exact⟨.inr h.1,.inr h.2⟩
theorem fI {b:Frame} {a:Act} {k:List Item} {cs:List Frame} {w:World} {c:Code}:step P (lone (b.atR a (.code (.scope c)::k)) cs w)=.next (lone (b.atR a (.code c::.inScope c::k)) cs w) :=
 step_lone_go (by simp[stepG,stepG.exec,Frame.atR])
theorem vl {b:Frame} {a:Act} {k:List Item} {cs:List Frame} {w:World} {c:Code}:step P (lone (b.atR a (.inScope c::k)) cs w)=.next (lone (b.atR a k) cs w) :=
 step_lone_go (by simp[stepG,stepG.exec,Frame.atR])
theorem Ba {F:Fence} {n:Nat} {Q:Exit→Act→World→Prop} {a:Act} {w:World} {c:Code} (hQ:∀ l a w,¬Q (.goto l) a w) (h:c.wpIn F n P Q a w):(Code.scope c).wpIn F n P Q a w:=by
 intro b k cs YN hb hr
 have h0:(lone (b.atR a (.code (.scope c)::k)) cs w).fenced P F:=fenced_calm hb hr rfl
 obtain⟨e,a₁,w₁,hq,s5⟩:=h b (.inScope c::k) cs YN hb hr
 cases e with
 | normal=>exact⟨.normal,a₁,w₁,hq,.head h0 fI (StepsIn.trans s5 (.one (fenced_calm hb hr rfl) vl))⟩
 | exit id =>
  have hx:exitTo id (.inScope c::k)=exitTo id k:=by simp[exitTo]
  exact⟨.exit id,a₁,w₁,hq,fun k' hk=>.head h0 fI (s5.1 k' (by rw[hx];exact hk)),
   fun rG hk=>let ⟨k₁,h1,h2⟩:=s5.2 rG (by rw[hx];exact hk);⟨k₁,h1,.head h0 fI h2⟩⟩
 | goto l=>exact(hQ _ _ _ hq).elim
 | ret=>exact⟨_,a₁,w₁,hq,.of_steps (.one h0 fI) s5⟩
 | panic ch=>exact⟨_,a₁,w₁,hq,.of_steps (.one h0 fI) s5⟩
 | outgrown=>exact⟨_,a₁,w₁,hq,.of_steps (.one h0 fI) s5⟩
theorem ja (hm:P.follows .mixedOrders=true) (hM:∀ B,S.at_ B→bB B.E=M):∀ (c:Code) (r:Option Nat),(r=none∨fu c=true)→∀ {K:Ex→Env→List Chunk→Prop} {g:Gh} {env:Env} {E:List Chunk} {a:Act} {w:World},Iv S g env E a w→a.tmps.size=N →
  fH P N S M c env E K→c.wpIn (Fr r) 0 P (A5 S N K) a w:=by
 intro c
 induction c with
 | skip=>intro r hr K g env E a w h hN hk;exact wpIn_skip ⟨.normal,g,env,E,rfl,h,hN,hk⟩
 | label l=>intro r hr K g env E a w h hN hk;exact wpIn_label ⟨.normal,g,env,E,rfl,h,hN,hk⟩
 | region id ops draw =>
  intro r hr K g env E a w h hN hk
  obtain⟨ops⟩:=ops
  cases draw with
  | false =>
   exact wpIn_region_list (qU (Q:=A5 S N K) (fun g env E a w h1 h2 h4=>⟨.normal,g,env,E,rfl,h1,h2,h4⟩) ops h hN hk)
  | true =>
   simp only[fH]at hk
   have h':=h.same (yJ w)
   have fin:∀ (g:Gh) (env:Env) (E:List Chunk) (a:Act) (w:World),Iv S g env E a w→a.tmps.size=N→K .normal env E→A5 S N K .normal a w :=
    fun g env E a w h1 h2 h4=>⟨.normal,g,env,E,rfl,h1,h2,h4⟩
   have yR:=hk.2.h
   rw[QU,QV]at yR
   exact vk hm hk.1.h (fun g env E a w h1 h2 h3=>fin g env E a w h1 h2 h3) h' hN yR
 | seq x y TO UT =>
  intro r hr K g env E a w h hN hk
  obtain⟨oC,tj⟩:=oG hr rfl
  refine wpIn_seq (adD (TO r oC h hN hk) ?_)
  rintro e a' w' ⟨e',g',aj,E',rfl,h1,h2,h4⟩
  cases e' with
  | normal=>exact h4.h r g' a' w' tj hM h1 h2
  | ret=>exact⟨.ret,g',aj,E',rfl,h1,h2,h4⟩
  | exit n=>exact⟨.exit n,g',aj,E',rfl,h1,h2,h4⟩
 | cond c x y TO UT =>
  intro r hr K g env E a w h hN hk
  obtain⟨oC,tj⟩:=oG hr rfl
  have hc:=h.er.ev c
  simp only[fH]at hk
  split at hk <;> try exact hk.elim
  ·rename_i b e
   rw[e]at hc
   have hc:=hc.dq
   cases hb:b ()
   ·rw[hb]at hc;exact wpIn_cond_false hc (UT r tj h hN (hk.2 hb))
   ·rw[hb]at hc;exact wpIn_cond_true hc (TO r oC h hN (hk.1 hb))
  ·rename_i e
   rw[e]at hc
   exact wpIn_cond_true hc.kM (TO r oC h hN hk)
  ·rename_i e
   rw[e]at hc
   exact wpIn_cond_false hc.lY (UT r tj h hN hk)
 | block id b ih =>
  intro r hr K g env E a w h hN hk
  refine wpIn_block (adD (ih r hr h hN hk) ?_)
  rintro e a' w' ⟨e',g',aj,E',rfl,h1,h2,h4⟩
  cases e' with
  | normal=>exact⟨.normal,g',aj,E',rfl,h1,h2,h4⟩
  | ret=>exact⟨.ret,g',aj,E',rfl,h1,h2,h4⟩
  | exit n =>
   simp only[]at h4
   show(if n=id then A5 S N K .normal a' w' else A5 S N K (.exit n) a' w')
   split at h4
   ·rename_i hn
    rw[if_pos (abl hn)]
    exact⟨.normal,g',aj,E',rfl,h1,h2,h4⟩
   ·rename_i hn
    rw[if_neg (fun e=>by subst e;simp at hn)]
    exact⟨.exit n,g',aj,E',rfl,h1,h2,h4⟩
 | loop b ih=>intro r hr K g env E a w h hN hk;exact hk.h r g a w hr hM h hN
 | rangeFunc f ps az b Xa Xb=>intro r hr K g env E a w h hN hk;exact hk.h r g a w hr hM h hN
 | exit n=>intro r hr K g env E a w h hN hk;exact wpIn_exit ⟨.exit n,g,env,E,rfl,h,hN,hk⟩
 | scope b ih =>
  intro r hr K g env E a w h hN hk
  refine Ba ?_ (ih r hr h hN hk)
  rintro l a' w' ⟨e',g',aj,E',h1,_⟩
  cases e' <;> cases h1
 | goto l=>intro r hr K g env E a w h hN hk;exact hk.h r g a w hr hM h hN
 | ret=>intro r hr K g env E a w h hN hk;exact wpIn_ret ⟨.ret,g,env,E,rfl,h,hN,hk⟩
 | refuse s=>intro r hr K g env E a w h hN hk;exact hk.h r g a w hr hM h hN
def QW:Code→Bool
 | .rangeFunc _ _ _ _=>false|.scope _=>true|.skip=>true|.label _=>true|.region _ _ _=>true|.seq _ _=>true|.cond _ _ _=>true|.block _ _=>true|.exit _=>true|.ret=>true|.loop _=>true|_=>false
theorem aC.step (hm:P.follows .mixedOrders=true) {c:Code} {env:Env} {E:List Chunk} {K:Ex→Env→List Chunk→Prop} (hs:QW c=true) (h:fH P N S M c env E K):aC P N S M c env E K where
 h:=fun r g a w hr hM hi hN=>ja hm hM c r hr hi hN h
end
def w7 (π:List Nat) (i j:Nat):Bool:=match nth π j with|some k=>Nat.beq k i|none=>false
mutual
def pf (π:List Nat):AV→AV→Prop
 | a,.undef=>True
 | .skip,.skip=>True
 | .int k n,.int k' m=>(match decEq k k' with|isTrue _=>n ()=m ()|isFalse _=>False)
 | .bool b,.bool c=>b ()=c ()
 | .tt,.bool c=>c ()=true
 | .ff,.bool c=>c ()=false
 | .bool b,.tt=>b ()=true
 | .bool b,.ff=>b ()=false
 | .tt,.tt=>True
 | .ff,.ff=>True
 | .str s,.str t=>s ()=t ()
 | .aG t xs,.aG t' ys=>(match decEq t t' with|isTrue h=>nR h xs fun xs=>xs ()=ys ()|isFalse _=>False)
 | .aY,.aG _ ys=>ys ()=[]
 | .aY,.aY=>True
 | .agg cs,.agg ds=>sC π cs ds
 | .bM cs,.bM ds=>sC π cs ds
 | .bZ,.bZ=>True
 | .ptr i o,.ptr j p=>(match w7 π i j,Nat.beq o p with|true,true=>True|_,_=>False)
 | .bl i s x o,.bl j s' y p=>(match w7 π i j,Nat.beq s s',Nat.beq o p with|true,true,true=>x ()=y ()|_,_,_=>False)
 | .dI t x o,.dI t' y p=>(match decEq t t',Nat.beq o p with|isTrue h,true=>LR h x fun x=>x ()=y ()|_,_=>False)
 | .cL cs o,.cL ds p=>(match Nat.beq o p with|true=>sC π cs ds|false=>False)
 | .vec i s o n,.vec j s' p m=>(match w7 π i j,Nat.beq s s' with|true,true=>o ()=p ()∧n ()=m ()|_,_=>False)
 | .fn f a b,.fn f' a' b'=>(match decEq f f' with|isTrue _=>sC π a a'∧sC π b b'|isFalse _=>False)
 | .gV,.gV=>True
 | .ot t v,.ot t' v'=>(match Nat.beq t t' with|true=>pf π v v'|false=>False)
 | .j9,.j9=>True
 | .mp i,.mp j=>(match w7 π i j with|true=>True|false=>False)
 | .ka,.ka=>True
 | .hp i f,.hp j h=>(match w7 π i j with|true=>f ()=h ()|false=>False)
 | .hm i f,.hm j h=>(match w7 π i j with|true=>f ()=h ()|false=>False)
 | _,_=>False
def sC (π:List Nat):List AV→List AV→Prop
 | [],[]=>True
 | a::r,e::s=>pf π a e∧sC π r s
 | _,_=>False
end
def sf (π:List Nat):Chunk→Chunk→Prop
 | _,.none=>True
 | .cells T cs,.cells T' ds=>(match Nat.beq T T' with|true=>sC π cs ds|false=>False)
 | .au T t xs,.au T' t' ys=>(match Nat.beq T T',decEq t t' with|true,isTrue h=>nR h xs fun xs=>xs ()=ys ()|_,_=>False)
 | .count k,.count m=>k ()=m ()
 | .row T t xs,.row T' t' ys=>(match Nat.beq T T',decEq t t' with|true,isTrue h=>nR h xs fun xs=>xs ()=ys ()|_,_=>False)
 | .au T t xs,.row T' t' ys=>(match Nat.beq T T',decEq t t' with|true,isTrue h=>nR h xs fun xs=>xs ()=ys ()|_,_=>False)
 | .jC k ks us,.jC k' UU vs=>(match decEq k k',decEq ks UU with|isTrue _,isTrue _=>sC π us vs|_,_=>False)
 | .heap h,.heap h'=>Hp.eb (h' ()) (h ())
 | .jy T cs,.jy T' ds=>(match Nat.beq T T' with|true=>sC π cs ds|false=>False)
 | .bg q,.bg q'=>q=q'
 | .jD x a b l,.jD y a' b' l'=>pf π x y∧a=a'∧b=b'∧l ()=l' ()
 | _,_=>False
def pG (π:List Nat) (E:List Chunk):List Nat→List Chunk→Prop
 | [],[]=>True
 | i::r,c::s=>sf π (af E i) c∧pG π E r s
 | _,_=>False
def Cz (π:List Nat) (env:Env):Env→Prop
 | []=>True
 | (t,v)::r=>pf π (look env t) v∧Cz π env r
def Gh.dO (g:Gh) (π:List Nat):Gh :=
 { n:=π.length,Φ:=g.Φ,B:=fun j=>g.B (π[j]?.getD 0),V:=fun j=>g.V (π[j]?.getD 0),L:=fun j=>g.L (π[j]?.getD 0),k:=g.k,W:=fun j=>g.W (π[j]?.getD 0),M:=fun j=>g.M (π[j]?.getD 0) }
theorem kT {π:List Nat} {i j:Nat} (h:w7 π i j=true):π[j]?=some i:=by
 unfold w7 at h
 rw[gX]at h
 split at h
 ·rename_i k hk;rw[hk,abl h]
 ·cases h
theorem nf {π:List Nat} {i j:Nat} (h:w7 π i j=true):j<π.length:=(abk.1 (kT h)).1
theorem fZ (g:Gh) {π:List Nat} {i j:Nat} (h:π[j]?=some i):(g.dO π).B j=g.B i∧(g.dO π).V j=g.V i∧(g.dO π).L j=g.L i:=by simp[Gh.dO,h]
theorem pH (g:Gh) {π:List Nat} {i j:Nat} (h:π[j]?=some i):(g.dO π).W j=g.W i∧(g.dO π).M j=g.M i:=by simp[Gh.dO,h]
theorem R.yS {g:Gh} {π:List Nat} {t:Ty} {x:Unit→t.den} {j:Nat} {y:AV} (hy:(enc t x [])[j]?=some y) {u:Value} (h:R g y u):R (g.dO π) y u:=by
 have:=R.map (g:=g) (g':=g.dO π) (fun _=>.undef) (fun _ _ h=>h) (fun v u _ _=>.undef u) h
 rwa [iK _ t x j y hy]at this
mutual
theorem w8 {g:Gh} {π:List Nat}:∀ (a e:AV) (u:Value),pf π a e→R g a u→R (g.dO π) e u
 | .agg cs,e,u,h,hr=>by
  cases e <;> simp only[pf]at h <;> try exact h.elim
  ·exact .undef _
  ·obtain⟨vs,rfl,hl⟩:=hr.gF
   have:=R.iV (fv cs _ vs.toList h hl)
   simpa using this
 | .bM cs,e,u,h,hr=>by
  cases e <;> simp only[pf]at h <;> try exact h.elim
  ·exact .undef _
  ·obtain⟨vs,rfl,hl⟩:=hr.sw
   have:=R.il (fv cs _ vs.toList h hl)
   simpa using this
 | .fn f az bs,e,u,h,hr=>by
  cases e <;> simp only[pf]at h <;> try exact h.elim
  ·exact .undef _
  ·split at h
   ·rename_i hf _
    subst hf
    cases hr with|fn _ _ _ vs ws hl lK hr rG =>
    have:=R.DZ (f:=f) (fv az _ vs.toList h.1 (RL.mk (by simpa using hl) fun i y u h1 h2=>hr i y u h1 (by simpa using h2))) (fv bs _ ws.toList h.2 (RL.mk (by simpa using lK) fun i y u h1 h2=>rG i y u h1 (by simpa using h2)))
    simpa using this
   ·exact h.elim
 | .ot t v,e,u,h,hr=>by
  cases e <;> simp only[pf]at h <;> try exact h.elim
  ·exact .undef _
  ·split at h
   ·rename_i ht
    have ht:=abl ht
    subst ht
    cases hr with|ot _ _ u hr =>
    exact .ot _ _ _ (w8 v _ u h hr)
   ·exact h.elim
 | .undef,e,u,h,hr=>by cases e <;> simp only[pf]at h <;> first|exact h.elim|exact .undef _
 | .skip,e,u,h,hr=>by
  cases e <;> simp only[pf]at h <;> first|exact h.elim|exact .undef _|skip
  cases hr;exact .skip
 | .int k n,e,u,h,hr=>by
  cases e <;> simp only[pf]at h <;> first|exact h.elim|exact .undef _|skip
  split at h
  ·rename_i hk _
   subst hk
   rw[hr.bS];exact R.ve h.symm
  ·exact h.elim
 | .bool b,e,u,h,hr=>by
  cases e <;> simp only[pf]at h <;> first|exact h.elim|exact .undef _|skip
  ·rw[hr.dq];exact R.po h.symm
  ·rw[hr.dq,h];exact .tt
  ·rw[hr.dq,h];exact .ff
 | .tt,e,u,h,hr=>by
  cases e <;> simp only[pf]at h <;> first|exact h.elim|exact .undef _|skip
  ·rw[hr.kM];exact R.po h
  ·rw[hr.kM];exact .tt
 | .ff,e,u,h,hr=>by
  cases e <;> simp only[pf]at h <;> first|exact h.elim|exact .undef _|skip
  ·rw[hr.lY];exact R.po h
  ·rw[hr.lY];exact .ff
 | .str s,e,u,h,hr=>by
  cases e <;> simp only[pf]at h <;> first|exact h.elim|exact .undef _|skip
  rw[hr.ir];exact R.AO (by rw[h])
 | .aG t xs,e,u,h,hr=>by
  cases e <;> simp only[pf]at h <;> first|exact h.elim|exact .undef _|skip
  rename_i t' ys
  split at h
  ·rename_i ht _
   subst ht
   have e:ys=xs:=by funext u;cases u;exact h.symm
   subst e
   cases hr with|aG _ _ A c u hc hm ha hr =>
   exact .aG t ys A c u hc hm ha (fun i x j y h1 h2=>(hr i x j y h1 h2).yS h2)
  ·exact h.elim
 | .aY,e,u,h,hr=>by
  cases e <;> simp only[pf]at h <;> first|exact h.elim|exact .undef _|skip
  ·rename_i t ys
   cases hr
   have e:ys=fun _=>[]:=by funext u;cases u;exact h
   subst e
   exact qI _ _
  ·cases hr;exact .aY
 | .bZ,e,u,h,hr=>by
  cases e <;> simp only[pf]at h <;> first|exact h.elim|exact .undef _|skip
  cases hr;exact .bZ
 | .gV,e,u,h,hr=>by
  cases e <;> simp only[pf]at h <;> first|exact h.elim|exact .undef _|skip
  cases hr;exact .gV
 | .j9,e,u,h,hr=>by
  cases e <;> simp only[pf]at h <;> first|exact h.elim|exact .undef _|skip
  cases hr;exact .j9
 | .ka,e,u,h,hr=>by
  cases e <;> simp only[pf]at h <;> first|exact h.elim|exact .undef _|skip
  cases hr;exact .ka
 | .mp i,e,u,h,hr=>by
  cases e <;> simp only[pf]at h <;> first|exact h.elim|exact .undef _|skip
  split at h <;> try exact h.elim
  rename_i hb
  cases hr
  rw[←(fZ g (kT hb)).1]
  exact .mp _ (nf hb)
 | .hp i f,e,u,h,hr=>by
  cases e <;> simp only[pf]at h <;> first|exact h.elim|exact .undef _|skip
  rename_i j f'
  split at h <;> try exact h.elim
  rename_i hb
  have e:f'=f:=by funext u;cases u;exact h.symm
  subst e
  have hW:=pH g (kT hb)
  cases hr with|hp _ _ hi hf =>
  have:=R.hp (g:=g.dO π) j f' (nf hb) (fun x hx=>by rw[hW.2];exact hf x hx)
  rw[hW.1]at this
  exact this
 | .hm i f,e,u,h,hr=>by
  cases e <;> simp only[pf]at h <;> first|exact h.elim|exact .undef _|skip
  rename_i j f'
  split at h <;> try exact h.elim
  rename_i hb
  have e:f'=f:=by funext u;cases u;exact h.symm
  subst e
  have hW:=pH g (kT hb)
  cases hr with|hm _ _ hi hf =>
  have:=R.hm (g:=g.dO π) j f' (nf hb) (by rw[hW.2];exact hf)
  rw[hW.1]at this
  exact this
 | .ptr i o,e,u,h,hr=>by
  cases e <;> simp only[pf]at h <;> first|exact h.elim|exact .undef _|skip
  split at h <;> try exact h.elim
  rename_i hb ho
  have ho:=abl ho
  subst ho
  cases hr
  rw[←(fZ g (kT hb)).1]
  exact .ptr _ _ (nf hb)
 | .bl i s x o,e,u,h,hr=>by
  cases e <;> simp only[pf]at h <;> first|exact h.elim|exact .undef _|skip
  rename_i j s' y p
  split at h <;> try exact h.elim
  rename_i hb hs ho
  have ho:=abl ho
  have hs:=abl hs
  subst ho hs
  have e:y=x:=by funext u;cases u;exact h.symm
  subst e
  cases hr with|bl _ _ _ _ hi hL =>
  have nZ:=fZ g (kT hb)
  rw[←nZ.1]
  exact .bl _ _ _ _ (nf hb) (by rw[nZ.2.2];exact hL)
 | .dI t x o,e,u,h,hr=>by
  cases e <;> simp only[pf]at h <;> first|exact h.elim|exact .undef _|skip
  rename_i t' y p
  split at h <;> try exact h.elim
  rename_i ht _ ho
  have ho:=abl ho
  subst ho ht
  have e:y=x:=by funext u;cases u;exact h.symm
  subst e
  cases hr with|dI _ _ _ b ob u ha hr =>
  exact .dI t _ o b ob u ha (fun j y hy=>(hr j y hy).yS hy)
 | .cL cs o,e,u,h,hr=>by
  cases e <;> simp only[pf]at h <;> first|exact h.elim|exact .undef _|skip
  rename_i ds p
  split at h <;> try exact h.elim
  rename_i ho
  have ho:=abl ho
  subst ho
  cases hr with|cL _ _ b ob u ha hr =>
  have hl:=fv cs ds _ h (qH cs u hr)
  have hlen:ds.length=cs.length:=by simpa using hl.length
  refine .cL ds o b ob u (fun j y hy=>?_) (fun j y hy=>?_)
  ·have hj:j<cs.length:=by rw[←hlen];exact(abk.1 hy).1
   exact ha j _ (abj hj)
  ·have hj:j<cs.length:=by rw[←hlen];exact(abk.1 hy).1
   exact hl.at_ j y (u j) hy (by simp[hj])
 | .vec i s o n,e,u,h,hr=>by
  cases e <;> simp only[pf]at h <;> first|exact h.elim|exact .undef _|skip
  rename_i j s' p m
  split at h <;> try exact h.elim
  rename_i hb hs
  have hs:=abl hs
  subst hs
  have e1:p=o:=by funext u;cases u;exact h.1.symm
  have e2:m=n:=by funext u;cases u;exact h.2.symm
  subst e1 e2
  cases hr with|vec _ _ _ _ A c hi hL hn hs =>
  have nZ:=fZ g (kT hb)
  exact .vec _ _ _ _ A c (nf hb) (by rw[nZ.2.2];exact hL) (by rw[nZ.2.1];exact hn) (by rw[nZ.2.1,nZ.1];exact hs)
theorem fv {g:Gh} {π:List Nat}:∀ (az es:List AV) (us:List Value),sC π az es→RL g az us→RL (g.dO π) es us
 | [],es,us,h,hr=>by
  cases es <;> simp only[sC]at h
  cases us
  ·exact trivial
  ·exact hr.elim
 | a::r,es,us,h,hr=>by
  cases es <;> simp only[sC]at h
  cases us
  ·exact hr.elim
  ·exact⟨w8 a _ _ h.1 hr.1,fv r _ _ h.2 hr.2⟩
end
theorem yT {g:Gh} {π:List Nat} {env:Env} {tmps:Array Value} (hE:ER g env tmps):∀ (aj:Env),Cz π env aj→ER (g.dO π) aj tmps
 | [],_,t=>.undef _
 | (k,v)::r,h,t=>by
  simp only[look]
  split
  ·rename_i hb
   have:=abl hb
   subst this
   exact w8 _ _ _ h.1 (hE k)
  ·exact yT hE r h.2 t
theorem pI {π:List Nat} {E:List Chunk}:∀ (l:List Nat) (E':List Chunk),pG π E l E'→ah E'=l.length
 | [],[],_=>rfl
 | [],_::_,h=>h.elim
 | _::_,[],h=>h.elim
 | i::l,c::E',h=>by simp[ah,pI l E' h.2]
theorem qW {π:List Nat} {E:List Chunk}:∀ (l:List Nat) (E':List Chunk),pG π E l E'→∀ j,(∃ i,l[j]?=some i∧sf π (af E i) (af E' j))∨af E' j=.none
 | [],[],_,j=>.inr rfl
 | [],_::_,h,_=>h.elim
 | _::_,[],h,_=>h.elim
 | i::l,c::E',h,0=>.inl ⟨i,rfl,h.1⟩
 | i::l,c::E',h,j+1=>by simpa [af]using qW l E' h.2 j
def bI:List Nat→Bool
 | []=>true|i::r=>match r.any (Nat.beq i)with|true=>false|false=>bI r
theorem ng:∀ {π:List Nat},bI π=true→∀ j k i:Nat,π[j]?=some i→π[k]?=some i→j=k
 | [],_,j,k,i,h,_=>by simp at h
 | a::r,h,j,k,i,h1,h2=>by
  simp only[bI]at h
  split at h
  ·cases h
  ·rename_i ha
   have hn:∀ m:Nat,r[m]?≠some a:=by
    intro m hm
    have:r.any (Nat.beq a)=true:=List.any_eq_true.2 ⟨a,abu.2 ⟨m,hm⟩,Nat.beq_refl a⟩
    rw[this]at ha;cases ha
   cases j <;> cases k
   ·rfl
   ·simp at h1 h2;subst h1;exact(hn _ h2).elim
   ·simp at h1 h2;subst h2;exact(hn _ h1).elim
   ·rename_i j k
    have:=ng h j k i (by simpa using h1) (by simpa using h2)
    omega
theorem gA:∀ E,(bB E).length=ah E
 | []=>rfl
 | c::r=>by simp[bB,ah,gA r]
theorem qX:∀ (E:List Chunk) (i:Nat),dj (af E i)=true→(bB E)[i]?=some true
 | [],i,h=>by simp[af,dj]at h
 | c::r,0,h=>by simp only[af]at h;simp[bB,h]
 | c::r,i+1,h=>by simp only[af]at h;simpa [bB]using qX r i h
def gP:List Bool→Nat→List Nat→Bool
 | [],_,_=>true
 | b::M,k,i::r=>(match b with|true=>(match Nat.beq i k with|true=>gP M (k+1) r|false=>false)|false=>gP M (k+1) r)
 | _::_,_,[]=>false
theorem yU:∀ {M:List Bool} {k:Nat} {π:List Nat},gP M k π=true→M.length≤π.length∧∀ j,M[j]?=some true→π[j]?=some (k+j)
 | [],k,π,_=>⟨abw _,fun j hj=>by simp at hj⟩
 | b::M,k,[],h=>by simp[gP]at h
 | b::M,k,i::r,h=>by
  have key:gP M (k+1) r=true∧(b=true→i=k):=by
   simp only[gP]at h
   cases b with
   | false=>exact⟨h,fun e=>by cases e⟩
   | true =>
    simp only[]at h
    split at h
    ·rename_i hi;exact⟨h,fun _=>abl hi⟩
    ·cases h
  obtain⟨h1,h2⟩:=yU key.1
  refine⟨by simp;omega,fun j hj=>?_⟩
  cases j with
  | zero=>simp at hj;simp[key.2 hj]
  | succ j=>have:=h2 j (by simpa using hj);simp[this];omega
theorem CA {g:Gh} {π:List Nat} {w:World} {i j:Nat} (hπ:π[j]?=some i):∀ (c d:Chunk),sf π c d→c.sat g i w→d.sat (g.dO π) j w:=by
 intro c d h hs
 have nZ:=fZ g hπ
 cases d with
 | none=>trivial
 | cells T' ds =>
  cases c <;> simp only[sf]at h <;> try exact h.elim
  split at h <;> try exact h.elim
  rename_i T cs hb
  have hb:=abl hb
  subst hb
  obtain⟨vs,h1,h2⟩:=hs
  exact⟨vs,by rw[nZ.1];exact h1,fv _ _ _ h h2⟩
 | au T' t' ys =>
  cases c <;> simp only[sf]at h <;> try exact h.elim
  rename_i T t xs
  split at h <;> try exact h.elim
  rename_i ht hb _
  have hb:=abl hb
  subst hb ht
  have e:ys=xs:=by funext u;cases u;exact h.symm
  subst e
  obtain⟨h1,h2,h3⟩:=hs
  refine⟨by rw[nZ.2.2];exact h1,by rw[nZ.2.1];exact h2,fun cap hc=>?_⟩
  rw[nZ.2.1]at hc
  obtain⟨vs,h4,h5,h6,h7⟩:=h3 cap hc
  exact⟨vs,by rw[nZ.1];exact h4,h5,h6,fun k x hx=>RL.iL (g:=g) (g':=g.dO π) (fun _ _ h=>h) (h7 k x hx)⟩
 | count m =>
  cases c <;> simp only[sf]at h <;> try exact h.elim
  exact h.symm.trans hs
 | row T' t' ys =>
  cases c <;> simp only[sf]at h <;> try exact h.elim
  all_goals
   rename_i T t xs
   split at h <;> try exact h.elim
   rename_i ht hb _
   have hb:=abl hb
   subst hb ht
   have e:ys=xs:=by funext u;cases u;exact h.symm
   subst e
   obtain⟨h1,h2,h3⟩:=hs
   refine⟨by rw[nZ.2.2];exact h1,by rw[nZ.2.1];exact h2,fun cap hc=>?_⟩
   rw[nZ.2.1]at hc
   obtain⟨vs,h4,h5,h6,h7⟩:=h3 cap hc
   exact⟨vs,by rw[nZ.1];exact h4,h5,h6,fun k x hx=>RL.iL (g:=g) (g':=g.dO π) (fun _ _ h=>h) (h7 k x hx)⟩
 | jC k' UU ds =>
  cases c <;> simp only[sf]at h <;> try exact h.elim
  split at h <;> try exact h.elim
  rename_i k ks us _ _ hk PX _ _
  subst hk PX
  obtain⟨es,cl,h1,h2,h3⟩:=hs
  exact⟨es,cl,by rw[nZ.1];exact h1,h2,fv _ _ _ h h3⟩
 | heap h' =>
  cases c <;> simp only[sf]at h <;> try exact h.elim
  rename_i hp
  obtain⟨h1,h2,h3⟩:=hs
  have hW:=pH g hπ
  have hj:j<π.length:=(abk.1 hπ).1
  refine⟨by rw[hW.2,h.1];exact h1,by rw[hW.1,hW.2];exact h2,fun k hk=>?_⟩
  rw[hW.2]at hk
  obtain⟨ob,h4,h5⟩:=h3 k hk
  exact⟨ob,by rw[hW.1];exact h4,HO.l8 (h.2 k (by rw[h.1];omega)) (HO.l7 (HV.sx (g:=g) (g':=g.dO π) (i:=i) (i':=j) (fun _ _ _ h=>h) (fun _=>hj) (fun _ k _=>by rw[hW.1]) (fun _=>by rw[hW.2];exact abr _)) h5)⟩
 | jy T' ds =>
  cases c <;> simp only[sf]at h <;> try exact h.elim
  split at h <;> try exact h.elim
  rename_i T cs hb
  have hb:=abl hb
  subst hb
  obtain⟨vs,h1,h2⟩:=hs
  exact⟨vs,by rw[nZ.1];exact h1,fv _ _ _ h h2⟩
 | bg q' =>
  cases c <;> simp only[sf]at h <;> try exact h.elim
  subst h
  obtain⟨h1,h2,h3⟩:=hs
  have hW:=pH g hπ
  exact⟨by rw[hW.2];exact h1,fun b k hk=>h2 b k (by rw[hW.1]at hk;exact hk),by rw[hW.1,nZ.1];exact h3⟩
 | jD x' a' b' l' =>
  cases c <;> simp only[sf]at h <;> try exact h.elim
  rename_i x a b l
  obtain⟨h1,rfl,rfl,h4⟩:=h
  obtain⟨r,h5,h6⟩:=hs
  exact⟨r,w8 _ _ _ h1 h5,by rw[nZ.1,←h4];exact h6⟩
theorem nh {g:Gh} {π:List Nat} {i j b:Nat} (hπ:π[j]?=some i):∀ (c d:Chunk),sf π c d→d.own (g.dO π) j b→c.own g i b:=by
 intro c d h hb
 have nZ:=fZ g hπ
 cases d with
 | none=>cases hb
 | cells T' ds =>
  cases c <;> simp only[sf]at h <;> try exact h.elim
  simp only[Chunk.own]at hb ⊢
  rw[nZ.1]at hb;exact hb
 | au T' t' ys =>
  cases c <;> simp only[sf]at h <;> try exact h.elim
  simp only[Chunk.own]at hb ⊢
  rw[nZ.1,nZ.2.1]at hb;exact hb
 | count m=>cases hb
 | row T' t' ys =>
  cases c <;> simp only[sf]at h <;> try exact h.elim
  ·simp only[Chunk.own]at hb ⊢
   rw[nZ.1,nZ.2.1]at hb;exact hb
  ·simp only[Chunk.own]at hb ⊢
   rw[nZ.1,nZ.2.1]at hb;exact hb
 | jC k' UU ds =>
  cases c <;> simp only[sf]at h <;> try exact h.elim
  simp only[Chunk.own]at hb ⊢
  rw[nZ.1]at hb;exact hb
 | heap h' =>
  cases c <;> simp only[sf]at h <;> try exact h.elim
  have hW:=pH g hπ
  simp only[Chunk.own]at hb ⊢
  rw[hW.1,hW.2]at hb;exact hb
 | jD x' a' b' l' =>
  cases c <;> simp only[sf]at h <;> try exact h.elim
  simp only[Chunk.own]at hb ⊢
  rw[nZ.1]at hb;exact hb
 | jy T' ds =>
  cases c <;> simp only[sf]at h <;> try exact h.elim
  simp only[Chunk.own]at hb ⊢
  rw[nZ.1]at hb;exact hb
 | bg q' =>
  cases c <;> simp only[sf]at h <;> try exact h.elim
  have hW:=pH g hπ
  simp only[Chunk.own]at hb ⊢
  rw[hW.1]at hb;exact hb
theorem fg.dO {g:Gh} {π:List Nat} {E E':List Chunk} {w:World} (h:fg g E w) (hE:pG π E π E') (hn:bI π=true):fg (g.dO π) E' w:=by
 have qQ:=qW π E' hE
 refine⟨pI π E' hE,h.dA,fun j=>?_,fun j k b hj hk=>?_,fun j b hj=>?_⟩
 ·rcases qQ j with⟨i,hi,hc⟩|hc
  ·exact CA hi _ _ hc (h.sat i)
  ·rw[hc];trivial
 ·obtain⟨i,hi,hc⟩:=(qQ j).resolve_right (fun hc=>by rw[hc]at hj;cases hj)
  obtain⟨i',eH,D2⟩:=(qQ k).resolve_right (fun hc=>by rw[hc]at hk;cases hk)
  have h1:=nh hi _ _ hc hj
  have h2:=nh eH _ _ D2 hk
  have:=h.lL i i' b h1 h2
  subst this
  exact ng hn j k i hi eH
 ·obtain⟨i,hi,hc⟩:=(qQ j).resolve_right (fun hc=>by rw[hc]at hj;cases hj)
  exact h.dQ i b (nh hi _ _ hc hj)
theorem Inv.dO {B:bU} {g:Gh} {π:List Nat} {env aj:Env} {E E':List Chunk} {tmps:Array Value} {w:World} (h:Inv B g env E tmps w) (J6:Cz π env aj) (hE:pG π E π E') (hn:bI π=true) (hM:gP (bB B.E) 0 π=true) :
  Inv B (g.dO π) aj E' tmps w:=by
 have qQ:=qW π E' hE
 obtain⟨Xm,TP⟩:=yU hM
 rw[gA]at Xm
 have tA:∀ i,dj (af B.E i)=true→π[i]?=some i:=fun i hi=>by
  have:=TP i (qX _ _ hi)
  simpa using this
 refine⟨yT h.er aj J6,h.aZ.dO hE hn,⟨h.ext.os,h.ext.tape,h.ext.output,h.ext.size,h.ext.cE,h.ext.dA,h.ext.fS,fun j b hj=>?_,Xm,fun i hi=>?_,h.ext.kk,Gi (fun i T' t xs hi hv=>?_) (fun i T' cs hi hv=>?_),fun i k hi hk=>by rw[(pH g (tA i hi)).1];exact h.ext.r9 i k hi hk,fun i hi=>by rw[(pH g (tA i hi)).2];exact h.ext.qN i hi⟩⟩
 ·obtain⟨i,hi,hc⟩:=(qQ j).resolve_right (fun hc=>by rw[hc]at hj;cases hj)
  exact h.ext.own i b (nh hi _ _ hc hj)
 ·rw[(fZ g (tA i hi)).1,(fZ g (tA i hi)).2.1,(fZ g (tA i hi)).2.2];exact h.ext.ids i hi
 ·obtain⟨k,hk,hc⟩:=(qQ i).resolve_right (fun hc=>by rw[hc]at hv;cases hv)
  have:=tA i hi
  rw[this]at hk;cases hk
  rw[hv]at hc
  cases hg:af E i with
  | none=>rw[hg]at hc;exact hc.elim
  | cells _ _=>rw[hg]at hc;exact hc.elim
  | count _=>rw[hg]at hc;exact hc.elim
  | jC _ _ _=>rw[hg]at hc;exact hc.elim
  | row _ _ _=>rw[hg]at hc;exact hc.elim
  | heap _=>rw[hg]at hc;exact hc.elim
  | jD _ _ _ _=>rw[hg]at hc;exact hc.elim
  | jy _ _=>rw[hg]at hc;exact hc.elim
  | bg _=>rw[hg]at hc;exact hc.elim
  | au _ _ _=>exact jE (h.ext.nJ i hi) hg
 ·obtain⟨k,hk,hc⟩:=(qQ i).resolve_right (fun hc=>by rw[hc]at hv;cases hv)
  have:=tA i hi
  rw[this]at hk;cases hk
  rw[hv]at hc
  cases hg:af E i with
  | none=>rw[hg]at hc;exact hc.elim
  | cells _ _=>rw[hg]at hc;exact hc.elim
  | count _=>rw[hg]at hc;exact hc.elim
  | jC _ _ _=>rw[hg]at hc;exact hc.elim
  | row _ _ _=>rw[hg]at hc;exact hc.elim
  | heap _=>rw[hg]at hc;exact hc.elim
  | jD _ _ _ _=>rw[hg]at hc;exact hc.elim
  | au _ _ _=>rw[hg]at hc;exact hc.elim
  | bg _=>rw[hg]at hc;exact hc.elim
  | jy _ _=>exact sY (h.ext.nJ i hi) hg
theorem Chunk.tB {g g':Gh} {i j:Nat} {w w':World} {c:Chunk} (f:AV→AV) (hA:∀ A k u,At g A k u→At g' A k u) (hf:∀ v u,isRef v=true→R g v u→R g' (f v) u)
  (hB:g'.B j=g.B i) (hV:g'.V j=g.V i) (hL:g'.L j=g.L i) (hk:g'.k=g.k) (hW:g'.W j=g.W i) (hM:g'.M j=g.M i) (kJ:i<g.n→j<g'.n) (hw:∀ b,c.own g i b→w'.heap[b]?=w.heap[b]?) (h:c.sat g i w):(dv f c).sat g' j w':=by
 cases c with
 | none=>trivial
 | count k=>exact h.trans hk.symm
 | row T t xs =>
  obtain⟨h1,h2,h3⟩:=h
  refine⟨by rw[hL];exact h1,by rw[hV];exact h2,fun cap cX=>?_⟩
  rw[hV]at cX
  obtain⟨vs,h4,h5,h6,h7⟩:=h3 cap cX
  exact⟨vs,by rw[hB,hw _ (by simp[Chunk.own,cX])];exact h4,h5,h6,fun k x hx=>(h7 k x hx).kQ hA⟩
 | jC k ks us =>
  obtain⟨es,cl,h1,h2,h3⟩:=h
  exact⟨es,cl,by rw[hB,hw _ rfl];exact h1,h2,h3.mapA f hA hf⟩
 | cells T cs =>
  obtain⟨vs,h1,h2⟩:=h
  exact⟨vs,by rw[hB,hw _ rfl];exact h1,h2.mapA f hA hf⟩
 | au T t xs =>
  obtain⟨h1,h2,h3⟩:=h
  refine⟨by rw[hL];exact h1,by rw[hV];exact h2,fun cap cX=>?_⟩
  rw[hV]at cX
  obtain⟨vs,h4,h5,h6,h7⟩:=h3 cap cX
  exact⟨vs,by rw[hB,hw _ (by simp[Chunk.own,cX])];exact h4,h5,h6,fun k x hx=>(h7 k x hx).kQ hA⟩
 | heap hp =>
  obtain⟨h1,h2,h3⟩:=h
  refine⟨by rw[hM];exact h1,by rw[hM,hW];exact h2,fun k hk=>?_⟩
  rw[hM]at hk
  obtain⟨ob,h4,h5⟩:=h3 k hk
  exact⟨ob,by rw[hW,hw _ ⟨k,hk,rfl⟩];exact h4,HO.l7 (HV.sx hA kJ (fun _ k _=>by rw[hW]) (fun _=>by rw[hM];exact abr _)) h5⟩
 | jy T cs =>
  obtain⟨vs,h1,h2⟩:=h
  exact⟨vs,by rw[hB,hw _ rfl];exact h1,h2.mapA f hA hf⟩
 | bg q =>
  obtain⟨h1,h2,h3⟩:=h
  refine⟨by rw[hM];exact h1,fun b k hk=>?_,?_⟩
  ·rw[hW]at hk;rw[hw b ⟨k,hk⟩];exact h2 b k hk
  ·rw[hB,hW]
   refine q.mono _ _ _ _ _ _ (Nh hA) (fun b hb=>hw b hb) h3
 | jD x a b l =>
  obtain⟨r,h1,h2⟩:=h
  exact⟨r,h1.mapA f hA hf,by rw[hB,hw _ rfl];exact h2⟩
theorem Chunk.pJ {g g':Gh} {i j:Nat} {w w':World} {c:Chunk} (f:AV→AV) (hΦ:∀ b o,g.Φ b=some o→g'.Φ b=some o) (hf:∀ v u,isRef v=true→R g v u→R g' (f v) u)
  (hB:g'.B j=g.B i) (hV:g'.V j=g.V i) (hL:g'.L j=g.L i) (hk:g'.k=g.k) (hW:g'.W j=g.W i) (hM:g'.M j=g.M i) (kJ:i<g.n→j<g'.n) (hw:∀ b,c.own g i b→w'.heap[b]?=w.heap[b]?) (h:c.sat g i w):(dv f c).sat g' j w':=Chunk.tB f (fun _ _ _ h=>h.mono hΦ) hf hB hV hL hk hW hM kJ hw h
theorem jb (f:AV→AV) (g:Gh) (i:Nat) (c:Chunk) (b:Nat):(dv f c).own g i b=c.own g i b:=by cases c <;> rfl
end Go.Proofs.YthnefnlhcijekaaGreat.Fw
namespace Go.Proofs.YthnefnlhcijekaaGreat.Fw
open Go
structure Im (q p:Prop):Prop where
 h:q→p
theorem Im.id {p:Prop}:Im p p:=⟨fun h=>h⟩
theorem Im.done {p:Prop} (h:p):Im True p:=⟨fun _=>h⟩
theorem Im.and {a b a' b':Prop} (h1:Im a' a) (h2:Im b' b):Im (a'∧b') (a∧b):=⟨fun h=>⟨h1.h h.1,h2.h h.2⟩⟩
theorem Im.GR {a b q:Prop} (h1:a) (h2:Im q b):Im q (a∧b):=⟨fun h=>⟨h1,h2.h h⟩⟩
theorem Im.imp {c c' x x':Prop} (h1:c→c') (h2:Im x' x):Im (c'→x') (c→x):=⟨fun h hc=>h2.h (h (h1 hc))⟩
theorem Im.comp {p x q:Prop} (h1:x→p) (h2:Im q x):Im q p:=⟨fun h=>h1 (h2.h h)⟩
theorem tv:True:=trivial
theorem pr {a b:Prop} (left:a) (right:b):a∧b:=⟨left,right⟩
theorem Wa {p:Prop} (q:Prop) (h:q) (e:Im q p:=by
  (repeat' ((conv=>arg 2;whnf);first
   | (apply Im.GR;exact⟨by kernel_rfl⟩)
   | apply Im.and
   | (apply Im.done;exact⟨by kernel_rfl⟩)
   | (apply Im.comp;exact vK.mk)
   | (apply Im.comp;exact fun h=>aC.step hm rfl h)
   | (apply Im.done;exact trivial)
   | (apply Im.done;exact rfl)
   | (apply Im.done;intro hh;first|(simp only[bs]at hh;done)|((try simp only[bs]at hh);exact absurd hh (by decide)))
   | (apply Im.imp;(intro hh;simp only[bs]at hh;exact hh))
   | (apply Im.imp;exact fun hh=>hh)
   | fail))
  (all_goals ((conv=>arg 2;whnf);exact Im.id))):p:=e.h h
theorem Wb {p:Prop} (q:Prop) (h:q) (e:Im q p:=by
  (repeat' ((conv=>arg 2;whnf);first
   | (apply Im.GR;exact⟨by kernel_rfl⟩)
   | apply Im.and
   | (apply Im.done;exact⟨by kernel_rfl⟩)
   | (apply Im.comp;exact vK.mk)
   | (apply Im.comp;exact fun h=>aC.step hm rfl h)
   | (apply Im.done;exact trivial)
   | (apply Im.done;exact rfl)
   | (apply Im.done;intro hh;simp only[bs]at hh;done)
   | (apply Im.imp;(intro hh;simp only[bs]at hh;exact hh))
   | (apply Im.imp;exact fun hh=>hh)
   | fail))
  (all_goals ((conv=>arg 2;whnf);exact Im.id))):p:=e.h h
theorem Wc {p:Prop} (q:Prop) (h:q) (e:Im q p:=by
  (repeat' ((conv=>arg 2;whnf);first
   | (apply Im.GR;exact⟨by kernel_rfl⟩)
   | apply Im.and
   | (apply Im.done;exact⟨by kernel_rfl⟩)
   | (apply Im.comp;exact vK.mk)
   | (apply Im.done;exact trivial)
   | (apply Im.done;exact rfl)
   | (apply Im.done;intro hh;simp only[bs]at hh;done)
   | (apply Im.imp;(intro hh;simp only[bs]at hh;exact hh))
   | (apply Im.imp;exact fun hh=>hh)
   | fail))
  (all_goals ((conv=>arg 2;whnf);exact Im.id))):p:=e.h h
theorem Wp {p:Prop} (q:Prop) (h:q) (e:Im q p:=by
  (repeat' ((conv=>arg 2;whnf);first
   | (apply Im.GR;exact⟨by kernel_rfl⟩)
   | apply Im.and
   | (apply Im.done;exact⟨by kernel_rfl⟩)
   | (apply Im.comp;exact vK.mk)
   | (apply Im.comp;exact fun h=>aC.step hm rfl h)
   | (apply Im.done;exact trivial)
   | (apply Im.done;exact rfl)
   | (apply Im.done;intro hh;first|(simp only[bs]at hh;done)|((try simp only[bs]at hh);exact absurd hh (by decide)))
   | (apply Im.imp;(intro hh;simp only[bs]at hh;exact hh))
   | (apply Im.imp;exact fun hh=>hh)
   | (apply Im.done;exact⟨by decide⟩)
   | fail))
  (all_goals ((conv=>arg 2;whnf);exact Im.id))):p:=e.h h
theorem Wq {p:Prop} (q:Prop) (h:q) (e:Im q p:=by
  (repeat' ((conv=>arg 2;whnf);first
   | (apply Im.GR;exact⟨by kernel_rfl⟩)
   | apply Im.and
   | (apply Im.done;exact⟨by kernel_rfl⟩)
   | (apply Im.comp;exact vK.mk)
   | (apply Im.done;exact trivial)
   | (apply Im.done;exact rfl)
   | (apply Im.done;intro hh;simp only[bs]at hh;done)
   | (apply Im.imp;(intro hh;simp only[bs]at hh;exact hh))
   | (apply Im.imp;exact fun hh=>hh)
   | (apply Im.done;exact⟨by decide⟩)
   | fail))
  (all_goals ((conv=>arg 2;whnf);exact Im.id))):p:=e.h h
theorem Va {p:Prop} (q:Prop) (h:q) (e:Im q p:=by
  (repeat' ((conv=>arg 2;whnf);first
   | (apply Im.done;exact rfl)
   | (apply Im.done;exact trivial)
   | (apply Im.done;exact Hp.aJ _)
   | apply Im.and
   | (apply Im.done;exact abx _)
   | fail))
  (all_goals exact Im.id)):p:=e.h h
theorem Vb {p:Prop} (q:Prop) (h:q) (e:Im q p:=by
  (repeat' ((conv=>arg 2;whnf);first
   | (apply Im.done;exact rfl)
   | (apply Im.done;exact trivial)
   | (apply Im.done;exact Hp.aJ _)
   | apply Im.and
   | (apply Im.done;exact abx _)
   | fail))
  (all_goals ((conv=>arg 2;whnf);(try (conv=>arg 2;simp only[]));exact Im.id))):p:=e.h h
theorem Vc {p q:Prop} (e:Im q p:=by
  (repeat' ((conv=>arg 2;whnf);first
   | (apply Im.done;exact rfl)
   | (apply Im.done;exact trivial)
   | (apply Im.done;exact Hp.aJ _)
   | apply Im.and
   | (apply Im.done;exact abx _)
   | fail))
  (all_goals ((conv=>arg 2;whnf);(try (conv=>arg 2;simp only[]));exact Im.id))) (h:q:=by(repeat' first|exact trivial|apply And.intro)):p:=e.h h
end Go.Proofs.YthnefnlhcijekaaGreat.Fw
namespace Go.Proofs.YthnefnlhcijekaaGreat.Fw
open Go Go.RowKit
structure Le (M:List Bool) (π:List Nat) (env:Env) (E:List Chunk) (aj:Env) (E':List Chunk):Prop where
 nd:bI π=true
 head:gP M 0 π=true
 e:pG π E π E'
 v:Cz π env aj
theorem Iv.dO {S:Sc} {M:List Bool} {g:Gh} {π:List Nat} {env aj:Env} {E E':List Chunk} {a:Act} {w:World} (hM:∀ B,S.at_ B→bB B.E=M) (h:Iv S g env E a w) (hle:Le M π env E aj E'):Iv S (g.dO π) aj E' a w:=by
 obtain⟨B,hB,h,hd⟩:=h
 exact⟨B,hB,h.dO hle.v hle.e hle.nd (by rw[hM B hB];exact hle.head),hd⟩
theorem Ext.trans {B B1:bU} {g:Gh} {E:List Chunk} {w:World} (h:Ext B B1.g B1.E B1.w) (h':Ext B1 g E w) (hs:∀ i,dj (af B.E i)=true→dj (af B1.E i)=true) (hl:ah B.E≤ah B1.E):Ext B g E w:=by
 refine⟨h'.os.trans h.os,h'.tape.trans h.tape,h'.output.trans h.output,abW h.size h'.size,fun b h1 h2=>?_,fun b o hb=>h'.dA b o (h.dA b o hb),fun b o hb=>?_,fun i b hi=>?_,abW hl h'.n,fun i hi=>?_,h'.kk.trans h.kk,fun i hi=>?_,fun i k hi hk=>?_,fun i hi=>?_⟩
 ·rw[h'.cE b (abB h1 h.size) (fun⟨i,hi⟩=>by
   rcases h.own i b hi with h3|h3
   ·omega
   ·exact h2 h3)]
  exact h.cE b h1 h2
 ·rcases h'.fS b o hb with h3|h3|⟨i,hi⟩
  ·exact h.fS b o h3
  ·exact .inr (.inl (abW h.size h3))
  ·exact .inr (h.own i b hi)
 ·rcases h'.own i b hi with h3|⟨j,hj⟩
  ·exact .inl (abW h.size h3)
  ·exact h.own j b hj
 ·have h1:=h'.ids i (hs i hi)
  have h2:=h.ids i hi
  exact⟨h1.1.trans h2.1,h1.2.1.trans h2.2.1,h1.2.2.trans h2.2.2⟩
 ·exact h'.nJ i (hs i hi)
 ·rw[h'.r9 i k (hs i hi) (abB hk (h.qN i hi))];exact h.r9 i k hi hk
 ·exact abW (h.qN i hi) (h'.qN i (hs i hi))
def Gh.drop (g:Gh) (D:Nat):Gh:={ g with Φ:=fun b=>if b=D then none else g.Φ b }
theorem At.drop {g:Gh} {D:Nat} (hp:g.Φ D=some (.deferred (some []))) {A:Option Addr} {k:Nat} {u:Value} (h:At g A k u):At (g.drop D) A k u:=by
 obtain⟨b,off,cells,T,fr,h1,h2,h3⟩:=h
 refine⟨b,off,cells,T,fr,h1,?_,h3⟩
 show(if b=D then none else g.Φ b)=_
 rw[if_neg (fun e=>by subst e;rw[h2]at hp;cases hp)];exact h2
theorem R.drop {g:Gh} {D:Nat} (hp:g.Φ D=some (.deferred (some []))) {v:AV} {u:Value} (h:R g v u):R (g.drop D) v u:=by
 have:=R.mapA (g':=g.drop D) id (fun _ _ _ h=>h.drop hp) (fun v u hv h=>?_) h
 ·rwa [iu]at this
 ·cases h <;> first|(cases hv;done)|skip
  ·exact .ptr (g:=g.drop D) _ _ ‹_›
  ·exact .bl (g:=g.drop D) _ _ _ _ ‹_› ‹_›
  ·rename_i hi hL hn hs
   exact .vec (g:=g.drop D) _ _ _ _ _ _ hi hL hn hs
  ·exact .mp (g:=g.drop D) _ ‹_›
  ·rename_i hi hf
   exact .hp (g:=g.drop D) _ _ hi hf
  ·rename_i hi hf
   exact .hm (g:=g.drop D) _ _ hi hf
theorem w9 (c:Chunk):dv id c=c:=by cases c <;> simp[dv,kP,iu]
theorem Inv.NH {B:bU} {g:Gh} {env:Env} {E:List Chunk} {tmps:Array Value} {w:World} (h:Inv B g env E tmps w) {D:Nat} (hD:B.w.heap.size≤D) (hp:g.Φ D=some (.deferred (some []))) (hB:∀ b o,B.g.Φ b=some o→b<B.w.heap.size) :
  Inv B (g.drop D) env E tmps (w.putObj D (.deferred none)):=by
 have iX:∀ b,b≠D→(w.putObj D (.deferred none)).heap[b]?=w.heap[b]?:=fun b hb=>World.putObj_heap_other hb
 have hblk:∀ (c:Chunk) i b,c.own (g.drop D) i b=c.own g i b:=fun c i b=>by cases c <;> rfl
 have bE:∀ i b,(af E i).own g i b→b≠D:=fun i b hb e=>by subst e;rw[h.aZ.dQ i b hb]at hp;cases hp
 have gy:∀ i,(af E i).sat (g.drop D) i (w.putObj D (.deferred none)):=fun i=>by
  have hf:∀ v u,isRef v=true→R g v u→R (g.drop D) (id v) u:=fun v u _ hr=>hr.drop hp
  have:=Chunk.tB (g:=g) (g':=g.drop D) (i:=i) (j:=i) (w':=w.putObj D (.deferred none)) id (fun _ _ _ h=>h.drop hp) hf rfl rfl rfl rfl rfl rfl (fun h=>h) (fun b hb=>iX b (bE i b hb)) (h.aZ.sat i)
  rwa [w9]at this
 refine⟨fun t=>(h.er t).drop hp,⟨h.aZ.len,fun b o hb=>?_,gy,fun i j b hi hj=>?_,fun i b hi=>?_⟩,⟨h.ext.os,h.ext.tape,⟨h.ext.output.o,h.ext.output.d⟩,by rw[World.putObj_size];exact h.ext.size,fun b h1 h2=>?_,fun b o hb=>?_,fun b o hb=>?_,fun i b hi=>?_,h.ext.n,h.ext.ids,h.ext.kk,h.ext.nJ,h.ext.r9,h.ext.qN⟩⟩
 ·have hb:(if b=D then none else g.Φ b)=some o:=hb
  split at hb
  ·cases hb
  ·rw[iX b ‹_›];exact h.aZ.dA b o hb
 ·rw[hblk]at hi hj;exact h.aZ.lL i j b hi hj
 ·rw[hblk]at hi
  show(if b=D then none else g.Φ b)=none
  split
  ·rfl
  ·exact h.aZ.dQ i b hi
 ·rw[iX b (by omega)];exact h.ext.cE b h1 h2
 ·have:=hB b o hb
  show(if b=D then none else g.Φ b)=some o
  rw[if_neg (by omega)];exact h.ext.dA b o hb
 ·have hb:(if b=D then none else g.Φ b)=some o:=hb
  split at hb
  ·cases hb
  ·exact h.ext.fS b o hb
 ·rw[hblk]at hi;exact h.ext.own i b hi
theorem CB {P:Program} {B:bU} {fn:Func} {env:Env} {E:List Chunk} {tmps:Array Value} {Rr:Ending→World→Prop} (hB:∀ b o,B.g.Φ b=some o→b<B.w.heap.size)
  (hR:∀ g w,Inv B g env E tmps w→∃ v,(results fn tmps).run P w=.ok v w∧Rr (.returned v) w):∀ (Ds:List Nat) (g:Gh) (w:World),Inv B g env E tmps w→Ds.Nodup→(∀ D∈Ds,B.w.heap.size≤D∧g.Φ D=some (.deferred (some []))) →
  LeavesInM (Fr none) 0 P fn tmps Rr (Ds.map (fun D=>{ target:=.collected D,args:=#[] })) .returning w
 | [],g,w,h,_,_=>hR g w h
 | D::Ds,g,w,h,hn,hD=>by
  obtain⟨h1,h2⟩:=hD D (abq ..)
  have rH:=aci.1 hn
  refine⟨by simp,.inl ⟨D,_,rfl,run_takeDeferred (h.aZ.dA D _ h2),?_⟩⟩
  refine CB hB hR Ds _ _ (h.NH h1 h2 hB) rH.2 (fun D' PY=>?_)
  obtain⟨h3,h4⟩:=hD D' (abn _ PY)
  refine⟨h3,?_⟩
  show(if D'=D then none else g.Φ D')=_
  rw[if_neg (fun e:D'=D=>rH.1 (by rw[←e];exact PY))];exact h4
theorem sh {F:Fence} {m:Nat} {P:Program} {Q:Exit→Act→World→Prop} {a:Act} {w:World} {c:Code} (I:Nat→Act→World→Prop) (n₀:Nat) (h₀:I n₀ a w)
  (round:∀ n a w,I n a w→c.wpIn F m P (Exit.then (fun a' w'=>∃ n',n'<n∧I n' a' w') Q) a w):(Code.loop c).wpIn F m P Q a w:=by
 refine wpIn_loop (fun a w=>∃ n,I n a w) (fun a w=>leastOf (fun n=>I n a w)) ⟨n₀,h₀⟩ ?_
 intro a w hI
 refine adD (round _ a w (leastOf_spec hI).1) ?_
 intro e a' w' hq
 cases e with
 | normal =>
  obtain⟨n',bm,NI⟩:=hq
  exact show(∃ n,I n a' w')∧leastOf (fun n=>I n a' w')<leastOf (fun n=>I n a w)from⟨⟨n',NI⟩,adX ((leastOf_spec ⟨n',NI⟩).2 n' NI) bm⟩
 | exit id=>exact hq
 | goto l=>exact hq
 | ret=>exact hq
 | panic ch=>exact hq
 | outgrown=>exact hq
theorem aH.intro {P:Program} {N:Nat} {M:List Bool} {S:Sc} {body:Code} {env:Env} {E:List Chunk} {K:Ex→Env→List Chunk→Prop} (hm:P.follows .mixedOrders=true) {X:Type} (inv:X→Prop) (μ:X→Nat) (st:X→Env) (ch:X→List Chunk)
  (x0:X) (π0:List Nat) (hle:Le M π0 env E (st x0) (ch x0)) (h0:inv x0)
  (round:∀ x,inv x→jU (st x) fun env=>iM (ch x) fun E=>fH P N S M body env E fun e aj E'=>match e with
   | .normal=>∃ x',∃ π,Le M π aj E' (st x') (ch x')∧inv x'∧μ x'<μ x
   | .ret=>K .ret aj E'|.exit n=>K (.exit n) aj E'):aH P N S M body env E K where
 h:=by
  intro r g a w hr hM h hN
  refine sh (fun n a w=>∃ x g,inv x∧μ x=n∧Iv S g (st x) (ch x) a w∧a.tmps.size=N) (μ x0) ⟨x0,g.dO π0,h0,rfl,h.dO hM hle,hN⟩ ?_
  rintro n a w ⟨x,g,hi,rfl,h,hN⟩
  have TQ:=round x hi
  rw[dn,bf]at TQ
  refine adD (ja hm hM body r hr h hN TQ) ?_
  rintro e a' w' ⟨e',g',aj,E',rfl,h1,h3,h4⟩
  cases e' with
  | normal =>
   obtain⟨x',π,xa,eH,bm⟩:=h4
   exact⟨μ x',bm,x',g'.dO π,eH,rfl,h1.dO hM xa,h3⟩
  | ret=>exact⟨.ret,g',aj,E',rfl,h1,h3,h4⟩
  | exit n=>exact⟨.exit n,g',aj,E',rfl,h1,h3,h4⟩
structure aa (P:Program) (f:FuncId) (args:List AV) (E:List Chunk) {Y:Type} (Q:Y→Prop) (res:Y→AV) (out:Y→List Chunk):Prop where
 aA:fY P f
 h:∀ (g:Gh) (w:World) (aD:List Value),fg g E w→RL g args aD →
  Calls P f aD.toArray w (fun e w'=>∃ y c g',Q y∧e=.returned c∧R g' (res y) c∧fg g' (out y) w'∧Ext ⟨g,E,w⟩ g' (out y) w')
structure ae (M:List Bool) (env:Env) (E:List Chunk) (l:List AV) {Y:Type} (Q:Y→Prop) (res:Y→List AV) (out:Y→List Chunk):Prop where
 h:∀ (B:bU) (g:Gh) (tmps:Array Value) (w:World) (cs:List Value),bB B.E=M→Inv B g env E tmps w→RL g l cs →
  ∃ y g',Q y∧RL g' (res y) cs∧fg g' (out y) w∧Ext B g' (out y) w
theorem ae.intro {M:List Bool} {env:Env} {E:List Chunk} {l:List AV} {Y:Type} {Q:Y→Prop} {res:Y→List AV} {out:Y→List Chunk} (y:Y) (π:List Nat) (hn:bI π=true) (hh:gP M 0 π=true) (hE:pG π E π (out y)) (hl:sC π l (res y)) (hq:Q y) :
  ae M env E l Q res out where
 h:=by
  intro B g tmps w cs hM h hr
  have:=h.dO (aj:=[]) trivial hE hn (by rw[hM];exact hh)
  exact⟨y,g.dO π,hq,fv _ _ _ hl hr,this.aZ,this.ext⟩
theorem ae.im {M:List Bool} {env:Env} {E:List Chunk} {l:List AV} {Y:Type} {Q:Y→Prop} {res:Y→List AV} {out:Y→List Chunk} (i:Nat) (h:Fw.im i [] E l fun aj E' l'=>ae M aj E' l' Q res out):ae M env E l Q res out where
 h:=by
  intro B g tmps w cs hM hI hr
  have NI:Inv B g [] E tmps w:=⟨fun t=>.undef _,hI.aZ,hI.ext⟩
  obtain⟨g',aj,E',mY,h1,h2,h3⟩:=wR NI hr h
  exact h3.h B g' tmps w cs hM h1 h2
def one:List AV→AV
 | [v]=>v|l=>.bM l
section
variable (P:Program)
def n0 (env:Env) (E:List Chunk):List ResultVar→(List AV→Prop)→Prop
 | [],K=>K []
 | .tmp t::r,K=>n0 env E r fun l=>fV (look env t) fun v=>K (v::l)
 | .cell a t::r,K=>TB E (look env a) fun cs g=>LS P t cs g fun v=>n0 env E r fun l=>K (v::l)
def gB:Nat→List AV→Env
 | _,[]=>[]|k,v::r=>(k,v)::gB (k+1) r
end
section
variable {P:Program}
theorem RL.cons {g:Gh} {v:AV} {u:Value} {cs:List AV} {us:List Value} (h:R g v u) (h':RL g cs us):RL g (v::cs) (u::us):=⟨h,h'⟩
theorem tC {g:Gh} {env:Env} {E:List Chunk} {tmps:Array Value} {w:World} (hS:fg g E w) (hE:ER g env tmps) (f:ResultVar→Sem Value)
  (ht:∀ t,f (.tmp t)=pure (tmps.getD t Go.undef)) (hc:∀ a t,f (.cell a t)=do loadVar t (←asAddr (tmps.getD a Go.undef))):∀ (rs:List ResultVar) (K:List AV→Prop),n0 P env E rs K →
  ∃ l cs,(rs.mapM f).run P w=.ok cs w∧RL g l cs∧K l
 | [],K,h=>⟨[],[],by simp,trivial,h⟩
 | .tmp t::r,K,h=>by
  obtain⟨l,cs,h1,h2,h3⟩:=tC hS hE f ht hc r _ h
  rw[gu]at h3
  exact⟨_,tmps.getD t Go.undef::cs,by simp[List.mapM_cons,ht,h1],RL.cons (hE t) h2,h3⟩
 | .cell a t::r,K,h=>by
  simp only[n0]at h
  obtain⟨cs,n,us,A,h1,h2,h3,h4⟩:=vz hS (hE a) h
  obtain⟨v,u,h5,h6,h7⟩:=yo h4 h2 h3
  obtain⟨l,ws,h8,h9,fm⟩:=tC hS hE f ht hc r _ h7
  exact⟨_,u::ws,by simp[List.mapM_cons,hc,h1,asAddr,h5,h8],RL.cons h6 h9,fm⟩
theorem NJ {g:Gh} {l:List AV} {cs:List Value} (h:RL g l cs):R g (one l) (if h:cs.toArray.size=1 then cs.toArray[0]else .tuple cs.toArray):=by
 match l,cs,h with
 | [],[],h=>exact R.il h
 | [v],[u],h=>exact h.1
 | v::v'::l,u::u'::cs,h =>
  rw[dif_neg (by simp)]
  exact R.il h
theorem tD {g:Gh} {env:Env} {E:List Chunk} {tmps:Array Value} {w:World} (hS:fg g E w) (hE:ER g env tmps) {fn:Func} {K:List AV→Prop} (h:n0 P env E fn.results.toList K) :
  ∃ l cs,(results fn tmps).run P w=.ok (if h:cs.toArray.size=1 then cs.toArray[0]else .tuple cs.toArray) w∧RL g l cs∧K l:=by
 obtain⟨l,cs,h1,h2,h3⟩:=tC (P:=P) hS hE (fun rv=>match rv with|.tmp t=>pure (tmps.getD t Go.undef)|.cell a t=>do loadVar t (←asAddr (tmps.getD a Go.undef))) (fun t=>rfl) (fun a t=>rfl) _ _ h
 refine⟨l,cs,?_,h2,h3⟩
 unfold results
 rw[Array.mapM_eq_mapM_toList]
 simp only[Sem.run_bind,Sem.run_map]
 erw [h1]
 rfl
theorem ki {g:Gh} {f:Nat→Value}:∀ (k:Nat) (args:List AV) (aD:List Value),RL g args aD→(∀ j u,aD[j]?=some u→f (k+j)=u)→∀ t,R g (look (gB k args) t) (f t)
 | _,[],_,_,_,t=>.undef _
 | k,v::r,[],h,_,_=>h.elim
 | k,v::r,u::us,h,hf,t=>by
  simp only[gB,look]
  split
  ·rename_i hb
   have:=abl hb
   subst this
   have:=hf 0 u rfl
   simp at this
   rw[this];exact h.1
  ·exact ki (k+1) r us h.2 (fun j u hj=>by rw[←hf (j+1) u (by simpa using hj)];congr 1;omega) t
def QX:AV→List AV
 | .bM l=>l|v=>[v]
theorem aa.intro (hm:P.follows .mixedOrders=true) {f:FuncId} {fn:Func} {c:Code} {args:List AV} {E:List Chunk} {Y:Type} {Q:Y→Prop} {res:Y→AV} {out:Y→List Chunk}
  (hf:P.funcs[f]?=some fn) (hb:fn.body=some c) (pz:fn.name ≠ "runtime.NumGoroutine") (hn:args.length≤fn.ntmps) (Bb:∀ y,one (QX (res y))=res y)
  (h:∀ S:Sc,S.ok=true→jU (gB 0 args) fun env=>iM E fun E₁=>PU (bB E) fun M=>fH P fn.ntmps S M c env E₁ fun e aj E'=>match e with
   | .exit _=>False
   | _=>n0 P aj E' fn.results.toList fun l=>ae M aj E' l Q (fun y=>QX (res y)) out):aa P f args E Q res out where
 aA:=⟨fn,hf,by rw[hb];rfl,pz⟩
 h:=by
  intro g w aD hS hr
  have hl:=hr.length
  have bm:∀ b o,g.Φ b=some o→b<w.heap.size:=fun b o hb=>bt (hS.dA b o hb)
  obtain⟨S,Mb,Ez,YO⟩:∃ S:Sc,(∀ B,S.at_ B↔∃ Φ,B=⟨{ g with Φ:=Φ },E,w⟩∧(∀ b o,g.Φ b=some o→Φ b=some o)∧(∀ b o,Φ b=some o→g.Φ b=some o∨w.heap.size≤b))∧S.b0=w.heap.size∧S.ok=true:=by
   refine⟨⟨fun B=>∃ Φ,B=⟨{ g with Φ:=Φ },E,w⟩∧(∀ b o,g.Φ b=some o→Φ b=some o)∧(∀ b o,Φ b=some o→g.Φ b=some o∨w.heap.size≤b),w.heap.size,true,fun _ B hB=>?_,fun _ B D hB hD=>?_⟩,fun B=>Iff.rfl,rfl,rfl⟩
   ·obtain⟨Φ,rfl,_⟩:=hB;exact abr _
   ·obtain⟨Φ,rfl,h1,h2⟩:=hB
    refine⟨_,rfl,fun b o hb=>?_,fun b o hb=>?_⟩
    ·show(if b=D then some (.deferred (some []))else Φ b)=some o
     rw[if_neg (by have:=bm b o hb;omega)];exact h1 b o hb
    ·have lR:(if b=D then some (.deferred (some []))else Φ b)=some o:=hb
     split at lR
     ·rename_i e;rw[e];exact .inr hD
     ·exact h2 b o lR
  have h:=h S YO
  rw[dn,bf,Nw]at h
  refine iZ.1 (callsIn_of_wp_marks (F:=Fr none) (n:=0) hf hb trivial ?_)
  have hI:Inv ⟨g,E,w⟩ g (gB 0 args) E (aD.toArray++Array.replicate (fn.ntmps - aD.toArray.size) Go.undef) w:=by
   refine⟨ki 0 args aD hr (fun j u hj=>?_),hS,⟨rfl,rfl,jz.refl _,abr _,fun _ _ _=>rfl,fun _ _ h=>h,fun _ _ h=>.inl h,fun i b h=>.inr ⟨i,h⟩,adv hS.len,fun _ _=>⟨rfl,rfl,rfl⟩,rfl,fun i h1=>AU h1,fun _ _ _ _=>rfl,fun _ _=>abr _⟩⟩
   have lM:=(abk.1 hj).1
   rw[abJ,adL (by simpa using lM)]
   simp[hj]
  have UW:Iv S g (gB 0 args) E { tmps:=aD.toArray++Array.replicate (fn.ntmps - aD.toArray.size) Go.undef,defers:=[] } w :=
   ⟨⟨g,E,w⟩,(Mb _).2 ⟨g.Φ,rfl,fun _ _ h=>h,fun _ _ h=>.inl h⟩,hI,fun _=>rfl,[],rfl,acd,by simp⟩
  have hw:=ja (S:=S) hm (fun B hB=>by obtain⟨_,rfl,_⟩:=(Mb B).1 hB;rfl) c none (.inl rfl) UW (by simp;omega) h
  refine adD hw ?_
  rintro x a w' ⟨e,g',aj,E',rfl,⟨B1,PZ,h1,_,Ds,P0,eZ,TS⟩,h3,h4⟩
  obtain⟨Φ,rfl,QY,P2⟩:=(Mb _).1 PZ
  have yV:∀ c i b,Chunk.own { g with Φ:=Φ } i c b=Chunk.own g i c b:=fun c i b=>by cases c <;> rfl
  have UX:∀ b,(⟨{ g with Φ:=Φ },E,w⟩:bU).owns b→(⟨g,E,w⟩:bU).owns b:=fun b ⟨i,hi⟩=>⟨i,(yV _ _ _).mp hi⟩
  have YP:∀ b,(⟨g,E,w⟩:bU).owns b→(⟨{ g with Φ:=Φ },E,w⟩:bU).owns b:=fun b ⟨i,hi⟩=>⟨i,(yV _ _ _).mpr hi⟩
  have hx:=h1.ext
  have yh:Inv ⟨g,E,w⟩ g' aj E' a.tmps w':=⟨h1.er,h1.aZ,⟨hx.os,hx.tape,hx.output,hx.size,fun b h2 h3=>hx.cE b h2 (fun ho=>h3 (UX b ho)),fun b o hb=>hx.dA b o (QY b o hb),fun b o hb=>by
   rcases hx.fS b o hb with h2|h2|h2
   ·rcases P2 b o h2 with h3|h3
    ·exact .inl h3
    ·exact .inr (.inl h3)
   ·exact .inr (.inl h2)
   ·exact .inr (.inr (UX b h2)),fun i b hi=>(hx.own i b hi).imp id (UX b),hx.n,hx.ids,hx.kk,hx.nJ,hx.r9,hx.qN⟩⟩
  have fin:n0 P aj E' fn.results.toList (fun l=>ae (bB E) aj E' l Q (fun y=>QX (res y)) out) →
    LeavesInM (Fr none) 0 P fn a.tmps (fun e w'=>∃ y c g',Q y∧e=.returned c∧R g' (res y) c∧fg g' (out y) w'∧Ext ⟨g,E,w⟩ g' (out y) w') a.defers .returning w':=by
   intro h4
   rw[P0]
   refine CB (env:=aj) (E:=E') (B:=⟨g,E,w⟩) bm (fun g1 w1 P3=>?_) Ds g' w' yh eZ (fun D hD=>?_)
   ·obtain⟨l,cs,h5,h6,h7⟩:=tD P3.aZ P3.er h4
    obtain⟨y,YQ,h8,h9,fm,vm⟩:=h7.h _ g1 a.tmps w1 cs rfl P3 h6
    exact⟨_,h5,y,_,YQ,h8,rfl,by rw[←Bb y];exact NJ h9,fm,vm⟩
   ·obtain⟨h5,h6⟩:=TS D hD
    rw[Ez]at h5
    exact⟨h5,hx.dA D _ h6⟩
  cases e with
  | normal=>exact fin h4
  | ret=>exact fin h4
  | exit n=>exact h4.elim
end
theorem aa.q {P:Program} {f:FuncId} {fn:Func} {c:Code} {args:List AV} {E:List Chunk} {Y:Type} {Q:Y→Prop} {res:Y→AV} {out:Y→List Chunk} (hf:P.funcs[f]?=some fn) (hb:fn.body=some c)
  (h:∀ S:Sc,S.ok=true→jU (gB 0 args) fun env=>iM E fun E₁=>PU (bB E) fun M=>fH P fn.ntmps S M c env E₁ fun e aj E'=>match e with
   | .exit _=>False
   | _=>n0 P aj E' fn.results.toList fun l=>ae M aj E' l Q (fun y=>QX (res y)) out)
  (h1:P.follows .mixedOrders=true:=by exact hm) (pz:fn.name ≠ "runtime.NumGoroutine" := by decide) (hn:args.length≤fn.ntmps:=by exact ab3 rfl) (Bb:∀ y,one (QX (res y))=res y:=by exact fun _=>rfl):aa P f args E Q res out :=
 aa.intro h1 hf hb pz hn Bb h
def fP (π:List Nat) (n j:Nat):Nat:=match nth π j with|some i=>i|none=>n+(j - π.length)
def ia (π:List Nat) (n:Nat):AV→AV
 | .ptr j o=>.ptr (fP π n j) o|.bl j s x o=>.bl (fP π n j) s x o|.vec j s o m=>.vec (fP π n j) s o m|.mp j=>.mp (fP π n j)|.hp j f=>.hp (fP π n j) f|.hm j f=>.hm (fP π n j) f|v=>v
def xb:List Nat→Nat→Bool
 | [],_=>false|p::r,i=>match Nat.beq p i with|true=>true|false=>xb r i
def si:List Nat→List Chunk→Nat→Bool
 | p::r,c::s,i=>(match Nat.beq p i with|true=>(match dj c with|true=>false|false=>true)|false=>si r s i)|_,_,_=>false
def ib (π:List Nat) (E₀:List Chunk):AV→AV
 | .ptr i o=>(match si π E₀ i with|true=>.undef|false=>.ptr i o)
 | .bl i s x o=>(match si π E₀ i with|true=>.undef|false=>.bl i s x o)
 | .vec i s o n=>(match si π E₀ i with|true=>.undef|false=>.vec i s o n)
 | .mp i=>(match si π E₀ i with|true=>.undef|false=>.mp i)
 | .hp i f=>(match si π E₀ i with|true=>.undef|false=>.hp i f)
 | .hm i f=>(match si π E₀ i with|true=>.undef|false=>.hm i f)
 | v=>v
def jc (f:AV→AV):List Nat→List Chunk→List Chunk→List Chunk
 | p::r,c::s,E=>jc f r s (bh E p (dv f c))|[],c::s,E=>jc f [] s (dz E (dv f c))|_,[],E=>E
def Bc:List Chunk→Bool
 | []=>true|.none::_=>false|.count _::_=>false|_::r=>Bc r
theorem CC {π:List Nat} {i:Nat}:xb π i=true↔i∈π:=by
 induction π with
 | nil=>simp[xb]
 | cons p r ih =>
  simp only[xb]
  split
  ·rename_i h;have:=abl h;subst this;simp
  ·rename_i h;rw[ih];constructor
   ·intro h';exact abn _ h'
   ·intro h';rcases abE.1 h' with rfl|h'
    ·simp at h
    ·exact h'
theorem xc:∀ {E:List Chunk},Bc E=true→∀ j,j<ah E→af E j≠.none∧∀ k,af E j≠.count k
 | [],_,j,h=>by simp[ah]at h
 | c::r,h,0,_=>by
  cases c <;> simp[Bc]at h
  all_goals simp[af]
 | c::r,h,j+1,hj=>by
  cases c <;> simp[Bc]at h
  all_goals exact xc h j (by simp[ah]at hj;omega)
theorem xd {E₀:List Chunk}:∀ {π:List Nat} {E₀:List Chunk} {j i:Nat},bI π=true→π[j]?=some i→j<ah E₀→si π E₀ i=false→dj (af E₀ j)=true
 | [],_,j,i,_,h,_,_=>by simp at h
 | p::r,[],j,i,_,h,hj,_=>by simp[ah]at hj
 | p::r,c::s,0,i,_,h,hj,hb=>by
  simp at h;subst h
  simp only[si,Nat.beq_refl]at hb
  cases hf:dj c <;> simp[hf]at hb
  exact hf
 | p::r,c::s,j+1,i,hn,h,hj,hb=>by
  have bE:Nat.beq p i=false:=by
   cases YR:Nat.beq p i with
   | false=>rfl
   | true =>
    have:=abl YR
    subst this
    have:=ng hn 0 (j+1) p rfl h
    cases this
  simp only[si,bE]at hb
  have rH:bI r=true:=by
   simp only[bI]at hn
   split at hn
   ·cases hn
   ·exact hn
  have h2:ah (c::s)=ah s+1:=rfl
  show dj (af s j)=true
  exact @xd E₀ r s j i rH (by simpa using h) (by omega) hb
theorem yW (f:AV→AV):∀ (out E:List Chunk) (i:Nat),af (jc f [] out E) i=if i<ah E then af E i else dv f (af out (i - ah E))
 | [],E,i=>by
  simp only[jc]
  split
  ·rfl
  ·rw[kR E i (by omega)];simp[af,dv]
 | c::s,E,i=>by
  simp only[jc]
  rw[yW f s,l6,l5]
  rcases acT i (ah E)with h|h|h
  ·simp[h,Nat.lt_succ_of_lt h,Nat.ne_of_lt h]
  ·subst h;simp[af]
  ·have h1:¬i<ah E+1:=by omega
   have h2:¬i<ah E:=by omega
   simp only[h1,h2,if_false]
   have:i - ah E=(i - (ah E+1))+1:=by omega
   rw[this];rfl
theorem tE (f:AV→AV):∀ (π:List Nat) (out E:List Chunk),ah (jc f π out E)=ah E+(ah out - π.length)
 | _::r,c::s,E=>by simp[jc,tE f r s,ck,ah]
 | [],c::s,E=>by simp[jc,tE f [] s,l6,ah];omega
 | [],[],E=>by simp[jc,ah]
 | _::_,[],E=>by simp[jc,ah]
theorem pK (f:AV→AV):∀ (π:List Nat) (out E:List Chunk) (i:Nat),π.length≤ah out→i∉π→af (jc f π out E) i=if i<ah E then af E i else dv f (af out (π.length+(i - ah E)))
 | [],out,E,i,_,_=>by rw[yW];simp
 | p::r,[],E,i,h,_=>by simp[ah]at h
 | p::r,c::s,E,i,h,hi=>by
  simp only[jc]
  rw[pK f r s _ i (by simp[ah]at h;omega) (fun h'=>hi (abn _ h')),ck,bC]
  have:¬(p=i∧p<ah E):=fun h=>hi (by rw[h.1];exact abq ..)
  rw[if_neg this]
  simp only[abt]
  have e:r.length+1+(i - ah E)=(r.length+(i - ah E))+1:=by omega
  rw[e];rfl
theorem CD (f:AV→AV):∀ (π:List Nat) (out E:List Chunk) (i j:Nat),π.length≤ah out→bI π=true→(∀ p∈π,p<ah E)→π[j]?=some i→af (jc f π out E) i=dv f (af out j)
 | [],out,E,i,j,_,_,_,h=>by simp at h
 | p::r,[],E,i,j,h,_,_,_=>by simp[ah]at h
 | p::r,c::s,E,i,j,h,hn,hp,hj=>by
  simp only[jc]
  have rH:bI r=true∧p∉r:=by
   simp only[bI]at hn
   split at hn
   ·cases hn
   ·rename_i ha
    refine⟨hn,fun hm=>?_⟩
    have:r.any (Nat.beq p)=true:=List.any_eq_true.2 ⟨p,hm,Nat.beq_refl p⟩
    rw[this]at ha;cases ha
  have hl:r.length≤ah s:=by simp[ah]at h;omega
  cases j with
  | zero =>
   simp at hj;subst hj
   have Xn:=hp p (abq ..)
   rw[pK f r s _ p hl rH.2,ck,if_pos Xn,bC,if_pos ⟨rfl,Xn⟩]
   rfl
  | succ j =>
   have:=CD f r s (bh E p (dv f c)) i j hl rH.1 (fun q hq=>by rw[ck];exact hp q (abn _ hq)) (by simpa using hj)
   rw[this];rfl
def jn {α:Type} (π:List Nat) (n:Nat) (a b:Nat→α) (i:Nat):α:=match π.idxOf? i with|some j=>b j|none=>if i<n then a i else b (π.length+(i - n))
def Gh.join (g g':Gh) (π:List Nat):Gh:={ n:=g.n+(g'.n - π.length),Φ:=g'.Φ,B:=jn π g.n g.B g'.B,V:=jn π g.n g.V g'.V,L:=jn π g.n g.L g'.L,k:=g.k,W:=jn π g.n g.W g'.W,M:=jn π g.n g.M g'.M }
theorem GS {π:List Nat} {i j:Nat} (hn:bI π=true) (h:π[j]?=some i):π.idxOf? i=some j:=by
 cases hx:π.idxOf? i with
 | none =>
  have:=List.idxOf?_eq_none_iff.1 hx
  exact(this (abu.2 ⟨j,h⟩)).elim
 | some k =>
  have hk:π[k]?=some i:=by
   have:=List.findIdx?_eq_some_iff_getElem.1 hx
   obtain⟨h1,h2,_⟩:=this
   rw[abj h1]
   simpa using h2
  rw[ng hn j k i h hk]
theorem QZ {α:Type} {π:List Nat} {n i j:Nat} {a b:Nat→α} (hn:bI π=true) (h:π[j]?=some i):jn π n a b i=b j:=by simp[jn,GS hn h]
theorem vL {π:List Nat} {i:Nat} (h:i∉π):π.idxOf? i=none:=List.idxOf?_eq_none_iff.2 h
theorem tF {α:Type} {π:List Nat} {n i:Nat} {a b:Nat→α} (h:i∉π) (hi:i<n):jn π n a b i=a i:=by simp[jn,vL h,hi]
theorem NK {α:Type} {π:List Nat} {n i:Nat} {a b:Nat→α} (h:i∉π) (hi:n≤i):jn π n a b i=b (π.length+(i - n)):=by simp[jn,vL h,Nat.not_lt.2 hi]
theorem jH {π:List Nat} {n j i:Nat} (h:π[j]?=some i):fP π n j=i:=by simp[fP,gX,h]
theorem tG {π:List Nat} {n j:Nat} (h:π.length≤j):fP π n j=n+(j - π.length):=by simp[fP,gX,h]
theorem jY {α:Type} {π:List Nat} {n j:Nat} {a b:Nat→α} (hn:bI π=true) (hp:∀ p∈π,p<n):jn π n a b (fP π n j)=b j:=by
 by_cases h:j<π.length
 ·have h':=abj h
  rw[jH h',QZ hn h']
 ·rw[tG (by omega),NK (fun hm=>by have:=hp _ hm;omega) (by omega)]
  congr 1;omega
theorem kU {π:List Nat} {n m j:Nat} (hp:∀ p∈π,p<n) (hj:j<m):fP π n j<n+(m - π.length):=by
 by_cases h:j<π.length
 ·have h':=abj h
  rw[jH h']
  have:=hp _ (abO h)
  omega
 ·rw[tG (by omega)];omega
theorem Chunk.oH {g g':Gh} {i j b:Nat} {c:Chunk} (hB:g'.B j=g.B i) (hV:g'.V j=g.V i) (hW:g'.W j=g.W i) (hM:g'.M j=g.M i):c.own g' j b=c.own g i b:=by
 cases c with
 | none=>rfl
 | count=>rfl
 | cells=>simp[Chunk.own,hB]
 | au=>simp[Chunk.own,hB,hV]
 | jC=>simp[Chunk.own,hB]
 | row=>simp[Chunk.own,hB,hV]
 | heap=>simp[Chunk.own,hW,hM]
 | jD=>simp[Chunk.own,hB]
 | jy=>simp[Chunk.own,hB]
 | bg=>simp[Chunk.own,hW]
theorem Chunk.CE {g g':Gh} {i j b:Nat} {c:Chunk} (h:AW c=true) (hB:g'.B j=g.B i) (hV:g'.V j=g.V i):c.own g' j b=c.own g i b:=by
 cases c with
 | none=>rfl
 | count=>rfl
 | cells=>simp[Chunk.own,hB]
 | au=>simp[Chunk.own,hB,hV]
 | jC=>simp[Chunk.own,hB]
 | row=>simp[Chunk.own,hB,hV]
 | heap=>cases h
 | jD=>simp[Chunk.own,hB]
 | jy=>simp[Chunk.own,hB]
 | bg=>cases h
theorem J7 {g g':Gh} {π:List Nat} (hn:bI π=true) (hp:∀ p∈π,p<g.n):∀ v u,isRef v=true→R g' v u→R (g.join g' π) (ia π g.n v) u:=by
 intro v u hv hr
 have eB:∀ j,(g.join g' π).B (fP π g.n j)=g'.B j:=fun j=>jY hn hp
 have eV:∀ j,(g.join g' π).V (fP π g.n j)=g'.V j:=fun j=>jY hn hp
 have eL:∀ j,(g.join g' π).L (fP π g.n j)=g'.L j:=fun j=>jY hn hp
 have eW:∀ j,(g.join g' π).W (fP π g.n j)=g'.W j:=fun j=>jY hn hp
 have eM:∀ j,(g.join g' π).M (fP π g.n j)=g'.M j:=fun j=>jY hn hp
 cases hr <;> first|(cases hv;done)|skip
 ·rename_i j off hj
  simp only[ia]
  rw[←eB j]
  exact .ptr _ _ (kU hp hj)
 ·rename_i j sz idx off hj hL
  simp only[ia]
  rw[←eB j]
  exact .bl _ _ _ _ (kU hp hj) (by rw[eL];exact hL)
 ·rename_i j sz off n A c hj hL sj hs
  simp only[ia]
  exact .vec _ _ _ _ A c (kU hp hj) (by rw[eL];exact hL) (by rw[eV];exact sj) (by rw[eV,eB];exact hs)
 ·rename_i j hj
  simp only[ia]
  rw[←eB j]
  exact .mp _ (kU hp hj)
 ·rename_i j f hj hf
  simp only[ia]
  rw[←eW j]
  exact .hp _ _ (kU hp hj) (by rw[eM];exact hf)
 ·rename_i j f hj hf
  simp only[ia]
  rw[←eW j]
  exact .hm _ _ (kU hp hj) (by rw[eM];exact hf)
theorem yX {π:List Nat} {c:Chunk} (h:sf π .none c):c=.none:=by
 cases c <;> simp only[sf]at h <;> first|rfl|exact h.elim
theorem Inv.join {B:bU} {g g':Gh} {env:Env} {E E₀ out:List Chunk} {tmps:Array Value} {w w':World} {π:List Nat} (h:Inv B g env E tmps w) (hn:bI π=true) (hk:Bc E₀=true) (hE:pG π E π E₀)
  (hs:fg g' out w') (hx:Ext ⟨g.dO π,E₀,w⟩ g' out w') :
  Inv B (g.join g' π) (bj (ib π E₀) env) (jc (ia π (ah E)) π out (cY (ib π E₀) E)) tmps w'∧∀ v u,R g' v u→R (g.join g' π) (du (ia π (ah E)) v) u:=by
 have hlen:=h.aZ.len
 have hl₀:ah E₀=π.length:=pI π E₀ hE
 have GU:π.length≤ah out:=by have:=hx.n;have:=hs.len;simp only at *;omega
 have qQ:∀ j i,π[j]?=some i→sf π (af E i) (af E₀ j)∧af E₀ j≠.none:=by
  intro j i hj
  have rN:j<ah E₀:=by rw[hl₀];exact(abk.1 hj).1
  have bE:=(xc hk j rN).1
  rcases qW π E₀ hE j with⟨i',eH,hc⟩|hc
  ·rw[hj]at eH;cases eH;exact⟨hc,bE⟩
  ·exact(bE hc).elim
 have UY:∀ j i,π[j]?=some i→∀ k,af E₀ j≠.count k:=fun j i hj=>(xc hk j (by rw[hl₀];exact(abk.1 hj).1)).2
 have hp:∀ p∈π,p<ah E:=by
  intro p hp
  obtain⟨j,hj⟩:=abu.1 hp
  obtain⟨h1,h2⟩:=qQ j p hj
  exact dV (fun e=>by rw[e]at h1;exact h2 (yX h1))
 have NL:∀ p∈π,p<g.n:=fun p hq=>by rw[←hlen];exact hp p hq
 have NM:=J7 (g:=g) (g':=g') hn NL
 rw[←hlen]at NM
 have eB:∀ j,(g.join g' π).B (fP π g.n j)=g'.B j:=fun j=>jY hn NL
 have eV:∀ j,(g.join g' π).V (fP π g.n j)=g'.V j:=fun j=>jY hn NL
 have eL:∀ j,(g.join g' π).L (fP π g.n j)=g'.L j:=fun j=>jY hn NL
 have oB:∀ i,i∉π→i<g.n→(g.join g' π).B i=g.B i:=fun i h1 h2=>tF h1 h2
 have oV:∀ i,i∉π→i<g.n→(g.join g' π).V i=g.V i:=fun i h1 h2=>tF h1 h2
 have oL:∀ i,i∉π→i<g.n→(g.join g' π).L i=g.L i:=fun i h1 h2=>tF h1 h2
 have eW:∀ j,(g.join g' π).W (fP π g.n j)=g'.W j:=fun j=>jY hn NL
 have eM:∀ j,(g.join g' π).M (fP π g.n j)=g'.M j:=fun j=>jY hn NL
 have oW:∀ i,i∉π→i<g.n→(g.join g' π).W i=g.W i:=fun i h1 h2=>tF h1 h2
 have oM:∀ i,i∉π→i<g.n→(g.join g' π).M i=g.M i:=fun i h1 h2=>tF h1 h2
 have hΦ:∀ b o,g.Φ b=some o→(g.join g' π).Φ b=some o:=fun b o hb=>hx.dA b o hb
 have Xo:∀ j,dj (af E₀ j)=true→∀ i,π[j]?=some i→(g.join g' π).B i=g.B i∧(g.join g' π).V i=g.V i∧(g.join g' π).L i=g.L i:=by
  intro j hc i hj
  have h1:=hx.ids j hc
  have h2:(g.join g' π).B i=g'.B j:=by have:=eB j;rwa [jH hj]at this
  have h3:(g.join g' π).V i=g'.V j:=by have:=eV j;rwa [jH hj]at this
  have h4:(g.join g' π).L i=g'.L j:=by have:=eL j;rwa [jH hj]at this
  rw[h2,h3,h4,h1.1,h1.2.1,h1.2.2]
  exact fZ g hj
 have NN:∀ j,dj (af E₀ j)=true→∀ i,π[j]?=some i→(∀ k,k<g.M i→(g.join g' π).W i k=g.W i k)∧g.M i≤(g.join g' π).M i:=by
  intro j hc i hj
  have h2:(g.join g' π).W i=g'.W j:=by have:=eW j;rwa [jH hj]at this
  have h3:(g.join g' π).M i=g'.M j:=by have:=eM j;rwa [jH hj]at this
  have hr:=pH g hj
  refine⟨fun k hk=>?_,?_⟩
  ·rw[h2,hx.r9 j k hc (by show k<(g.dO π).M j;rw[hr.2];exact hk)]
   show(g.dO π).W j k=_
   rw[hr.1]
  ·rw[h3,←hr.2];exact hx.qN j hc
 have J8:(g.join g' π).n=g.n+(g'.n - π.length):=rfl
 have J9:∀ i j,π[j]?=some i→dj (af B.E i)=true→dj (af E₀ j)=true:=by
  intro i j hj hi
  obtain⟨h1,h2⟩:=qQ j i hj
  cases hc:af E₀ j with
  | none=>exact(h2 hc).elim
  | count k=>exact((UY j i hj) k hc).elim
  | cells _ _=>rfl
  | jC _ _ _=>rfl
  | row _ _ _=>rfl
  | heap _=>rfl
  | jD _ _ _ _=>rfl
  | bg _=>rfl
  | au _ _ _ =>
   rw[hc]at h1
   cases hg:af E i <;> rw[hg]at h1 <;> first|exact h1.elim|exact(jE (h.ext.nJ i hi) hg).elim
  | jy _ _ =>
   rw[hc]at h1
   cases hg:af E i <;> rw[hg]at h1 <;> first|exact h1.elim|exact(sY (h.ext.nJ i hi) hg).elim
 have Q0:∀ v u,isRef v=true→R g v u→R (g.join g' π) (ib π E₀ v) u:=by
  intro v u hv hr
  have stay:∀ i,i<g.n→si π E₀ i=false→(g.join g' π).B i=g.B i∧(g.join g' π).V i=g.V i∧(g.join g' π).L i=g.L i:=by
   intro i hi hb
   by_cases hm:i∈π
   ·obtain⟨j,hj⟩:=abu.1 hm
    exact Xo j (xd (E₀:=E₀) hn hj (by rw[hl₀];exact(abk.1 hj).1) hb) i hj
   ·exact⟨oB i hm hi,oV i hm hi,oL i hm hi⟩
  have Mc:∀ i,i<g.n→si π E₀ i=false→(∀ k,k<g.M i→(g.join g' π).W i k=g.W i k)∧g.M i≤(g.join g' π).M i:=by
   intro i hi hb
   by_cases hm:i∈π
   ·obtain⟨j,hj⟩:=abu.1 hm
    exact NN j (xd (E₀:=E₀) hn hj (by rw[hl₀];exact(abk.1 hj).1) hb) i hj
   ·exact⟨fun k _=>by rw[oW i hm hi],by rw[oM i hm hi];exact abr _⟩
  cases hr <;> first|(cases hv;done)|skip
  ·rename_i i off hi
   simp only[ib]
   split
   ·exact .undef _
   ·rename_i hb
    rw[←(stay i hi hb).1]
    exact .ptr _ _ (by rw[J8];omega)
  ·rename_i i sz idx off hi hL
   simp only[ib]
   split
   ·exact .undef _
   ·rename_i hb
    rw[←(stay i hi hb).1]
    exact .bl _ _ _ _ (by rw[J8];omega) (by rw[(stay i hi hb).2.2];exact hL)
  ·rename_i i sz off n A c hi hL sj Er
   simp only[ib]
   split
   ·exact .undef _
   ·rename_i hb
    exact .vec _ _ _ _ A c (by rw[J8];omega) (by rw[(stay i hi hb).2.2];exact hL) (by rw[(stay i hi hb).2.1];exact sj) (by rw[(stay i hi hb).2.1,(stay i hi hb).1];exact Er)
  ·rename_i i hi
   simp only[ib]
   split
   ·exact .undef _
   ·rename_i hb
    rw[←(stay i hi hb).1]
    exact .mp _ (by rw[J8];omega)
  ·rename_i i f hi hf
   simp only[ib]
   split
   ·exact .undef _
   ·rename_i hb
    have dm:=Mc i hi hb
    have:=R.hp (g:=g.join g' π) i f (by rw[J8];omega) (fun x hx=>abB (hf x hx) dm.2)
    cases Gd:f ()with
    | none=>rw[Gd]at this;exact this
    | some x=>rw[Gd]at this;simp only[acb]at this ⊢;rw[←dm.1 x.1 (hf x Gd)];exact this
  ·rename_i i f hi hf
   simp only[ib]
   split
   ·exact .undef _
   ·rename_i hb
    have dm:=Mc i hi hb
    rw[←dm.1 _ hf]
    exact .hm (g:=g.join g' π) i f (by rw[J8];omega) (abB hf dm.2)
 have Xp:∀ i j,π[j]?=some i→af (jc (ia π (ah E)) π out (cY (ib π E₀) E)) i=dv (ia π (ah E)) (af out j):=fun i j hj =>
  CD _ π out _ i j GU hn (fun p hq=>by rw[eK];exact hp p hq) hj
 have Q1:∀ i,i∉π→i<ah E→af (jc (ia π (ah E)) π out (cY (ib π E₀) E)) i=dv (ib π E₀) (af E i):=fun i hm hi=>by
  rw[pK _ π out _ i GU hm,eK,if_pos hi,fE]
 have UZ:∀ i,ah E≤i→af (jc (ia π (ah E)) π out (cY (ib π E₀) E)) i=dv (ia π (ah E)) (af out (π.length+(i - ah E))):=fun i hi=>by
  rw[pK _ π out _ i GU (fun hm=>by have:=hp i hm;omega),eK,if_neg (by omega)]
 have key:∀ i,(∃ j,i=fP π (ah E) j∧af (jc (ia π (ah E)) π out (cY (ib π E₀) E)) i=dv (ia π (ah E)) (af out j)∧((π[j]?=some i∧i<ah E)∨(ah E≤i∧π.length≤j))) ∨
   (i∉π∧i<ah E∧af (jc (ia π (ah E)) π out (cY (ib π E₀) E)) i=dv (ib π E₀) (af E i)):=by
  intro i
  by_cases hm:i∈π
  ·obtain⟨j,hj⟩:=abu.1 hm
   exact .inl ⟨j,(jH hj).symm,Xp i j hj,.inl ⟨hj,hp i hm⟩⟩
  ·rcases Nat.lt_or_ge i (ah E)with hi|hi
   ·exact .inr ⟨hm,hi,Q1 i hm hi⟩
   ·exact .inl ⟨π.length+(i - ah E),by rw[tG (by omega)];omega,UZ i hi,.inr ⟨hi,by omega⟩⟩
 have Xq:∀ j,(g.join g' π).B (fP π (ah E) j)=g'.B j:=by rw[hlen];exact eB
 have Xr:∀ j,(g.join g' π).V (fP π (ah E) j)=g'.V j:=by rw[hlen];exact eV
 have YS:∀ j,(g.join g' π).L (fP π (ah E) j)=g'.L j:=by rw[hlen];exact eL
 have Xs:∀ j,(g.join g' π).W (fP π (ah E) j)=g'.W j:=by rw[hlen];exact eW
 have Xt:∀ j,(g.join g' π).M (fP π (ah E) j)=g'.M j:=by rw[hlen];exact eM
 have Ee:∀ j,j<g'.n→fP π (ah E) j<(g.join g' π).n:=fun j hj=>by rw[hlen];exact kU NL hj
 have vM:∀ j b,(dv (ia π (ah E)) (af out j)).own (g.join g' π) (fP π (ah E) j) b→(af out j).own g' j b:=by
  intro j b hb;rw[jb]at hb;rwa [Chunk.oH (Xq j) (Xr j) (Xs j) (Xt j)]at hb
 have qY:∀ i b,i∉π→i<ah E→(dv (ib π E₀) (af E i)).own (g.join g' π) i b→(af E i).own g i b:=by
  intro i b hm hi hb;rw[jb]at hb;rwa [Chunk.oH (oB i hm (by omega)) (oV i hm (by omega)) (oW i hm (by omega)) (oM i hm (by omega))]at hb
 have owns:∀ b,(⟨g.dO π,E₀,w⟩:bU).owns b→∃ i∈π,(af E i).own g i b:=by
  rintro b ⟨j,hj⟩
  have rN:j<ah E₀:=AS hj
  have lM:π[j]?=some (π[j]'(by omega)):=abj (by omega)
  exact⟨_,abO _,nh lM _ _ (qQ _ _ lM).1 hj⟩
 have Q2:∀ i b,i∉π→(af E i).own g i b→w'.heap[b]?=w.heap[b]?:=by
  intro i b hm hb
  refine hx.cE b (ft (h.aZ.sat i) hb) (fun ho=>?_)
  obtain⟨i',eH,dJ⟩:=owns b ho
  have:=h.aZ.lL i i' b hb dJ
  subst this
  exact hm eH
 have Bd:∀ j b,(af out j).own g' j b→w.heap.size≤b∨∃ i∈π,(af E i).own g i b:=by
  intro j b hb
  rcases hx.own j b hb with h1|h1
  ·exact .inl h1
  ·exact .inr (owns b h1)
 have U0:∀ b,(w.heap.size≤b∨∃ i∈π,(af E i).own g i b)→B.w.heap.size≤b∨B.owns b:=by
  rintro b (h1|⟨i,_,h1⟩)
  ·exact .inl (abW h.ext.size h1)
  ·exact h.ext.own i b h1
 refine⟨⟨fun t=>?_,⟨?_,hs.dA,fun i=>?_,fun i k b hi hk=>?_,fun i b hi=>?_⟩,⟨hx.os.trans h.ext.os,hx.tape.trans h.ext.tape,hx.output.trans h.ext.output,abW h.ext.size hx.size,fun b h1 h2=>?_,fun b o hb=>hΦ b o (h.ext.dA b o hb),fun b o hb=>?_,fun i b hi=>?_,?_,fun i hi=>?_,h.ext.kk,fun i hi=>?_,fun i k hi hk=>?_,fun i hi=>?_⟩⟩,fun v u hr=>R.map (g:=g') (g':=g.join g' π) (ia π (ah E)) (fun _ _ h=>h) NM hr⟩
 ·rw[cZ];exact(h.er t).map _ hΦ Q0
 ·rw[tE,eK,J8,←hlen,hs.len]
 ·rcases key i with⟨j,cD,hg,_⟩|⟨hm,hi,hg⟩
  ·rw[hg,cD]
   exact Chunk.pJ (g:=g') (g':=g.join g' π) _ (fun _ _ h=>h) NM (Xq j) (Xr j) (YS j) hx.kk.symm (Xs j) (Xt j) (Ee j) (fun _ _=>rfl) (hs.sat j)
  ·rw[hg]
   exact Chunk.pJ (g:=g) (g':=g.join g' π) _ hΦ Q0 (oB i hm (by omega)) (oV i hm (by omega)) (oL i hm (by omega)) rfl (oW i hm (by omega)) (oM i hm (by omega)) (fun h=>by rw[J8];omega) (fun b hb=>Q2 i b hm hb) (h.aZ.sat i)
 ·rcases key i with⟨j,cD,hg,hc⟩|⟨hm,dp,hg⟩ <;> rcases key k with⟨j',NO,Md,D2⟩|⟨AB,Q3,Md⟩
  ·rw[hg,cD]at hi
   rw[Md,NO]at hk
   have:=hs.lL j j' b (vM j b hi) (vM j' b hk)
   rw[cD,NO,this]
  ·rw[hg,cD]at hi
   rw[Md]at hk
   have h2:=qY k b AB Q3 hk
   rcases Bd j b (vM j b hi)with h3|⟨i',eH,h3⟩
   ·have:=ft (h.aZ.sat k) h2;omega
   ·have:=h.aZ.lL k i' b h2 h3
    subst this;exact(AB eH).elim
  ·rw[hg]at hi
   rw[Md,NO]at hk
   have h2:=qY i b hm dp hi
   rcases Bd j' b (vM j' b hk)with h3|⟨i',eH,h3⟩
   ·have:=ft (h.aZ.sat i) h2;omega
   ·have:=h.aZ.lL i i' b h2 h3
    subst this;exact(hm eH).elim
  ·rw[hg]at hi
   rw[Md]at hk
   exact h.aZ.lL i k b (qY i b hm dp hi) (qY k b AB Q3 hk)
 ·show g'.Φ b=none
  rcases key i with⟨j,cD,hg,hc⟩|⟨hm,dp,hg⟩
  ·rw[hg,cD]at hi
   exact hs.dQ j b (vM j b hi)
  ·rw[hg]at hi
   have h2:=qY i b hm dp hi
   cases hf:g'.Φ b with
   | none=>rfl
   | some o =>
    rcases hx.fS b o hf with h3|h3|h3
    ·have:g.Φ b=some o:=h3
     rw[h.aZ.dQ i b h2]at this;cases this
    ·have:=ft (h.aZ.sat i) h2
     exact absurd h3 (by simp only;omega)
    ·obtain⟨i',eH,h4⟩:=owns b h3
     have:=h.aZ.lL i i' b h2 h4
     subst this;exact(hm eH).elim
 ·have cu:¬(⟨g.dO π,E₀,w⟩:bU).owns b:=fun ho=>by
   obtain⟨i',eH,h4⟩:=owns b ho
   rcases h.ext.own i' b h4 with h5|h5
   ·omega
   ·exact h2 h5
  rw[hx.cE b (abB h1 h.ext.size) cu];exact h.ext.cE b h1 h2
 ·rcases hx.fS b o hb with h3|h3|h3
  ·exact h.ext.fS b o h3
  ·exact .inr (.inl (abW h.ext.size h3))
  ·obtain⟨i',eH,h4⟩:=owns b h3
   exact .inr (h.ext.own i' b h4)
 ·rcases key i with⟨j,cD,hg,hc⟩|⟨hm,dp,hg⟩
  ·rw[hg,cD]at hi
   exact U0 b (Bd j b (vM j b hi))
  ·rw[hg]at hi
   exact h.ext.own i b (qY i b hm dp hi)
 ·rw[J8];have:=h.ext.n;omega
 ·have dp:i<g.n:=abB (jV hi) h.ext.n
  by_cases hm:i∈π
  ·obtain⟨j,hj⟩:=abu.1 hm
   have k1:=Xo j (J9 i j hj hi) i hj
   rw[k1.1,k1.2.1,k1.2.2];exact h.ext.ids i hi
  ·rw[oB i hm dp,oV i hm dp,oL i hm dp];exact h.ext.ids i hi
 ·have dp:i<ah E:=by rw[hlen];exact abB (jV hi) h.ext.n
  by_cases hm:i∈π
  ·obtain⟨j,hj⟩:=abu.1 hm
   rw[Xp i j hj,sy]
   exact hx.nJ j (J9 i j hj hi)
  ·rw[Q1 i hm dp,sy]
   exact h.ext.nJ i hi
 ·have dp:i<g.n:=abB (jV hi) h.ext.n
  by_cases hm:i∈π
  ·obtain⟨j,hj⟩:=abu.1 hm
   rw[(NN j (J9 i j hj hi) i hj).1 k (abB hk (h.ext.qN i hi))];exact h.ext.r9 i k hi hk
  ·rw[oW i hm dp];exact h.ext.r9 i k hi hk
 ·have dp:i<g.n:=abB (jV hi) h.ext.n
  by_cases hm:i∈π
  ·obtain⟨j,hj⟩:=abu.1 hm
   exact abW (h.ext.qN i hi) (NN j (J9 i j hj hi) i hj).2
  ·rw[oM i hm dp];exact h.ext.qN i hi
theorem ab.intro {P:Program} {f:FuncId} {args args₀:List AV} {env:Env} {E E₀:List Chunk} {K:AV→Env→List Chunk→Prop} {Y:Type} {Q:Y→Prop} {res:Y→AV} {out:Y→List Chunk}
  (hs:aa P f args₀ E₀ Q res out) (π:List Nat) (hn:bI π=true) (hk:Bc E₀=true) (ha:sC π args args₀) (hE:pG π E π E₀)
  (k:∀ y,Q y→fV (du (ia π (ah E)) (res y)) fun r=>jU (bj (ib π E₀) env) fun aj=>iM (jc (ia π (ah E)) π (out y) (cY (ib π E₀) E)) fun E'=>K r aj E'):ab P f args env E K where
 aA:=hs.aA
 h:=by
  intro B g tmps w aD h hr
  refine(hs.h (g.dO π) w aD (h.aZ.dO hE hn) (fv _ _ _ ha hr)).mono ?_
  rintro e w' ⟨y,c,g',hq,rfl,h1,h2,h3⟩
  obtain⟨h4,h5⟩:=h.join hn hk hE h2 h3
  have wO:=k y hq
  rw[gu,dn,bf]at wO
  exact⟨c,_,_,_,_,rfl,h4,h5 _ _ h1,wO⟩
def jI (i:Nat) (cs:List AV):AV→AV
 | .ptr j o=>(match Nat.beq j i with|true=>.cL cs o|false=>.ptr j o)
 | .bl j s x o=>(match Nat.beq j i with|true=>.undef|false=>.bl j s x o)
 | .vec j s o n=>(match Nat.beq j i with|true=>.undef|false=>.vec j s o n)
 | .mp j=>(match Nat.beq j i with|true=>.undef|false=>.mp j)
 | .hp j f=>(match Nat.beq j i with|true=>.undef|false=>.hp j f)
 | .hm j f=>(match Nat.beq j i with|true=>.undef|false=>.hm j f)
 | v=>v
def yY:List Nat→Env→List Chunk→(Env→List Chunk→Prop)→Prop
 | [],env,E,K=>K env E
 | i::r,env,E,K=>match af E i with
  | .au T t xs=>jU (bj (oz i t xs) env) fun env=>iM (cY (oz i t xs) (bh E i .none)) fun E=>yY r env E K
  | .cells T cs=>jU (bj (jI i cs) env) fun env=>iM (cY (jI i cs) (bh E i .none)) fun E=>yY r env E K
  | _=>False
def kd:Chunk→Nat
 | .none=>0|.cells _ _=>1|.au _ _ _=>2|.count _=>3|.jC _ _ _=>4|.row _ _ _=>5|.heap _=>6|.jD _ _ _ _=>7|.jy _ _=>8|.bg _=>9
theorem NP (f:AV→AV) (c:Chunk):kd (dv f c)=kd c:=by cases c <;> rfl
theorem NQ {c d:Chunk} (h:kd c=kd d) (g:Gh) (i b:Nat):c.own g i b=d.own g i b:=by
 cases c <;> cases d <;> first|rfl|(simp[kd]at h;done)
structure Gh.eb (g g':Gh):Prop where
 n:g'.n=g.n
 B:g'.B=g.B
 V:g'.V=g.V
 L:g'.L=g.L
 k:g'.k=g.k
 W:g'.W=g.W
 M:g'.M=g.M
theorem Gh.eb.own {g g':Gh} (h:g.eb g') (c:Chunk) (i b:Nat):c.own g' i b=c.own g i b:=Chunk.oH (by rw[h.B]) (by rw[h.V]) (by rw[h.W]) (by rw[h.M])
theorem Gh.eb.trans {a b c:Gh} (h:a.eb b) (h':b.eb c):a.eb c:=⟨h'.n.trans h.n,h'.B.trans h.B,h'.V.trans h.V,h'.L.trans h.L,h'.k.trans h.k,h'.W.trans h.W,h'.M.trans h.M⟩
theorem Inv.start {g:Gh} {env:Env} {E:List Chunk} {tmps:Array Value} {w:World} (hS:fg g E w) (hE:ER g env tmps):Inv ⟨g,E,w⟩ g env E tmps w :=
 ⟨hE,hS,⟨rfl,rfl,jz.refl _,abr _,fun _ _ _=>rfl,fun _ _ h=>h,fun _ _ h=>.inl h,fun i b h=>.inr ⟨i,h⟩,adv hS.len,fun _ _=>⟨rfl,rfl,rfl⟩,rfl,fun i h1=>AU h1,fun _ _ _ _=>rfl,fun _ _=>abr _⟩⟩
theorem Be {g:Gh} {env:Env} {E:List Chunk} {tmps:Array Value} {w:World} {i:Nat} {T:TypeId} {cs:List AV} (hS:fg g E w) (hE:ER g env tmps) (hc:af E i=.cells T cs) :
  ∃ g',fg g' (cY (jI i cs) (bh E i .none)) w∧ER g' (bj (jI i cs) env) tmps∧g.eb g'∧(∀ b o,g.Φ b=some o→g'.Φ b=some o)∧(∀ b o,g'.Φ b=some o→g.Φ b=some o∨(af E i).own g i b)∧(∀ b,(af E i).own g i b→∃ o,g'.Φ b=some o):=by
 have hs:=hS.sat i
 rw[hc]at hs
 obtain⟨vs,hb,Ee⟩:=hs
 have hblk:(af E i).own g i (g.B i):=by rw[hc];rfl
 have hi:i<ah E:=AS hblk
 let g':Gh:={ g with Φ:=fun b=>if b=g.B i then w.heap[g.B i]? else g.Φ b }
 have hΦ:∀ b o,g.Φ b=some o→g'.Φ b=some o:=by
  intro b o hb
  show(if b=g.B i then w.heap[g.B i]? else g.Φ b)=some o
  rw[if_neg (fun e=>by subst e;rw[hS.dQ i _ hblk]at hb;cases hb)];exact hb
 have rL:∀ v u,isRef v=true→R g v u→R g' (jI i cs v) u:=by
  intro v u hv hr
  cases hr <;> first|(cases hv;done)|skip
  ·rename_i j off hj
   simp only[jI];split
   ·rename_i j8
    have j8:=abl j8
    subst j8
    have hx:∀ (k:Nat) (y:AV),cs[k]?=some y→∃ u,vs[k]?=some u∧R g y u:=fun k y hy=>by
     obtain⟨u,h1,h2⟩:=Ee.get hy
     exact⟨u,by simpa using h1,h2⟩
    have:=R.cL (g:=g') cs off (g.B j) 0 (fun k=>vs.getD k Go.undef) (fun k y hy=>?_) (fun k y hy=>?_)
    ·simpa using this
    ·obtain⟨u,h1,h2⟩:=hx k y hy
     refine⟨_,_,vs,T,(0,0),rfl,?_,by simp[h1,abJ]⟩
     show(if g.B j=g.B j then w.heap[g.B j]? else g.Φ (g.B j))=_
     rw[if_pos rfl];exact hb
    ·obtain⟨u,h1,h2⟩:=hx k y hy
     have e:vs.getD k Go.undef=u:=by simp[h1,abJ]
     simp only[e]
     have:=R.map (g:=g) (g':=g') id hΦ (fun v u hv h=>?_) h2
     ·rwa [iu]at this
     ·cases h <;> first|(cases hv;done)|skip
      ·exact .ptr (g:=g') _ _ ‹_›
      ·exact .bl (g:=g') _ _ _ _ ‹_› ‹_›
      ·rename_i hi hL hn hs
       exact .vec (g:=g') _ _ _ _ _ _ hi hL hn hs
      ·exact .mp (g:=g') _ ‹_›
      ·rename_i hi hf
       exact .hp (g:=g') _ _ hi hf
      ·rename_i hi hf
       exact .hm (g:=g') _ _ hi hf
   ·exact .ptr (g:=g') j off hj
  ·rename_i j sz idx off hj hL
   simp only[jI];split
   ·exact .undef _
   ·exact .bl (g:=g') j sz idx off hj hL
  ·rename_i j s o n A c hj hL hn sQ
   simp only[jI];split
   ·exact .undef _
   ·exact .vec (g:=g') j s o n A c hj hL hn sQ
  ·rename_i j hj
   simp only[jI];split
   ·exact .undef _
   ·exact .mp (g:=g') j hj
  ·rename_i j f hj hf
   simp only[jI];split
   ·exact .undef _
   ·exact .hp (g:=g') j f hj hf
  ·rename_i j f hj hf
   simp only[jI];split
   ·exact .undef _
   ·exact .hm (g:=g') j f hj hf
 have cA:∀ j,af (cY (jI i cs) (bh E i .none)) j=if i=j then .none else dv (jI i cs) (af E j):=by
  intro j
  rw[fE,bC]
  by_cases cD:i=j
  ·subst cD;simp[hi,dv]
  ·simp[cD]
 have yV:∀ j b,(af (cY (jI i cs) (bh E i .none)) j).own g' j b→i≠j∧(af E j).own g j b:=by
  intro j b hj
  rw[cA]at hj
  split at hj
  ·cases hj
  ·rename_i cD
   rw[jb]at hj
   exact⟨cD,hj⟩
 refine⟨g',⟨by rw[eK,ck];exact hS.len,fun b o dJ=>?_,fun j=>?_,fun j k b hj hk=>hS.lL j k b (yV j b hj).2 (yV k b hk).2,fun j b hj=>?_⟩,fun t=>?_,⟨rfl,rfl,rfl,rfl,rfl,rfl,rfl⟩,hΦ,fun b o dJ=>?_,fun b dJ=>?_⟩
 ·have lR:(if b=g.B i then w.heap[g.B i]? else g.Φ b)=some o:=dJ
  clear dJ
  split at lR
  ·rename_i e;rw[e];exact lR
  ·exact hS.dA b o lR
 ·rw[cA]
  split
  ·trivial
  ·exact Chunk.pJ (g:=g) (g':=g') _ hΦ rL rfl rfl rfl rfl rfl rfl (fun h=>h) (fun _ _=>rfl) (hS.sat j)
 ·obtain⟨h1,h2⟩:=yV j b hj
  show(if b=g.B i then w.heap[g.B i]? else g.Φ b)=none
  rw[if_neg (fun e=>by subst e;exact h1 (hS.lL i j _ hblk h2))]
  exact hS.dQ j b h2
 ·rw[cZ];exact R.map (g:=g) (g':=g') _ hΦ rL (hE t)
 ·have lR:(if b=g.B i then w.heap[g.B i]? else g.Φ b)=some o:=dJ
  clear dJ
  split at lR
  ·rename_i e;rw[e];exact .inr hblk
  ·exact .inl lR
 ·rw[hc]at dJ
  cases dJ
  refine⟨.cells vs T (0,0),?_⟩
  show(if g.B i=g.B i then w.heap[g.B i]? else g.Φ (g.B i))=_
  rw[if_pos rfl];exact hb
theorem sD {tmps:Array Value} {w:World}:∀ (φ:List Nat) {g:Gh} {env:Env} {E:List Chunk} {K:Env→List Chunk→Prop},fg g E w→ER g env tmps→yY φ env E K →
  ∃ g' aj E',fg g' E' w∧ER g' aj tmps∧K aj E'∧g.eb g'∧(∀ b o,g.Φ b=some o→g'.Φ b=some o)∧(∀ b o,g'.Φ b=some o→g.Φ b=some o∨∃ i∈φ,(af E i).own g i b) ∧
   ah E'=ah E∧(∀ i,i∈φ→af E' i=.none)∧(∀ i,i∉φ→kd (af E' i)=kd (af E i))∧(∀ i∈φ,∀ b,(af E i).own g i b→∃ o,g'.Φ b=some o)
 | [],g,env,E,K,hS,hE,hk=>⟨g,env,E,hS,hE,hk,⟨rfl,rfl,rfl,rfl,rfl,rfl,rfl⟩,fun _ _ h=>h,fun _ _ h=>.inl h,rfl,by simp,fun _ _=>rfl,by simp⟩
 | i::r,g,env,E,K,hS,hE,hk=>by
  have go:∀ (f:AV→AV) (g1:Gh),fg g1 (cY f (bh E i .none)) w→ER g1 (bj f env) tmps→g.eb g1→(∀ b o,g.Φ b=some o→g1.Φ b=some o)→(∀ b o,g1.Φ b=some o→g.Φ b=some o∨(af E i).own g i b)→(∀ b,(af E i).own g i b→∃ o,g1.Φ b=some o) →
    yY r (bj f env) (cY f (bh E i .none)) K→∃ g' aj E',fg g' E' w∧ER g' aj tmps∧K aj E'∧g.eb g'∧(∀ b o,g.Φ b=some o→g'.Φ b=some o)∧(∀ b o,g'.Φ b=some o→g.Φ b=some o∨∃ j∈i::r,(af E j).own g j b) ∧
     ah E'=ah E∧(∀ j,j∈i::r→af E' j=.none)∧(∀ j,j∉i::r→kd (af E' j)=kd (af E j))∧(∀ j∈i::r,∀ b,(af E j).own g j b→∃ o,g'.Φ b=some o):=by
   intro f g1 h1 h2 h3 h4 h5 TT h6
   obtain⟨g',aj,E',e1,e2,e3,e4,e5,e6,e7,e8,e9,YT⟩:=sD r h1 h2 h6
   have cA:∀ j,af (cY f (bh E i .none)) j=.none∨(i≠j∧af (cY f (bh E i .none)) j=dv f (af E j)):=by
    intro j
    rw[fE,bC]
    by_cases cD:i=j
    ·subst cD
     by_cases hl:i<ah E
     ·left;simp[hl,dv]
     ·left;rw[kR E i (by omega)];simp[dv]
    ·right;exact⟨cD,by simp[cD]⟩
   refine⟨g',aj,E',e1,e2,e3,h3.trans e4,fun b o hb=>e5 b o (h4 b o hb),fun b o hb=>?_,by rw[e7,eK,ck],fun j hj=>?_,fun j hj=>?_,fun j hj b hb=>?_⟩
   ·rcases e6 b o hb with h7|⟨j,hj,h7⟩
    ·rcases h5 b o h7 with h8|h8
     ·exact .inl h8
     ·exact .inr ⟨i,abq ..,h8⟩
    ·rcases cA j with h8|⟨_,h8⟩
     ·rw[h8]at h7;cases h7
     ·rw[h8,jb,h3.own]at h7
      exact .inr ⟨j,abn _ hj,h7⟩
   ·by_cases U1:j∈r
    ·exact e8 j U1
    ·rcases abE.1 hj with rfl|hj
     ·have:=e9 j U1
      rcases cA j with h8|⟨h8,_⟩
      ·rw[h8]at this
       cases hc:af E' j <;> rw[hc]at this <;> first|rfl|(simp[kd]at this;done)
      ·exact(h8 rfl).elim
     ·exact(U1 hj).elim
   ·have lM:i≠j∧j∉r:=⟨fun e=>hj (e▸abq ..),fun h=>hj (abn _ h)⟩
    rw[e9 j lM.2,fE,bC,if_neg (fun h=>lM.1 h.1),NP]
   ·by_cases cD:i=j
    ·subst cD
     obtain⟨o,ho⟩:=TT b hb
     exact⟨o,e5 b o ho⟩
    ·rcases abE.1 hj with e|hj
     ·exact(cD e.symm).elim
     ·refine YT j hj b ?_
      rw[fE,bC,if_neg (fun h=>cD h.1),jb,h3.own];exact hb
  simp only[yY]at hk
  split at hk <;> try exact hk.elim
  ·rename_i T t xs hc
   rw[dn,bf]at hk
   obtain⟨g1,cM,E1,cs1,h1,_,⟨rfl,rfl⟩,h3,h4,h5,h6⟩:=Cq (cs:=[]) (us:=[]) (K:=fun aj E' _=>aj=bj (oz i t xs) env∧E'=cY (oz i t xs) (bh E i .none)) (Inv.start hS hE) trivial (by unfold im;rw[hc];simp[dn,bf,fA])
   exact go _ g1 h1.aZ h1.er ⟨h3.1,h3.2.1,h3.2.2.1,h3.2.2.2.1,h3.2.2.2.2.1,h3.2.2.2.2.2.1,h3.2.2.2.2.2.2⟩ h4 h5 h6 hk
  ·rename_i T cs hc
   rw[dn,bf]at hk
   obtain⟨g1,h1,h2,h3,h4,h5,h6⟩:=Be hS hE hc
   exact go _ g1 h1 h2 h3 h4 h5 h6 hk
structure Grown (w w':World):Prop where
 os:w'.os=w.os
 tape:w'.tape=w.tape
 output:jz w w'
 size:w.heap.size≤w'.heap.size
 same:∀ b,b<w.heap.size→w'.heap[b]?=w.heap[b]?
structure Kept (own jd:Nat→Prop) (w w':World):Prop where
 os:w'.os=w.os
 tape:w'.tape=w.tape
 output:jz w w'
 size:w.heap.size≤w'.heap.size
 cE:∀ b,b<w.heap.size→¬own b→w'.heap[b]?=w.heap[b]?
 own:∀ b,jd b→own b∨w.heap.size≤b
 lt:∀ b,jd b→b<w'.heap.size
structure gG (P:Program) (gf:FuncId) (lb:List AV) {α:Type} (iz:α→List AV) (xs:List α):Prop where
 aA:fY P gf
 h:∀ (g:Gh) (w:World) (aD:List Value) (l:Nat),fg g [] w→RL g lb aD →
  ∀ (J:Nat→(Nat→Prop)→World→Prop) (Jx:(Nat→Prop)→World→Prop) (Ka:Nat→Prop),
  (∀ k own W W',J k own W→Grown W W'→J k own W')→(∀ own W W',Jx own W→Grown W W'→Jx own W') →
  (∀ b,Ka b→b<w.heap.size∧g.Φ b=none)→J 0 Ka w →
  (∀ k x own W us,xs[k]?=some x→J k own W→(∀ b,own b→b<W.heap.size)→(∀ g',RL g' (iz x) us) →
   YieldAt Fence.wide 0 P l us.toArray W (fun e W'=>∃ jd,Kept own jd W W'∧((e=.returned (.bool true)∧J (k+1) jd W')∨(e=.returned (.bool false)∧Jx jd W')))) →
  Calls P gf (.func (.yield l) #[] #[]::aD).toArray w (fun e W'=>(∃ v,e=.returned v)∧((∃ own,J xs.length own W')∨∃ own,Jx own W'))
theorem Gh.Q4 {g g':Gh} (hn:g'.n=g.n) (hB:g'.B=g.B) (hV:g'.V=g.V) (hL:g'.L=g.L) (hW:g'.W=g.W) (hM:g'.M=g.M) (hΦ:∀ b o,g.Φ b=some o→g'.Φ b=some o) {v:AV} {u:Value} (h:R g v u):R g' v u:=by
 refine R.mono (g:=g) (g':={ n:=g.n,Φ:=g'.Φ,B:=g.B,V:=g.V,L:=g.L,k:=g.k,W:=g.W,M:=g.M }) ⟨abr _,hΦ,fun _ _=>rfl,fun _ _=>rfl,fun _ _=>rfl,rfl,fun _ _ _ _=>rfl,fun _ _=>abr _⟩ h |> fun h=>?_
 refine R.map (g:={ n:=g.n,Φ:=g'.Φ,B:=g.B,V:=g.V,L:=g.L,k:=g.k,W:=g.W,M:=g.M }) (g':=g') id (fun _ _ h=>h) (fun v u hv h=>?_) h |> fun h=>by rwa [iu]at h
 cases h <;> first|(cases hv;done)|skip
 ·rename_i i off hi
  show R g' (.ptr i off) (.pointer (some ⟨g.B i,off,none⟩))
  rw[←hB];exact .ptr _ _ (by rw[hn];exact hi)
 ·rename_i i sz idx off hi Ec
  show R g' (.bl i sz idx off) (.pointer (some ⟨g.B i,_,none⟩))
  rw[←hB];exact .bl _ _ _ _ (by rw[hn];exact hi) (by rw[hL];exact Ec)
 ·rename_i i sz off n A c hi Ec rH hs
  exact .vec _ _ _ _ _ _ (by rw[hn];exact hi) (by rw[hL];exact Ec) (by rw[hV];exact rH) (by rw[hV,hB];exact hs)
 ·rename_i i hi
  show R g' (.mp i) (.map (some (g.B i)))
  rw[←hB];exact .mp _ (by rw[hn];exact hi)
 ·rename_i i f hi hf
  have:=R.hp (g:=g') i f (by rw[hn];exact hi) (by rw[hM];exact hf)
  rw[hW]at this;exact this
 ·rename_i i f hi hf
  have:=R.hm (g:=g') i f (by rw[hn];exact hi) (by rw[hM];exact hf)
  rw[hW]at this;exact this
def NR (N:Nat) (J:Nat→(Nat→Prop)→World→Prop) (Jx:(Nat→Prop)→World→Prop) (B:bU):Prop :=
 (∃ k,B.E=[.count k])∧∃ own,(∀ b,own b→b<B.w.heap.size∧B.g.Φ b=none)∧((B.g.k≤N∧J B.g.k own B.w)∨(B.g.k=N+1∧Jx own B.w))
theorem Ext.grown {B:bU} {g:Gh} {E:List Chunk} {w:World} (h:Ext B g E w) (hE:∃ k,B.E=[.count k]):Grown B.w w :=
 ⟨h.os,h.tape,h.output,h.size,fun b hb=>h.cE b hb (fun⟨i,hi⟩=>by
  obtain⟨k,hk⟩:=hE
  rw[hk]at hi
  cases i with
  | zero=>cases hi
  | succ i=>simp[af]at hi;cases hi)⟩
theorem pL {g:Gh} {E:List Chunk} {w:World} (hl:ah E=g.n):Ext ⟨g,E,w⟩ g E w :=
 ⟨rfl,rfl,jz.refl _,abr _,fun _ _ _=>rfl,fun _ _ h=>h,fun _ _ h=>.inl h,fun i b h=>.inr ⟨i,h⟩,adv hl,fun _ _=>⟨rfl,rfl,rfl⟩,rfl,fun i h1=>AU h1,fun _ _ _ _=>rfl,fun _ _=>abr _⟩
theorem tf.intro {P:Program} {α:Type} {iz:α→List AV} {xs:List α} {S:Sc} {J:Nat→(Nat→Prop)→World→Prop} {Jx:(Nat→Prop)→World→Prop} {l:Nat}
  (hS:∀ B,S.at_ B↔NR xs.length J Jx B) (ao:S.ok=false) (hJ:∀ k own W W',J k own W→Grown W W'→J k own W')
  (flat:∀ x g g' us,RL g (iz x) us→RL g' (iz x) us)
  (hy:∀ k x own W us,xs[k]?=some x→J k own W→(∀ b,own b→b<W.heap.size)→(∀ g',RL g' (iz x) us) →
   YieldAt Fence.wide 0 P l us.toArray W (fun e W'=>∃ jd,Kept own jd W W'∧((e=.returned (.bool true)∧J (k+1) jd W')∨(e=.returned (.bool false)∧Jx jd W'))))
  {args:List AV} {env cM:Env} {E:List Chunk} {K:AV→Env→List Chunk→Prop} (k:Nat) (x:α) (hx:xs[k]?=some x) (ha:sC [0] args (iz x)) (hle:Le [false] [0] env E cM [.count fun _=>k])
  (kt:K .tt cM [.count fun _=>k+1]) (kf:K .ff cM [.count fun _=>xs.length+1]):tf P S l args env E K where
 h:=by
  intro g a w aD hI hr
  have oC:=fv args (iz x) aD ha hr
  obtain⟨B,hB,h,hd⟩:=Iv.dO (M:=[false]) (fun B hB=>by obtain⟨⟨k,hk⟩,_⟩:=(hS B).1 hB;rw[hk];rfl) hI hle
  obtain⟨hE,own,ho,U2⟩:=(hS B).1 hB
  have P0:a.defers=[]:=hd.1 ao
  generalize TU:g.dO [0]=g1 at h oC
  have hk:k=g1.k:=h.aZ.sat 0
  have Xu:g1.k=B.g.k:=h.ext.kk
  have Nq:=(abk.1 hx).1
  have lE:=h.ext.grown hE
  have YU:J k own w:=by
   rcases U2 with⟨_,h1⟩|⟨h1,_⟩
   ·rw[hk,Xu];exact hJ _ _ _ _ h1 lE
   ·omega
  have bm:∀ b,own b→b<w.heap.size:=fun b hb=>abB (ho b hb).1 lE.size
  obtain⟨fn,tm,az,body,h1,h2⟩:=hy k x own w aD hx YU bm (fun g'=>flat x g1 g' aD oC)
  refine⟨fn,tm,az,body,h1,h2.mono ?_⟩
  rintro e W' ⟨jd,hK,yZ⟩
  have hΦo:∀ b o,g1.Φ b=some o→¬own b∧b<w.heap.size:=by
   intro b o hb
   refine⟨fun dZ=>?_,bt (h.aZ.dA b o hb)⟩
   obtain⟨h3,h4⟩:=ho b dZ
   rcases h.ext.fS b o hb with h5|h5|⟨i,hi⟩
   ·rw[h4]at h5;cases h5
   ·omega
   ·obtain⟨k',wO⟩:=hE
    rw[wO]at hi
    cases i with
    | zero=>cases hi
    | succ i=>simp[af]at hi;cases hi
  have new:∀ (m:Nat),(m≤xs.length∧J m jd W'∨m=xs.length+1∧Jx jd W')→Iv S { g1 with k:=m } cM [.count fun _=>m] a W':=by
   intro m hm
   have Bf:g1.n=1:=h.aZ.len.symm
   have hb:∀ (i b:Nat),¬(af [Chunk.count fun _=>m] i).own { g1 with k:=m } i b:=fun i b h=>by cases i <;> cases h
   have GV:fg { g1 with k:=m } [.count fun _=>m] W':=by
    refine⟨Bf.symm,fun b o CF=>?_,fun i=>?_,fun i j b hi=>?_,fun i b hi=>?_⟩
    ·obtain⟨h3,h4⟩:=hΦo b o CF
     rw[hK.cE b h4 h3];exact h.aZ.dA b o CF
    ·cases i with
     | zero=>rfl
     | succ i=>trivial
    ·exact(hb _ _ hi).elim
    ·exact(hb _ _ hi).elim
   refine⟨⟨{ g1 with k:=m },[.count fun _=>m],W'⟩,(hS _).2 ⟨⟨_,rfl⟩,jd,fun b CF=>⟨hK.lt b CF,?_⟩,hm⟩,⟨fun t=>Gh.Q4 (g:=g1) (g':={ g1 with k:=m }) rfl rfl rfl rfl rfl rfl (fun _ _ h=>h) (h.er t),GV,pL Bf.symm⟩,fun _=>P0,[],P0,acd,by simp⟩
   cases hp:g1.Φ b with
   | none=>rfl
   | some o =>
    obtain⟨h3,h4⟩:=hΦo b o hp
    rcases hK.own b CF with h5|h5
    ·exact(h3 h5).elim
    ·omega
  rcases yZ with⟨rfl,hj⟩|⟨rfl,hj⟩
  ·exact⟨_,.tt,_,_,_,rfl,new (k+1) (.inl ⟨by omega,hj⟩),.tt,kt⟩
  ·exact⟨_,.ff,_,_,_,rfl,new (xs.length+1) (.inr ⟨rfl,hj⟩),.ff,kf⟩
theorem gG.intro {P:Program} (hm:P.follows .mixedOrders=true) {gf:FuncId} {fn:Func} {c:Code} {lb:List AV} {α:Type} {iz:α→List AV} {xs:List α}
  (hf:P.funcs[gf]?=some fn) (hb:fn.body=some c) (pz:fn.name ≠ "runtime.NumGoroutine") (hn:(lb.length+1)≤fn.ntmps) (flat:∀ x g g' us,RL g (iz x) us→RL g' (iz x) us)
  (h:∀ (S:Sc) (l:Nat),(∀ {args:List AV} {env:Env} {E:List Chunk} {K:AV→Env→List Chunk→Prop} (k:Nat) (x:α) (cM:Env),xs[k]?=some x→sC [0] args (iz x)→Le [false] [0] env E cM [.count fun _=>k] →
    K .tt cM [.count fun _=>k+1]→K .ff cM [.count fun _=>xs.length+1]→tf P S l args env E K) →
   jU (gB 0 (.fn (.yield l) [] []::lb)) fun env=>fH P fn.ntmps S [false] c env [.count fun _=>0] fun e aj E'=>match e with
    | .exit _=>False
    | _=>n0 P aj E' fn.results.toList fun _=>∃ m,pG [0] E' [0] [.count fun _=>m]∧(m=xs.length∨m=xs.length+1)):gG P gf lb iz xs where
 aA:=⟨fn,hf,by rw[hb];rfl,pz⟩
 h:=by
  intro g w aD l hS hr J Jx Ka hJ YV cT h0 hy
  obtain⟨S,Mb,ao⟩:∃ S:Sc,(∀ B,S.at_ B↔NR xs.length J Jx B)∧S.ok=false:=⟨⟨NR xs.length J Jx,0,false,by simp,by simp⟩,fun _=>Iff.rfl,rfl⟩
  have h:=h S l (fun {args env E K} k x cM hx ha hle kt kf=>tf.intro Mb ao hJ flat hy k x hx ha hle kt kf)
  rw[dn]at h
  have hl:=hr.length
  let g1:Gh:={ g with n:=1,k:=0 }
  have rK:g.n=0:=hS.len.symm
  have UO:∀ v u,R g v u→R g1 v u:=fun v u h=>R.map (g:=g) (g':=g1) id (fun _ _ h=>h) (fun v u hv h=>by
   cases h <;> first|(cases hv;done)|skip
   ·rename_i hi;rw[rK]at hi;omega
   ·rename_i hi _;rw[rK]at hi;omega
   ·rename_i hi _ _ _;rw[rK]at hi;omega
   ·rename_i hi;rw[rK]at hi;omega
   ·rename_i hi _;rw[rK]at hi;omega
   ·rename_i hi _;rw[rK]at hi;omega) h |> fun h=>by rwa [iu]at h
  have Ee:∀ (l:List AV) (us:List Value),RL g l us→RL g1 l us:=fun l us h=>RL.mk h.length (fun i y u h1 h2=>UO _ _ (h.at_ i y u h1 h2))
  have rG:RL g1 (.fn (.yield l) [] []::lb) (.func (.yield l) #[] #[]::aD):=RL.cons (R.DZ (az:=[]) (bs:=[]) (vs:=[]) (ws:=[]) trivial trivial) (Ee _ _ hr)
  have yV:∀ (i b:Nat),¬(af [Chunk.count fun _=>0] i).own g1 i b:=fun i b h=>by cases i <;> cases h
  have GV:fg g1 [.count fun _=>0] w:=by
   refine⟨rfl,hS.dA,fun i=>?_,fun i j b hi=>?_,fun i b hi=>?_⟩
   ·cases i with
    | zero=>rfl
    | succ i=>trivial
   ·exact(yV _ _ hi).elim
   ·exact(yV _ _ hi).elim
  refine iZ.1 (callsIn_of_wp_marks (F:=Fr none) (n:=0) hf hb trivial ?_)
  have UW:Iv S g1 (gB 0 (.fn (.yield l) [] []::lb)) [.count fun _=>0] { tmps:=(.func (.yield l) #[] #[]::aD).toArray++Array.replicate (fn.ntmps - (.func (.yield l) #[] #[]::aD).toArray.size) Go.undef,defers:=[] } w:=by
   refine⟨⟨g1,[.count fun _=>0],w⟩,(Mb _).2 ⟨⟨_,rfl⟩,Ka,cT,.inl ⟨abw _,h0⟩⟩,⟨ki 0 _ _ rG (fun j u hj=>?_),GV,pL rfl⟩,fun _=>rfl,[],rfl,acd,by simp⟩
   have lM:=(abk.1 hj).1
   rw[abJ,adL (by simpa using lM)]
   simp only[abx,ad7,hj,acY]
  have hw:=ja (S:=S) (M:=[false]) hm (fun B hB=>by obtain⟨⟨k,hk⟩,_⟩:=(Mb B).1 hB;rw[hk];rfl) c none (.inl rfl) UW (by simp;omega) h
  refine adD hw ?_
  rintro x a w' ⟨e,g',aj,E',rfl,⟨B,hB,h1,hd,_⟩,h3,h4⟩
  obtain⟨hE,own,ho,U2⟩:=(Mb B).1 hB
  have lE:=h1.ext.grown hE
  have fin:n0 P aj E' fn.results.toList (fun _=>∃ m,pG [0] E' [0] [.count fun _=>m]∧(m=xs.length∨m=xs.length+1)) →
    LeavesInM (Fr none) 0 P fn a.tmps (fun e W'=>(∃ v,e=.returned v)∧((∃ own,J xs.length own W')∨∃ own,Jx own W')) a.defers .returning w':=by
   intro h4
   rw[hd ao]
   obtain⟨l',cs,h5,h6,m,h7,h8⟩:=tD h1.aZ h1.er h4
   have hk:m=g'.k:=CA (g:=g') (π:=[0]) (i:=0) (j:=0) (w:=w') rfl _ _ h7.1 (h1.aZ.sat 0)
   have Xu:g'.k=B.g.k:=h1.ext.kk
   refine⟨_,h5,⟨_,rfl⟩,?_⟩
   rcases U2 with⟨h9,fm⟩|⟨h9,fm⟩
   ·left
    have:B.g.k=xs.length:=by omega
    rw[this]at fm
    exact⟨own,hJ _ _ _ _ fm lE⟩
   ·exact .inr ⟨own,YV _ _ _ fm lE⟩
  cases e with
  | normal=>exact fin h4
  | ret=>exact fin h4
  | exit n=>exact h4.elim
def isCells:Chunk→Bool
 | .cells _ _=>true|_=>false
def okF (ch:List Chunk):AV→AV
 | .ptr i o=>(match isCells (af ch i)with|true=>.ptr i o|false=>.undef)
 | .bl _ _ _ _=>.undef|.vec _ _ _ _=>.undef|.mp _=>.undef|.hp _ _=>.undef|.hm _ _=>.undef|v=>v
mutual
theorem tH (ch:List Chunk):∀ v:AV,du (okF ch) (du (okF ch) v)=du (okF ch) v
 | .agg cs=>by simp only[du];rw[iN ch cs]
 | .bM cs=>by simp only[du];rw[iN ch cs]
 | .cL cs o=>by simp only[du];rw[iN ch cs]
 | .fn g az bs=>by simp only[du];rw[iN ch az,iN ch bs]
 | .ot t v=>by simp only[du];rw[tH ch v]
 | .ptr i o=>by
  simp only[du,okF]
  split
  ·rename_i h;simp only[du,okF,h]
  ·rfl
 | .bl _ _ _ _|.vec _ _ _ _|.mp _|.hp _ _|.hm _ _|.undef|.skip|.int _ _|.bool _|.tt|.ff|.str _|.aG _ _|.bZ|.dI _ _ _|.aY|.gV|.j9|.ka=>rfl
theorem iN (ch:List Chunk):∀ l:List AV,fq (okF ch) (fq (okF ch) l)=fq (okF ch) l
 | []=>rfl
 | c::r=>by simp only[fq];rw[tH ch c,iN ch r]
end
theorem CG (ch:List Chunk):∀ env:Env,bj (okF ch) (bj (okF ch) env)=bj (okF ch) env
 | []=>rfl
 | (k,v)::r=>by simp only[bj];rw[tH ch v,CG ch r]
theorem GW {g g':Gh} {ch:List Chunk} (hn:g.n≤g'.n) (hB:∀ i,isCells (af ch i)=true→g'.B i=g.B i):∀ v u,isRef v=true→R g v u→R g' (okF ch v) u:=by
 intro v u hv hr
 cases hr <;> first|(cases hv;done)|skip
 ·rename_i i off hi
  simp only[okF]
  split
  ·rename_i h;rw[←hB i h];exact .ptr _ _ (abB hi hn)
  ·exact .undef _
 ·exact .undef _
 ·exact .undef _
 ·exact .undef _
 ·exact .undef _
 ·exact .undef _
theorem ER.okF {g g':Gh} {ch:List Chunk} {env:Env} {tmps:Array Value} (h:ER g env tmps) (hn:g.n≤g'.n) (hΦ:∀ b o,g.Φ b=some o→g'.Φ b=some o) (hB:∀ i,isCells (af ch i)=true→g'.B i=g.B i):ER g' (bj (okF ch) env) tmps :=
 fun t=>by rw[cZ];exact R.map (g:=g) (g':=g') _ hΦ (GW hn hB) (h t)
def n4:List Nat→List AV→Env→Env
 | p::ps,v::vs,env=>n4 ps vs ((p,v)::env)|_,_,env=>env
theorem ER.n4 {g:Gh}:∀ (ps:List Nat) (vs:List AV) (us:List Value) {env:Env} {tmps:Array Value},ER g env tmps→RL g vs us→(∀ p∈ps,p<tmps.size)→ps.length=vs.length →
  ER g (Fw.n4 ps vs env) ((ps.zip us).foldl (fun t (p,v)=>t.setIfInBounds p v) tmps)
 | [],[],[],_,_,h,_,_,_=>h
 | p::ps,v::vs,u::us,env,tmps,h,hr,hp,hl=>by
  simp only[Fw.n4,List.zip_cons_cons,List.foldl_cons]
  exact ER.n4 ps vs us (h.put hr.1 (hp p (abq ..))) hr.2 (fun q hq=>by simpa using hp q (abn _ hq)) (by simpa using hl)
 | [],[],_::_,_,_,_,h,_,_=>h.elim
 | [],_::_,_,_,_,_,_,_,h=>by simp at h
 | _::_,[],_,_,_,_,_,_,h=>by simp at h
 | _::_,_::_,[],_,_,_,h,_,_=>h.elim
def bO (ch:List Chunk) (i:Nat):Bool:=match af ch i with|.cells _ _=>true|.au _ _ _=>true|_=>false
mutual
def y0 (ch:List Chunk):AV→Bool
 | .aG _ _=>false|.dI _ _ _=>false|.cL _ _=>false|.mp _=>false|.hp _ _=>false|.hm _ _=>false
 | .ptr i _=>bO ch i|.bl i _ _ _=>bO ch i|.vec i _ _ _=>bO ch i
 | .agg cs=>ml ch cs|.bM cs=>ml ch cs|.fn _ az bs=>(match ml ch az with|true=>ml ch bs|false=>false)|.ot _ v=>y0 ch v
 | _=>true
def ml (ch:List Chunk):List AV→Bool
 | []=>true|c::r=>(match y0 ch c with|true=>ml ch r|false=>false)
end
def y5:Ty→Bool
 | .list _=>false|.pair a b=>(match y5 a with|true=>y5 b|false=>false)|_=>true
def y6 (ch:List Chunk):Chunk→Bool
 | .cells _ cs=>ml ch cs|.au _ t _=>y5 t|.none=>true|.count _=>false|.jC _ _ _=>false|.row _ _ _=>false|.heap _=>false|.jD _ _ _ _=>false|.jy _ _=>false|.bg _=>false
def n5 (ch:List Chunk):List Chunk→Bool
 | []=>true|c::r=>(match y6 ch c with|true=>n5 ch r|false=>false)
theorem GX {ch:List Chunk} {c:Chunk} (h:y6 ch c=true):AW c=true:=by cases c <;> first|rfl|cases h
theorem fi {ch:List Chunk}:∀ {E:List Chunk},n5 ch E=true→∀ i,y6 ch (af E i)=true
 | [],_,i=>rfl
 | c::r,h,i=>by
  simp only[n5]at h
  split at h
  ·rename_i hc
   cases i with
   | zero=>exact hc
   | succ i=>exact fi h i
  ·cases h
structure pM (ch:List Chunk) (g g':Gh):Prop where
 n:g.n≤g'.n
 B:∀ i,bO ch i=true→g'.B i=g.B i
 V:∀ i,bO ch i=true→g'.V i=g.V i
 L:∀ i,bO ch i=true→g'.L i=g.L i
mutual
theorem tI {ch:List Chunk} {g g':Gh} (hg:pM ch g g'):∀ (v:AV) (u:Value),y0 ch v=true→R g v u→R g' v u
 | .agg cs,u,h,hr=>by
  obtain⟨vs,rfl,hl⟩:=hr.gF
  simpa using R.iV (je hg cs vs.toList h hl)
 | .bM cs,u,h,hr=>by
  obtain⟨vs,rfl,hl⟩:=hr.sw
  simpa using R.il (je hg cs vs.toList h hl)
 | .fn f az bs,u,h,hr=>by
  cases hr with|fn _ _ _ vs ws hl lK hr rG =>
  simp only[y0]at h
  split at h
  ·rename_i h1
   simpa using R.DZ (f:=f) (je hg az vs.toList h1 (RL.mk (by simpa using hl) fun i y u h1 h2=>hr i y u h1 (by simpa using h2))) (je hg bs ws.toList h (RL.mk (by simpa using lK) fun i y u h1 h2=>rG i y u h1 (by simpa using h2)))
  ·cases h
 | .ot t v,u,h,hr=>by cases hr with|ot _ _ u hr=>exact .ot _ _ _ (tI hg v u h hr)
 | .ptr i o,u,h,hr=>by cases hr with|ptr _ _ hi=>rw[←hg.B i h];exact .ptr _ _ (abB hi hg.n)
 | .bl i s x o,u,h,hr=>by cases hr with|bl _ _ _ _ hi hL=>rw[←hg.B i h];exact .bl _ _ _ _ (abB hi hg.n) (by rw[hg.L i h];exact hL)
 | .vec i s o n,u,h,hr=>by cases hr with|vec _ _ _ _ A c hi hL hn hs=>exact .vec _ _ _ _ A c (abB hi hg.n) (by rw[hg.L i h];exact hL) (by rw[hg.V i h];exact hn) (by rw[hg.V i h,hg.B i h];exact hs)
 | .undef,u,h,hr=>.undef _
 | .skip,u,h,hr=>by cases hr;exact .skip
 | .int k n,u,h,hr=>by cases hr;exact .int _ _
 | .bool b,u,h,hr=>by cases hr;exact .bool _
 | .tt,u,h,hr=>by cases hr;exact .tt
 | .ff,u,h,hr=>by cases hr;exact .ff
 | .str s,u,h,hr=>by cases hr;exact .str _
 | .bZ,u,h,hr=>by cases hr;exact .bZ
 | .aY,u,h,hr=>by cases hr;exact .aY
 | .gV,u,h,hr=>by cases hr;exact .gV
 | .j9,u,h,hr=>by cases hr;exact .j9
 | .ka,u,h,hr=>by cases hr;exact .ka
 | .aG _ _,u,h,hr=>by cases h
 | .dI _ _ _,u,h,hr=>by cases h
 | .cL _ _,u,h,hr=>by cases h
 | .mp _,u,h,hr=>by cases h
 | .hp _ _,u,h,hr=>by cases h
 | .hm _ _,u,h,hr=>by cases h
theorem je {ch:List Chunk} {g g':Gh} (hg:pM ch g g'):∀ (l:List AV) (us:List Value),ml ch l=true→RL g l us→RL g' l us
 | [],[],_,_=>trivial
 | c::r,u::us,h,hr=>by
  simp only[ml]at h
  split at h
  ·rename_i h1;exact⟨tI hg c u h1 hr.1,je hg r us h hr.2⟩
  ·cases h
 | [],_::_,_,hr=>hr.elim
 | _::_,[],_,hr=>hr.elim
end
theorem qZ (ch:List Chunk):∀ (t:Ty) (x:Unit→t.den),y5 t=true→ml ch (enc t x [])=true
 | .int _,_,_=>rfl
 | .bool,_,_=>rfl
 | .str,_,_=>rfl
 | .list _,_,h=>by cases h
 | .pair a b,x,h=>by
  simp only[y5]at h
  split at h
  ·rename_i h1
   have ha:=qZ ch a (fun u=>(x u).1) h1
   have hb:=qZ ch b (fun u=>(x u).2) h
   simp only[enc]
   rw[cR]
   generalize enc a (fun u=>(x u).1) []=l at ha
   induction l with
   | nil=>exact hb
   | cons c r ih =>
    simp only[ml]at ha
    split at ha
    ·rename_i hc;simp only[acR,ml,hc];exact ih ha
    ·cases ha
  ·cases h
theorem vN {ch:List Chunk} {g g':Gh} (hg:pM ch g g') {i:Nat} {w w':World} {c:Chunk} (ha:bO ch i=true∨c=.none) (hc:y6 ch c=true) (hw:∀ b,c.own g i b→w'.heap[b]?=w.heap[b]?) (h:c.sat g i w):c.sat g' i w':=by
 cases c with
 | none=>trivial
 | count k=>cases hc
 | jC _ _ _=>cases hc
 | row _ _ _=>cases hc
 | heap _=>cases hc
 | jD _ _ _ _=>cases hc
 | jy _ _=>cases hc
 | bg _=>cases hc
 | cells T cs =>
  have ha:=ha.resolve_right (by simp)
  obtain⟨vs,h1,h2⟩:=h
  exact⟨vs,by rw[hg.B i ha,hw _ rfl];exact h1,je hg _ _ hc h2⟩
 | au T t xs =>
  have ha:=ha.resolve_right (by simp)
  obtain⟨h1,h2,h3⟩:=h
  refine⟨by rw[hg.L i ha];exact h1,by rw[hg.V i ha];exact h2,fun cap cX=>?_⟩
  rw[hg.V i ha]at cX
  obtain⟨vs,h4,h5,h6,h7⟩:=h3 cap cX
  exact⟨vs,by rw[hg.B i ha,hw _ (by simp[Chunk.own,cX])];exact h4,h5,h6,fun k x hx=>je hg _ _ (qZ ch t _ hc) (h7 k x hx)⟩
def fb:List Chunk→List Chunk→Bool
 | [],[]=>true
 | .none::r,.none::s=>fb r s|.cells _ _::r,.cells _ _::s=>fb r s|.au _ _ _::r,.au _ _ _::s=>fb r s|_,_=>false
theorem pN:∀ {E E':List Chunk},fb E E'=true→bB E'=bB E
 | [],[],_=>rfl
 | [],_::_,h=>by simp[fb]at h
 | _::_,[],h=>by simp[fb]at h
 | c::r,d::s,h=>by
  have h':fb r s=true∧kd d=kd c:=by cases c <;> cases d <;> first|(simp[fb]at h;done)|exact⟨h,rfl⟩
  have hr:=pN h'.1
  have hk:=h'.2
  cases c <;> cases d <;> first|(simp[kd]at hk;done)|(simp only[bB,hr,dj])
theorem ni:∀ {E E':List Chunk},fb E E'=true→ah E'=ah E∧∀ i,kd (af E' i)=kd (af E i)
 | [],[],_=>⟨rfl,fun _=>rfl⟩
 | c::r,d::s,h=>by
  have h':fb r s=true∧kd d=kd c:=by cases c <;> cases d <;> first|(simp[fb]at h;done)|exact⟨h,rfl⟩
  obtain⟨h1,h2⟩:=ni h'.1
  refine⟨by simp[ah,h1],fun i=>?_⟩
  cases i with
  | zero=>exact h'.2
  | succ i=>exact h2 i
 | [],_::_,h=>by simp[fb]at h
 | c::_,[],h=>by cases c <;> simp[fb]at h
def xe (φ:List Nat) (E:List Chunk):AV→AV
 | .ptr i o=>(match xb φ i with|true=>.ptr i o|false=>(match isCells (af E i)with|true=>.ptr i o|false=>.undef))
 | .bl i s x o=>(match xb φ i with|true=>.bl i s x o|false=>.undef)
 | .vec i s o n=>(match xb φ i with|true=>.vec i s o n|false=>.undef)
 | .mp i=>.undef
 | .hp _ _=>.undef
 | .hm _ _=>.undef
 | v=>v
def kV (f:AV→AV) (φ:List Nat):Nat→List Chunk→List Chunk→List Chunk
 | _,[],_=>[]
 | k,c::r,d::s=>(match xb φ k with|true=>dv f c|false=>d)::kV f φ (k+1) r s
 | k,c::r,[]=>(match xb φ k with|true=>dv f c|false=>.none)::kV f φ (k+1) r []
theorem tJ (f:AV→AV) (φ:List Nat):∀ (E ch:List Chunk) (k:Nat),ah (kV f φ k E ch)=ah E
 | [],_,_=>rfl
 | c::r,d::s,k=>by simp[kV,ah,tJ f φ r s]
 | c::r,[],k=>by simp[kV,ah,tJ f φ r []]
theorem xf (f:AV→AV) (φ:List Nat):∀ (E ch:List Chunk) (k i:Nat),ah ch≤ah E→af (kV f φ k E ch) i=if xb φ (k+i)=true then dv f (af E i)else af ch i
 | [],[],_,i,_=>by simp[kV,af,dv]
 | [],_::_,_,i,h=>by simp[ah]at h
 | c::r,d::s,k,0,h=>by
  simp only[kV,af,ab8]
  cases xb φ k <;> simp
 | c::r,d::s,k,i+1,h=>by
  simp only[kV,af]
  rw[xf f φ r s (k+1) i (by simp[ah]at h;omega)]
  rw[show k+1+i=k+(i+1) by omega]
 | c::r,[],k,0,h=>by
  simp only[kV,af,ab8]
  cases xb φ k <;> simp
 | c::r,[],k,i+1,h=>by
  simp only[kV,af]
  rw[xf f φ r [] (k+1) i (by simp[ah])]
  rw[show k+1+i=k+(i+1) by omega]
  simp[af]
theorem Inv.GY {B:bU} {g:Gh} {env:Env} {E:List Chunk} {tmps:Array Value} {w:World} {l:Nat} (h:Inv B g env E tmps w) (o:Obj) (hΦ:g.Φ l=none) (hb:∀ i b,(af E i).own g i b→b≠l) (hl:l<w.heap.size) :
  Inv ⟨B.g,B.E,B.w.putObj l o⟩ g env E tmps (w.putObj l o):=by
 have ho:∀ b,b≠l→(w.putObj l o).heap[b]?=w.heap[b]?:=fun b hb=>World.putObj_heap_other hb
 refine⟨h.er,⟨h.aZ.len,fun b o' dJ=>?_,fun i=>Chunk.fF (fun _ _ _ h=>h) (fun _ _ h=>h) rfl rfl rfl rfl rfl rfl (fun b dJ=>ho b (hb i b dJ)) (h.aZ.sat i),h.aZ.lL,h.aZ.dQ⟩,
  ⟨h.ext.os,h.ext.tape,⟨h.ext.output.o,h.ext.output.d⟩,by simp only[World.putObj_size];exact h.ext.size,fun b h1 h2=>?_,h.ext.dA,fun b o' dJ=>?_,fun i b hi=>?_,h.ext.n,h.ext.ids,h.ext.kk,h.ext.nJ,h.ext.r9,h.ext.qN⟩⟩
 ·rw[ho b (fun e=>by subst e;rw[hΦ]at dJ;cases dJ)];exact h.aZ.dA b o' dJ
 ·have yh:b<B.w.heap.size:=by simpa using h1
  by_cases Cs:b=l
  ·subst Cs
   rw[World.putObj_heap_same hl];exact(World.putObj_heap_same yh).symm
  ·rw[ho b Cs];exact(h.ext.cE b yh h2).trans (World.putObj_heap_other Cs).symm
 ·rcases h.ext.fS b o' dJ with h1|h1|h1
  ·exact .inl h1
  ·exact .inr (.inl (by simpa using h1))
  ·exact .inr (.inr h1)
 ·rcases h.ext.own i b hi with h1|h1
  ·exact .inl (by simpa using h1)
  ·exact .inr h1
theorem fg.grown {g:Gh} {E:List Chunk} {w w':World} (h:fg g E w) (hw:Grown w w'):fg g E w' :=
 ⟨h.len,fun b o hb=>by have:=h.dA b o hb;rw[hw.same b (bt this)];exact this,fun i=>Chunk.fF (fun _ _ _ h=>h) (fun _ _ h=>h) rfl rfl rfl rfl rfl rfl (fun b hb=>hw.same b (ft (h.sat i) hb)) (h.sat i),h.lL,h.dQ⟩
theorem Ext.grow {B:bU} {g:Gh} {E:List Chunk} {w w':World} (h:Ext B g E w) (hw:Grown w w'):Ext B g E w' :=
 ⟨hw.os.trans h.os,hw.tape.trans h.tape,hw.output.trans h.output,abW h.size hw.size,fun b h1 h2=>by rw[hw.same b (abB h1 h.size)];exact h.cE b h1 h2,h.dA,h.fS,h.own,h.n,h.ids,h.kk,h.nJ,h.r9,h.qN⟩
theorem Grown.alloc (w:World) (o:Obj):Grown w (w.alloc o):=⟨rfl,rfl,⟨rfl,abr _⟩,by simp,fun b hb=>Below.heap_alloc w o b hb⟩
theorem Grown.trans {a b c:World} (h:Grown a b) (h':Grown b c):Grown a c:=⟨h'.os.trans h.os,h'.tape.trans h.tape,h'.output.trans h.output,abW h.size h'.size,fun k hk=>by rw[h'.same k (abB hk h.size)];exact h.same k hk⟩
theorem nj {g:Gh} {i:Nat} {w:World} {c:Chunk} {b:Nat} (h:c.sat g i w) (hb:c.own g i b):∃ o,w.heap[b]?=some o∧F3 o=true:=by
 cases c with
 | none=>cases hb
 | jC k ks us=>obtain⟨es,cl,h1,_⟩:=h;cases hb;exact⟨_,h1,rfl⟩
 | row T t xs =>
  obtain⟨_,_,h3⟩:=h
  cases hV:g.V i with
  | none=>simp[Chunk.own,hV]at hb
  | some cap =>
   obtain⟨vs,h4,_⟩:=h3 cap hV
   simp[Chunk.own,hV]at hb
   subst hb
   exact⟨_,h4,rfl⟩
 | count k=>cases hb
 | heap hp =>
  obtain⟨k,hk,rfl⟩:=hb
  obtain⟨ob,h1,h2⟩:=h.2.2 k hk
  refine⟨ob,h1,?_⟩
  cases ho:(hp ()).o k with
  | cells T n c=>rw[ho]at h2;obtain⟨vs,rfl,_⟩:=h2;rfl
  | map es cl=>rw[ho]at h2;obtain⟨ms,rfl,_⟩:=h2;rfl
 | jD x a b l=>obtain⟨r,_,h1⟩:=h;cases hb;exact⟨_,h1,rfl⟩
 | jy T cs=>obtain⟨vs,h1,_⟩:=h;cases hb;exact⟨_,h1,rfl⟩
 | bg q=>obtain⟨k,hk⟩:=hb;exact h.2.1 b k hk
 | cells T cs=>obtain⟨vs,h1,_⟩:=h;cases hb;exact⟨_,h1,rfl⟩
 | au T t xs =>
  obtain⟨_,_,h3⟩:=h
  cases hV:g.V i with
  | none=>simp[Chunk.own,hV]at hb
  | some cap =>
   obtain⟨vs,h4,_⟩:=h3 cap hV
   simp[Chunk.own,hV]at hb
   subst hb
   exact⟨_,h4,rfl⟩
end Go.Proofs.YthnefnlhcijekaaGreat.Fw
