/- What the laws of this chapter rest on, for every input; part 3. -/
import Derived.Test.YthnefnlhcijekaaGreatMB1
import Derived.Test.YthnefnlhcijekaaGreatProg
set_option linter.unusedVariables false
set_option linter.unusedSimpArgs false
set_option maxHeartbeats 1000000
namespace Go.Proofs.YthnefnlhcijekaaGreat.Fw
open Go Go.RowKit
def rS:Nat→List Nat
 | 0=>[]|n+1=>rS n++[n]
theorem jJ:∀ n,(rS n).length=n
 | 0=>rfl
 | n+1=>by simp[rS,jJ n]
theorem oI:∀ (n i:Nat),i<n→(rS n)[i]?=some i
 | 0,i,h=>by omega
 | n+1,i,h=>by
  simp only[rS]
  by_cases hi:i<n
  ·rw[ads (by rw[jJ];exact hi)];exact oI n i hi
  ·have:i=n:=by omega
   subst this
   rw[adp (by rw[jJ];exact abr _)];simp[jJ]
def Ex.code:Ex→Option Code
 | .normal=>none|.ret=>some .ret|.exit n=>some (.exit n)
structure oJ (P:Program) (N:Nat) (S:Sc) (Me:Operand) (ps:List Nat) (assign body:Code) (φ:List Nat) (env:Env) (E:List Chunk) (K:Ex→Env→List Chunk→Prop) (cM:Env) (E1:List Chunk):Prop where
 h:∃ (gf:FuncId) (captured lb:List AV) (α:Type) (iz:α→List AV) (xs:List α) (X:Type) (inv:Nat→X→Prop) (Kx:Ex→X→Prop) (ch:X→List Chunk) (x0:X),
  ev cM Me=.fn (.func gf) [] captured∧sC [] captured lb∧gG P gf lb iz xs∧(∀ x,(iz x).length=ps.length)∧(∀ p∈ps,p<N)∧pG (rS (ah E)) E1 (rS (ah E)) (ch x0)∧(∀ x,fb (ch x0) (ch x)=true)∧(fu assign=true∧fu body=true)∧inv 0 x0 ∧
  (∀ (S1 S2:Sc) k x y,xs[k]?=some y→inv k x→fH P N S1 (bB (ch x0)) assign (n4 ps (iz y) (bj (okF (ch x0)) cM)) (ch x) fun e aj E'=>(match e with
   | .normal=>fH P N S2 (bB (ch x0)) body aj E' fun e ke Q5=>(match e with
    | .normal=>∃ x' π,bI π=true∧gP (bB (ch x0)) 0 π=true∧pG π Q5 π (ch x')∧inv (k+1) x'
    | e=>∃ x' π,bI π=true∧gP (bB (ch x0)) 0 π=true∧pG π Q5 π (ch x')∧Kx e x')
   | _=>False)) ∧
  (∀ x,inv xs.length x→n5 (ch x0) (ch x)=true∧K .normal (bj (xe φ E) env) (kV (xe φ E) φ 0 E (ch x))) ∧
  (∀ e x,Kx e x→e≠.normal→n5 (ch x0) (ch x)=true∧K e (bj (xe φ E) env) (kV (xe φ E) φ 0 E (ch x)))
theorem y7 {B:bU} {g g1 g2:Gh} {env:Env} {E E1 gQ ch:List Chunk} {tmps:Array Value} {w W1 W5:World} {φ:List Nat} {D:Nat} (hI:Inv B g env E tmps w)
  (rT:g.eb g1) (hΦ1:∀ b o,g.Φ b=some o→g1.Φ b=some o) (lD:∀ i,i∈φ→af E1 i=.none) (U3:∀ i,i∉φ→kd (af E1 i)=kd (af E i)) (kJ:∀ i∈φ,∀ b,(af E i).own g i b→∃ o,g1.Φ b=some o) (vC:fg g1 E1 w)
  (hle:pG (rS (ah E)) E1 (rS (ah E)) gQ) (lE:Grown w W1) (hD:w.heap.size≤D) (GZ:W5.heap[D]?=some (.deferred (some [])))
  (Ez:fg g2 ch W5) (hx:Ext ⟨g1.dO (rS (ah E)),gQ,W1⟩ g2 ch W5) (P4:fb gQ ch=true) (Q6:n5 gQ ch=true) :
  ∃ gf,Inv (B.mark D) gf (bj (xe φ E) env) (kV (xe φ E) φ 0 E ch) tmps W5:=by
 have hlen:=hI.aZ.len
 obtain⟨YW,xg⟩:=ni P4
 have AD:ah gQ=ah E:=by rw[pI _ _ hle,jJ]
 have U4:ah ch≤ah E:=by omega
 have Q7:∀ i,i<ah E→sf (rS (ah E)) (af E1 i) (af gQ i):=by
  intro i hi
  rcases qW _ _ hle i with⟨j,hj,hc⟩|hc
  ·rw[oI _ _ hi]at hj;cases hj;exact hc
  ·rw[hc];cases af E1 i <;> trivial
 have yx:∀ i,¬i<ah E→af gQ i=.none:=fun i hi=>kR _ _ (by omega)
 have xh:∀ i,bO gQ i=true→i<ah E∧i∉φ∧kd (af E i)=kd (af gQ i):=by
  intro i ha
  have hi:i<ah E:=by
   by_cases hi:i<ah E
   ·exact hi
   ·simp[bO,yx i hi]at ha
  have hc:=Q7 i hi
  have oA:i∉φ:=fun hm=>by
   rw[lD i hm]at hc
   have:=yX hc
   simp[bO,this]at ha
  refine⟨hi,oA,?_⟩
  rw[←U3 i oA]
  cases h0:af gQ i with
  | none=>simp[bO,h0]at ha
  | count k=>simp[bO,h0]at ha
  | jC _ _ _=>simp[bO,h0]at ha
  | row _ _ _=>simp[bO,h0]at ha
  | heap _=>simp[bO,h0]at ha
  | bg _=>simp[bO,h0]at ha
  | jD _ _ _ _=>simp[bO,h0]at ha
  | jy _ _=>simp[bO,h0]at ha
  | cells T cs=>rw[h0]at hc;cases h1:af E1 i <;> rw[h1]at hc <;> first|rfl|exact hc.elim
  | au T t xs=>rw[h0]at hc;cases h1:af E1 i <;> rw[h1]at hc <;> first|rfl|exact hc.elim
 have LV:∀ i,bO gQ i≠true→af ch i=.none∨y6 gQ (af ch i)=false:=by
  intro i ha
  have hk:=xg i
  cases h0:af gQ i with
  | none=>rw[h0]at hk;cases h1:af ch i <;> rw[h1]at hk <;> first|exact .inl rfl|(simp[kd]at hk;done)
  | count k=>rw[h0]at hk;cases h1:af ch i <;> rw[h1]at hk <;> first|exact .inr rfl|(simp[kd]at hk;done)
  | jC k ks vs=>rw[h0]at hk;cases h1:af ch i <;> rw[h1]at hk <;> first|exact .inr rfl|(simp[kd]at hk;done)
  | row T t xs=>rw[h0]at hk;cases h1:af ch i <;> rw[h1]at hk <;> first|exact .inr rfl|(simp[kd]at hk;done)
  | heap _=>rw[h0]at hk;cases h1:af ch i <;> rw[h1]at hk <;> first|exact .inr rfl|(simp[kd]at hk;done)
  | bg _=>rw[h0]at hk;cases h1:af ch i <;> rw[h1]at hk <;> first|exact .inr rfl|(simp[kd]at hk;done)
  | jD _ _ _ _=>rw[h0]at hk;cases h1:af ch i <;> rw[h1]at hk <;> first|exact .inr rfl|(simp[kd]at hk;done)
  | jy _ _=>rw[h0]at hk;cases h1:af ch i <;> rw[h1]at hk <;> first|exact .inr rfl|(simp[kd]at hk;done)
  | cells T cs=>exact(ha (by simp[bO,h0])).elim
  | au T t xs=>exact(ha (by simp[bO,h0])).elim
 have NS:=fi Q6
 have pn:∀ i,bO gQ i≠true→af ch i=.none:=by
  intro i ha
  rcases LV i ha with h1|h1
  ·exact h1
  ·have:=NS i;rw[h1]at this;cases this
 let gf:Gh:={ n:=g.n,Φ:=fun b=>if b=D then some (.deferred (some []))else g.Φ b,B:=fun i=>if bO gQ i=true then g2.B i else g.B i,V:=fun i=>if bO gQ i=true then g2.V i else g.V i,L:=fun i=>if bO gQ i=true then g2.L i else g.L i,k:=g.k,W:=g.W,M:=g.M }
 have hltΦ:∀ b o,g.Φ b=some o→b≠D:=fun b o hb e=>by have:=bt (hI.aZ.dA b o hb);omega
 have hΦf:∀ b o,g.Φ b=some o→gf.Φ b=some o:=fun b o hb=>by
  show(if b=D then some (.deferred (some []))else g.Φ b)=some o
  rw[if_neg (hltΦ b o hb)];exact hb
 have fB:∀ i,bO gQ i=true→gf.B i=g2.B i:=fun i h=>by show(if bO gQ i=true then g2.B i else g.B i)=_;rw[if_pos h]
 have fV:∀ i,bO gQ i=true→gf.V i=g2.V i:=fun i h=>by show(if bO gQ i=true then g2.V i else g.V i)=_;rw[if_pos h]
 have fL:∀ i,bO gQ i=true→gf.L i=g2.L i:=fun i h=>by show(if bO gQ i=true then g2.L i else g.L i)=_;rw[if_pos h]
 have nB:∀ i,bO gQ i≠true→gf.B i=g.B i:=fun i h=>by show(if bO gQ i=true then g2.B i else g.B i)=_;rw[if_neg h]
 have nV:∀ i,bO gQ i≠true→gf.V i=g.V i:=fun i h=>by show(if bO gQ i=true then g2.V i else g.V i)=_;rw[if_neg h]
 have nL:∀ i,bO gQ i≠true→gf.L i=g.L i:=fun i h=>by show(if bO gQ i=true then g2.L i else g.L i)=_;rw[if_neg h]
 have Xv:∀ i,i<ah E→(g1.dO (rS (ah E))).B i=g.B i:=fun i hi=>by rw[(fZ g1 (oI _ i hi)).1,rT.B]
 have Xw:∀ i,i<ah E→(g1.dO (rS (ah E))).V i=g.V i:=fun i hi=>by rw[(fZ g1 (oI _ i hi)).2.1,rT.V]
 have YX:∀ i,i<ah E→(g1.dO (rS (ah E))).L i=g.L i:=fun i hi=>by rw[(fZ g1 (oI _ i hi)).2.2,rT.L]
 have G0:∀ i,isCells (af E i)=true→gf.B i=g.B i∧gf.V i=g.V i∧gf.L i=g.L i:=by
  intro i hc
  by_cases ha:bO gQ i=true
  ·obtain⟨hi,oA,hk⟩:=xh i ha
   rw[fB i ha,fV i ha,fL i ha]
   cases h0:af gQ i with
   | cells T cs =>
    have h1:=hx.ids i (by show dj (af gQ i)=true;rw[h0];rfl)
    rw[h1.1,h1.2.1,h1.2.2];exact⟨Xv i hi,Xw i hi,YX i hi⟩
   | none=>simp[bO,h0]at ha
   | count k=>simp[bO,h0]at ha
   | jC _ _ _=>simp[bO,h0]at ha
   | row _ _ _=>simp[bO,h0]at ha
   | heap _=>simp[bO,h0]at ha
   | bg _=>simp[bO,h0]at ha
   | jD _ _ _ _=>simp[bO,h0]at ha
   | jy _ _=>simp[bO,h0]at ha
   | au T t xs=>rw[h0]at hk;cases hE:af E i <;> rw[hE]at hc hk <;> first|(cases hc;done)|(simp[kd]at hk;done)
  ·exact⟨nB i ha,nV i ha,nL i ha⟩
 have NT:∀ i,isCells (af E i)=true→gf.B i=g.B i:=fun i hc=>(G0 i hc).1
 have hinφ:∀ i,xb φ i=true→bO gQ i≠true:=fun i h ha=>(xh i ha).2.1 (CC.1 h)
 have sE:∀ v u,isRef v=true→R g v u→R gf (xe φ E v) u:=by
  intro v u hv hr
  cases hr <;> first|(cases hv;done)|skip
  ·rename_i i off hi
   simp only[xe]
   split
   ·rename_i hm;rw[←nB i (hinφ i hm)];exact .ptr (g:=gf) _ _ hi
   ·split
    ·rename_i hc;rw[←NT i hc];exact .ptr (g:=gf) _ _ hi
    ·exact .undef _
  ·rename_i i sz idx off hi hL
   simp only[xe]
   split
   ·rename_i hm;rw[←nB i (hinφ i hm)];exact .bl (g:=gf) _ _ _ _ hi (by rw[nL i (hinφ i hm)];exact hL)
   ·exact .undef _
  ·rename_i i sz off n A c hi hL hn hs
   simp only[xe]
   split
   ·rename_i hm
    exact .vec (g:=gf) _ _ _ _ A c hi (by rw[nL i (hinφ i hm)];exact hL) (by rw[nV i (hinφ i hm)];exact hn) (by rw[nV i (hinφ i hm),nB i (hinφ i hm)];exact hs)
   ·exact .undef _
  ·exact .undef _
  ·exact .undef _
  ·exact .undef _
 have U5:g2.n=g.n:=by have:=Ez.len;omega
 have YY:pM gQ g2 gf:=⟨adv U5,fB,fV,fL⟩
 have cA:∀ i,af (kV (xe φ E) φ 0 E ch) i=if xb φ i=true then dv (xe φ E) (af E i)else af ch i:=fun i=>by rw[xf _ _ _ _ _ _ U4,abx]
 have hblk:∀ i b,(af (kV (xe φ E) φ 0 E ch) i).own gf i b→(xb φ i=true∧(af E i).own g i b)∨(xb φ i=false∧bO gQ i=true∧(af ch i).own g2 i b):=by
  intro i b hb
  rw[cA]at hb
  split at hb
  ·rename_i hm
   rw[jb,Chunk.oH (nB i (hinφ i hm)) (nV i (hinφ i hm)) rfl rfl]at hb
   exact .inl ⟨hm,hb⟩
  ·rename_i hm
   have ha:bO gQ i=true:=abV fun ha=>by rw[pn i ha]at hb;cases hb
   rw[Chunk.CE (GX (NS i)) (fB i ha) (fV i ha)]at hb
   exact .inr ⟨by simpa using hm,ha,hb⟩
 have xi:∀ i b,xb φ i=true→(af E i).own g i b→b<w.heap.size∧g2.Φ b≠none∧W5.heap[b]?=w.heap[b]?:=by
  intro i b hm hb
  obtain⟨o,ho⟩:=kJ i (CC.1 hm) b hb
  have PW:g2.Φ b=some o:=hx.dA b o ho
  refine⟨ft (hI.aZ.sat i) hb,by rw[PW];simp,?_⟩
  rw[Ez.dA b o PW,vC.dA b o ho]
 have Mf:∀ b,(⟨g1.dO (rS (ah E)),gQ,W1⟩:bU).owns b→∃ i,(af E i).own g i b:=by
  rintro b ⟨i,hi⟩
  have ha:bO gQ i=true:=abV fun ha=>by
   cases h0:af gQ i with
   | none=>rw[h0]at hi;cases hi
   | count k=>rw[h0]at hi;cases hi
   | jC k ks vs=>have h1:=pn i ha;have hk:=xg i;rw[h0,h1]at hk;simp[kd]at hk
   | row k ks vs=>have h1:=pn i ha;have hk:=xg i;rw[h0,h1]at hk;simp[kd]at hk
   | heap _=>have h1:=pn i ha;have hk:=xg i;rw[h0,h1]at hk;simp[kd]at hk
   | bg _=>have h1:=pn i ha;have hk:=xg i;rw[h0,h1]at hk;simp[kd]at hk
   | jD _ _ _ _=>have h1:=pn i ha;have hk:=xg i;rw[h0,h1]at hk;simp[kd]at hk
   | jy _ _=>have h1:=pn i ha;have hk:=xg i;rw[h0,h1]at hk;simp[kd]at hk
   | cells T cs=>exact ha (by simp[bO,h0])
   | au T t xs=>exact ha (by simp[bO,h0])
  obtain⟨dp,oA,hk⟩:=xh i ha
  refine⟨i,?_⟩
  rw[NQ hk]
  have h1:AW (af gQ i)=true:=by cases h0:af gQ i <;> first|rfl|(simp[bO,h0]at ha;done)
  rw[Chunk.CE (g:=g1.dO (rS (ah E))) h1 (Xv i dp).symm (Xw i dp).symm]
  exact hi
 have Q8:∀ b,W1.heap.size≤b∨(⟨g1.dO (rS (ah E)),gQ,W1⟩:bU).owns b→B.w.heap.size≤b∨B.owns b:=by
  rintro b (h1|h1)
  ·exact .inl (abW (abW hI.ext.size lE.size) h1)
  ·obtain⟨i,hi⟩:=Mf b h1
   exact hI.ext.own i b hi
 have CH:∀ b,(B.mark D).owns b↔B.owns b:=fun b=>by
  constructor
  ·rintro⟨i,hi⟩;refine⟨i,?_⟩;exact(Chunk.oH rfl rfl rfl rfl).mp hi
  ·rintro⟨i,hi⟩;refine⟨i,?_⟩;exact(Chunk.oH rfl rfl rfl rfl).mp hi
 refine⟨gf,fun t=>by rw[cZ];exact R.map (g:=g) (g':=gf) _ hΦf sE (hI.er t),⟨by rw[tJ];exact hlen,fun b o hb=>?_,fun i=>?_,fun i j b hi hj=>?_,fun i b hi=>?_⟩,
  ⟨hx.os.trans (lE.os.trans hI.ext.os),hx.tape.trans (lE.tape.trans hI.ext.tape),hx.output.trans (lE.output.trans hI.ext.output),abW hI.ext.size (abW lE.size hx.size),fun b h1 h2=>?_,fun b o hb=>?_,fun b o hb=>?_,fun i b hi=>?_,?_,fun i hi=>?_,hI.ext.kk,Gi (fun i T' t xs hi hv=>?_) (fun i T' cs hi hv=>?_),hI.ext.r9,hI.ext.qN⟩⟩
 ·have lR:(if b=D then some (.deferred (some []))else g.Φ b)=some o:=hb
  clear hb
  split at lR
  ·rename_i e;rw[e,GZ];exact lR
  ·exact Ez.dA b o (hx.dA b o (hΦ1 b o lR))
 ·rw[cA]
  split
  ·rename_i hm
   exact Chunk.pJ (g:=g) (g':=gf) _ hΦf sE (nB i (hinφ i hm)) (nV i (hinφ i hm)) (nL i (hinφ i hm)) rfl rfl rfl (fun h=>h) (fun b hb=>(xi i b hm hb).2.2) (hI.aZ.sat i)
  ·rename_i hm
   refine vN YY ?_ (NS i) (fun _ _=>rfl) (Ez.sat i)
   by_cases ha:bO gQ i=true
   ·exact .inl ha
   ·exact .inr (pn i ha)
 ·rcases hblk i b hi with⟨h1,h2⟩|⟨h1,h2,h3⟩ <;> rcases hblk j b hj with⟨h4,h5⟩|⟨h4,h5,h6⟩
  ·exact hI.aZ.lL i j b h2 h5
  ·exact((xi i b h1 h2).2.1 (Ez.dQ j b h6)).elim
  ·exact((xi j b h4 h5).2.1 (Ez.dQ i b h3)).elim
  ·exact Ez.lL i j b h3 h6
 ·show(if b=D then some (.deferred (some []))else g.Φ b)=none
  rcases hblk i b hi with⟨h1,h2⟩|⟨h1,h2,h3⟩
  ·rw[if_neg (by have:=(xi i b h1 h2).1;omega)];exact hI.aZ.dQ i b h2
  ·obtain⟨o4,h4,YZ⟩:=nj (Ez.sat i) h3
   rw[if_neg (fun e=>by rw[e,GZ]at h4;cases h4;cases YZ)]
   cases hp:g.Φ b with
   | none=>rfl
   | some o=>have:=hx.dA b o (hΦ1 b o hp);rw[Ez.dQ i b h3]at this;cases this
 ·have G1:¬B.owns b:=fun h=>h2 ((CH b).2 h)
  have yh:b<B.w.heap.size:=h1
  have h3:b<w.heap.size:=abB yh hI.ext.size
  rw[hx.cE b (abB h3 lE.size) (fun ho=>by
   obtain⟨i,hi⟩:=Mf b ho
   rcases hI.ext.own i b hi with h4|h4
   ·omega
   ·exact G1 h4),lE.same b h3]
  exact hI.ext.cE b yh G1
 ·have lR:(if b=D then some (.deferred (some []))else B.g.Φ b)=some o:=hb
  clear hb
  show(if b=D then some (.deferred (some []))else g.Φ b)=some o
  split at lR
  ·rename_i e;rw[if_pos e];exact lR
  ·rename_i e;rw[if_neg e];exact hI.ext.dA b o lR
 ·have lR:(if b=D then some (.deferred (some []))else g.Φ b)=some o:=hb
  clear hb
  split at lR
  ·rename_i e
   left
   show(if b=D then some (.deferred (some []))else B.g.Φ b)=some o
   rw[if_pos e];exact lR
  ·rename_i e
   rcases hI.ext.fS b o lR with h1|h1|h1
   ·left
    show(if b=D then some (.deferred (some []))else B.g.Φ b)=some o
    rw[if_neg e];exact h1
   ·exact .inr (.inl h1)
   ·exact .inr (.inr ((CH b).2 h1))
 ·rcases hblk i b hi with⟨h1,h2⟩|⟨h1,h2,h3⟩
  ·exact(hI.ext.own i b h2).imp id (CH b).2
  ·exact(Q8 b (hx.own i b h3)).imp id (CH b).2
 ·exact hI.ext.n
 ·have eH:dj (af B.E i)=true:=hi
  by_cases ha:bO gQ i=true
  ·obtain⟨dp,oA,hk⟩:=xh i ha
   have hc:isCells (af E i)=true:=by
    cases hE:af E i with
    | cells _ _=>rfl
    | none=>rw[hE]at hk;cases h0:af gQ i <;> rw[h0]at hk <;> first|(simp[kd]at hk;done)|(simp[bO,h0]at ha;done)
    | count k=>rw[hE]at hk;cases h0:af gQ i <;> rw[h0]at hk <;> first|(simp[kd]at hk;done)|(simp[bO,h0]at ha;done)
    | jC k ks vs=>rw[hE]at hk;cases h0:af gQ i <;> rw[h0]at hk <;> first|(simp[kd]at hk;done)|(simp[bO,h0]at ha;done)
    | row k ks vs=>rw[hE]at hk;cases h0:af gQ i <;> rw[h0]at hk <;> first|(simp[kd]at hk;done)|(simp[bO,h0]at ha;done)
    | heap _=>rw[hE]at hk;cases h0:af gQ i <;> rw[h0]at hk <;> first|(simp[kd]at hk;done)|(simp[bO,h0]at ha;done)
    | bg _=>rw[hE]at hk;cases h0:af gQ i <;> rw[h0]at hk <;> first|(simp[kd]at hk;done)|(simp[bO,h0]at ha;done)
    | jD _ _ _ _=>rw[hE]at hk;cases h0:af gQ i <;> rw[h0]at hk <;> first|(simp[kd]at hk;done)|(simp[bO,h0]at ha;done)
    | au T' t' Jq=>exact(jE (hI.ext.nJ i eH) hE).elim
    | jy _ _=>exact(sY (hI.ext.nJ i eH) hE).elim
   have h1:=G0 i hc
   rw[h1.1,h1.2.1,h1.2.2];exact hI.ext.ids i eH
  ·rw[nB i ha,nV i ha,nL i ha];exact hI.ext.ids i eH
 ·have eH:dj (af B.E i)=true:=hi
  rw[cA]at hv
  split at hv
  ·cases hE:af E i with
   | none=>rw[hE]at hv;cases hv
   | count k=>rw[hE]at hv;cases hv
   | cells _ _=>rw[hE]at hv;cases hv
   | jC _ _ _=>rw[hE]at hv;cases hv
   | row _ _ _=>rw[hE]at hv;cases hv
   | heap _=>rw[hE]at hv;cases hv
   | bg _=>rw[hE]at hv;cases hv
   | jD _ _ _ _=>rw[hE]at hv;cases hv
   | jy _ _=>rw[hE]at hv;cases hv
   | au _ _ _=>exact jE (hI.ext.nJ i eH) hE
  ·have ha:bO gQ i=true:=abV fun ha=>by rw[pn i ha]at hv;cases hv
   obtain⟨dp,oA,hk⟩:=xh i ha
   have yR:=xg i
   rw[hv]at yR
   rw[←yR]at hk
   cases hE:af E i <;> first|exact jE (hI.ext.nJ i eH) hE|(rw[hE]at hk;simp[kd]at hk;done)
 ·have eH:dj (af B.E i)=true:=hi
  rw[cA]at hv
  split at hv
  ·cases hE:af E i <;> first|exact sY (hI.ext.nJ i eH) hE|(rw[hE]at hv;cases hv;done)
  ·have ha:bO gQ i=true:=abV fun ha=>by rw[pn i ha]at hv;cases hv
   obtain⟨dp,oA,hk⟩:=xh i ha
   have yR:=xg i
   rw[hv]at yR
   rw[←yR]at hk
   cases hE:af E i <;> first|exact sY (hI.ext.nJ i eH) hE|(rw[hE]at hk;simp[kd]at hk;done)
end Go.Proofs.YthnefnlhcijekaaGreat.Fw
set_option maxHeartbeats 1000000
namespace Go.Proofs.YthnefnlhcijekaaGreat.Fw
open Go Go.RowKit
theorem Kb {g:Gh} {u:Value} {gf:FuncId} {captured:List AV} (h:R g (.fn (.func gf) [] captured) u):∃ ws:Array Value,u=.func (.func gf) #[] ws∧RL g captured ws.toList:=by
 cases h with|fn _ _ _ vs ws hl lK hr rG =>
 have e1:vs=#[]:=acx (by simpa using hl.symm)
 subst e1
 exact⟨ws,rfl,RL.mk (by simpa using lK) fun i y u h1 h2=>rG i y u h1 (by simpa using h2)⟩
theorem aC.range {P:Program} {N:Nat} {M:List Bool} {S:Sc} {Me:Operand} {ps:Array Tmp} {assign body:Code} {env:Env} {E:List Chunk} {K:Ex→Env→List Chunk→Prop} (hm:P.follows .mixedOrders=true) (ao:S.ok=true) (φ:List Nat)
  (h:yY φ env E fun cM E1=>oJ P N S Me ps.toList assign body φ env E K cM E1):aC P N S M (.rangeFunc Me ps assign body) env E K where
 h:=by
  intro r g a w hr hM ⟨B,hB,hI,hd⟩ hN
  have rG:r=none:=hr.resolve_right (by simp[fu])
  subst rG
  obtain⟨g1,cM,E1,vC,P5,hq,rT,hΦ1,hΦ2,Jo,lD,U3,kJ⟩:=sD φ hI.aZ hI.er h
  obtain⟨gf,captured,lb,α,iz,xs,X,inv,Kx,ch,x0,hg,cX,P6,Gc,y8,hle,P4,eZ,h0,Bg,Q9,Ra⟩:=hq.h
  have Xx:=P5.ev Me
  rw[hg]at Xx
  obtain⟨ws,U6,QR⟩:=Kb Xx
  obtain⟨Y0,U7,G2,NU⟩:=P6.aA
  have hlen:=hI.aZ.len
  have AD:ah (ch x0)=ah E:=by rw[pI _ _ hle,jJ]
  have Re:∀ x,bB (ch x)=bB (ch x0):=fun x=>pN (P4 x)
  have U8:∀ x,ah (ch x)=ah E:=fun x=>by rw[(ni (P4 x)).1,AD]
  refine wpIn_rangeFunc ?_
  intro fn Jr
  obtain⟨D,hD⟩:∃ D,D=w.heap.size:=⟨_,rfl⟩
  obtain⟨l,hl⟩:∃ l,l=w.heap.size+1:=⟨_,rfl⟩
  obtain⟨rec,xj⟩:∃ rec:LoopState→Option Code→Loop,rec=fun st pe=>{ state:=st,pending:=pe,fn,tmps:=a.tmps,params:=ps,assign,body,defers:=w.heap.size }:=⟨_,rfl⟩
  obtain⟨W1,Rf⟩:∃ W1,(w.alloc (.deferred (some []))).alloc (.loop (rec .ready none))=W1:=⟨_,rfl⟩
  have NV:Grown w W1:=by rw[←Rf];exact(Grown.alloc _ _).trans (Grown.alloc _ _)
  have Uz:W1.heap.size=w.heap.size+2:=by rw[←Rf];simp
  have Y1:W1.heap[l]?=some (.loop (rec .ready none)):=by
   rw[←Rf,hl];have:=World.alloc_heap_new (w.alloc (.deferred (some []))) (.loop (rec .ready none));rwa [World.size_alloc]at this
  have Y2:W1.heap[D]?=some (.deferred (some [])):=by
   rw[←Rf,hD];exact(Below.heap_alloc _ _ _ (by simp)).trans (World.alloc_heap_new w _)
  have U9:D≠l:=by omega
  obtain⟨gr,lE⟩:∃ gr,gr=g1.dO (rS (ah E)):=⟨_,rfl⟩
  have Rg:fg gr (ch x0) w:=by
   rw[lE]
   refine vC.dO hle ?_
   have:∀ n,bI (rS n)=true:=by
    intro n
    have eZ:(rS n).Nodup:=by
     induction n with
     | zero=>exact acd
     | succ n ih =>
      rw[rS,ac6]
      refine⟨ih,by simp,fun a ha b hb e=>?_⟩
      simp at hb
      subst hb e
      obtain⟨j,hj⟩:=abu.1 ha
      have rN:=(abk.1 hj).1
      rw[jJ]at rN
      rw[oI _ _ rN]at hj
      cases hj;omega
    generalize rS n=l at eZ
    induction l with
    | nil=>rfl
    | cons i r ih =>
     have h':=aci.1 eZ
     simp only[bI]
     split
     ·rename_i ha
      obtain⟨b,hb,lR⟩:=List.any_eq_true.1 ha
      have:=abl lR
      subst this
      exact(h'.1 hb).elim
     ·exact ih h'.2
   exact this _
  have Rh:ER gr (bj (okF (ch x0)) cM) a.tmps:=by
   intro t
   rw[cZ]
   refine R.map (g:=g1) (g':=gr) _ (by rw[lE];exact fun _ _ h=>h) (GW (by rw[lE];show g1.n≤(rS (ah E)).length;rw[jJ,rT.n,hlen];exact abr _) (fun i hc=>?_)) (P5 t)
   rw[lE]
   refine(fZ g1 (oI _ i ?_)).1
   rw[←AD]
   exact dV (fun e=>by rw[e]at hc;cases hc)
  have tK:∀ {g2:Gh} {x:X} {W:World},fg g2 (ch x) W→(∃ o,W.heap[l]?=some (.loop o))→∀ i b,(af (ch x) i).own g2 i b→b≠l:=by
   intro g2 x W hs ⟨o,ho⟩ i b hb e
   subst e
   obtain⟨o1,h1,Y3⟩:=nj (hs.sat i) hb
   rw[h1]at ho;cases ho;cases Y3
  obtain⟨St,NW⟩:∃ St:LoopState→Option Code→X→Gh→(Nat→Prop)→World→Prop,St=fun st pe x g2 own W=>∃ Wb,Grown w Wb∧Wb.heap.size=W1.heap.size∧fg g2 (ch x) W∧ER g2 (bj (okF (ch x0)) cM) a.tmps∧Ext ⟨gr,ch x0,Wb⟩ g2 (ch x) W ∧
   (∀ b,own b↔b=l∨∃ i,(af (ch x) i).own g2 i b)∧W.heap[l]?=some (.loop (rec st pe))∧W.heap[D]?=some (.deferred (some []))∧g2.Φ l=none:=⟨_,rfl⟩
  have rU:∀ {st pe x g2 own W W'},St st pe x g2 own W→Grown W W'→St st pe x g2 own W':=by
   intro st pe x g2 own W W' h hg
   rw[NW]at h ⊢
   obtain⟨Wb,h1,h2,h3,h4,h5,h6,h7,h8,h9⟩:=h
   exact⟨Wb,h1,h2,h3.grown hg,h4,h5.grow hg,h6,by rw[hg.same l (bt h7)];exact h7,by rw[hg.same D (bt h8)];exact h8,h9⟩
  have hΦl:gr.Φ l=none:=by
   cases hp:gr.Φ l with
   | none=>rfl
   | some o=>have:=bt (Rg.dA l o hp);omega
  have G3:∀ {st pe x g2 own W},St st pe x g2 own W→∀ o:Loop,n5 (ch x0) (ch x)=true→∀ K':Env→List Chunk→Prop,K' (bj (xe φ E) env) (kV (xe φ E) φ 0 E (ch x)) →
    ∃ g' aj E',Iv S g' aj E' { a with defers:=[{ target:=.collected D,args:=#[] }]++a.defers } (W.putObj l (.loop o))∧K' aj E':=by
   intro st pe x g2 own W h o FP K' Y4
   rw[NW]at h
   obtain⟨Wb,h1,h2,h3,h4,h5,h6,h7,h8,h9⟩:=h
   have P7:=bt h7
   have hp:Inv ⟨gr,ch x0,Wb.putObj l (.loop o)⟩ g2 [] (ch x) #[] (W.putObj l (.loop o)):=Inv.GY (B:=⟨gr,ch x0,Wb⟩) ⟨fun t=>.undef _,h3,h5⟩ (.loop o) h9 (tK h3 ⟨_,h7⟩) P7
   have UJ:Grown w (Wb.putObj l (.loop o)):=⟨h1.os,h1.tape,⟨h1.output.o,h1.output.d⟩,by simpa using h1.size,fun b hb=>by rw[World.putObj_heap_other (by omega)];exact h1.same b hb⟩
   have hx:Ext ⟨g1.dO (rS (ah E)),ch x0,Wb.putObj l (.loop o)⟩ g2 (ch x) (W.putObj l (.loop o)):=by rw[←lE];exact hp.ext
   obtain⟨Y5,hf⟩:=y7 (D:=D) hI rT hΦ1 lD U3 kJ vC hle UJ (by omega) (by rw[World.putObj_heap_other U9];exact h8) hp.aZ hx (P4 x) FP
   refine⟨Y5,_,_,⟨B.mark D,S.cl ao B D hB (by rw[hD];exact abW (S.hb ao B hB) hI.ext.size),hf,?_⟩,Y4⟩
   refine⟨fun h=>(by rw[ao]at h;cases h),?_⟩
   obtain⟨_,Ds,P0,Vd,TS⟩:=hd
   refine⟨D::Ds,by rw[P0];rfl,aci.2 ⟨fun hm=>?_,Vd⟩,fun D' PY=>?_⟩
   ·have fm:=(TS D hm).2
    have:=bt (hI.aZ.dA D _ (hI.ext.dA D _ fm))
    omega
   ·have AZ:∀ b,(B.mark D).g.Φ b=if b=D then some (.deferred (some []))else B.g.Φ b:=fun _=>rfl
    rcases abE.1 PY with e|PY
    ·rw[e,AZ,if_pos rfl];exact⟨by rw[hD];exact abW (S.hb ao B hB) hI.ext.size,rfl⟩
    ·obtain⟨fm,vm⟩:=TS D' PY
     refine⟨fm,?_⟩
     rw[AZ]
     split
     ·rfl
     ·exact vm
  refine⟨l,[{ target:=.collected D,args:=#[] }],W1,{ target:=.fn (.func gf) ws,args:=#[.func (.yield l) #[] #[]] },W1,gf,#[.func (.yield l) #[] #[]]++ws,W1,?_,?_,fun _ _=>trivial,?_,fun h=>by simp[Fr,Fence.wide]at h,?_⟩
  ·rw[←Rf,xj,hl,hD];exact run_enterLoop_outer _ _ _ _ _
  ·simp only[resolve,U6]
   simp[go_sem]
  ·have Y6:Y0.body≠none:=by intro e;rw[e]at G2;simp at G2
   simp[invoke,callFunc,U7,NU,Y6]
  ·have Ri:∀ b,(∃ i,(af (ch x0) i).own gr i b)→b<w.heap.size:=fun b ⟨i,hi⟩=>ft (Rg.sat i) hi
   have Ve:St .ready none x0 gr (fun b=>b=l∨∃ i,(af (ch x0) i).own gr i b) W1:=by
    rw[NW]
    exact⟨W1,NV,rfl,Rg.grown NV,Rh,pL Rg.len,fun _=>Iff.rfl,Y1,Y2,hΦl⟩
   have Vf:fg (g1.dO []) [] W1:=(vC.dO (π:=[]) (E':=[]) trivial rfl).grown NV
   refine iZ.2 ?_
   have tk:Calls P gf (#[Value.func (.yield l) #[] #[]]++ws) W1 (fun e W'=>(∃ v,e=.returned v)∧((∃ own,∃ x g2,inv xs.length x∧St .ready none x g2 own W')∨∃ own,∃ x g2 e c,Ex.code e=some c∧Kx e x∧St .done (some c) x g2 own W')):=by
    have:=P6.h (g1.dO []) W1 ws.toList l Vf (fv _ _ _ cX QR) (fun k own W=>∃ x g2,inv k x∧St .ready none x g2 own W) (fun own W=>∃ x g2 e c,Ex.code e=some c∧Kx e x∧St .done (some c) x g2 own W)
     (fun b=>b=l∨∃ i,(af (ch x0) i).own gr i b) ?_ ?_ ?_ ⟨x0,gr,h0,Ve⟩ ?_
    ·have e:(#[Value.func (.yield l) #[] #[]]++ws)=(Value.func (.yield l) #[] #[]::ws.toList).toArray:=by apply acS;simp
     rw[e];exact this
    ·rintro k own W W' ⟨x,g2,h1,h2⟩ hg;exact⟨x,g2,h1,rU h2 hg⟩
    ·rintro own W W' ⟨x,g2,e,c,h1,h2,h3⟩ hg;exact⟨x,g2,e,c,h1,h2,rU h3 hg⟩
    ·rintro b (rfl|hb)
     ·refine⟨by omega,?_⟩
      rw[lE]at hΦl;exact hΦl
     ·have bm:=Ri b hb
      refine⟨by omega,?_⟩
      obtain⟨i,hi⟩:=hb
      have:=Rg.dQ i b hi
      rw[lE]at this;exact this
    ·
     rintro k y own W us hy ⟨x,g2,hi,dm⟩ cT Xy
     have EA:=dm
     rw[NW]at dm
     obtain⟨Wb,h1,h2,h3,h4,h5,h6,h7,h8,h9⟩:=dm
     have P7:=bt h7
     have Vg:us.toArray.size=ps.size:=by
      have:=(Xy g2).length
      rw[Gc]at this
      simpa using this.symm
     have G4:=run_yield (P:=P) (args:=us.toArray) h7 (by rw[xj];exact Vg)
     rw[xj]at G4
     refine⟨fn,_,assign,body,G4,roundIn_of_wpIn (F:=Fence.wide) (n:=0) trivial ?_⟩
     have yv:(ps.zip us.toArray).foldl (fun t (p,v)=>t.setIfInBounds p v) a.tmps=(ps.toList.zip us).foldl (fun t (p,v)=>t.setIfInBounds p v) a.tmps:=by
      rw[←Array.foldl_toList];simp
     have Rj:ER g2 (n4 ps.toList (iz y) (bj (okF (ch x0)) cM)) ((ps.toList.zip us).foldl (fun t (p,v)=>t.setIfInBounds p v) a.tmps) :=
      ER.n4 _ _ _ h4 (Xy g2) (fun p hp=>by rw[hN];exact y8 p hp) (by rw[Gc])
     have NX:∀ (l:List (Nat×Value)) (t:Array Value),(l.foldl (fun t (p,v)=>t.setIfInBounds p v) t).size=t.size:=by
      intro l;induction l with
      | nil=>intro t;rfl
      | cons c r ih=>intro t;simp[List.foldl_cons,ih]
     let S1:Sc:=⟨fun B=>B=⟨g2,ch x,W⟩,0,false,by simp,by simp⟩
     let S2:Sc:=⟨fun B=>B=⟨g2,ch x,W.putObj l (.loop { rec .ready none with state:=.busy })⟩,0,false,by simp,by simp⟩
     have TQ:=Bg S1 S2 k x y hy hi
     have TF:Iv S1 g2 (n4 ps.toList (iz y) (bj (okF (ch x0)) cM)) (ch x) { tmps:=(ps.zip us.toArray).foldl (fun t (p,v)=>t.setIfInBounds p v) a.tmps,defers:=[] } W :=
      ⟨⟨g2,ch x,W⟩,rfl,⟨by rw[yv];exact Rj,h3,pL h3.len⟩,fun _=>rfl,[],rfl,acd,by simp⟩
     have Ek:=ja (S:=S1) (M:=bB (ch x0)) hm (fun B hB=>by rw[show B=⟨g2,ch x,W⟩from hB];exact Re x) assign (some l) (.inr eZ.1) TF (by simp only[yv,NX];exact hN) TQ
     refine adD (F:=Fr (some l)) Ek ?_
     rintro e1 a1 w1 ⟨Y7,g3,Vh,E3,rfl,⟨_,rfl,NY,Xz,_⟩,Y8,Vi⟩
     cases Y7 with
     | ret=>exact Vi.elim
     | exit n=>exact Vi.elim
     | normal =>
     have TV:∀ i b,(af E3 i).own g3 i b→b≠l:=fun i b hb e=>by
      subst e
      rcases NY.ext.own i b hb with fm|⟨j,hj⟩
      ·exact absurd fm (by simp only;omega)
      ·exact tK h3 ⟨_,h7⟩ j b hj rfl
     have Rk:w1.heap[l]?=some (.loop (rec .ready none)):=by
      rw[NY.ext.cE l P7 (fun⟨j,hj⟩=>tK h3 ⟨_,h7⟩ j l hj rfl)];exact h7
     have hΦ3:g3.Φ l=none:=by
      cases hp:g3.Φ l with
      | none=>rfl
      | some o =>
       rcases NY.ext.fS l o hp with fm|fm|⟨j,hj⟩
       ·have:g2.Φ l=some o:=fm
        rw[h9]at this;cases this
       ·exact absurd fm (by simp only;omega)
       ·exact(tK h3 ⟨_,h7⟩ j l hj rfl).elim
     have Vj:=bt Rk
     refine⟨_,run_beginRound Rk (by rw[xj]),?_⟩
     have Y9:=NY.GY (.loop { rec .ready none with state:=.busy }) hΦ3 TV Vj
     have Vk:Iv S2 g3 Vh E3 a1 (w1.putObj l (.loop { rec .ready none with state:=.busy })):=⟨_,rfl,Y9,Xz,[],Xz rfl,acd,by simp⟩
     have Kc:=ja (S:=S2) (M:=bB (ch x0)) hm (fun B hB=>by rw[show B=⟨g2,ch x,W.putObj l (.loop { rec .ready none with state:=.busy })⟩from hB];exact Re x) body (some l) (.inr eZ.2) Vk Y8 Vi
     refine adD (F:=Fr (some l)) Kc ?_
     rintro e2 a2 w2 ⟨Za,g5,Zb,E5,rfl,⟨_,rfl,Rl,_⟩,hN5,Kd⟩
     have Rm:l<(W.putObj l (.loop { rec .ready none with state:=.busy })).heap.size:=by simpa using P7
     have G5:∀ b,(⟨g2,ch x,W.putObj l (.loop { rec .ready none with state:=.busy })⟩:bU).owns b→b≠l:=fun b ⟨j,hj⟩=>tK h3 ⟨_,h7⟩ j b hj
     have Vl:w2.heap[l]?=some (.loop { rec .ready none with state:=.busy }):=by
      rw[Rl.ext.cE l Rm (fun h=>G5 l h rfl)];exact World.putObj_heap_same P7
     have NZ:=bt Vl
     have Zc:w2.heap[D]?=some (.deferred (some [])):=by
      have Zd:=bt h8
      have cu:¬(⟨g2,ch x,W.putObj l (.loop { rec .ready none with state:=.busy })⟩:bU).owns D:=fun⟨j,hj⟩=>by
       obtain⟨o10,fm,Vm⟩:=nj (h3.sat j) hj
       rw[h8]at fm;cases fm;cases Vm
      rw[Rl.ext.cE D (by simpa using Zd) cu]
      show(W.putObj l _).heap[D]?=_
      rw[World.putObj_heap_other U9];exact h8
     have Ze:∀ i b,(af E5 i).own g5 i b→b≠l:=fun i b hb e=>by
      subst e
      rcases Rl.ext.own i b hb with fm|fm
      ·have vm:W.heap.size≤b:=by simpa using fm
       omega
      ·exact G5 b fm rfl
     have hΦ5:g5.Φ l=none:=by
      cases hp:g5.Φ l with
      | none=>rfl
      | some o =>
       rcases Rl.ext.fS l o hp with fm|fm|fm
       ·have:g2.Φ l=some o:=fm
        rw[h9]at this;cases this
       ·have vm:W.heap.size≤l:=by simpa using fm
        omega
       ·exact(G5 l fm rfl).elim
     have fin:∀ (jump:Option Code) (x':X) (π:List Nat),bI π=true→gP (bB (ch x0)) 0 π=true→pG π E5 π (ch x') →
       ∃ jd g6,(Instr.endRound l jump).run P w2=.ok (.bool jump.isNone) (w2.putObj l (.loop (rec (if jump.isNone then .ready else .done) jump)))∧Kept own jd W (w2.putObj l (.loop (rec (if jump.isNone then .ready else .done) jump))) ∧
        St (if jump.isNone then .ready else .done) jump x' g6 jd (w2.putObj l (.loop (rec (if jump.isNone then .ready else .done) jump))):=by
      intro jump x' π hn hh xa
      have bn:=run_endRound (P:=P) jump Vl
      have bn:(Instr.endRound l jump).run P w2=.ok (.bool jump.isNone) (w2.putObj l (.loop (rec (if jump.isNone then .ready else .done) jump))):=by
       rw[xj]at bn ⊢;exact bn
      obtain⟨ob,dZ⟩:∃ ob,ob=Obj.loop (rec (if jump.isNone then .ready else .done) jump):=⟨_,rfl⟩
      rw[←dZ]at bn ⊢
      have EB:=(Rl.GY ob hΦ5 Ze NZ).dO (aj:=[]) trivial xa hn (by rw[Re x];exact hh)
      have QY:Inv ⟨gr,ch x0,Wb⟩ g2 [] (ch x) #[] W:=⟨fun t=>.undef _,h3,h5⟩
      have P2:=QY.GY (.loop { rec .ready none with state:=.busy }) h9 (tK h3 ⟨_,h7⟩) P7
      have Zf:=P2.GY ob h9 (tK h3 ⟨_,h7⟩) Rm
      have ow:∀ i,dj (af (ch x0) i)=true→dj (af (ch x) i)=true:=by
       intro i hc
       have hk:=(ni (P4 x)).2 i
       cases q7:af (ch x0) i <;> rw[q7]at hc <;> first|(cases hc;done)|skip
       all_goals
        rw[q7]at hk
        cases Re:af (ch x) i <;> rw[Re]at hk <;> first|rfl|(simp[kd]at hk;done)
      have Zg:=Ext.trans (B:=⟨gr,ch x0,(Wb.putObj l (.loop { rec .ready none with state:=.busy })).putObj l ob⟩) Zf.ext EB.ext ow (by simp only[U8];exact abr _)
      have iX:∀ (W:World) b,b≠l→((W.putObj l (.loop { rec .ready none with state:=.busy })).putObj l ob).heap[b]?=W.heap[b]?:=fun W b hb=>by rw[World.putObj_heap_other hb,World.putObj_heap_other hb]
      have Mg:∀ b,(⟨g2,ch x,(W.putObj l (.loop { rec .ready none with state:=.busy })).putObj l ob⟩:bU).owns b→own b:=fun b ⟨j,hj⟩=>(h6 b).2 (.inr ⟨j,hj⟩)
      refine⟨fun b=>b=l∨∃ i,(af (ch x') i).own (g5.dO π) i b,g5.dO π,bn,⟨EB.ext.os,EB.ext.tape,⟨EB.ext.output.o,EB.ext.output.d⟩,by have:=EB.ext.size;simpa using this,fun b hb TW=>?_,fun b hb=>?_,fun b hb=>?_⟩,?_⟩
      ·have Cs:b≠l:=fun e=>TW ((h6 b).2 (.inl e))
       rw[EB.ext.cE b (by simpa using hb) (fun h=>TW (Mg b h))]
       exact iX W b Cs
      ·rcases hb with rfl|⟨i,hi⟩
       ·exact .inl ((h6 b).2 (.inl rfl))
       ·rcases EB.ext.own i b hi with fm|fm
        ·right;simpa using fm
        ·exact .inl (Mg b fm)
      ·rcases hb with rfl|⟨i,hi⟩
       ·simpa using NZ
       ·exact ft (EB.aZ.sat i) hi
      ·rw[NW]
       refine⟨(Wb.putObj l (.loop { rec .ready none with state:=.busy })).putObj l ob,⟨h1.os,h1.tape,⟨h1.output.o,h1.output.d⟩,by simpa using h1.size,fun b hb=>?_⟩,by simpa using h2,EB.aZ,?_,Zg,fun _=>Iff.rfl,?_,?_,hΦ5⟩
       ·rw[iX Wb b (by omega)];exact h1.same b hb
       ·have:=ER.okF (g':=g5.dO π) (ch:=ch x0) h4 (by rw[←h3.len,←EB.aZ.len,U8,U8];exact abr _) EB.ext.dA (fun i hc=>?_)
        ·rwa [CG]at this
        ·cases q7:af (ch x0) i with
         | cells T cs=>exact(EB.ext.ids i (ow i (by rw[q7];rfl))).1
         | none=>rw[q7]at hc;cases hc
         | count k=>rw[q7]at hc;cases hc
         | jC _ _ _=>rw[q7]at hc;cases hc
         | row _ _ _=>rw[q7]at hc;cases hc
         | heap _=>rw[q7]at hc;cases hc
         | bg _=>rw[q7]at hc;cases hc
         | jD _ _ _ _=>rw[q7]at hc;cases hc
         | jy _ _=>rw[q7]at hc;cases hc
         | au _ _ _=>rw[q7]at hc;cases hc
       ·rw[←dZ];exact World.putObj_heap_same NZ
       ·rw[World.putObj_heap_other U9];exact Zc
     cases Za with
     | normal =>
      obtain⟨x',π,hn,hh,xa,eH⟩:=Kd
      obtain⟨jd,g6,fm,vm,Mh⟩:=fin none x' π hn hh xa
      exact⟨_,_,fm,jd,vm,.inl ⟨rfl,x',g6,eH,Mh⟩⟩
     | ret =>
      obtain⟨x',π,hn,hh,xa,eH⟩:=Kd
      obtain⟨jd,g6,fm,vm,Mh⟩:=fin (some .ret) x' π hn hh xa
      exact⟨_,_,fm,jd,vm,.inr ⟨rfl,x',g6,.ret,.ret,rfl,eH,Mh⟩⟩
     | exit n =>
      obtain⟨x',π,hn,hh,xa,eH⟩:=Kd
      obtain⟨jd,g6,fm,vm,Mh⟩:=fin (some (.exit n)) x' π hn hh xa
      exact⟨_,_,fm,jd,vm,.inr ⟨rfl,x',g6,.exit n,.exit n,rfl,eH,Mh⟩⟩
   refine Calls.mono tk ?_
   rintro e W2 ⟨⟨v,rfl⟩,⟨own,x,g2,hi,dm⟩|⟨own,x,g2,e,c,hc,Zh,dm⟩⟩
   ·have EA:=dm
    rw[NW]at EA
    obtain⟨_,_,_,_,_,_,_,h7,_⟩:=EA
    obtain⟨FP,Vn⟩:=Q9 x hi
    have bn:=run_endLoop (P:=P) h7 (by rw[xj];simp)
    obtain⟨g',aj,E',fm,vm⟩:=G3 dm { rec .ready none with state:=.exhausted } FP (K .normal) Vn
    exact⟨none,_,by rw[xj]at bn ⊢;exact bn,.normal,g',aj,E',rfl,fm,hN,vm⟩
   ·have EA:=dm
    rw[NW]at EA
    obtain⟨_,_,_,_,_,_,_,h7,_⟩:=EA
    obtain⟨FP,Vn⟩:=Ra e x Zh (fun h=>by rw[h]at hc;cases hc)
    have bn:=run_endLoop (P:=P) h7 (by rw[xj];simp)
    obtain⟨g',aj,E',fm,vm⟩:=G3 dm { rec .done (some c)with state:=.exhausted } FP (K e) Vn
    have bn:(Instr.endLoop l).run P W2=.ok (some c) (W2.putObj l (.loop { rec .done (some c)with state:=.exhausted })):=by rw[xj]at bn ⊢;exact bn
    refine⟨some c,_,bn,?_⟩
    cases e with
    | normal=>cases hc
    | ret=>cases hc;exact wpIn_ret ⟨.ret,g',aj,E',rfl,fm,hN,vm⟩
    | exit n=>cases hc;exact wpIn_exit ⟨.exit n,g',aj,E',rfl,fm,hN,vm⟩
def TX (n sz:Nat):AV→AV
 | .aY=>.vec n sz (fun _=>0) (fun _=>0)|v=>v
def Mi (n sz:Nat):Nat→List AV→List AV
 | _,[]=>[]|0,c::r=>TX n sz c::r|j+1,c::r=>c::Mi n sz j r
def pO (n sz:Nat) (ts:List Nat):Env→Env
 | []=>[]|(k,v)::r=>(k,match xb ts k with|true=>TX n sz v|false=>v)::pO n sz ts r
def TY (T:TypeId) (t:Ty) (E:List Chunk):Option (Nat×Nat)→List Chunk
 | none=>dz E (.au T t fun _=>[])
 | some (i,j)=>(match af E i with|.cells T' cs=>bh (dz E (.au T t fun _=>[])) i (.cells T' (Mi (ah E) t.size j cs))|_=>dz E (.au T t fun _=>[]))
theorem G6 {g g':Gh} {n sz:Nat} (hn:n<g'.n) (hV:g'.V n=none) (hm:∀ v u,R g v u→R g' v u) {v:AV} {u:Value} (h:R g v u):R g' (TX n sz v) u:=by
 cases v <;> first|exact hm _ _ h|skip
 cases h
 exact .vec n sz (fun _=>0) (fun _=>0) none 0 hn (abw _) (fun _=>⟨rfl,rfl,rfl,rfl⟩) (fun cap hc=>by rw[hV]at hc;cases hc)
theorem Bh {g g':Gh} {n sz:Nat} (hn:n<g'.n) (hV:g'.V n=none) (hm:∀ v u,R g v u→R g' v u):∀ (j:Nat) (cs:List AV) (us:List Value),RL g cs us→RL g' (Mi n sz j cs) us
 | j,[],[],_=>by cases j <;> exact trivial
 | 0,c::r,u::us,h=>⟨G6 hn hV hm h.1,RL.mk h.2.length (fun i y u h1 h2=>hm _ _ (h.2.at_ i y u h1 h2))⟩
 | j+1,c::r,u::us,h=>⟨hm _ _ h.1,Bh hn hV hm j r us h.2⟩
 | _,[],_::_,h=>h.elim
 | _,_::_,[],h=>h.elim
theorem G7 {g g':Gh} {n sz:Nat} {ts:List Nat} (hn:n<g'.n) (hV:g'.V n=none) (hm:∀ v u,R g v u→R g' v u) {tmps:Array Value}:∀ (env:Env),ER g env tmps→ER g' (pO n sz ts env) tmps:=by
 have one:∀ (env:Env) (t:Nat),look (pO n sz ts env) t=look env t∨look (pO n sz ts env) t=TX n sz (look env t):=by
  intro env t
  induction env with
  | nil=>exact .inl rfl
  | cons p r ih =>
   obtain⟨k,v⟩:=p
   simp only[pO,look]
   cases Nat.beq k t
   ·exact ih
   ·simp only
    cases xb ts k
    ·exact .inl rfl
    ·exact .inr rfl
 intro env h t
 rcases one env t with e|e <;> rw[e]
 ·exact hm _ _ (h t)
 ·exact G6 hn hV hm (h t)
theorem Iv.nil {S:Sc} {g:Gh} {env:Env} {E:List Chunk} {a:Act} {w:World} (h:Iv S g env E a w) (T:TypeId) (t:Ty) (p:Option (Nat×Nat)) (ts:List Nat) :
  ∃ g',Iv S g' (pO (ah E) t.size ts env) (TY T t E p) a w:=by
 obtain⟨B,hB,hI,hd⟩:=h
 have hlen:=hI.aZ.len
 have hN:=hI.new (c:=.au T t fun _=>[]) (b:=0) (v:=none) (l:=0) (w':=w) rfl rfl (jz.refl _) (abr _) (fun _ _=>rfl)
  ⟨by simp[Gh.add],fun _=>rfl,fun cap hc=>by simp[Gh.add]at hc⟩ (fun b hb=>by simp[Chunk.own,Gh.add]at hb)
 have hle:=g.jW 0 none 0
 have hm:∀ v u,R g v u→R (g.add 0 none 0) v u:=fun v u h=>h.mono hle
 have hn:ah E<(g.add 0 none 0).n:=by rw[hlen];exact acu _
 have hV:(g.add 0 none 0).V (ah E)=none:=by simp[Gh.add,hlen]
 have J6:=G7 (ts:=ts) (sz:=t.size) hn hV hm env hI.er
 have base:Iv S (g.add 0 none 0) (pO (ah E) t.size ts env) (dz E (.au T t fun _=>[])) a w:=⟨B,hB,⟨J6,hN.aZ,hN.ext⟩,hd⟩
 refine⟨g.add 0 none 0,?_⟩
 unfold TY
 split
 ·exact base
 ·rename_i i j
  split
  ·rename_i T' cs hc
   have hi:i<ah E:=dV (by rw[hc];simp)
   have hg:af (dz E (.au T t fun _=>[])) i=.cells T' cs:=by rw[l5,if_neg (by omega)];exact hc
   have hs:=hI.aZ.sat i
   rw[hc]at hs
   obtain⟨vs,h1,h2⟩:=hs
   have Zi:(g.add 0 none 0).B i=g.B i:=hle.B i (by omega)
   have gy:(Chunk.cells T' (Mi (ah E) t.size j cs)).sat (g.add 0 none 0) i w:=⟨vs,by rw[Zi];exact h1,Bh hn hV hm j cs _ h2⟩
   have cA:∀ k,af (bh (dz E (.au T t fun _=>[])) i (.cells T' (Mi (ah E) t.size j cs))) k=if i=k then .cells T' (Mi (ah E) t.size j cs)else af (dz E (.au T t fun _=>[])) k:=by
    intro k
    rw[bC]
    by_cases Ei:i=k
    ·subst Ei;simp[l6];omega
    ·simp[Ei]
   have hblk:∀ k b,(af (bh (dz E (.au T t fun _=>[])) i (.cells T' (Mi (ah E) t.size j cs))) k).own (g.add 0 none 0) k b=(af (dz E (.au T t fun _=>[])) k).own (g.add 0 none 0) k b:=by
    intro k b
    rw[cA]
    split
    ·rename_i e;subst e;rw[hg];rfl
    ·rfl
   refine⟨B,hB,⟨J6,⟨by rw[ck];exact hN.aZ.len,hN.aZ.dA,fun k=>?_,fun k m b hk AB=>?_,fun k b hk=>?_⟩,⟨hN.ext.os,hN.ext.tape,hN.ext.output,hN.ext.size,hN.ext.cE,hN.ext.dA,hN.ext.fS,fun k b hk=>?_,hN.ext.n,hN.ext.ids,hN.ext.kk,fun k hk=>?_,hN.ext.r9,hN.ext.qN⟩⟩,hd⟩
   ·rw[cA]
    split
    ·rename_i e;subst e;exact gy
    ·exact hN.aZ.sat k
   ·rw[hblk]at hk AB;exact hN.aZ.lL k m b hk AB
   ·rw[hblk]at hk;exact hN.aZ.dQ k b hk
   ·rw[hblk]at hk;exact hN.ext.own k b hk
   ·rw[cA]
    split
    ·rfl
    ·exact hN.ext.nJ k hk
  ·exact base
theorem aH.nil {P:Program} {N:Nat} {M:List Bool} {S:Sc} {body:Code} {env:Env} {E:List Chunk} {K:Ex→Env→List Chunk→Prop} (T:TypeId) (t:Ty) (p:Option (Nat×Nat)) (ts:List Nat)
  (h:jU (pO (ah E) t.size ts env) fun aj=>iM (TY T t E p) fun E'=>aH P N S M body aj E' K):aH P N S M body env E K where
 h:=by
  intro r g a w hr hM hI hN
  obtain⟨g',h'⟩:=hI.nil T t p ts
  rw[dn,bf]at h
  exact h.h r g' a w hr hM h' hN
theorem aC.nil {P:Program} {N:Nat} {M:List Bool} {S:Sc} {c:Code} {env:Env} {E:List Chunk} {K:Ex→Env→List Chunk→Prop} (T:TypeId) (t:Ty) (p:Option (Nat×Nat)) (ts:List Nat)
  (h:jU (pO (ah E) t.size ts env) fun aj=>iM (TY T t E p) fun E'=>aC P N S M c aj E' K):aC P N S M c env E K where
 h:=by
  intro r g a w hr hM hI hN
  obtain⟨g',h'⟩:=hI.nil T t p ts
  rw[dn,bf]at h
  exact h.h r g' a w hr hM h' hN
theorem oJ.intro {P:Program} {N:Nat} {S:Sc} {Me:Operand} {ps:List Nat} {assign body:Code} {φ:List Nat} {env:Env} {E:List Chunk} {K:Ex→Env→List Chunk→Prop} {cM:Env} {E1:List Chunk}
  {gf:FuncId} {lb:List AV} {α:Type} {iz:α→List AV} {xs:List α} (P6:gG P gf lb iz xs) (captured:List AV) {X:Type} (inv:Nat→X→Prop) (Kx:Ex→X→Prop) (ch:X→List Chunk) (x0:X)
  (h1:ev cM Me=.fn (.func gf) [] captured) (h2:sC [] captured lb) (h3:∀ x,(iz x).length=ps.length) (h4:∀ p∈ps,p<N) (h5:pG (rS (ah E)) E1 (rS (ah E)) (ch x0)) (h6:∀ x,fb (ch x0) (ch x)=true) (h7:fu assign=true∧fu body=true) (h8:inv 0 x0)
  (h9:∀ (S1 S2:Sc) k x y,xs[k]?=some y→inv k x→fH P N S1 (bB (ch x0)) assign (n4 ps (iz y) (bj (okF (ch x0)) cM)) (ch x) fun e aj E'=>(match e with
   | .normal=>fH P N S2 (bB (ch x0)) body aj E' fun e ke Q5=>(match e with
    | .normal=>∃ x' π,bI π=true∧gP (bB (ch x0)) 0 π=true∧pG π Q5 π (ch x')∧inv (k+1) x'
    | e=>∃ x' π,bI π=true∧gP (bB (ch x0)) 0 π=true∧pG π Q5 π (ch x')∧Kx e x')
   | _=>False))
  (fm:∀ x,inv xs.length x→n5 (ch x0) (ch x)=true∧K .normal (bj (xe φ E) env) (kV (xe φ E) φ 0 E (ch x)))
  (vm:∀ e x,Kx e x→e≠.normal→n5 (ch x0) (ch x)=true∧K e (bj (xe φ E) env) (kV (xe φ E) φ 0 E (ch x))):oJ P N S Me ps assign body φ env E K cM E1 :=
 ⟨⟨gf,captured,lb,α,iz,xs,X,inv,Kx,ch,x0,h1,h2,P6,h3,h4,h5,h6,h7,h8,h9,fm,vm⟩⟩
def CI (env:Env):Nat→Nat→List AV
 | _,0=>[]|k,n+1=>look env k::CI env (k+1) n
theorem tL {g:Gh} {env:Env} {aD:Array Value} (h:ER g env aD):∀ (n k:Nat),k+n=aD.size→RL g (CI env k n) (aD.toList.drop k)
 | 0,k,hk=>by
  have:aD.toList.drop k=[]:=ad1 (by simp;omega)
  rw[this];trivial
 | n+1,k,hk=>by
  have bm:k<aD.toList.length:=by simp;omega
  rw[acj bm]
  refine⟨?_,tL h n (k+1) (by omega)⟩
  have:=h k
  rw[abJ]at this
  have e:aD[k]?=some (aD.toList[k]'bm):=by rw[←ada];exact abj bm
  rw[e]at this
  exact this
theorem ab.rest {P:Program} {f:FuncId} {args args₀:List AV} {env:Env} {E:List Chunk} {K:AV→Env→List Chunk→Prop} {Y:Type} {Q:Y→Prop} {res:Y→AV} {out:Y→List Chunk}
  (hs:aa P f args₀ [] Q res out) (φ:List Nat) (ha:yY φ (gB 0 args) E fun Rn E1=>sC [] (CI Rn 0 args.length) args₀)
  (FP:∀ y,Q y→y0 (out y) (res y)=true∧n5 (out y) (out y)=true)
  (k:∀ y,Q y→fV (du (ia [] (ah E)) (res y)) fun r=>iM (jc (ia [] (ah E)) [] (out y) E) fun E'=>K r env E'):ab P f args env E K where
 aA:=hs.aA
 h:=by
  intro B g tmps w aD h hr
  have hl:=hr.length
  have Rh:ER g (gB 0 args) aD.toArray:=ki 0 args aD hr (fun j u hj=>by simp[abJ,hj])
  obtain⟨g1,Rn,E1,vC,P5,hle,rT,hΦ1,_⟩:=sD φ h.aZ Rh ha
  have eu:=tL P5 args.length 0 (by simpa using hl)
  have eu:RL (g1.dO []) args₀ aD:=fv _ _ _ hle (by simpa using eu)
  refine(hs.h (g1.dO []) w aD (vC.dO (π:=[]) (E':=[]) trivial rfl) eu).mono ?_
  rintro e w' ⟨y,c,g',hq,rfl,h1,h2,h3⟩
  obtain⟨Zj,Mj⟩:=FP y hq
  let g2:Gh:={ g' with Φ:=g.Φ }
  have xh:pM (out y) g' g2:=⟨abr _,fun _ _=>rfl,fun _ _=>rfl,fun _ _=>rfl⟩
  have cu:∀ b,¬(⟨g1.dO [],[],w⟩:bU).owns b:=fun b ⟨i,hi⟩=>by simp[af]at hi;cases hi
  have Ke:∀ b,¬(⟨g.dO [],[],w⟩:bU).owns b:=fun b ⟨i,hi⟩=>by simp[af]at hi;cases hi
  have yV:∀ i b,(af (out y) i).own g2 i b=(af (out y) i).own g' i b:=fun i b=>Chunk.oH rfl rfl rfl rfl
  have GV:fg g2 (out y) w':=by
   refine⟨h2.len,fun b o hb=>h2.dA b o (h3.dA b o (hΦ1 b o hb)),fun i=>?_,fun i j b hi hj=>?_,fun i b hi=>?_⟩
   ·refine vN xh ?_ (fi Mj i) (fun _ _=>rfl) (h2.sat i)
    cases hc:af (out y) i with
    | none=>exact .inr rfl
    | cells _ _=>left;simp[bO,hc]
    | au _ _ _=>left;simp[bO,hc]
    | count k=>have:=fi Mj i;rw[hc]at this;cases this
    | row _ _ _=>have:=fi Mj i;rw[hc]at this;cases this
    | jC _ _ _=>have:=fi Mj i;rw[hc]at this;cases this
    | heap _=>have:=fi Mj i;rw[hc]at this;cases this
    | bg _=>have:=fi Mj i;rw[hc]at this;cases this
    | jD _ _ _ _=>have:=fi Mj i;rw[hc]at this;cases this
    | jy _ _=>have:=fi Mj i;rw[hc]at this;cases this
   ·rw[yV]at hi hj;exact h2.lL i j b hi hj
   ·rw[yV]at hi
    rcases h3.own i b hi with h4|h4
    ·cases hp:g2.Φ b with
     | none=>rfl
     | some o=>have:=bt (h.aZ.dA b o hp);exact absurd h4 (by simp only;omega)
    ·exact(cu b h4).elim
  have Vo:Ext ⟨g.dO [],[],w⟩ g2 (out y) w' :=
   ⟨h3.os,h3.tape,h3.output,h3.size,fun b hb _=>h3.cE b hb (cu b),fun _ _ h=>h,fun _ _ h=>.inl h,fun i b hi=>by
    rw[yV]at hi
    exact(h3.own i b hi).imp id (fun h=>(cu b h).elim),abw _,fun i hi=>(by cases hi),h3.kk.trans rT.k,fun i hi=>(by cases hi),fun i k hi=>(by cases hi),fun i hi=>(by cases hi)⟩
  obtain⟨h4,h5⟩:=h.join (π:=[]) (E₀:=[]) rfl rfl trivial GV Vo
  have hid:∀ v:AV,du (ib [] []) v=v:=fun v=>by
   have:ib [] []=id:=by funext v;cases v <;> rfl
   rw[this];exact iu v
  have Vp:∀ E:List Chunk,cY (ib [] []) E=E:=fun E=>by
   have:ib [] []=id:=by funext v;cases v <;> rfl
   rw[this]
   induction E with
   | nil=>rfl
   | cons c r ih=>simp only[cY,ih,w9]
  have wO:=k y hq
  rw[gu,bf]at wO
  rw[Vp]at h4
  refine⟨c,_,_,env,_,rfl,⟨fun t=>?_,h4.aZ,h4.ext⟩,h5 _ _ (tI xh _ _ Zj h1),wO⟩
  have:=h4.er t
  rw[cZ,hid]at this
  exact this
theorem ae.nil {M:List Bool} {env:Env} {E:List Chunk} {l:List AV} {Y:Type} {Q:Y→Prop} {res:Y→List AV} {out:Y→List Chunk} (T:TypeId) (t:Ty) (j:Nat)
  (h:iM (dz E (.au T t fun _=>[])) fun E'=>fL (Mi (ah E) t.size j l) fun l'=>ae M [] E' l' Q res out):ae M env E l Q res out where
 h:=by
  intro B g tmps w cs hM hI hr
  rw[bf,fA]at h
  have hlen:=hI.aZ.len
  have hN:=hI.new (c:=.au T t fun _=>[]) (b:=0) (v:=none) (l:=0) (w':=w) rfl rfl (jz.refl _) (abr _) (fun _ _=>rfl)
   ⟨by simp[Gh.add],fun _=>rfl,fun cap hc=>by simp[Gh.add]at hc⟩ (fun b hb=>by simp[Chunk.own,Gh.add]at hb)
  have hle:=g.jW 0 none 0
  have hm:∀ v u,R g v u→R (g.add 0 none 0) v u:=fun v u h=>h.mono hle
  have hn:ah E<(g.add 0 none 0).n:=by rw[hlen];exact acu _
  have hV:(g.add 0 none 0).V (ah E)=none:=by simp[Gh.add,hlen]
  exact h.h B _ tmps w cs hM ⟨fun t=>.undef _,hN.aZ,hN.ext⟩ (Bh hn hV hm j l cs hr)
theorem ab.im {P:Program} {f:FuncId} {args:List AV} {env:Env} {E:List Chunk} {K:AV→Env→List Chunk→Prop} (i:Nat) (h:Fw.im i env E args fun aj E' Rp=>ab P f Rp aj E' K) (hc:fY P f):ab P f args env E K where
 aA:=hc
 h:=by
  intro B g tmps w aD hI hr
  obtain⟨g',aj,E',mY,h1,h2,h3⟩:=wR hI hr h
  exact h3.h B g' tmps w aD h1 h2
def jf:Chunk→Chunk
 | .row T t xs=>.au T t xs|c=>c
theorem EC {g:Gh} {i:Nat} {w:World} {c:Chunk} (h:c.sat g i w):(jf c).sat g i w:=by cases c <;> exact h
theorem ED (g:Gh) (i:Nat) (c:Chunk) (b:Nat):(jf c).own g i b=c.own g i b:=by cases c <;> rfl
theorem Inv.jf {B:bU} {g:Gh} {env:Env} {E:List Chunk} {tmps:Array Value} {w:World} (h:Inv B g env E tmps w) {i:Nat} (hi:ah B.E≤i):Inv B g env (bh E i (jf (af E i))) tmps w:=by
 have cA:∀ j,af (bh E i (Fw.jf (af E i))) j=if i=j then Fw.jf (af E j)else af E j:=by
  intro j
  rw[bC]
  by_cases cD:i=j
  ·subst cD
   by_cases hl:i<ah E
   ·simp[hl]
   ·have:af E i=.none:=by rw[JI,abS (by rw[←JH];omega)];rfl
    simp[hl,this,Fw.jf]
  ·simp[cD]
 have hb:∀ j b,(af (bh E i (Fw.jf (af E i))) j).own g j b=(af E j).own g j b:=fun j b=>by
  rw[cA];split
  ·exact ED _ _ _ _
  ·rfl
 refine⟨h.er,⟨by rw[ck];exact h.aZ.len,h.aZ.dA,fun j=>?_,fun j k b hj hk=>h.aZ.lL j k b (by rw[←hb];exact hj) (by rw[←hb];exact hk),fun j b hj=>h.aZ.dQ j b (by rw[←hb];exact hj)⟩,
  ⟨h.ext.os,h.ext.tape,h.ext.output,h.ext.size,h.ext.cE,h.ext.dA,h.ext.fS,fun j b hj=>h.ext.own j b (by rw[←hb];exact hj),h.ext.n,h.ext.ids,h.ext.kk,fun j hf=>?_,h.ext.r9,h.ext.qN⟩⟩
 ·rw[cA];split
  ·exact EC (h.aZ.sat j)
  ·exact h.aZ.sat j
 ·rw[cA]
  split
  ·have:=jV hf;omega
  ·exact h.ext.nJ j hf
theorem ae.jf {M:List Bool} {env:Env} {E:List Chunk} {l:List AV} {Y:Type} {Q:Y→Prop} {res:Y→List AV} {out:Y→List Chunk} (i:Nat) (hM:Nat.ble M.length i=true) (h:ae M env (bh E i (Fw.jf (af E i))) l Q res out):ae M env E l Q res out where
 h:=by
  intro B g tmps w cs hB hI hr
  exact h.h B g tmps w cs hB (hI.jf (by rw[←gA,hB];exact ab3 hM)) hr
def flat:Ty→Bool
 | .list _=>false|.pair a b=>flat a && flat b|_=>true
theorem nk:∀ (t:Ty),flat t=true→∀ x y:t.den,(Cc t x y=true↔x=y)
 | .int k,_,x,y=>by
  show(@BEq.beq Int _ x y=true↔x=y)
  exact beq_iff_eq
 | .bool,_,x,y=>by
  show(@BEq.beq Bool _ x y=true↔x=y)
  exact beq_iff_eq
 | .str,_,x,y=>by
  show(@BEq.beq (List UInt8) _ x y=true↔x=y)
  exact beq_iff_eq
 | .list e,h,x,y=>by cases h
 | .pair a b,h,x,y=>by
  have h:(flat a && flat b)=true:=h
  rw[abD]at h
  show((Cc a x.1 y.1 && Cc b x.2 y.2)=true↔x=y)
  rw[abD,nk a h.1,nk b h.2]
  exact Prod.ext_iff.symm
theorem G8 (t:Ty) (h:flat t=true) (x y:t.den):Cc t x y=false↔x≠y:=by
 rw[←ad9,nk t h]
theorem xk {α:Type} {a b:List α} {i:Nat} {d:α} (hi:i<a.length) (hj:i<b.length) (h:a.take i=b.take i) (he:a.getD i d=b.getD i d):a.take (i+1)=b.take (i+1):=by
 rw[abi,abi,abj hi,abj hj]at he
 rw[abY,abY,h,abj hi,abj hj]
 exact congrArg _ (congrArg _ (congrArg _ he))
theorem bs:(∀ (p:Prop) [Decidable p],(decide p=true)=p)∧(∀ (p:Prop) [Decidable p],(decide p=false)=¬p)∧(∀ (α:Type) [BEq α] [LawfulBEq α] (a b:α),((a == b)=true)=(a=b))∧(∀ (α:Type) [BEq α] [LawfulBEq α] (a b:α),((a == b)=false)=¬a=b) ∧
  (∀ (α:Type) [BEq α] [LawfulBEq α] (a b:α),((a != b)=true)=(a≠b))∧(∀ (α:Type) [BEq α] [LawfulBEq α] (a b:α),((a != b)=false)=(a=b))∧(∀ b:Bool,((!b)=true)=(b=false))∧(∀ b:Bool,((!b)=false)=(b=true))∧((!true)=false)∧((!false)=true) :=
 ⟨fun _ _=>propext decide_eq_true_iff,fun _ _=>propext decide_eq_false_iff_not,fun _ _ _ _ _=>propext beq_iff_eq,fun _ _ _ _ _=>propext beq_eq_false_iff_ne,fun _ _ _ _ _=>propext bne_iff_ne,fun _ _ _ _ _=>propext bne_eq_false_iff_eq,fun _=>acv _,fun _=>Bool.not_eq_false' _,rfl,rfl⟩
theorem ab.q {P:Program} {f:FuncId} {args args₀:List AV} {env:Env} {E E₀:List Chunk} {K:AV→Env→List Chunk→Prop} {Y:Type} {Q:Y→Prop} {res:Y→AV} {out:Y→List Chunk}
  (hs:aa P f args₀ E₀ Q res out) (π:List Nat)
  (k:∀ y,Q y→fV (du (ia π (ah E)) (res y)) fun r=>jU (bj (ib π E₀) env) fun aj=>iM (jc (ia π (ah E)) π (out y) (cY (ib π E₀) E)) fun E'=>K r aj E')
  (hn:bI π=true:=by rfl) (hk:Bc E₀=true:=by rfl)
  (ha:sC π args args₀:=by((repeat' ((conv=>whnf) <;> first|exact rfl|exact trivial|exact Hp.aJ _|apply And.intro|exact abx _));done))
  (hE:pG π E π E₀:=by((repeat' ((conv=>whnf) <;> first|exact rfl|exact trivial|exact Hp.aJ _|apply And.intro|exact abx _));done)):ab P f args env E K:=ab.intro hs π hn hk ha hE k
theorem ae.q {M:List Bool} {env:Env} {E:List Chunk} {l:List AV} {Y:Type} {Q:Y→Prop} {res:Y→List AV} {out:Y→List Chunk} (y:Y) (π:List Nat)
  (hE:pG π E π (out y)) (hl:sC π l (res y)) (hq:Q y) (hn:bI π=true:=by rfl) (hh:gP M 0 π=true:=by rfl):ae M env E l Q res out:=ae.intro y π hn hh hE hl hq
theorem ae.w {M:List Bool} {env:Env} {E:List Chunk} {l:List AV} {Y:Type} {Q:Y→Prop} {res:Y→List AV} {out:Y→List Chunk} (y:Y) (π:List Nat) (q:Prop) (h:q)
  (e:Im q (pG π E π (out y)∧sC π l (res y)∧Q y):=by
  (repeat' ((conv=>arg 2;whnf);first
   | (apply Im.done;exact rfl)
   | (apply Im.done;exact trivial)
   | (apply Im.done;exact Hp.aJ _)
   | apply Im.and
   | (apply Im.done;exact abx _)
   | fail))
  (all_goals ((conv=>arg 2;whnf);(try (conv=>arg 2;simp only[]));exact Im.id)))
  (hn:bI π=true:=by rfl) (hh:gP M 0 π=true:=by rfl):ae M env E l Q res out :=
 ae.intro y π hn hh (e.h h).1 (e.h h).2.1 (e.h h).2.2
theorem ae.z {M:List Bool} {env:Env} {E:List Chunk} {l:List AV} {Y:Type} {Q:Y→Prop} {res:Y→List AV} {out:Y→List Chunk} (y:Y) (π:List Nat) {q:Prop}
  (e:Im q (pG π E π (out y)∧sC π l (res y)∧Q y):=by
  (repeat' ((conv=>arg 2;whnf);first
   | (apply Im.done;exact rfl)
   | (apply Im.done;exact trivial)
   | (apply Im.done;exact Hp.aJ _)
   | apply Im.and
   | (apply Im.done;exact abx _)
   | fail))
  (all_goals ((conv=>arg 2;whnf);(try (conv=>arg 2;simp only[]));exact Im.id)))
  (h:q:=by(repeat' first|exact trivial|apply And.intro))
  (hn:bI π=true:=by rfl) (hh:gP M 0 π=true:=by rfl):ae M env E l Q res out :=
 ae.intro y π hn hh (e.h h).1 (e.h h).2.1 (e.h h).2.2
theorem aC.mid {P:Program} {N:Nat} {M:List Bool} {S:Sc} {c a b:Code} {env:Env} {E:List Chunk} {K:Ex→Env→List Chunk→Prop} (hm:P.follows .mixedOrders=true) {X:Type} (inv:X→Prop) (st:X→Env) (ch:X→List Chunk)
  (hc:c=.seq a b)
  (first:fH P N S M a env E fun e aj E'=>match e with
   | .normal=>∃ x,∃ π,Le M π aj E' (st x) (ch x)∧inv x
   | .ret=>K .ret aj E'|.exit n=>K (.exit n) aj E')
  (rest:∀ x,inv x→jU (st x) fun env=>iM (ch x) fun E=>aC P N S M b env E K):aC P N S M c env E K:=by
 subst hc
 refine⟨fun r g a' w hr hM h hN=>?_⟩
 obtain⟨oC,tj⟩:=oG hr rfl
 refine wpIn_seq (adD (ja hm hM a r oC h hN first) ?_)
 rintro e a' w' ⟨e',g',aj,E',rfl,h1,h2,h4⟩
 cases e' with
 | normal =>
  obtain⟨x,π,hle,hi⟩:=h4
  have hk:=rest x hi
  rw[dn,bf]at hk
  exact hk.h r (g'.dO π) a' w' tj hM (h1.dO hM hle) h2
 | ret=>exact⟨.ret,g',aj,E',rfl,h1,h2,h4⟩
 | exit n=>exact⟨.exit n,g',aj,E',rfl,h1,h2,h4⟩
end Go.Proofs.YthnefnlhcijekaaGreat.Fw
namespace Go.Proofs.YthnefnlhcijekaaGreat.Sl
open Go Go.RowKit Fw
theorem hm:Tryz.prog.follows .mixedOrders=true:=by kernel_rfl
abbrev pP:Ty:=.pair (.int .i64) (.pair .bool (.int .i64))
structure cp where
 cells:List (Int×Bool×Int)
 words:List Int
 each:Int
 first:Int
 free:Int
def ch (s:cp):List Chunk :=
  [.cells 169 [.vec 1 3 (fun _=>0) (fun _=>s.cells.length),.vec 2 1 (fun _=>0) (fun _=>s.words.length),.int .i64 fun _=>s.each,.int .i64 fun _=>s.first,.int .i64 fun _=>s.free],
   .au 171 pP fun _=>s.cells,.au 41 (.int .u64) fun _=>s.words]
def gen (s:cp) (i:Nat):Int:=(s.cells.getD i (0,false,0)).1
def eZ (s:cp) (i:Int):Int:=IntKind.i64.wrap (IntKind.i64.wrap (gen s i.toNat*64)+i)
def jA (s:cp) (h:Int):Bool:=decide (0≤h) && decide (h.tmod 64<s.cells.length) && (s.cells.getD (h.tmod 64).toNat (0,false,0)).2.1 && eZ s (h.tmod 64) == h
theorem handle (s:cp) (i:Int) (h:0≤i∧i<s.cells.length):aa Tryz.prog 115 [.ptr 0 0,.int .i64 fun _=>i] (ch s) (Y:=Unit) (fun _=>True)
  (fun _=>.int .i64 fun _=>eZ s i) (fun _=>ch s):=by
 (refine aa.q Tryz.func115 rfl fun S ao=>Wb _ ?_;(repeat' first|exact tv|apply pr|intro hh))
 ·exact⟨h⟩
 ·(refine ae.w () [0,1,2] _ ?_;(repeat' first|exact tv|apply pr))
  show IntKind.i64.wrap (IntKind.i64.wrap ((s.cells.getD (0+i.toNat) pP.a8).1*64)+i)=_
  rw[abx];rfl
theorem q8 {h:Int} (h0:¬h<0):0≤h.tmod 64∧h.tmod 64<64:=by
 have h1:=adY 64 (a:=h) (by omega)
 have h2:=Int.tmod_lt_of_pos h (b:=64) (by omega)
 omega
theorem G9 (s:cp) (h:Int):aa Tryz.prog 163 [.ptr 0 0,.int .i64 fun _=>h] (ch s) (Y:=Unit) (fun _=>True)
  (fun _=>.bM [.int .i64 fun _=>if 0≤h then h.tmod 64 else -1,.bool fun _=>jA s h]) (fun _=>ch s):=by
 (refine aa.q Tryz.func163 rfl fun S ao=>Wb _ ?_;(repeat' first|exact tv|apply pr|intro hh))
 ·(refine ae.w () [0,1,2] _ ?_;(repeat' first|exact tv|apply pr))
  ·rw[if_neg (by omega)]
  ·simp[jA];omega
 ·exact⟨by decide⟩
 ·have:=q8 ‹_›
  exact⟨⟨this.1,hh⟩⟩
 ·have:=q8 ‹_›
  (refine ab.q (handle s (h.tmod 64) ⟨this.1,‹_›⟩) [0,1,2] fun y hy=>Wb _ ?_;(repeat' first|exact tv|apply pr|intro hh))
  (refine ae.w () [0,1,2] _ ?_;(repeat' first|exact tv|apply pr))
  ·rw[if_pos (by omega)]
  ·rename_i h1 h2
   have e:0+(h.tmod 64).toNat=(h.tmod 64).toNat:=abx _
   rw[e]at hh
   have Ha:(s.cells.getD (h.tmod 64).toNat (0,false,0)).2.1=true:=hh
   simp only[jA]
   rw[Ha,decide_eq_true (show 0≤h by omega),decide_eq_true h2];rfl
 ·have:=q8 ‹_›
  (refine ae.w () [0,1,2] _ ?_;(repeat' first|exact tv|apply pr))
  ·rw[if_pos (by omega)]
  ·have e:0+(h.tmod 64).toNat=(h.tmod 64).toNat:=abx _
   rw[e]at hh
   have Ha:(s.cells.getD (h.tmod 64).toNat (0,false,0)).2.1=false:=hh
   simp only[jA]
   rw[Ha];simp
 ·(refine ae.w () [0,1,2] _ ?_;(repeat' first|exact tv|apply pr))
  ·rw[if_pos (by omega)]
  ·simp only[jA];rw[decide_eq_false hh];simp
theorem wr {x:Int} (h:-9223372036854775808≤x∧x≤9223372036854775807):IntKind.i64.wrap x=x:=by rw[IntKind.wrap_i64];omega
structure Ok (s:cp) (n:Nat):Prop where
 len:s.cells.length=n
 cap:1≤n∧n≤64
 each:0≤s.each∧s.each≤1000
 words:(s.words.length:Int)=n*s.each
 first:-1≤s.first∧s.first<n
 next:∀ (i:Nat) (c:Int×Bool×Int),s.cells[i]?=some c→-1≤c.2.2∧c.2.2<n
theorem Ok.at_ {s:cp} {n:Nat} (h:Ok s n) {i:Int} (hi:0≤i∧i<n):0≤i*s.each∧i*s.each+s.each≤s.words.length∧(i+1)*s.each=i*s.each+s.each∧i*s.each+s.each≤64000:=by
 have h1:=h.words
 have h2:=h.each
 have h3:=h.cap
 have h4:(i+1)*s.each=i*s.each+s.each:=by rw[ac3,ad2]
 have h5:0≤i*s.each:=abQ hi.1 h2.1
 have h6:(i+1)*s.each≤n*s.each:=acy (by omega) h2.1
 have h7:(n:Int)*s.each≤64*s.each:=acy (by omega) h2.1
 omega
theorem ofM (s:cp) (n:Nat) (i:Int) (ok:Ok s n) (h:0≤i∧i<n):aa Tryz.prog 114 [.ptr 0 0,.int .i64 fun _=>i] (ch s) (Y:=Unit) (fun _=>True)
  (fun _=>.vec 2 1 (fun _=>(i*s.each).toNat) (fun _=>s.each.toNat)) (fun _=>ch s):=by
 have h1:=ok.at_ h
 have h2:=ok.each
 have h3:=ok.cap
 have e1:IntKind.i64.wrap (i*s.each)=i*s.each:=wr (by omega)
 have e2:IntKind.i64.wrap (i+1)=i+1:=wr (by omega)
 have e3:IntKind.i64.wrap ((i+1)*s.each)=i*s.each+s.each:=by rw[h1.2.2.1];exact wr (by omega)
 (refine aa.q Tryz.func114 rfl fun S ao=>Wb _ ?_;(repeat' first|exact tv|apply pr|intro hh))
 ·refine⟨?_⟩
  simp only[]
  rw[e1,e2,e3];omega
 ·(refine ae.w () [0,1,2] _ ?_;(repeat' first|exact tv|apply pr))
  ·rw[e1,abx]
  ·rw[e1,e2,e3];omega
def cellAt (s:cp) (i:Nat):Int×Bool×Int:=s.cells.getD i (0,false,0)
def gR (s:cp):cp:={ s with
 cells:=s.cells.set s.first.toNat ((cellAt s s.first.toNat).1,true,(cellAt s s.first.toNat).2.2)
 words:=s.words.take (s.first*s.each).toNat++List.replicate s.each.toNat 0++s.words.drop ((s.first*s.each).toNat+s.each.toNat)
 first:=(cellAt s s.first.toNat).2.2
 free:=IntKind.i64.wrap (s.free - 1) }
theorem nn {s:cp} {n:Nat} (h:Ok s n) (i:Nat):-1≤(cellAt s i).2.2∧(cellAt s i).2.2<n:=by
 unfold cellAt
 rw[abi]
 cases hc:s.cells[i]? with
 | none=>have:=h.cap;simp;omega
 | some c=>exact h.next i c hc
theorem tM {s:cp} {n:Nat} (h:Ok s n) (i:Nat) {d:Int×Bool×Int} (hd:∀ c,c=d→-1≤c.2.2∧c.2.2<n):∀ (j:Nat) (c:Int×Bool×Int),(s.cells.set i d)[j]?=some c→-1≤c.2.2∧c.2.2<n:=by
 intro j c hc
 rw[acG]at hc
 split at hc
 ·split at hc
  ·cases hc;exact hd _ rfl
  ·cases hc
 ·exact h.next j c hc
theorem Rq (s:cp) (n:Nat) (ok:Ok s n) (h:s.first≠-1):aa Tryz.prog 64 [.ptr 0 0] (ch s) (Y:=Unit) (fun _=>True)
  (fun _=>.bM [.int .i64 fun _=>eZ s s.first,.int .i64 fun _=>0]) (fun _=>ch (gR s)):=by
 have h0:0≤s.first∧s.first<n:=by have:=ok.first;omega
 have h1:=ok.at_ h0
 have hl:=ok.len
 (refine aa.q Tryz.func64 rfl fun S ao=>Wb _ ?_;(repeat' first|exact tv|apply pr|intro hh))
 ·exact(h (by omega)).elim
 ·exact⟨by simp only[];omega⟩
 ·exact⟨by simp only[];omega⟩
 ·obtain⟨s1,vC⟩:∃ s1:cp,s1={ s with cells:=s.cells.set s.first.toNat ((cellAt s s.first.toNat).1,true,(cellAt s s.first.toNat).2.2),first:=(cellAt s s.first.toNat).2.2,free:=IntKind.i64.wrap (s.free - 1) }:=⟨_,rfl⟩
  have Zk:Ok s1 n:=by
   rw[vC]
   exact⟨by simpa using ok.len,ok.cap,ok.each,ok.words,nn ok _,tM ok _ (fun c hc=>by subst hc;exact nn ok _)⟩
  have XA:s1.each=s.each:=by rw[vC]
  refine ab.intro (ofM s1 n s.first Zk h0) [0,1,2] rfl rfl ?_ ?_ ?_
  ·exact Vc
  ·rw[vC];(refine Vb _ ?_;(repeat' first|exact tv|apply pr))
   all_goals simp[cellAt,Ty.a8]
  ·intro y hy
   rw[vC]
   (refine Wb _ ?_;(repeat' first|exact tv|apply pr|intro hh))
   have hw:=ok.words
   refine ab.intro (handle (gR s) s.first (by simp[gR];omega)) [0,1,2] rfl rfl ?_ ?_ ?_
   ·exact Vc
   ·simp only[gR];(refine Vb _ ?_;(repeat' first|exact tv|apply pr))
    all_goals (simp;try omega)
   ·intro y hy
    (refine Wb _ ?_;(repeat' first|exact tv|apply pr|intro hh))
    (refine ae.w () [0,1,2] _ ?_;(repeat' first|exact tv|apply pr))
    have bm:s.first.toNat<s.cells.length:=by omega
    simp[eZ,gen,gR,cellAt,acG,bm]
theorem N0 (s:cp) (h:s.first=-1):aa Tryz.prog 64 [.ptr 0 0] (ch s) (Y:=Unit) (fun _=>True)
  (fun _=>.bM [.int .i64 fun _=>0,.int .i64 fun _=>4]) (fun _=>ch s):=by
 (refine aa.q Tryz.func64 rfl fun S ao=>Wb _ ?_;(repeat' first|exact tv|apply pr|intro hh))
 ·exact ae.z () [0,1,2]
 all_goals exact absurd h ‹_›
theorem Rs (s:cp):aa Tryz.prog 70 [.ptr 0 0] (ch s) (Y:=Unit) (fun _=>True) (fun _=>.int .i64 fun _=>s.free) (fun _=>ch s):=by
 (refine aa.q Tryz.func70 rfl fun S ao=>Wb _ ?_;(repeat' first|exact tv|apply pr|intro hh))
 ·exact ae.z () [0,1,2]
def mo (s:cp) (i:Nat):cp:={ s with
 cells:=s.cells.set i (IntKind.i64.wrap ((cellAt s i).1+1),false,s.first)
 first:=i
 free:=IntKind.i64.wrap (s.free+1) }
theorem jg {s:cp} {h:Int} (hg:jA s h=true):0≤h∧(0≤h.tmod 64∧h.tmod 64<s.cells.length)∧(cellAt s (h.tmod 64).toNat).2.1=true∧eZ s (h.tmod 64)=h:=by
 simp only[jA,abD,decide_eq_true_eq,beq_iff_eq]at hg
 exact⟨hg.1.1.1,⟨(q8 (by omega)).1,hg.1.1.2⟩,hg.1.2,hg.2⟩
theorem Rt (s:cp) (h:Int):aa Tryz.prog 134 [.ptr 0 0,.int .i64 fun _=>h] (ch s) (Y:=Unit) (fun _=>True)
  (fun _=>.int .i64 fun _=>if jA s h then 0 else 6) (fun _=>ch (if jA s h then mo s (h.tmod 64).toNat else s)):=by
 (refine aa.q Tryz.func134 rfl fun S ao=>Wb _ ?_;(repeat' first|exact tv|apply pr|intro hh))
 ·(refine ab.q (G9 s h) [0,1,2] fun y hy=>Wb _ ?_;(repeat' first|exact tv|apply pr|intro hh))
  ·have hg:jA s h=false:=by simpa using hh
   (refine ae.w () [0,1,2] _ ?_;(repeat' first|exact tv|apply pr))
   all_goals simp[hg]
  all_goals (have hg:jA s h=true:=by simpa using hh)
  all_goals (have hq:=jg hg)
  ·exact⟨by simp only[];rw[if_pos hq.1];exact hq.2.1⟩
  ·exact⟨by simp only[];rw[if_pos hq.1];exact hq.2.1⟩
  ·(refine ae.w () [0,1,2] _ ?_;(repeat' first|exact tv|apply pr))
   all_goals (simp[hg,mo,cellAt,Ty.a8,hq.1])
   all_goals omega
def kW (s:cp) (i:Int) (xs:List Int):cp:={ s with words:=s.words.take (i*s.each).toNat++xs++s.words.drop ((i*s.each).toNat+s.each.toNat) }
theorem N3 (s:cp) (n:Nat) (ok:Ok s n) (h:Int) (xs:List Int):aa Tryz.prog 117 [.ptr 0 0,.int .i64 fun _=>h,.aG (.int .u64) fun _=>xs] (ch s) (Y:=Unit) (fun _=>True)
  (fun _=>.int .i64 fun _=>if jA s h then(if(xs.length:Int)=s.each then 0 else 1)else 6) (fun _=>ch (if jA s h∧(xs.length:Int)=s.each then kW s (h.tmod 64) xs else s)):=by
 (refine aa.q Tryz.func117 rfl fun S ao=>Wb _ ?_;(repeat' first|exact tv|apply pr|intro hh))
 ·(refine ab.q (G9 s h) [0,1,2] fun y hy=>Wb _ ?_;(repeat' first|exact tv|apply pr|intro hh))
  ·have hg:jA s h=false:=by simpa using hh
   (refine ae.w () [0,1,2] _ ?_;(repeat' first|exact tv|apply pr))
   all_goals simp[hg]
  ·rename_i hg
   (refine ae.w () [0,1,2] _ ?_;(repeat' first|exact tv|apply pr))
   all_goals simp[hg,hh]
  ·rename_i hg
   have he:(xs.length:Int)=s.each:=by simpa using hh
   have hq:=jg hg
   have hl:=ok.len
   have h1:=ok.at_ (i:=h.tmod 64) (by omega)
   have h2:=ok.each
   have h3:=ok.words
   refine ab.intro (ofM s n (h.tmod 64) ok (by omega)) [0,1,2] rfl rfl ?_ ?_ ?_
   ·(refine Vb _ ?_;(repeat' first|exact tv|apply pr))
    rw[if_pos hq.1]
   ·exact Vc
   ·intro y hy
    (refine Wb _ ?_;(repeat' first|exact tv|apply pr|intro hh))
    (refine ae.w () [0,1,2] _ ?_;(repeat' first|exact tv|apply pr))
    all_goals simp[kW,hg,he,lN]
    ·omega
    ·have e1:min xs.length s.each.toNat=s.each.toNat:=by omega
     have e2:xs.take s.each.toNat=xs:=abo (by omega)
     rw[e2]
     try simp[e1]
def rest (s:cp):AV:=.cL [.aG pP fun _=>s.cells,.aG (.int .u64) fun _=>s.words,.int .i64 fun _=>s.each,.int .i64 fun _=>s.first,.int .i64 fun _=>s.free] 0
theorem Kf (s:cp) (i:Int) (h:0≤i∧i<s.cells.length):aa Tryz.prog 115 [rest s,.int .i64 fun _=>i] [] (Y:=Unit) (fun _=>True)
  (fun _=>.int .i64 fun _=>eZ s i) (fun _=>[]):=by
 (refine aa.q Tryz.func115 rfl fun S ao=>Wb _ ?_;(repeat' first|exact tv|apply pr|intro hh))
 ·exact⟨h⟩
 ·exact ae.z () []
def dB (s:cp):Nat→List Int
 | 0=>[]|i+1=>dB s i++(if(cellAt s i).2.1 then[eZ s i]else[])
def taken (s:cp):List Int:=dB s s.cells.length
theorem mq (s:cp) (i:Nat):∀ n,i≤n→∃ r,dB s n=dB s i++r
 | 0,h=>by
  have:i=0:=by omega
  subst this;exact⟨[],rfl⟩
 | n+1,h=>by
  by_cases e:i=n+1
  ·subst e;exact⟨[],by simp⟩
  ·obtain⟨r,hr⟩:=mq s i n (by omega)
   exact⟨r++(if(cellAt s n).2.1 then[eZ s n]else[]),by simp only[dB,hr,aet]⟩
theorem Hb (s:cp) {i:Nat} (hi:i<s.cells.length) (ht:(cellAt s i).2.1=true):(taken s)[(dB s i).length]?=some (eZ s i):=by
 obtain⟨r,hr⟩:=mq s (i+1) s.cells.length hi
 unfold taken
 rw[hr]
 simp[dB,ht]
theorem XB {n:Nat} (i:Nat) (h:i<n) (hn:n≤64):IntKind.i64.wrap ((i:Int)+1)=((i+1:Nat):Int):=by rw[wr (by omega)];omega
theorem Kg (s:cp) (hl:s.cells.length≤64):gG Tryz.prog 173 [.cL [rest s] 0] (fun x:Int=>[.int .i64 fun _=>x]) (taken s):=by
 refine gG.intro hm (fn:=Tryz.f173) Tryz.func173 rfl (by decide) (ab3 rfl) (fun x g g' us h=>?_) ?_
 ·cases us with
  | nil=>exact h.elim
  | cons u r=>exact⟨by have:=h.1;rw[this.bS];exact .int _ _,by cases r with|nil=>trivial|cons=>exact h.2.elim⟩
 ·intro S l Ru
  (refine Wb _ ?_;(repeat' first|exact tv|apply pr|intro hh))
  refine aH.intro hm (X:=Nat) (fun i=>i≤s.cells.length) (fun i=>s.cells.length - i)
   (fun i=>[(10,.int .i64 fun _=>(i:Int)),(9,.int .i64 fun _=>(s.cells.length:Int)),(8,.aG pP fun _=>s.cells),(1,.cL [rest s] 0),(0,.fn (.yield l) [] [])]) (fun i=>[.count fun _=>(dB s i).length]) 0 [0] ?_ (abw _) (fun i hi=>?_)
  ·refine⟨rfl,rfl,?_,?_⟩
   ·exact Vc
   ·(refine Vb _ ?_;(repeat' first|exact tv|apply pr))
    split
    ·exact⟨trivial,trivial⟩
    ·rename_i h _;exact(h rfl).elim
  ·(refine Wb _ ?_;(repeat' first|exact tv|apply pr|intro hh))
   ·exact⟨by simp only[];omega⟩
   ·have ht:(cellAt s i).2.1=true:=by simpa [cellAt,Ty.a8]using hh
    have bm:i<s.cells.length:=by omega
    (refine ab.q (Kf s i (by omega)) [] fun y hy=>Wb _ ?_;(repeat' first|exact tv|apply pr|intro hh))
    refine Ru (dB s i).length (eZ s i) [(17,.tt),(10,.int .i64 fun _=>(i:Int)),(9,.int .i64 fun _=>(s.cells.length:Int)),(8,.aG pP fun _=>s.cells),(1,.cL [rest s] 0),(0,.fn (.yield l) [] [])] (Hb s bm ht) ?_ ⟨rfl,rfl,?_,?_⟩ ?_ ?_
    ·exact Vc
    ·exact Vc
    ·(refine Vb _ ?_;(repeat' first|exact tv|apply pr))
     split
     ·exact⟨trivial,trivial⟩
     ·rename_i h _;exact(h rfl).elim
    ·(refine Wb _ ?_;(repeat' first|exact tv|apply pr|intro hh))
     refine⟨i+1,[0],⟨rfl,rfl,?_,?_⟩,bm,by omega⟩
     ·(refine Vb _ ?_;(repeat' first|exact tv|apply pr))
      simp[dB,ht]
     ·(refine Vb _ ?_;(repeat' first|exact tv|apply pr))
      ·exact XB i bm hl
      ·split
       ·exact⟨trivial,trivial⟩
       ·rename_i h _;exact(h rfl).elim
    ·(refine Wb _ ?_;(repeat' first|exact tv|apply pr|intro hh))
     refine⟨_,⟨rfl,trivial⟩,.inr rfl⟩
   ·have ht:(cellAt s i).2.1=false:=by simpa [cellAt,Ty.a8]using hh
    have bm:i<s.cells.length:=by omega
    refine⟨i+1,[0],⟨rfl,rfl,?_,?_⟩,bm,by omega⟩
    ·(refine Vb _ ?_;(repeat' first|exact tv|apply pr))
     simp[dB,ht]
    ·(refine Vb _ ?_;(repeat' first|exact tv|apply pr))
     ·exact XB i bm hl
     ·split
      ·exact⟨trivial,trivial⟩
      ·rename_i h _;exact(h rfl).elim
   ·have e:i=s.cells.length:=by omega
    subst e
    exact⟨_,⟨rfl,trivial⟩,.inl rfl⟩
theorem N4 (s:cp):aa Tryz.prog 121 [.ptr 0 0] (ch s) (Y:=Unit) (fun _=>True)
  (fun _=>.fn (.func 173) [] [.ptr 3 0]) (fun _=>ch s++[.cells 108 [.ptr 0 0]]):=by
 (refine aa.q Tryz.func121 rfl fun S ao=>Wb _ ?_;(repeat' first|exact tv|apply pr|intro hh))
 exact ae.z () [0,1,2,3]
theorem vO (s:cp):∀ i,(dB s i).length≤i
 | 0=>abr _
 | i+1=>by have:=vO s i;simp only[dB,abp];split <;> simp <;> omega
theorem Mk (s:cp) (hl:s.cells.length≤64):aa Tryz.prog 66 [.ptr 0 0] (ch s) (Y:=Unit) (fun _=>True)
  (fun _=>.aG (.int .i64) fun _=>taken s) (fun _=>ch s):=by
 (refine aa.q Tryz.func66 rfl fun S ao=>Wb _ ?_;(repeat' first|exact tv|apply pr|intro hh))
 (refine ab.q (N4 s) [0,1,2] fun y hy=>Wb _ ?_;(repeat' first|exact tv|apply pr|intro hh))
 refine aC.nil 3 (.int .i64) (some (3,0)) [] ?_
 (conv=>whnf)
 refine aC.range hm ao [1,2,0,4] ?_
 (conv=>whnf)
 refine oJ.intro (Kg s hl) _ (X:=List Int) (fun k x=>x=(taken s).take k) (fun _ _=>False)
  (fun x=>[.none,.none,.none,.cells 122 [.vec 5 1 (fun _=>0) fun _=>x.length],.none,.au 3 (.int .i64) fun _=>x]) [] rfl ?_ (fun _=>rfl) ?_ ?_ (fun _=>rfl) ⟨rfl,rfl⟩ (by simp) ?_ ?_ ?_
 ·(refine Vb _ ?_;(repeat' first|exact tv|apply pr))
  all_goals simp
 ·intro p hp;simp at hp;subst hp;decide
 ·exact Vc
 ·intro S1 S2 k x y hy hx
  have Nq:x.length≤64:=by have:=vO s s.cells.length;rw[hx,aby];unfold taken;omega
  (refine Wb _ ?_;(repeat' first|exact tv|apply pr|intro hh))
  ·refine⟨⟨rfl,?_,?_⟩⟩
   ·show x.length+1≤_
    omega
   ·show(x.length+1)*8≤_
    omega
  ·refine⟨x++[y],[0,1,2,3,4,5],rfl,rfl,?_,?_⟩
   ·(refine Vb _ ?_;(repeat' first|exact tv|apply pr))
    all_goals simp
   ·rw[hx,abY,hy];rfl
 ·intro x hx
  refine⟨rfl,?_⟩
  have kO:x=taken s:=by rw[hx];exact abo (abr _)
  (refine Wb _ ?_;(repeat' first|exact tv|apply pr|intro hh))
  (refine ae.im 5 ?_;(conv=>whnf))
  (refine ae.w () [0,1,2] _ ?_;(repeat' first|exact tv|apply pr))
  simp[kO]
 ·intro e x h;exact h.elim
def dr (c i:Nat):List (Int×Bool×Int):=(List.range c).map fun j=>(0,false,if j<i then((j:Int)+1)else 0)
def iA (c w:Nat):cp:={ cells:=(dr c c).set (c - 1) (0,false,-1),words:=List.replicate (c*w) 0,each:=w,first:=0,free:=c }
theorem cB (c i:Nat):(dr c i).length=c:=by simp[dr]
theorem rV (c:Nat):List.replicate c ((0:Int),false,(0:Int))=dr c 0:=by
 apply ac5
 intro k
 simp only[dr,ach,List.getElem?_range',ab0]
 by_cases hk:k<c
 ·simp[hk]
 ·simp[hk]
theorem rW (c i:Nat) (h:i<c) (x:Int×Bool×Int) (hx:x=(0,false,(i:Int)+1)):(dr c i).set i x=dr c (i+1):=by
 subst hx
 apply ac5
 intro k
 rw[acG]
 simp only[dr,ach,ab4,List.length_range]
 by_cases hk:k<c
 ·by_cases Ei:i=k
  ·subst Ei;simp[h]
  ·have:(k<i+1)=(k<i):=by apply propext;omega
   simp[Ei,hk,this]
 ·by_cases Ei:i=k
  ·omega
  ·simp[Ei,hk]
theorem vP (c i k:Nat) (hk:k<c) (h:i≤k):(dr c i).getD k (0,false,0)=(0,false,0):=by
 have:¬k<i:=by omega
 simp[dr,abi,hk,this]
theorem q9 (c i k:Nat) (hk:k<c) (h:k<i):(dr c i).getD k (0,false,0)=(0,false,(k:Int)+1):=by
 simp[dr,abi,hk,h]
theorem nK (c w:Nat) (hc:1≤c∧c≤64) (hw:w≤32):aa Tryz.prog 56 [.int .i64 fun _=>(c:Int),.int .i64 fun _=>(w:Int)] [] (Y:=Unit) (fun _=>True)
  (fun _=>.bM [.ptr 0 0,.int .i64 fun _=>0]) (fun _=>ch (iA c w)):=by
 have hcw:c*w≤64*32:=Nat.mul_le_mul hc.2 hw
 have Rv:IntKind.i64.wrap ((c:Int)*(w:Int))=((c*w:Nat):Int):=by rw[←aeh];exact wr (by omega)
 (refine aa.q Tryz.func56 rfl fun S ao=>Wb _ ?_;(repeat' first|exact tv|apply pr|intro hh))
 all_goals first|omega|skip
 all_goals first
  | (refine Ob.mk ?_;simp only[Rv];exact⟨by omega,by omega,by omega,by show(8:Int)*_≤_;omega⟩)
  | (refine Ob.mk ?_;exact⟨by simp only[];omega,by simp only[];omega,by simp only[];omega,by
    have hb:(Tryz.t171.bytes:Int)≤1000:=by decide
    have:=abZ hb (show(c:Int)≤64 by omega) (by omega) (by omega)
    simp only[];omega⟩)
  | skip
 ·refine aH.intro hm (X:=Nat) (fun i=>i≤c) (fun i=>c - i)
   (fun i=>[(37,.int .i64 fun _=>(i:Int)),(36,.int .i64 fun _=>(c:Int)),(6,.ptr 0 0),(0,.int .i64 fun _=>(c:Int)),(1,.int .i64 fun _=>(w:Int))])
   (fun i=>ch { iA c w with cells:=dr c i }) 0 [2,0,1] ⟨rfl,rfl,?_,?_⟩ (abw _) (fun i hi=>?_)
  ·(refine Vb _ ?_;(repeat' first|exact tv|apply pr))
   ·simp[cB]
   ·rw[Rv,abm];simp[iA]
   ·simpa using rV c
   ·rw[Rv,abm];simp[iA]
  ·(refine Vb _ ?_;(repeat' first|exact tv|apply pr))
   all_goals simp
  ·(refine Wb _ ?_;(repeat' first|exact tv|apply pr|intro hh))
   ·exact⟨by simp only[cB];omega⟩
   ·refine⟨i+1,[0,1,2],⟨rfl,rfl,?_,?_⟩,by omega,by omega⟩
    ·(refine Vb _ ?_;(repeat' first|exact tv|apply pr))
     ·simp[cB]
     ·have hg:(dr c i).getD i (0,false,0)=(0,false,0):=vP c i i (by omega) (abr _)
      have e0:0+((i:Nat):Int).toNat=i:=by simp
      rw[e0,wr (by omega)]
      exact rW c i (by omega) _ (by rw[show pP.a8=((0:Int),false,(0:Int))from rfl,hg])
    ·(refine Vb _ ?_;(repeat' first|exact tv|apply pr))
     rw[wr (by omega)];omega
   ·refine⟨?_⟩
    simp only[cB]
    rw[wr (by omega)];omega
   ·have e:i=c:=by omega
    subst e
    (refine ae.w () [0,1,2] _ ?_;(repeat' first|exact tv|apply pr))
    ·simp[iA,cB]
    ·have hg:(dr i i).getD (i - 1) (0,false,0)=(0,false,((i - 1:Nat):Int)+1):=q9 i i (i - 1) (by omega) (by omega)
     have e0:0+(IntKind.i64.wrap ((i:Int) - 1)).toNat=i - 1:=by rw[wr (by omega)];omega
     rw[e0,show pP.a8=((0:Int),false,(0:Int))from rfl,hg]
     rfl
 ·refine aH.intro hm (X:=Nat) (fun i=>i≤c) (fun i=>c - i)
   (fun i=>[(37,.int .i64 fun _=>(i:Int)),(36,.int .i64 fun _=>(c:Int)),(6,.ptr 0 0),(0,.int .i64 fun _=>(c:Int)),(1,.int .i64 fun _=>(w:Int))])
   (fun i=>ch { iA c w with cells:=dr c i }) 0 [2,1,0] ⟨rfl,rfl,?_,?_⟩ (abw _) (fun i hi=>?_)
  ·(refine Vb _ ?_;(repeat' first|exact tv|apply pr))
   ·simp[cB]
   ·rw[Rv,abm];simp[iA]
   ·simpa using rV c
   ·rw[Rv,abm];simp[iA]
  ·(refine Vb _ ?_;(repeat' first|exact tv|apply pr))
   all_goals simp
  ·(refine Wb _ ?_;(repeat' first|exact tv|apply pr|intro hh))
   ·exact⟨by simp only[cB];omega⟩
   ·refine⟨i+1,[0,1,2],⟨rfl,rfl,?_,?_⟩,by omega,by omega⟩
    ·(refine Vb _ ?_;(repeat' first|exact tv|apply pr))
     ·simp[cB]
     ·have hg:(dr c i).getD i (0,false,0)=(0,false,0):=vP c i i (by omega) (abr _)
      have e0:0+((i:Nat):Int).toNat=i:=by simp
      rw[e0,wr (by omega)]
      exact rW c i (by omega) _ (by rw[show pP.a8=((0:Int),false,(0:Int))from rfl,hg])
    ·(refine Vb _ ?_;(repeat' first|exact tv|apply pr))
     rw[wr (by omega)];omega
   ·refine⟨?_⟩
    simp only[cB]
    rw[wr (by omega)];omega
   ·have e:i=c:=by omega
    subst e
    (refine ae.w () [0,1,2] _ ?_;(repeat' first|exact tv|apply pr))
    ·simp[iA,cB]
    ·have hg:(dr i i).getD (i - 1) (0,false,0)=(0,false,((i - 1:Nat):Int)+1):=q9 i i (i - 1) (by omega) (by omega)
     have e0:0+(IntKind.i64.wrap ((i:Int) - 1)).toNat=i - 1:=by rw[wr (by omega)];omega
     rw[e0,show pP.a8=((0:Int),false,(0:Int))from rfl,hg]
     rfl
theorem N5 (xs:List Int) (hl:xs.length≤100000):aa Tryz.prog 164 [.aG (.int .u64) fun _=>xs] [] (Y:=Unit) (fun _=>True)
  (fun _=>.vec 0 1 (fun _=>0) (fun _=>xs.length)) (fun _=>[.au 41 (.int .u64) fun _=>xs]):=by
 refine aa.q Tryz.func164 rfl fun S ao=>?_;(conv=>whnf)
 ((refine Wb _ ?_;(repeat' first|exact tv|apply pr|intro hh));all_goals(refine Wb _ ?_;(repeat' first|exact tv|apply pr|intro hh)))
 ·have hx:xs=[]:=‹_=true→xs=[]› hh
  refine ae.nil 41 (.int .u64) 0 ?_
  (conv=>whnf)
  (refine ae.w () [0] _ ?_;(repeat' first|exact tv|apply pr))
  all_goals simp[hx]
 ·refine⟨⟨rfl,?_,?_⟩⟩
  ·show 0+xs.length≤_
   omega
  ·show(0+xs.length)*8≤_
   omega
 ·exact ae.z () [0]
theorem CJ (s:cp) (n:Nat) (ok:Ok s n) (h:Int) (hg:jA s h=true):aa Tryz.prog 111 [.ptr 0 0,.int .i64 fun _=>h] (ch s) (Y:=Unit) (fun _=>True)
  (fun _=>.bM [.aG (.int .u64) fun _=>(s.words.drop (h.tmod 64*s.each).toNat).take s.each.toNat,.int .i64 fun _=>0]) (fun _=>ch s):=by
 have hq:=jg hg
 have hl:=ok.len
 have h1:=ok.at_ (i:=h.tmod 64) (by omega)
 have h2:=ok.each
 have h3:=ok.words
 (refine aa.q Tryz.func111 rfl fun S ao=>Wb _ ?_;(repeat' first|exact tv|apply pr|intro hh))
 ·(refine ab.q (G9 s h) [0,1,2] fun y hy=>Wb _ ?_;(repeat' first|exact tv|apply pr|intro hh))
  ·rw[hg]at hh;cases hh
  ·refine ab.intro (ofM s n (h.tmod 64) ok (by omega)) [0,1,2] rfl rfl ?_ ?_ ?_
   ·(refine Vb _ ?_;(repeat' first|exact tv|apply pr))
    rw[if_pos hq.1]
   ·exact Vc
   ·intro y hy
    (refine Wb _ ?_;(repeat' first|exact tv|apply pr|intro hh))
    refine ab.rest (N5 ((s.words.drop (h.tmod 64*s.each).toNat).take s.each.toNat) (by simp;omega)) [2] ?_ (fun _ _=>⟨rfl,rfl⟩) ?_
    ·exact Vc
    ·intro y hy
     (refine Wb _ ?_;(repeat' first|exact tv|apply pr|intro hh))
     (refine ae.im 3 ?_;(conv=>whnf))
     (refine ae.w () [0,1,2] _ ?_;(repeat' first|exact tv|apply pr))
     rw[abA,abv]
structure Ref where
 gen:List Int
 taken:List Bool
 words:List (List Int)
 row:List Int
def N6 (s:Ref) (i:Nat):Int:=IntKind.i64.wrap (IntKind.i64.wrap (64*s.gen.getD i 0)+i)
def ic (s:Ref) (i:Nat) (r:List Int):Ref:={ s with taken:=s.taken.set i true,words:=s.words.set i (List.replicate (s.words.getD i []).length 0),row:=r }
structure Jw (s:Ref) (n w:Nat):Prop where
 gen:s.gen.length=n
 taken:s.taken.length=n
 words:s.words.length=n
 cap:1≤n∧n≤64∧w≤32
 each:∀ x∈s.words,x.length=w
 row:s.row.length≤n∧∀ x∈s.row,0≤x∧x<n
theorem Jw.xl {s:Ref} {n w:Nat} (h:Jw s n w) {i:Nat} (hi:i<n):(s.words.getD i []).length=w:=by
 rw[abi,abj (by rw[h.words];exact hi)]
 exact h.each _ (abO _)
def dK (s:Ref) (h:Int):Int :=
 if h<0 then -1 else if(s.gen.length:Int)≤h.tmod 64∨s.taken.getD (h.tmod 64).toNat false=false∨s.gen.getD (h.tmod 64).toNat 0≠h.tdiv 64 then -1 else h.tmod 64
def jZ (s:Ref) (h:Int):Ref :=
 if dK s h<0 then s else { s with taken:=s.taken.set (dK s h).toNat false,gen:=s.gen.set (dK s h).toNat (IntKind.i64.wrap (s.gen.getD (dK s h).toNat 0+1)),row:=dK s h::s.row }
def pQ (s:Ref) (h:Int) (xs:List Int):Ref:={ s with words:=s.words.set (dK s h).toNat xs }
def fj (s:Ref):Nat→List Int
 | 0=>[]|i+1=>fj s i++(if s.taken.getD i false then[N6 s i]else[])
def Bi (s:Ref):List Int:=fj s s.gen.length
def jK (c w:Nat):Ref:={ gen:=List.replicate c 0,taken:=List.replicate c false,words:=List.replicate c (List.replicate w 0),row:=(List.range c).map fun j:Nat=>(j:Int) }
theorem Ok.new {c w:Nat} (hc:1≤c∧c≤64) (hw:w≤32):Ok (iA c w) c:=by
 refine⟨by simp[iA,cB],hc,⟨by simp[iA],by simp only[iA];omega⟩,by simp[iA],⟨by simp[iA],by simp only[iA];omega⟩,fun i d hd=>?_⟩
 simp only[iA]at hd
 rw[acG]at hd
 split at hd
 ·split at hd
  ·cases hd;exact⟨by simp,by simp only[];omega⟩
  ·cases hd
 ·rename_i bE
  simp only[dr,ach]at hd
  cases hr:(List.range c)[i]? with
  | none=>rw[hr]at hd;cases hd
  | some j =>
   rw[hr]at hd
   have hj:=(abk.1 hr)
   obtain⟨h1,h2⟩:=hj
   simp at h1 h2
   simp only[acb,ab6]at hd
   subst hd
   subst h2
   simp only[h1,if_true]
   omega
theorem Ok.take {s:cp} {n:Nat} (h:Ok s n) (hf:s.first≠-1):Ok (gR s) n:=by
 have h0:0≤s.first∧s.first<n:=by have:=h.first;omega
 have h1:=h.at_ h0
 have h2:=h.each
 have h3:=h.words
 exact⟨by simpa [gR]using h.len,h.cap,h.each,by simp only[gR,abp,aby,abG,abM];omega,nn h _,tM h _ (fun c hc=>by subst hc;exact nn h _)⟩
theorem Ok.Hc {s:cp} {n:Nat} (h:Ok s n) {i:Nat} (hi:i<n):Ok (mo s i) n :=
 ⟨by simpa [mo]using h.len,h.cap,h.each,h.words,⟨by simp only[mo];omega,by simp only[mo];omega⟩,tM h _ (fun c hc=>by subst hc;exact h.first)⟩
theorem Ok.write {s:cp} {n:Nat} (h:Ok s n) {i:Int} {xs:List Int} (hi:0≤i∧i<n) (hx:(xs.length:Int)=s.each):Ok (kW s i xs) n:=by
 have h1:=h.at_ hi
 have h2:=h.each
 have h3:=h.words
 exact⟨h.len,h.cap,h.each,by simp only[kW,abp,aby,abG];omega,h.first,h.next⟩
def ay (s:cp) (h:Int):List Int:=(s.words.drop (h.tmod 64*s.each).toNat).take s.each.toNat
def pR (s:cp):Int→List Int→Prop
 | f,[]=>f=-1
 | f,i::r=>f=i∧0≤i∧pR s (cellAt s i.toNat).2.2 r
structure Rel (s:cp) (r:Ref) (n w b:Nat):Prop where
 ok:Ok s n
 jx:Jw r n w
 each:s.each=w
 gen:∀ i,i<n→(cellAt s i).1=r.gen.getD i 0∧(cellAt s i).2.1=r.taken.getD i false
 bound:∀ i,i<n→0≤r.gen.getD i 0∧r.gen.getD i 0≤b
 words:∀ i,i<n→∀ k,k<w→s.words[i*w+k]?=(r.words.getD i [])[k]?
 chain:pR s s.first r.row
 free:s.free=r.row.length
 nodup:r.row.Nodup
 row:∀ i:Nat,i<n→((i:Int)∈r.row↔r.taken.getD i false=false)
theorem bo {α:Type} (l:List α) (i j:Nat) (x d:α) (h:i<l.length):(l.set i x).getD j d=if i=j then x else l.getD j d:=by
 rw[abi,abi,acG]
 by_cases e:i=j
 ·subst e;simp[h]
 ·simp[e]
section
variable {s:cp} {r:Ref} {n w b:Nat}
theorem Rel.eZ (h:Rel s r n w b) (hb:b≤100000000000) {i:Nat} (hi:i<n):eZ s i=64*r.gen.getD i 0+i∧N6 r i=64*r.gen.getD i 0+i:=by
 have h1:=(h.gen i hi).1
 have h2:=h.bound i hi
 have h3:=h.ok.cap
 have e:Sl.gen s ((i:Int).toNat)=r.gen.getD i 0:=by rw[abm];exact h1
 unfold Sl.eZ N6
 rw[e,wr (x:=r.gen.getD i 0*64) (by omega),wr (x:=64*r.gen.getD i 0) (by omega),wr (by omega),wr (by omega)]
 omega
theorem Rel.jg (h:Rel s r n w b) (hb:b≤100000000000) (x:Int):jA s x=true↔¬dK r x<0:=by
 have hl:=h.ok.len
 have hg:=h.jx.gen
 by_cases hx:x<0
 ·have:dK r x=-1:=by unfold dK;rw[if_pos hx]
  simp only[jA,this]
  rw[decide_eq_false (by omega)]
  simp
 ·have ht:=q8 hx
  have Ju:x=64*(x.tdiv 64)+x.tmod 64:=(adq x 64).symm
  by_cases bm:x.tmod 64<s.cells.length
  ·have hi:(x.tmod 64).toNat<n:=by omega
   have e:((x.tmod 64).toNat:Int)=x.tmod 64:=by omega
   have hh:=h.eZ hb hi
   rw[e]at hh
   have h2:=h.gen _ hi
   simp only[jA,dK,if_neg hx]
   have ec:(s.cells.getD (x.tmod 64).toNat (0,false,0)).2.1=r.taken.getD (x.tmod 64).toNat false:=h2.2
   rw[ec,decide_eq_true (show 0≤x by omega),decide_eq_true bm]
   by_cases h3:r.taken.getD (x.tmod 64).toNat false=false
   ·rw[if_pos (.inr (.inl h3)),h3];simp
   ·by_cases h4:r.gen.getD (x.tmod 64).toNat 0=x.tdiv 64
    ·rw[if_neg (by rintro(h5|h5|h5);omega;exact h3 h5;exact h5 h4)]
     have Ha:r.taken.getD (x.tmod 64).toNat false=true:=by simpa using h3
     have h6:Sl.eZ s (x.tmod 64)=x:=by rw[hh.1];omega
     rw[Ha,h6];simp;omega
    ·rw[if_pos (.inr (.inr h4))]
     have h6:Sl.eZ s (x.tmod 64)≠x:=by rw[hh.1];omega
     simp[h6]
  ·have:dK r x=-1:=by unfold dK;rw[if_neg hx,if_pos (.inl (by omega))]
   simp only[jA,this]
   rw[decide_eq_false bm];simp
theorem gC {x:Int} (hr:¬dK r x<0):dK r x=x.tmod 64∧0≤x.tmod 64∧x.tmod 64<r.gen.length∧r.taken.getD (x.tmod 64).toNat false=true∧r.gen.getD (x.tmod 64).toNat 0=x.tdiv 64:=by
 unfold dK at hr ⊢
 by_cases hx:x<0
 ·rw[if_pos hx]at hr;omega
 ·rw[if_neg hx]at hr ⊢
  have:=q8 hx
  split at hr
  ·omega
  ·rename_i hc
   rw[if_neg hc]
   have h1:¬(r.gen.length:Int)≤x.tmod 64:=fun h=>hc (.inl h)
   have h2:¬r.taken.getD (x.tmod 64).toNat false=false:=fun h=>hc (.inr (.inl h))
   have h3:r.gen.getD (x.tmod 64).toNat 0=x.tdiv 64:=abV fun h=>hc (.inr (.inr h))
   exact⟨rfl,this.1,by omega,by simpa using h2,h3⟩
theorem Rel.Hd (h:Rel s r n w b) (hb:b≤100000000000):taken s=Bi r:=by
 have hl:=h.ok.len
 have hg:=h.jx.gen
 have key:∀ i,i≤n→dB s i=fj r i:=by
  intro i
  induction i with
  | zero=>intro _;rfl
  | succ i ih =>
   intro hi
   have h1:=h.gen i (by omega)
   have h2:=h.eZ hb (i:=i) (by omega)
   simp only[dB,fj,ih (by omega),h1.2,h2.1,h2.2]
 unfold taken Bi
 rw[hl,hg]
 exact key n (abr _)
theorem Rel.tN (h:Rel s r n w b) {i:Int} {l:List Int} (hr:r.row=i::l):s.first=i∧0≤i∧i<n:=by
 have:=h.chain;rw[hr]at this
 exact⟨this.1,h.jx.row.2 i (by rw[hr];exact abq ..)⟩
theorem oK {s s':cp} (he:∀ i,(cellAt s' i).2.2=(cellAt s i).2.2):∀ (l:List Int) (f:Int),pR s f l→pR s' f l
 | [],_,h=>h
 | i::l,f,h=>⟨h.1,h.2.1,by rw[he];exact oK he l _ h.2.2⟩
theorem vQ {s s':cp} {j:Nat} (he:∀ i,i≠j→(cellAt s' i).2.2=(cellAt s i).2.2):∀ (l:List Int) (f:Int),(j:Int)∉l→(∀ x∈l,0≤x)→pR s f l→pR s' f l
 | [],_,_,_,h=>h
 | i::l,f,hj,hp,h=>⟨h.1,h.2.1,by
   have h1:i.toNat≠j:=fun e=>hj (by have:=hp i (abq ..);rw[←e,abX this];exact abq ..)
   rw[he _ h1];exact vQ he l _ (fun h=>hj (abn _ h)) (fun x hx=>hp x (abn _ hx)) h.2.2⟩
theorem N7 {w i j k k':Nat} (hk:k<w) (wO:k'<w) (h:i<j):i*w+k<j*w:=by
 have:(i+1)*w≤j*w:=abU w h
 rw[ace,adn]at this;omega
theorem CK {ws xs:List Int} {w i:Nat} (hl:i*w+w≤ws.length) (hx:xs.length=w) {j k:Nat} (hk:k<w) :
  (ws.take (i*w)++xs++ws.drop (i*w+w))[j*w+k]?=if j=i then xs[k]? else ws[j*w+k]?:=by
 have e1:(ws.take (i*w)).length=i*w:=by rw[aby];omega
 rw[aet,abT,e1]
 rcases acT j i with h|h|h
 ·have:=N7 (k':=k) hk hk h
  rw[if_pos this,if_neg (by omega),abK,if_pos this]
 ·subst h
  rw[if_neg (by omega),if_pos rfl,abT,if_pos (by omega)]
  congr 1;omega
 ·have h1:(i+1)*w≤j*w:=abU w h
  rw[ace,adn]at h1
  rw[if_neg (by omega),if_neg (by omega),abT,if_neg (by omega),abI]
  congr 1;omega
theorem toNat_mul {s:cp} {w:Nat} (he:s.each=w) (i:Nat):((i:Int)*s.each).toNat=i*w∧s.each.toNat=w:=by
 rw[he];exact⟨by rw[←aeh];exact abm _,abm _⟩
theorem Rel.take (h:Rel s r n w b) {i:Nat} {l:List Int} (hr:r.row=(i:Int)::l):Rel (gR s) (ic r i l) n w b:=by
 obtain⟨hf,_,kJ⟩:=h.tN hr
 have hi:i<n:=by omega
 have hl:=h.ok.len
 have hg:=h.jx.gen
 have ht:=h.jx.taken
 have hw:=h.jx.words
 have bE:s.first≠-1:=by omega
 have ao:=h.ok.take bE
 have vR:∀ j,cellAt (gR s) j=if i=j then((cellAt s i).1,true,(cellAt s i).2.2)else cellAt s j:=by
  intro j
  have e:s.first.toNat=i:=by rw[hf];exact abm i
  show(s.cells.set s.first.toNat _).getD j (0,false,0)=_
  rw[bo _ _ _ _ _ (by omega),e];rfl
 have FO:∀ j,(cellAt (gR s) j).2.2=(cellAt s j).2.2:=by
  intro j;rw[vR];split
  ·rename_i e;subst e;rfl
  ·rfl
 have hm:=toNat_mul h.each i
 have qQ:=h.ok.at_ (i:=(i:Int)) (by omega)
 have XC:=h.chain
 rw[hr]at XC
 have hlen:(r.words.getD i []).length=w:=h.jx.xl hi
 have eZ:=h.nodup
 rw[hr]at eZ
 have lO:=h.jx.row
 rw[hr]at lO
 have N8:=h.ok.words
 rw[h.each]at N8
 have qG:n*w=s.words.length:=by
  have:((n*w:Nat):Int)=s.words.length:=by rw[N8];exact aeh n w
  omega
 refine⟨ao,⟨hg,by simpa [ic]using ht,by simpa [ic]using hw,h.jx.cap,fun x hx=>?_,⟨by simp only[ic,abt]at lO ⊢;omega,fun x hx=>lO.2 x (abn _ hx)⟩⟩,h.each,fun j hj=>?_,h.bound,fun j hj k hk=>?_,?_,?_,(aci.1 eZ).2,fun j hj=>?_⟩
 ·rcases adN hx with h1|h1
  ·exact h.jx.each x h1
  ·rw[h1,abM];exact hlen
 ·have h1:=h.gen j hj
  rw[vR]
  simp only[ic]
  rw[bo _ _ _ _ _ (by omega)]
  split
  ·rename_i e;subst e;exact⟨h1.1,rfl⟩
  ·exact h1
 ·have h1:=h.words j hj k hk
  simp only[gR,ic]
  rw[hf,hm.1,hm.2,CK (by rw[←qG];have:=abU w (show i+1≤n by omega);rw[ace,adn]at this;exact this) (by simp) hk,bo _ _ _ _ _ (by omega)]
  by_cases e:j=i
  ·subst e;simp only[if_true,hlen]
  ·rw[if_neg e,if_neg (fun e2=>e e2.symm)];exact h1
 ·show pR (gR s) (cellAt s s.first.toNat).2.2 l
  rw[hf,abm]
  have h5:=XC.2.2
  rw[abm]at h5
  exact oK FO _ _ h5
 ·show IntKind.i64.wrap (s.free - 1)=_
  have h1:=h.free
  rw[hr]at h1
  have h2:=lO.1
  have h3:=h.ok.cap
  simp only[abt]at h1 h2
  rw[wr (by omega)]
  simp only[ic];omega
 ·have h1:=h.row j hj
  rw[hr]at h1
  simp only[ic]
  rw[bo _ _ _ _ _ (by omega)]
  by_cases e:i=j
  ·subst e
   rw[if_pos rfl]
   simp only[Bool.true_eq_false,iff_false]
   exact(aci.1 eZ).1
  ·rw[if_neg e,←h1,abE]
   constructor
   ·exact .inr
   ·rintro(h2|h2)
    ·omega
    ·exact h2
theorem Rel.Hc (h:Rel s r n w b) (hb:b≤10000000000) {x:Int} (hx:¬dK r x<0):Rel (mo s (x.tmod 64).toNat) (jZ r x) n w (b+1):=by
 obtain⟨hv,h0,bm,Rw,_⟩:=gC hx
 have hg:=h.jx.gen
 have ht:=h.jx.taken
 have hw:=h.jx.words
 have hl:=h.ok.len
 obtain⟨i,hi⟩:∃ i:Nat,x.tmod 64=i:=⟨(x.tmod 64).toNat,by omega⟩
 have kJ:i<n:=by omega
 have Zl:jZ r x={ r with taken:=r.taken.set i false,gen:=r.gen.set i (IntKind.i64.wrap (r.gen.getD i 0+1)),row:=(i:Int)::r.row }:=by
  unfold jZ;rw[if_neg hx,hv,hi,abm]
 rw[Zl,hi,abm]
 rw[hi,abm]at Rw
 have y9:=h.bound i kJ
 have yQ:IntKind.i64.wrap (r.gen.getD i 0+1)=r.gen.getD i 0+1:=wr (by omega)
 have Zm:=(h.gen i kJ).1
 have vR:∀ j,cellAt (mo s i) j=if i=j then(r.gen.getD i 0+1,false,s.first)else cellAt s j:=by
  intro j
  show(s.cells.set i _).getD j (0,false,0)=_
  rw[bo _ _ _ _ _ (by omega),Zm,yQ];rfl
 have N9:(i:Int)∉r.row:=fun hm=>by rw[(h.row i kJ).1 hm]at Rw;cases Rw
 have hlen:r.row.length<n:=by
  have Kh:r.row.length≤((List.range n).filter (fun j=>decide (j≠i))).length:=by
   have:r.row.map Int.toNat ⊆ (List.range n).filter (fun j=>decide (j≠i)):=by
    intro y hy
    obtain⟨z,hz,rfl⟩:=abR.1 hy
    have Zn:=h.jx.row.2 z hz
    refine acr.2 ⟨acV.2 (by omega),?_⟩
    simp only[decide_eq_true_eq]
    intro e
    exact N9 (by rw[←e,abX Zn.1];exact hz)
   have eZ:(r.row.map Int.toNat).Nodup:=by
    have:=h.nodup
    refine(ac7).2 (acW (fun {a c} ha hc Zo=>?_) this)
    have h1:=h.jx.row.2 a ha
    have h2:=h.jx.row.2 c hc
    intro e;exact Zo (by omega)
   have:=List.Nodup.length_le_of_subset eZ this
   simpa using this
  have hf:((List.range n).filter (fun j=>decide (j≠i))).length<n:=by
   have h1:((List.range n).filter (fun j=>decide (j≠i))).length<(List.range n).length:=by
    refine List.length_filter_lt_length_iff_exists.2 ⟨i,acV.2 kJ,by simp⟩
   simpa using h1
  omega
 refine⟨h.ok.Hc kJ,⟨by simpa using hg,by simpa using ht,hw,h.jx.cap,h.jx.each,⟨by simp only[abt];omega,fun y hy=>?_⟩⟩,h.each,fun j hj=>?_,fun j hj=>?_,h.words,?_,?_,aci.2 ⟨N9,h.nodup⟩,fun j hj=>?_⟩
 ·rcases abE.1 hy with rfl|hy
  ·omega
  ·exact h.jx.row.2 y hy
 ·rw[vR]
  simp only[]
  rw[bo _ _ _ _ _ (by omega),bo _ _ _ _ _ (by omega),yQ]
  split
  ·exact⟨rfl,rfl⟩
  ·exact h.gen j hj
 ·have:=h.bound j hj
  simp only[]
  rw[bo _ _ _ _ _ (by omega),yQ]
  split <;> omega
 ·show pR (mo s i) (i:Int) ((i:Int)::r.row)
  refine⟨rfl,by omega,?_⟩
  rw[abm,vR,if_pos rfl]
  exact vQ (j:=i) (fun j hj=>by rw[vR,if_neg (fun e=>hj e.symm)]) _ _ N9 (fun y hy=>(h.jx.row.2 y hy).1) h.chain
 ·show IntKind.i64.wrap (s.free+1)=_
  have h1:=h.free
  have h3:=h.ok.cap
  rw[wr (by omega),h1];simp
 ·simp only[]
  rw[bo _ _ _ _ _ (by omega),abE]
  by_cases e:i=j
  ·subst e;simp
  ·rw[if_neg e,←h.row j hj]
   constructor
   ·rintro(h2|h2)
    ·omega
    ·exact h2
   ·exact .inr
theorem Rel.read (h:Rel s r n w b) {x:Int} (hx:¬dK r x<0):ay s x=r.words.getD (dK r x).toNat []:=by
 obtain⟨hv,h0,bm,_,_⟩:=gC hx
 have hg:=h.jx.gen
 obtain⟨i,hi⟩:∃ i:Nat,x.tmod 64=i:=⟨(x.tmod 64).toNat,by omega⟩
 have kJ:i<n:=by omega
 rw[hv,hi,abm]
 have hm:=toNat_mul h.each i
 have hlen:(r.words.getD i []).length=w:=h.jx.xl kJ
 unfold ay
 rw[hi,hm.1,hm.2]
 apply ac5
 intro k
 rw[abK]
 split
 ·rename_i hk
  rw[abI];exact h.words i kJ k hk
 ·rename_i hk
  rw[abS (by omega)]
theorem Rel.write (h:Rel s r n w b) {x:Int} (hx:¬dK r x<0) {xs:List Int} (hl:xs.length=w):Rel (kW s (x.tmod 64) xs) (pQ r x xs) n w b:=by
 obtain⟨hv,h0,bm,_,_⟩:=gC hx
 have hg:=h.jx.gen
 have hw:=h.jx.words
 obtain⟨i,hi⟩:∃ i:Nat,x.tmod 64=i:=⟨(x.tmod 64).toNat,by omega⟩
 have kJ:i<n:=by omega
 have hm:=toNat_mul h.each i
 have N8:=h.ok.words
 rw[h.each]at N8
 have qG:n*w=s.words.length:=by
  have:((n*w:Nat):Int)=s.words.length:=by rw[N8];exact aeh n w
  omega
 have Zp:pQ r x xs={ r with words:=r.words.set i xs }:=by unfold pQ;rw[hv,hi,abm]
 rw[Zp,hi]
 have dw:∀ j,cellAt (kW s (i:Int) xs) j=cellAt s j:=fun j=>rfl
 refine⟨h.ok.write (by omega) (by rw[h.each,hl]),⟨hg,h.jx.taken,by simpa using hw,h.jx.cap,fun y hy=>?_,h.jx.row⟩,h.each,h.gen,h.bound,fun j hj k hk=>?_,oK (fun j=>by rw[dw]) _ _ h.chain,h.free,h.nodup,h.row⟩
 ·rcases adN hy with h1|h1
  ·exact h.jx.each y h1
  ·rw[h1];exact hl
 ·have h1:=h.words j hj k hk
  simp only[kW]
  rw[hm.1,hm.2,CK (by rw[←qG];have:=abU w (show i+1≤n by omega);rw[ace,adn]at this;exact this) hl hk,bo _ _ _ _ _ (by omega)]
  by_cases e:j=i
  ·subst e;simp
  ·rw[if_neg e,if_neg (fun e2=>e e2.symm)];exact h1
theorem vS (c w i:Nat) (hi:i<c):cellAt (iA c w) i=(0,false,if i+1<c then((i+1:Nat):Int)else -1):=by
 show((dr c c).set (c - 1) (0,false,-1)).getD i (0,false,0)=_
 rw[bo _ _ _ _ _ (by rw[cB];omega),q9 c c i hi hi]
 by_cases h:c - 1=i
 ·rw[if_pos h,if_neg (by omega)]
 ·rw[if_neg h,if_pos (by omega)];simp
theorem Rel.new {c w:Nat} (hc:1≤c∧c≤64) (hw:w≤32):Rel (iA c w) (jK c w) c w 0:=by
 have Rx:∀ {α:Type} (x d:α) (i:Nat),i<c→(List.replicate c x).getD i d=x:=fun x d i hi=>by
  rw[abi,ab0,if_pos hi];rfl
 have lO:∀ k,k≤c→∀ l:List Int,l=((List.range c).drop k).map (fun j:Nat=>(j:Int))→pR (iA c w) (if k<c then(k:Int)else -1) l:=by
  intro k
  induction hk:c - k generalizing k with
  | zero=>intro _ l hl;subst hl;rw[if_neg (by omega),ad1 (by simp;omega)];rfl
  | succ m ih =>
   intro hkc l hl
   subst hl
   rw[if_pos (by omega),acj (by simp;omega)]
   simp only[List.getElem_range,abH]
   refine⟨rfl,by omega,?_⟩
   rw[abm,vS c w k (by omega)]
   exact ih (k+1) (by omega) (by omega) _ rfl
 refine⟨Ok.new hc hw,⟨by simp[jK],by simp[jK],by simp[jK],⟨hc.1,hc.2,hw⟩,fun x hx=>?_,⟨by simp[jK],fun x hx=>?_⟩⟩,rfl,fun i hi=>?_,fun i hi=>?_,fun i hi k hk=>?_,?_,by simp[iA,jK],?_,fun i hi=>?_⟩
 ·rw[adg hx];simp
 ·simp only[jK,abR,acV]at hx
  obtain⟨j,hj,rfl⟩:=hx
  omega
 ·rw[vS c w i hi]
  simp only[jK]
  rw[Rx _ _ i hi,Rx _ _ i hi];exact⟨rfl,rfl⟩
 ·simp only[jK]
  rw[Rx _ _ i hi];omega
 ·simp only[iA,jK]
  rw[Rx _ _ i hi,ab0,ab0,if_pos hk,if_pos]
  have:=abU w (show i+1≤c by omega)
  rw[ace,adn]at this;omega
 ·have:=lO 0 (abw _) _ rfl
  rw[if_pos (by omega),abA]at this
  exact this
 ·simp only[jK]
  refine ac7.2 (List.Pairwise.imp (fun {a c} h=>?_) List.nodup_range)
  omega
 ·simp only[jK]
  rw[Rx _ _ i hi]
  simp only[abR,acV,iff_true]
  exact⟨i,hi,rfl⟩
end
def tO (s:cp):Int×Int:=if s.first=-1 then(0,4)else(eZ s s.first,0)
def tP (s:cp):cp:=if s.first=-1 then s else gR s
theorem Ry (s:cp) (n:Nat) (ok:Ok s n):aa Tryz.prog 64 [.ptr 0 0] (ch s) (Y:=Unit) (fun _=>True)
  (fun _=>.bM [.int .i64 fun _=>(tO s).1,.int .i64 fun _=>(tO s).2]) (fun _=>ch (tP s)):=by
 by_cases h:s.first=-1
 ·simp only[tO,tP,if_pos h];exact N0 s h
 ·simp only[tO,tP,if_neg h];exact Rq s n ok h
section
variable {s:cp} {r:Ref} {n w b:Nat}
end
section
variable {s:cp} {r:Ref} {n w b:Nat}
theorem Rel.Oa (h:Rel s r n w b) (hb:b≤100000000000) (hr:r.row≠[]):∃ (i:Nat) (l:List Int),r.row=(i:Int)::l∧i<n∧Sl.tO s=(64*r.gen.getD i 0+i,0)∧Rel (Sl.tP s) (ic r i l) n w b:=by
 cases lO:r.row with
 | nil=>exact(hr lO).elim
 | cons i l =>
  obtain⟨h1,h2,h3⟩:=h.tN lO
  have h4:=h.eZ hb (i:=i.toNat) (by omega)
  rw[abX h2]at h4
  refine⟨i.toNat,l,by rw[abX h2],by omega,?_,?_⟩
  ·unfold Sl.tO;rw[if_neg (by omega),h1,h4.1,abX h2]
  ·unfold Sl.tP;rw[if_neg (by omega)];exact h.take (by rw[abX h2];exact lO)
end
end Go.Proofs.YthnefnlhcijekaaGreat.Sl
namespace Go.Proofs.YthnefnlhcijekaaGreat.Fw
open Go Go.RowKit
def Jy:Chunk→Chunk
 | .jy T cs=>.cells T cs|c=>c
def cls:Chunk→Chunk
 | .cells T cs=>.jy T cs|c=>c
theorem Ki {g:Gh} {i:Nat} {w:World} {c:Chunk} (h:c.sat g i w):(Jy c).sat g i w:=by cases c <;> exact h
theorem Kj (g:Gh) (i:Nat) (c:Chunk) (b:Nat):(Jy c).own g i b=c.own g i b:=by cases c <;> rfl
theorem Kk {g:Gh} {i:Nat} {w:World} {c:Chunk} (h:c.sat g i w):(cls c).sat g i w:=by cases c <;> exact h
theorem Kl (g:Gh) (i:Nat) (c:Chunk) (b:Nat):(cls c).own g i b=c.own g i b:=by cases c <;> rfl
theorem Oc {c:Chunk} (h:Jp c=false):Jp (Jy c)=false:=by cases c <;> first|rfl|exact h
theorem Inv.one {B:bU} {g:Gh} {env:Env} {E:List Chunk} {tmps:Array Value} {w:World} (h:Inv B g env E tmps w) {i:Nat} {d:Chunk} (hs:(af E i).sat g i w→d.sat g i w) (ho:∀ b,d.own g i b=(af E i).own g i b)
  (hk:dj (af B.E i)=true→Jp d=false):Inv B g env (bh E i d) tmps w:=by
 have hb:∀ j b,(af (bh E i d) j).own g j b=(af E j).own g j b:=fun j b=>by
  rw[bC];split
  ·rename_i e;rw[←e.1];exact ho b
  ·rfl
 refine⟨h.er,⟨by rw[ck];exact h.aZ.len,h.aZ.dA,fun j=>?_,fun j k b hj hk=>h.aZ.lL j k b (by rw[←hb];exact hj) (by rw[←hb];exact hk),fun j b hj=>h.aZ.dQ j b (by rw[←hb];exact hj)⟩,
  ⟨h.ext.os,h.ext.tape,h.ext.output,h.ext.size,h.ext.cE,h.ext.dA,h.ext.fS,fun j b hj=>h.ext.own j b (by rw[←hb];exact hj),h.ext.n,h.ext.ids,h.ext.kk,fun j hf=>?_,h.ext.r9,h.ext.qN⟩⟩
 ·rw[bC];split
  ·rename_i e;rw[←e.1];exact hs (h.aZ.sat i)
  ·exact h.aZ.sat j
 ·rw[bC];split
  ·rename_i e;rw[←e.1]at hf;exact hk hf
  ·exact h.ext.nJ j hf
def EE:List Nat→List Chunk→List Chunk
 | [],E=>E|i::r,E=>EE r (bh E i (Jy (af E i)))
def Km:List Nat→List Chunk→List Chunk
 | [],E=>E|i::r,E=>Km r (bh E i (cls (af E i)))
def tQ (M:List Bool):List Nat→Bool
 | []=>true|i::r=>(match nth M i with|some true=>false|_=>tQ M r)
theorem Inv.EE {B:bU} {g:Gh} {env:Env} {tmps:Array Value} {w:World}:∀ (is:List Nat) {E:List Chunk},Inv B g env E tmps w→Inv B g env (Fw.EE is E) tmps w
 | [],E,h=>h
 | i::r,E,h=>Inv.EE r (h.one Ki (Kj g i _) fun hf=>Oc (h.ext.nJ i hf))
theorem Inv.Km {B:bU} {g:Gh} {env:Env} {tmps:Array Value} {w:World}:∀ (is:List Nat) {E:List Chunk},tQ (bB B.E) is=true→Inv B g env E tmps w→Inv B g env (Fw.Km is E) tmps w
 | [],E,_,h=>h
 | i::r,E,hm,h=>by
  have key:nth (bB B.E) i≠some true∧tQ (bB B.E) r=true:=by
   simp only[tQ]at hm
   split at hm
   ·cases hm
   ·rename_i bE;exact⟨fun e=>bE e,hm⟩
  exact Inv.Km r key.2 (h.one Kk (Kl g i _) fun hf=>(key.1 (by rw[gX];exact qX _ _ hf)).elim)
section
variable {P:Program} {N:Nat} {M:List Bool} {S:Sc} {c:Code} {env:Env} {E:List Chunk} {K:Ex→Env→List Chunk→Prop}
theorem aC.Jy (is:List Nat) (k:iM (EE is E) fun E=>aC P N S M c env E K):aC P N S M c env E K where
 h:=by
  intro r g a w hr hM hI hN
  rw[bf]at k
  obtain⟨B,hB,h,hd⟩:=hI
  exact k.h r g a w hr hM ⟨B,hB,h.EE is,hd⟩ hN
theorem ae.cls {l:List AV} {Y:Type} {Q:Y→Prop} {res:Y→List AV} {out:Y→List Chunk} (is:List Nat) (hm:tQ M is=true) (k:ae M env (Km is E) l Q res out):ae M env E l Q res out where
 h:=by
  intro B g tmps w cs hB hI hr
  exact k.h B g tmps w cs hB (hI.Km is (by rw[hB];exact hm)) hr
end
theorem Kn {c:Chunk} (h:dj c=true):dj (Jy c)=true:=by cases c <;> first|rfl|exact h
theorem CL:∀ (is:List Nat) (E:List Chunk) (j:Nat),dj (af E j)=true→dj (af (EE is E) j)=true
 | [],E,j,h=>h
 | i::r,E,j,h=>by
  refine CL r _ j ?_
  rw[bC];split
  ·rename_i e;rw[←e.1]at h;exact Kn h
  ·exact h
theorem CM:∀ (is:List Nat) (E:List Chunk),ah (EE is E)=ah E
 | [],E=>rfl
 | i::r,E=>by rw[EE,CM r,ck]
theorem aa.jy {P:Program} {f:FuncId} {args:List AV} {E:List Chunk} {Y:Type} {Q:Y→Prop} {res:Y→AV} {out:Y→List Chunk} (is:List Nat) (hf:tQ (bB E) is=true)
  (hm:aa P f args (EE is E) Q res out):aa P f args E Q res (fun y=>Km is (out y)) where
 aA:=hm.aA
 h:=by
  intro g w aD hS hr
  have Ve:Inv ⟨g,E,w⟩ g [] E #[] w:=Inv.start hS (fun t=>.undef _)
  have P3:=Ve.EE is
  refine(hm.h g w aD P3.aZ hr).mono ?_
  rintro e w' ⟨y,c,g',hq,rfl,h1,h2,h3⟩
  have hx:Ext ⟨g,E,w⟩ g' (out y) w':=Ext.trans (B1:=⟨g,Fw.EE is E,w⟩) P3.ext h3 (fun i hi=>CL is E i hi) (adv (CM is E).symm)
  have Ko:Inv ⟨g,E,w⟩ g' [] (out y) #[] w':=⟨fun t=>.undef _,h2,hx⟩
  have NY:=Ko.Km is hf
  exact⟨y,c,g',hq,rfl,h1,NY.aZ,NY.ext⟩
theorem aa.as {P:Program} {f:FuncId} {args:List AV} {E:List Chunk} {Y Y':Type} {Q:Y→Prop} {res:Y→AV} {out:Y→List Chunk} {Q':Y'→Prop} {nM:Y'→AV} {EF:Y'→List Chunk}
  (hm:aa P f args E Q res out) (h:∀ y,Q y→∃ y',Q' y'∧res y=nM y'∧out y=EF y'):aa P f args E Q' nM EF where
 aA:=hm.aA
 h:=by
  intro g w aD hS hr
  refine(hm.h g w aD hS hr).mono ?_
  rintro e w' ⟨y,c,g',hq,rfl,h1,h2,h3⟩
  obtain⟨y',k1,k2,k3⟩:=h y hq
  exact⟨y',c,g',k1,rfl,by rw[←k2];exact h1,by rw[←k3];exact h2,by rw[←k3];exact h3⟩
theorem R.refs {g g':Gh} (hn:g'.n=g.n) (hB:g'.B=g.B) (hV:g'.V=g.V) (hL:g'.L=g.L) (hW:g'.W=g.W) (hM:g'.M=g.M):∀ v u,isRef v=true→R g v u→R g' (id v) u:=by
 intro v u hv h
 cases h <;> first|(cases hv;done)|skip
 ·rw[←hB];exact .ptr (g:=g') _ _ (by rw[hn];assumption)
 ·rw[←hB];exact .bl (g:=g') _ _ _ _ (by rw[hn];assumption) (by rw[hL];assumption)
 ·rename_i hi Ec sj hs
  exact .vec (g:=g') _ _ _ _ _ _ (by rw[hn];exact hi) (by rw[hL];exact Ec) (by rw[hV];exact sj) (by rw[hV,hB];exact hs)
 ·rw[←hB];exact .mp (g:=g') _ (by rw[hn];assumption)
 ·rename_i hi hf
  rw[←hW];exact .hp (g:=g') _ _ (by rw[hn];exact hi) (by rw[hM];exact hf)
 ·rename_i hi hf
  rw[←hW];exact .hm (g:=g') _ _ (by rw[hn];exact hi) (by rw[hM];exact hf)
def pk (E:List Chunk):OQ where
 h Φ b S hp:=∃ gh:Gh,gh.Φ=Φ∧gh.n=ah E∧gh.B 0=b∧(∀ i (w:World),(∀ k,S k→w.heap[k]?=hp k)→(af E i).sat gh i w)∧(∀ i j b,(af E i).own gh i b→(af E j).own gh j b→i=j)∧∀ i b,(af E i).own gh i b→S b
 mono:=by
  rintro Φ Φ' b S hp Jm hA hS ⟨gh,rfl,h2,h3,h4,h5,h6⟩
  have Zq:∀ A k u,At gh A k u→At { gh with Φ:=Φ' } A k u:=by
   rintro A k u ⟨b,off,cells,T,fr,rfl,h7,h8⟩
   obtain⟨cs,T',Qo,h9,fm⟩:=hA b (off+k) u ⟨cells,T,fr,h7,h8⟩
   exact⟨b,off,cs,T',Qo,rfl,h9,fm⟩
  have ho:∀ i b,(af E i).own { gh with Φ:=Φ' } i b=(af E i).own gh i b:=fun i b=>Chunk.qM (g:=gh) rfl rfl rfl rfl
  refine⟨{ gh with Φ:=Φ' },rfl,h2,h3,fun i w hw=>?_,fun i j b hi hj=>h5 i j b (by rwa [ho]at hi) (by rwa [ho]at hj),fun i b hb=>h6 i b (by rwa [ho]at hb)⟩
  have hs:=h4 i w fun k hk=>(hw k hk).trans (hS k hk)
  have:=Chunk.tB (g:=gh) (g':={ gh with Φ:=Φ' }) (i:=i) (j:=i) (w':=w) id Zq (R.refs rfl rfl rfl rfl rfl rfl) rfl rfl rfl rfl rfl rfl (fun h=>h) (fun _ _=>rfl) hs
  rwa [w9]at this
def rt:AV→AV
 | .ptr 0 o=>.ptr 0 o|_=>.undef
theorem CN {g g':Gh} (hB:g'.B 0=g.B 0) (h0:0<g.n→0<g'.n):∀ v u,isRef v=true→R g v u→R g' (rt v) u:=by
 intro v u hv h
 cases h <;> first|(cases hv;done)|skip
 ·rename_i i off hi
  cases i with
  | zero=>simp only[rt];rw[←hB];exact .ptr (g:=g') 0 off (h0 hi)
  | succ i=>exact .undef _
 all_goals exact .undef _
noncomputable def rb (S:Nat→Prop):Nat→Nat:=fun k=>by classical exact if S k then k+1 else 0
theorem kj (S:Nat→Prop) (b:Nat):(∃ k,rb S k=b+1)↔S b:=by
 unfold rb
 constructor
 ·rintro⟨k,hk⟩
  split at hk
  ·have:k=b:=by omega
   subst this;assumption
  ·omega
 ·intro h;exact⟨b,by rw[if_pos h]⟩
theorem xm {g1:Gh} {E:List Chunk} {w:World} (h:fg g1 E w) {g':Gh} {i:Nat} (hΦ:g'.Φ=g1.Φ) (hB:g'.B i=g1.B 0) (hM:g'.M i=0) (hW:g'.W i=rb fun b=>∃ i,(af E i).own g1 i b):(Chunk.bg (pk E)).sat g' i w:=by
 have hS:∀ b,(∃ k,g'.W i k=b+1)↔∃ i,(af E i).own g1 i b:=fun b=>by rw[hW];exact kj _ b
 refine⟨hM,fun b k hk=>?_,g1,hΦ.symm,h.len.symm,hB.symm,fun j w' hw=>?_,h.lL,fun j b hb=>(hS b).2 ⟨j,hb⟩⟩
 ·obtain⟨j,hj⟩:=(hS b).1 ⟨k,hk⟩
  exact nj (h.sat j) hj
 ·exact Chunk.fF (fun _ _ _ h=>h) (fun _ _ h=>h) rfl rfl rfl rfl rfl rfl (fun b hb=>hw b ((hS b).2 ⟨j,hb⟩)) (h.sat j)
section
variable {P:Program} {f:FuncId} {args:List AV} {Y:Type} {Q:Y→Prop} {res:Y→AV}
theorem aa.pack {E:List Chunk} {out:Y→List Chunk} (hm:aa P f args E Q res out) (ha:fq rt args=args) (hr:∀ y,Q y→du rt (res y)=res y) (h0:dj (af E 0)=true) :
  aa P f args [.bg (pk E)] Q res (fun y=>[.bg (pk (out y))]) where
 aA:=hm.aA
 h:=by
  intro g w aD hS hv
  have hs:=hS.sat 0
  obtain⟨EG,Rz,gh,hΦ,hn,hB,gy,Od,cT⟩:=hs
  have TU:g.n=1:=hS.len.symm
  have Vq:fg gh E w:=⟨hn.symm,fun b o hb=>hS.dA b o (by rw[←hΦ];exact hb),fun i=>gy i w fun _ _=>rfl,Od,fun i b hb=>by rw[hΦ];exact hS.dQ 0 b (cT i b hb)⟩
  have Kp:0<ah E:=jV h0
  have Vr:RL gh args aD:=by
   have:=hv.map (g':=gh) rt (fun b o h=>by rw[hΦ];exact h) (CN hB fun _=>by rw[hn];exact Kp)
   rwa [ha]at this
  refine(hm.h gh w aD Vq Vr).mono ?_
  rintro e w' ⟨y,c,g1,hq,rfl,h1,h2,h3⟩
  have PZ:g1.B 0=g.B 0:=(h3.ids 0 h0).1.trans hB
  have CF:∀ b,(⟨gh,E,w⟩:bU).owns b→(⟨g,[.bg (pk E)],w⟩:bU).owns b:=fun b ⟨i,hi⟩=>⟨0,cT i b hi⟩
  have Ml:∀ (b:Nat),(Chunk.bg (pk (out y))).own { g with n:=1,Φ:=g1.Φ,W:=fun i=>if i=0 then rb fun b=>∃ i,(af (out y) i).own g1 i b else g.W i } 0 b→∃ i,(af (out y) i).own g1 i b:=fun b hb=>(kj _ b).1 hb
  refine⟨y,c,{ g with n:=1,Φ:=g1.Φ,W:=fun i=>if i=0 then rb fun b=>∃ i,(af (out y) i).own g1 i b else g.W i },hq,rfl,?_,⟨rfl,h2.dA,fun i=>?_,fun i j b hi hj=>?_,fun i b hi=>?_⟩,
   ⟨h3.os,h3.tape,h3.output,h3.size,fun b k1 k2=>h3.cE b k1 fun ho=>k2 (CF b ho),fun b o hb=>h3.dA b o (by rw[hΦ];exact hb),fun b o hb=>?_,fun i b hi=>?_,abr _,fun i hi=>⟨rfl,rfl,rfl⟩,rfl,fun i hi=>?_,fun i k hi hk=>?_,fun i hi=>abr _⟩⟩
  ·have:=h1.map (g':={ g with n:=1,Φ:=g1.Φ,W:=fun i=>if i=0 then rb fun b=>∃ i,(af (out y) i).own g1 i b else g.W i }) rt (fun b o (h:g1.Φ b=some o)=>h) (CN (g:=g1) PZ.symm fun _=>Nat.one_pos)
   rwa [hr y hq]at this
  ·cases i with
   | zero=>exact xm h2 rfl PZ.symm EG rfl
   | succ i=>trivial
  ·cases i <;> cases j <;> first|rfl|(cases hi;done)|(cases hj;done)
  ·cases i with
   | zero=>obtain⟨j,hj⟩:=Ml b hi;exact h2.dQ j b hj
   | succ i=>cases hi
  ·rcases h3.fS b o hb with h4|h4|h4
   ·exact .inl (by rw[←hΦ];exact h4)
   ·exact .inr (.inl h4)
   ·exact .inr (.inr (CF b h4))
  ·cases i with
   | zero =>
    obtain⟨j,hj⟩:=Ml b hi
    exact(h3.own j b hj).imp id (CF b)
   | succ i=>cases hi
  ·cases i with
   | zero=>rfl
   | succ i=>cases hi
  ·cases i with
   | zero=>rw[show(⟨g,[.bg (pk E)],w⟩:bU).g.M 0=0 from EG]at hk;exact absurd hk (ac8 k)
   | succ i=>cases hi
theorem aa.Kq {out:Y→List Chunk} (hm:aa P f args [] Q res out) (hr:∀ y,Q y→du rt (res y)=res y):aa P f args [] Q res (fun y=>[.bg (pk (out y))]) where
 aA:=hm.aA
 h:=by
  intro g w aD hS hv
  refine(hm.h g w aD hS hv).mono ?_
  rintro e w' ⟨y,c,g1,hq,rfl,h1,h2,h3⟩
  refine⟨y,c,{ g1 with n:=1,M:=fun _=>0,W:=fun i=>rb fun b=>∃ i,(af (out y) i).own g1 i b },hq,rfl,?_,⟨rfl,h2.dA,fun i=>?_,fun i j b hi hj=>?_,fun i b hi=>?_⟩,
   ⟨h3.os,h3.tape,h3.output,h3.size,h3.cE,h3.dA,h3.fS,fun i b hi=>?_,abw _,fun i hi=>?_,h3.kk,fun i hi=>?_,fun i k hi hk=>?_,fun i hi=>?_⟩⟩
  ·have:=h1.map (g':={ g1 with n:=1,M:=fun _=>0,W:=fun i=>rb fun b=>∃ i,(af (out y) i).own g1 i b }) rt (fun b o (h:g1.Φ b=some o)=>h) (CN (g:=g1) rfl fun _=>Nat.one_pos)
   rwa [hr y hq]at this
  ·cases i with
   | zero=>exact xm h2 rfl rfl rfl rfl
   | succ i=>trivial
  ·cases i <;> cases j <;> first|rfl|(cases hi;done)|(cases hj;done)
  ·cases i with
   | zero=>obtain⟨j,hj⟩:=(kj _ b).1 hi;exact h2.dQ j b hj
   | succ i=>cases hi
  ·cases i with
   | zero=>obtain⟨j,hj⟩:=(kj _ b).1 hi;exact h3.own j b hj
   | succ i=>cases hi
  ·cases i <;> cases hi
  ·cases i <;> cases hi
  ·cases i <;> cases hi
  ·cases i <;> cases hi
def EH {X:Type} (p:X→Prop) (q:X→OQ):OQ where
 h Φ b S hp:=∃ x,p x∧(q x).h Φ b S hp
 mono:=fun Φ Φ' b S hp Jm h1 h2 ⟨x,hx,h3⟩=>⟨x,hx,(q x).mono Φ Φ' b S hp Jm h1 h2 h3⟩
theorem CO {q q':OQ} (h:∀ Φ b S hp,q.h Φ b S hp→q'.h Φ b S hp) {g:Gh} {i:Nat} {w:World} (hs:(Chunk.bg q).sat g i w):(Chunk.bg q').sat g i w:=⟨hs.1,hs.2.1,h _ _ _ _ hs.2.2⟩
theorem fg.swap {g:Gh} {E:List Chunk} {w:World} (h:fg g E w) {i:Nat} {q q':OQ} (hi:af E i=.bg q) (hs:(Chunk.bg q').sat g i w):fg g (bh E i (.bg q')) w:=by
 have ho:∀ j b,(af (bh E i (.bg q')) j).own g j b=(af E j).own g j b:=fun j b=>by
  rw[bC];split
  ·rename_i e;rw[←e.1,hi];rfl
  ·rfl
 refine⟨by rw[ck];exact h.len,h.dA,fun j=>?_,fun j k b hj hk=>h.lL j k b (by rwa [ho]at hj) (by rwa [ho]at hk),fun j b hj=>h.dQ j b (by rwa [ho]at hj)⟩
 rw[bC];split
 ·rename_i e;rw[←e.1];exact hs
 ·exact h.sat j
theorem Ext.Mm {B:bU} {g:Gh} {E:List Chunk} {w:World} (h:Ext B g E w) {i:Nat} {q q':OQ} (hi:af E i=.bg q):Ext B g (bh E i (.bg q')) w:=by
 have ho:∀ j b,(af (bh E i (.bg q')) j).own g j b=(af E j).own g j b:=fun j b=>by
  rw[bC];split
  ·rename_i e;rw[←e.1,hi];rfl
  ·rfl
 refine⟨h.os,h.tape,h.output,h.size,h.cE,h.dA,h.fS,fun j b hj=>h.own j b (by rwa [ho]at hj),h.n,h.ids,h.kk,fun j hj=>?_,h.r9,h.qN⟩
 rw[bC];split
 ·rfl
 ·exact h.nJ j hj
theorem Ext.RA {g0:Gh} {E0:List Chunk} {w0:World} {g:Gh} {E:List Chunk} {w:World} {i:Nat} {q q':OQ} (hi:af E0 i=.bg q) (h:Ext ⟨g0,bh E0 i (.bg q'),w0⟩ g E w):Ext ⟨g0,E0,w0⟩ g E w:=by
 have ho:∀ b,(⟨g0,bh E0 i (.bg q'),w0⟩:bU).owns b↔(⟨g0,E0,w0⟩:bU).owns b:=fun b=>by
  have:∀ j,(af (bh E0 i (.bg q')) j).own g0 j b=(af E0 j).own g0 j b:=fun j=>by
   rw[bC];split
   ·rename_i e;rw[←e.1,hi];rfl
   ·rfl
  exact⟨fun⟨j,hj⟩=>⟨j,(this j).mp hj⟩,fun⟨j,hj⟩=>⟨j,(this j).mpr hj⟩⟩
 have hf:∀ j,dj (af E0 j)=true→dj (af (bh E0 i (.bg q')) j)=true:=fun j hj=>by
  rw[bC];split
  ·rfl
  ·exact hj
 refine⟨h.os,h.tape,h.output,h.size,fun b h1 h2=>h.cE b h1 fun h3=>h2 ((ho b).1 h3),h.dA,fun b o hb=>?_,fun j b hj=>(h.own j b hj).imp id (ho b).1,by have:=h.n;rwa [ck]at this,fun j hj=>h.ids j (hf j hj),h.kk,fun j hj=>h.nJ j (hf j hj),fun j k hj hk=>h.r9 j k (hf j hj) hk,fun j hj=>h.qN j (hf j hj)⟩
 rcases h.fS b o hb with h1|h1|h1
 ·exact .inl h1
 ·exact .inr (.inl h1)
 ·exact .inr (.inr ((ho b).1 h1))
theorem aa.XD {E:List Chunk} {out:Y→List Chunk} {X:Type} {p:X→Prop} {q:X→OQ} (i:Nat) (hi:af E i=.bg (EH p q)) (h:∀ x,p x→aa P f args (bh E i (.bg (q x))) Q res out) (hc:fY P f):aa P f args E Q res out where
 aA:=hc
 h:=by
  intro g w aD hS hv
  have hs:=hS.sat i
  rw[hi]at hs
  obtain⟨h1,h2,x,hx,h3⟩:=hs
  refine((h x hx).h g w aD (hS.swap hi ⟨h1,h2,h3⟩) hv).mono ?_
  rintro e w' ⟨y,c,g1,hq,rfl,k1,k2,k3⟩
  exact⟨y,c,g1,hq,rfl,k1,k2,k3.RA hi⟩
theorem aa.TZ {E:List Chunk} {out:Y→List Chunk} {Y':Type} {Q':Y'→Prop} {nM:Y'→AV} {EF:Y'→List Chunk} (i:Nat) (hm:aa P f args E Q res out)
  (h:∀ y,Q y→∃ y' q q',Q' y'∧res y=nM y'∧af (out y) i=.bg q∧EF y'=bh (out y) i (.bg q')∧∀ Φ b S hp,q.h Φ b S hp→q'.h Φ b S hp):aa P f args E Q' nM EF where
 aA:=hm.aA
 h:=by
  intro g w aD hS hv
  refine(hm.h g w aD hS hv).mono ?_
  rintro e w' ⟨y,c,g1,hq,rfl,k1,k2,k3⟩
  obtain⟨y',q,q',h1,h2,h3,h4,h5⟩:=h y hq
  have hs:=k2.sat i
  rw[h3]at hs
  exact⟨y',c,g1,h1,rfl,by rw[←h2];exact k1,by rw[h4];exact k2.swap h3 (CO h5 hs),by rw[h4];exact k3.Mm h3⟩
theorem aa.boxed {X Y':Type} {p:X→Prop} {ch:X→List Chunk} {p':Y'→X→Prop} {Q':Y'→Prop} {nM:Y'→AV} (hc:fY P f)
  (h:∀ x,p x→aa P f args (ch x) (Y:=Y'×X) (fun y=>Q' y.1∧p' y.1 y.2) (fun y=>nM y.1) (fun y=>ch y.2)) (ha:fq rt args=args) (hr:∀ y,Q' y→du rt (nM y)=nM y) (h0:∀ x,p x→dj (af (ch x) 0)=true) :
  aa P f args [.bg (EH p fun x=>pk (ch x))] Q' nM (fun y=>[.bg (EH (p' y) fun x=>pk (ch x))]) :=
 aa.XD 0 rfl (fun x hx=>(aa.pack (h x hx) ha (fun y hy=>hr y.1 hy.1) (h0 x hx)).TZ 0 fun y hy=>⟨y.1,_,_,hy.1,rfl,rfl,rfl,fun Φ b S hp hq=>⟨y.2,hy.2,hq⟩⟩) hc
theorem aa.mr {X Y':Type} {ch:X→List Chunk} {p':Y'→X→Prop} {Q':Y'→Prop} {nM:Y'→AV}
  (h:aa P f args [] (Y:=Y'×X) (fun y=>Q' y.1∧p' y.1 y.2) (fun y=>nM y.1) (fun y=>ch y.2)) (hr:∀ y,Q' y→du rt (nM y)=nM y) :
  aa P f args [] Q' nM (fun y=>[.bg (EH (p' y) fun x=>pk (ch x))]) :=
 (aa.Kq h fun y hy=>hr y.1 hy.1).TZ 0 fun y hy=>⟨y.1,_,_,hy.1,rfl,rfl,rfl,fun Φ b S hp hq=>⟨y.2,hy.2,hq⟩⟩
end
end Go.Proofs.YthnefnlhcijekaaGreat.Fw
set_option maxRecDepth 8000
namespace Go.Proofs.YthnefnlhcijekaaGreat.Eb
open Go Go.RowKit Fw
theorem EI {a i:Int} (ha:0≤a) (hi:0≤i∧i<64):(64*a+i).tmod 64=i∧(64*a+i).tdiv 64=a:=by
 rw[acB (by omega),abL (by omega)];omega
abbrev He:=Int→Option (List Int)
def Oe (r:Sl.Ref):He:=fun h=>if Sl.dK r h<0 then none else some (r.words.getD (h.tmod 64).toNat [])
def iB {α:Type} (f:Int→Option α) (h:Int) (v:Option α):Int→Option α:=fun j=>if j=h then v else f j
structure xn (n G:Nat) (wd:He) (k:Nat) (s:Sl.cp):Prop where
 h:∃ r,Sl.Rel s r n 19 G∧r.row.length=k∧wd=Oe r
section
variable {n G:Nat} {wd:He} {k:Nat} {s:Sl.cp}
theorem np {r:Sl.Ref} (hr:Sl.Rel s r n 19 G) {h:Int} {w:List Int} (e:Oe r h=some w):¬Sl.dK r h<0∧0≤h∧h.tmod 64<n∧0≤h.tmod 64∧w=r.words.getD (h.tmod 64).toNat []∧h=64*r.gen.getD (h.tmod 64).toNat 0+h.tmod 64∧r.taken.getD (h.tmod 64).toNat false=true:=by
 unfold Oe at e
 split at e
 ·cases e
 ·rename_i hg
  obtain⟨k1,k2,k3,k4,k5⟩:=Sl.gC hg
  have hl:=hr.jx.gen
  have h0:0≤h:=by
   have hd:=adq h 64
   have hb:=(hr.bound (h.tmod 64).toNat (by omega)).1
   omega
  cases e
  have hd:=adq h 64
  exact⟨hg,h0,by omega,k2,rfl,by rw[k5];omega,k4⟩
theorem xn.fr (p:xn n G wd k s):s.free=k∧k≤n∧1≤n∧n≤64:=by
 obtain⟨r,hr,rfl,h2⟩:=p.h
 exact⟨hr.free,hr.jx.row.1,hr.jx.cap.1,hr.jx.cap.2.1⟩
theorem Hf {r:Sl.Ref} (hr:Sl.Rel s r n 19 G) {i:Nat} (hi:i<n) (ht:r.taken.getD i false=true):Sl.dK r (64*r.gen.getD i 0+i)=i:=by
 have hb:=hr.bound i hi
 have hl:=hr.jx.gen
 have hc:=hr.jx.cap
 have hm:(64*r.gen.getD i 0+i).tmod 64=i:=(EI hb.1 (by omega)).1
 have hd:(64*r.gen.getD i 0+i).tdiv 64=r.gen.getD i 0:=(EI hb.1 (by omega)).2
 unfold Sl.dK
 rw[if_neg (by omega),hm,hd,abm,if_neg]
 rintro(h|h|h)
 ·omega
 ·rw[ht]at h;cases h
 ·exact h rfl
theorem iC {r:Sl.Ref} (hr:Sl.Rel s r n 19 G) (h:Int) (w:List Int):Oe r h=some w↔∃ i:Nat,i<n∧r.taken.getD i false=true∧h=64*r.gen.getD i 0+i∧w=r.words.getD i []:=by
 constructor
 ·intro e
  obtain⟨k1,k2,k3,k4,k5,k6,k7⟩:=np hr e
  exact⟨(h.tmod 64).toNat,by omega,k7,by omega,k5⟩
 ·rintro⟨i,hi,ht,rfl,rfl⟩
  have hc:=hr.jx.cap
  have hb:=hr.bound i hi
  unfold Oe
  rw[Hf hr hi ht,if_neg (by omega)]
  have hm:(64*r.gen.getD i 0+i).tmod 64=i:=(EI hb.1 (by omega)).1
  rw[hm,abm]
theorem xo {a b:He} (h:∀ x w,a x=some w↔b x=some w):a=b:=by
 funext x
 exact Option.ext fun w=>h x w
theorem xn.take (p:xn n G wd k s) (hG:G≤1000000000) (hk:0<k):∃ h:Int,Sl.tO s=(h,0)∧wd h=none∧0≤h∧0≤h.tmod 64∧h.tmod 64<n∧(∀ h' w,wd h'=some w→h'.tmod 64≠h.tmod 64) ∧
  xn n G (iB wd h (some (List.replicate 19 0))) (k - 1) (Sl.tP s):=by
 obtain⟨r,hr,rfl,rfl⟩:=p.h
 obtain⟨i,l,h1,h2,h3,h4⟩:=hr.Oa (by omega) (fun e=>by rw[e]at hk;simp at hk)
 have hc:=hr.jx.cap
 have hb:=hr.bound i h2
 have hm:(64*r.gen.getD i 0+i).tmod 64=i:=(EI hb.1 (by omega)).1
 have PV:r.taken.getD i false=false:=(hr.row i h2).1 (by rw[h1];exact abq ..)
 have cu:Oe r (64*r.gen.getD i 0+i)=none:=by
  cases e:Oe r (64*r.gen.getD i 0+i)with
  | none=>rfl
  | some w =>
   obtain⟨_,_,_,_,_,_,k7⟩:=np hr e
   rw[hm,abm,PV]at k7;cases k7
 refine⟨64*r.gen.getD i 0+i,h3,cu,by omega,by omega,by omega,fun h' w e=>?_,⟨_,h4,?_,xo fun x w=>?_⟩⟩
 ·obtain⟨_,_,_,_,_,_,k7⟩:=np hr e
  intro e2
  rw[e2,hm,abm,PV]at k7;cases k7
 ·show l.length=_;rw[h1];simp
 ·rw[iC h4]
  have dp:i<r.taken.length:=by rw[hr.jx.taken];exact h2
  have Vs:i<r.words.length:=by rw[hr.jx.words];exact h2
  have Vt:=hr.jx.xl h2
  have e1:∀ j,(Sl.ic r i l).taken.getD j false=if i=j then true else r.taken.getD j false:=fun j=>Sl.bo _ _ _ _ _ dp
  have e2:∀ j,(Sl.ic r i l).words.getD j []=if i=j then List.replicate 19 0 else r.words.getD j []:=fun j=>by
   show(r.words.set i (List.replicate (r.words.getD i []).length 0)).getD j []=_
   rw[Vt];exact Sl.bo r.words i j _ [] Vs
  have e3:(Sl.ic r i l).gen=r.gen:=rfl
  unfold iB
  by_cases hx:x=64*r.gen.getD i 0+i
  ·rw[if_pos hx]
   constructor
   ·intro e
    cases e
    exact⟨i,h2,by rw[e1,if_pos rfl],by rw[e3];exact hx,by rw[e2,if_pos rfl]⟩
   ·rintro⟨j,hj,k1,k2,rfl⟩
    rw[e3]at k2
    have j8:i=j:=by omega
    rw[e2,if_pos j8]
  ·rw[if_neg hx,iC hr]
   constructor
   ·rintro⟨j,hj,k1,k2,rfl⟩
    have cD:i≠j:=fun e=>by subst e;exact hx k2
    exact⟨j,hj,by rw[e1,if_neg cD];exact k1,by rw[e3];exact k2,by rw[e2,if_neg cD]⟩
   ·rintro⟨j,hj,k1,k2,rfl⟩
    rw[e3]at k2
    have cD:i≠j:=fun e=>by subst e;exact hx k2
    rw[e1,if_neg cD]at k1
    exact⟨j,hj,k1,k2,by rw[e2,if_neg cD]⟩
theorem xn.Hc (p:xn n G wd k s) (hG:G≤1000000000) {h:Int} {w:List Int} (e:wd h=some w):Sl.jA s h=true∧xn n (G+1) (iB wd h none) (k+1) (Sl.mo s (h.tmod 64).toNat):=by
 obtain⟨r,hr,rfl,rfl⟩:=p.h
 obtain⟨k1,k2,k3,k4,k5,k6,k7⟩:=np hr e
 have h4:=hr.Hc (by omega) k1
 refine⟨(hr.jg (by omega) h).2 k1,_,h4,?_,xo fun x v=>?_⟩
 ·unfold Sl.jZ;rw[if_neg k1];simp
 ·rw[iC h4]
  obtain⟨i,hi⟩:∃ i:Nat,h.tmod 64=i:=⟨(h.tmod 64).toNat,by omega⟩
  have Of:Sl.dK r h=i:=by rw[(Sl.gC k1).1];exact hi
  have kJ:i<n:=by omega
  have dp:i<r.taken.length:=by rw[hr.jx.taken];exact kJ
  have Zr:i<r.gen.length:=by rw[hr.jx.gen];exact kJ
  have e1:∀ j,(Sl.jZ r h).taken.getD j false=if i=j then false else r.taken.getD j false:=fun j=>by
   unfold Sl.jZ;rw[if_neg k1,Of,abm];exact Sl.bo _ _ _ _ _ dp
  have e2:(Sl.jZ r h).words=r.words:=by unfold Sl.jZ;rw[if_neg k1]
  have e3:∀ j,i≠j→(Sl.jZ r h).gen.getD j 0=r.gen.getD j 0:=fun j hj=>by
   unfold Sl.jZ;rw[if_neg k1,Of,abm]
   exact(Sl.bo _ _ _ _ _ Zr).trans (if_neg hj)
  have hc:=hr.jx.cap
  unfold iB
  by_cases hx:x=h
  ·rw[if_pos hx]
   constructor
   ·intro e;cases e
   ·rintro⟨j,hj,l1,l2,l3⟩
    have cD:i≠j:=fun e=>by rw[e1,if_pos e]at l1;cases l1
    rw[e3 j cD]at l2
    have:h.tmod 64=j:=by rw[←hx,l2];exact(EI (hr.bound j hj).1 (by omega)).1
    omega
  ·rw[if_neg hx,iC hr]
   constructor
   ·rintro⟨j,hj,l1,l2,rfl⟩
    have cD:i≠j:=fun e=>by
     subst e
     rw[hi,abm]at k6
     exact hx (by rw[l2,k6])
    exact⟨j,hj,by rw[e1,if_neg cD];exact l1,by rw[e3 j cD];exact l2,by rw[e2]⟩
   ·rintro⟨j,hj,l1,l2,rfl⟩
    have cD:i≠j:=fun e=>by rw[e1,if_pos e]at l1;cases l1
    rw[e1,if_neg cD]at l1
    rw[e3 j cD]at l2
    exact⟨j,hj,l1,l2,by rw[e2]⟩
theorem xn.read (p:xn n G wd k s) (hG:G≤1000000000) {h:Int} {w:List Int} (e:wd h=some w):Sl.jA s h=true∧Sl.ay s h=w:=by
 obtain⟨r,hr,rfl,rfl⟩:=p.h
 obtain⟨k1,k2,k3,k4,k5,k6,k7⟩:=np hr e
 exact⟨(hr.jg (by omega) h).2 k1,by rw[hr.read k1,(Sl.gC k1).1,k5]⟩
theorem xn.write (p:xn n G wd k s) (hG:G≤1000000000) {h:Int} {w v:List Int} (e:wd h=some w) (hv:v.length=19):Sl.jA s h=true∧s.each=19∧xn n G (iB wd h (some v)) k (Sl.kW s (h.tmod 64) v):=by
 obtain⟨r,hr,rfl,rfl⟩:=p.h
 obtain⟨k1,k2,k3,k4,k5,k6,k7⟩:=np hr e
 have h4:=hr.write k1 hv
 refine⟨(hr.jg (by omega) h).2 k1,hr.each,_,h4,rfl,xo fun x u=>?_⟩
 rw[iC h4]
 obtain⟨i,hi⟩:∃ i:Nat,h.tmod 64=i:=⟨(h.tmod 64).toNat,by omega⟩
 have Of:Sl.dK r h=i:=by rw[(Sl.gC k1).1];exact hi
 have kJ:i<n:=by omega
 have Vs:i<r.words.length:=by rw[hr.jx.words];exact kJ
 have e2:∀ j,(Sl.pQ r h v).words.getD j []=if i=j then v else r.words.getD j []:=fun j=>by
  unfold Sl.pQ;rw[Of,abm];exact Sl.bo _ _ _ _ _ Vs
 have hc:=hr.jx.cap
 rw[hi,abm]at k6 k7
 unfold iB
 by_cases hx:x=h
 ·rw[if_pos hx]
  constructor
  ·intro e;cases e
   exact⟨i,kJ,k7,by rw[hx];exact k6,by rw[e2,if_pos rfl]⟩
  ·rintro⟨j,hj,l1,l2,rfl⟩
   have lS:h.tmod 64=j:=by rw[←hx,l2];exact(EI (hr.bound j hj).1 (by omega)).1
   rw[e2,if_pos (by omega)]
 ·rw[if_neg hx,iC hr]
  have bE:∀ j:Nat,x=64*r.gen.getD j 0+j→i≠j:=fun j hj e=>by subst e;exact hx (by rw[hj,k6])
  constructor
  ·rintro⟨j,hj,l1,l2,rfl⟩
   exact⟨j,hj,l1,l2,by rw[e2,if_neg (bE j l2)]⟩
  ·rintro⟨j,hj,l1,l2,rfl⟩
   exact⟨j,hj,l1,l2,by rw[e2,if_neg (bE j l2)]⟩
theorem tR {r:Sl.Ref} (hr:Sl.Rel s r n 19 G) (hG:G≤1000000000):∀ m,m≤n→(∀ x,x∈Sl.fj r m↔∃ i:Nat,i<m∧r.taken.getD i false=true∧x=64*r.gen.getD i 0+i)∧(Sl.fj r m).Nodup
 | 0,_=>⟨fun x=>by simp[Sl.fj],by simp[Sl.fj]⟩
 | m+1,hm=>by
  obtain⟨h1,h2⟩:=tR hr hG m (by omega)
  have hh:=(hr.eZ (by omega) (i:=m) (by omega)).2
  have hc:=hr.jx.cap
  constructor
  ·intro x
   rw[Sl.fj,ab1,h1]
   constructor
   ·rintro(⟨i,k1,k2,k3⟩|h)
    ·exact⟨i,by omega,k2,k3⟩
    ·split at h
     ·simp at h;exact⟨m,by omega,‹_›,by rw[h,hh]⟩
     ·cases h
   ·rintro⟨i,k1,k2,k3⟩
    by_cases e:i=m
    ·subst e;right;rw[if_pos k2,hh,k3];simp
    ·exact .inl ⟨i,by omega,k2,k3⟩
  ·rw[Sl.fj,ac6]
   refine⟨h2,by split <;> simp,fun x hx y hy=>?_⟩
   split at hy
   ·simp at hy
    obtain⟨i,k1,k2,k3⟩:=(h1 x).1 hx
    have b1:=(hr.bound i (by omega)).1
    have b2:=(hr.bound m (by omega)).1
    rw[hy,hh,k3];omega
   ·cases hy
theorem xn.live (p:xn n G wd k s) (hG:G≤1000000000):(Sl.taken s).Nodup∧∀ h,h∈Sl.taken s↔(wd h).isSome=true:=by
 obtain⟨r,hr,rfl,rfl⟩:=p.h
 rw[hr.Hd (by omega)]
 unfold Sl.Bi
 rw[hr.jx.gen]
 obtain⟨h1,h2⟩:=tR hr hG n (abr _)
 refine⟨h2,fun h=>?_⟩
 rw[h1,ab2]
 constructor
 ·rintro⟨i,k1,k2,k3⟩;exact⟨_,(iC hr h _).2 ⟨i,k1,k2,k3,rfl⟩⟩
 ·rintro⟨w,hw⟩
  obtain⟨i,k1,k2,k3,_⟩:=(iC hr h w).1 hw
  exact⟨i,k1,k2,k3⟩
theorem xn.new {n:Nat} (hn:1≤n∧n≤64):xn n 0 (fun _=>none) n (Sl.iA n 19):=by
 have hr:=Sl.Rel.new hn (by decide:19≤32)
 refine⟨_,hr,by simp[Sl.jK],xo fun x w=>?_⟩
 rw[iC hr]
 constructor
 ·intro h;cases h
 ·rintro⟨i,h1,h2,_⟩
  exfalso
  simp[Sl.jK,abi,ab0,h1]at h2
end
end Go.Proofs.YthnefnlhcijekaaGreat.Eb
namespace Go.Proofs.YthnefnlhcijekaaGreat.Fw
open Go Go.RowKit
def re (i j m:Nat):AV→AV
 | .ptr a o=>(match Nat.beq a j with|true=>.hp i (fun _=>some (m,o))|false=>.ptr a o)
 | .bl a s x o=>(match Nat.beq a j with|true=>.undef|false=>.bl a s x o)
 | .vec a s o n=>(match Nat.beq a j with|true=>.undef|false=>.vec a s o n)
 | .mp a=>(match Nat.beq a j with|true=>.hm i (fun _=>m)|false=>.mp a)
 | .hp a f=>(match Nat.beq a j with|true=>.undef|false=>.hp a f)
 | .hm a f=>(match Nat.beq a j with|true=>.undef|false=>.hm a f)
 | v=>v
inductive za (i:Nat) (f:AV→AV):Chunk→HO→Prop
 | cells (T:TypeId) (cs:List AV) (c:Nat→HV) (h:∀ p v,cs[p]?=some v→fo i (du f v) (c p)):za i f (.cells T cs) (.cells T cs.length c)
 | map (k:IntKind) (clock:Nat):za i f (.jC k [] []) (.map [] clock)
def Hp.add (h:Hp) (o:HO):Hp:=⟨h.m+1,fun k=>if k=h.m then o else h.o k⟩
def Gh.take (g:Gh) (i j:Nat):Gh :=
 { g with W:=fun x k=>if x=i then(if k=g.M i then g.B j else g.W i k)else g.W x k,M:=fun x=>if x=i then g.M i+1 else g.M x }
section
variable {B:bU} {g:Gh} {env:Env} {E:List Chunk} {tmps:Array Value} {w:World}
theorem xp {i j m:Nat} (hi:i<g.n) (hm:m=g.M i) (v:AV) (u:Value) (hv:isRef v=true) (hr:R g v u):R (g.take i j) (re i j m v) u:=by
 subst hm
 have hW:∀ x k,k<g.M x→(g.take i j).W x k=g.W x k:=by
  intro x k hk
  simp only[Gh.take]
  split
  ·rename_i e;subst e;rw[if_neg (by omega)]
  ·rfl
 have hM:∀ x,g.M x≤(g.take i j).M x:=by intro x;simp only[Gh.take];split <;> simp_all
 have hZ:(g.take i j).W i (g.M i)=g.B j:=by simp[Gh.take]
 have bm:g.M i<(g.take i j).M i:=by simp[Gh.take]
 cases hr <;> first|(cases hv;done)|skip
 ·rename_i a o ha
  simp only[re];split
  ·rename_i hb
   have hb:=abl hb
   subst hb
   have:=R.hp (g:=g.take i a) i (fun _=>some (g.M i,o)) hi (fun x hx=>by cases hx;exact bm)
   simpa [hZ]using this
  ·exact .ptr (g:=g.take i j) a o ha
 ·rename_i a s x o ha hL
  simp only[re];split
  ·exact .undef _
  ·exact .bl (g:=g.take i j) a s x o ha hL
 ·rename_i a s o n A c ha hL hn hs
  simp only[re];split
  ·exact .undef _
  ·exact .vec (g:=g.take i j) a s o n A c ha hL hn hs
 ·rename_i a ha
  simp only[re];split
  ·rename_i hb
   have hb:=abl hb
   subst hb
   have:=R.hm (g:=g.take i a) i (fun _=>g.M i) hi bm
   rw[hZ]at this;exact this
  ·exact .mp (g:=g.take i j) a ha
 ·rename_i a f ha hf
  simp only[re];split
  ·exact .undef _
  ·have:=R.hp (g:=g.take i j) a f ha (fun x hx=>abB (hf x hx) (hM a))
   cases Gd:f ()with
   | none=>rw[Gd]at this;exact this
   | some x=>rw[Gd]at this;simp only[acb]at this ⊢;rw[←hW a x.1 (hf x Gd)];exact this
 ·rename_i a f ha hf
  simp only[re];split
  ·exact .undef _
  ·rw[←hW a _ hf];exact .hm (g:=g.take i j) a f ha (abB hf (hM a))
theorem Inv.ie (h:Inv B g env E tmps w) {i j:Nat} {hp:Unit→Hp} {c:Chunk} {o:HO} {h':Hp} (hi:af E i=.heap hp) (hj:af E j=c) (cD:i≠j) (hjB:ah B.E≤j) (hc:∀ ob,c.sat g j w→w.heap[g.B j]?=some ob→o.sat (g.take i j) i ob)
  (P8:c.own g j (g.B j)) (FQ:AW c=true) (hl:h'.eb ((hp ()).add o)) :
  Inv B (g.take i j) (bj (re i j (hp ()).m) env) (cY (re i j (hp ()).m) (bh (bh E j .none) i (.heap fun _=>h'))) tmps w∧∀ v u,R g v u→R (g.take i j) (du (re i j (hp ()).m) v) u:=by
 have P9:=h.aZ.sat i
 rw[hi]at P9
 obtain⟨hm,Nd,Vu⟩:=P9
 have dp:i<ah E:=dV (by rw[hi];simp)
 have rN:j<ah E:=dV (by rw[hj];intro e;rw[e]at P8;exact P8)
 have kJ:i<g.n:=by rw[←h.aZ.len];exact dp
 have rL:=xp (g:=g) (j:=j) kJ hm.symm
 have hΦ:∀ b o,g.Φ b=some o→(g.take i j).Φ b=some o:=fun _ _ h=>h
 have Mn:∀ v u,R g v u→R (g.take i j) (du (re i j (hp ()).m) v) u:=fun v u hr=>R.map (g:=g) (g':=g.take i j) _ hΦ rL hr
 have hW:∀ x,x≠i→(g.take i j).W x=g.W x:=by intro x hx;funext k;simp[Gh.take,hx]
 have hM:∀ x,x≠i→(g.take i j).M x=g.M x:=by intro x hx;simp[Gh.take,hx]
 have Mo:∀ k,k<g.M i→(g.take i j).W i k=g.W i k:=by intro k hk;simp only[Gh.take,if_true];rw[if_neg (by omega)]
 have T0:(g.take i j).W i (g.M i)=g.B j:=by simp[Gh.take]
 have Qa:(g.take i j).M i=g.M i+1:=by simp[Gh.take]
 have Hg:∀ k,k<g.M i→(af E i).own g i (g.W i k):=fun k hk=>by rw[hi];exact⟨k,hk,rfl⟩
 have tS:(af E j).own g j (g.B j):=by rw[hj];exact P8
 have bE:∀ k,k<g.M i→g.W i k≠g.B j:=fun k hk e=>cD (h.aZ.lL i j _ (Hg k hk) (by rw[e];exact tS))
 have cA:∀ x,af (cY (re i j (hp ()).m) (bh (bh E j .none) i (.heap fun _=>h'))) x=if x=i then .heap (fun _=>h')else if x=j then .none else dv (re i j (hp ()).m) (af E x):=by
  intro x
  rw[fE,bC]
  by_cases hx:i=x
  ·subst hx;simp[ck,dp,dv]
  ·rw[if_neg (fun h=>hx h.1),bC]
   by_cases Qb:j=x
   ·subst Qb;rw[if_neg (Ne.symm hx),if_pos rfl,if_pos ⟨rfl,rN⟩];rfl
   ·rw[if_neg (Ne.symm hx),if_neg (Ne.symm Qb),if_neg (fun h=>Qb h.1)]
 have hblk:∀ x b,(af (cY (re i j (hp ()).m) (bh (bh E j .none) i (.heap fun _=>h'))) x).own (g.take i j) x b→(x≠j∧(af E x).own g x b)∨(x=i∧b=g.B j):=by
  intro x b hb
  rw[cA]at hb
  split at hb
  ·rename_i e
   subst e
   obtain⟨k,hk,rfl⟩:=hb
   rw[Qa]at hk
   by_cases Eg:k=g.M x
   ·subst Eg;exact .inr ⟨rfl,T0⟩
   ·refine .inl ⟨cD,?_⟩
    rw[Mo k (by omega)]
    exact Hg k (by omega)
  ·split at hb
   ·cases hb
   ·rename_i Hh Qb
    rw[jb,Chunk.qM (g:=g) (g':=g.take i j) rfl rfl (hW x Hh) (hM x Hh)]at hb
    exact .inl ⟨Qb,hb⟩
 refine⟨⟨fun t=>by rw[cZ];exact Mn _ _ (h.er t),⟨by rw[eK,ck,ck];exact h.aZ.len,h.aZ.dA,fun x=>?_,fun x y b hx hy=>?_,fun x b hx=>?_⟩,
  ⟨h.ext.os,h.ext.tape,h.ext.output,h.ext.size,h.ext.cE,h.ext.dA,h.ext.fS,fun x b hx=>?_,h.ext.n,h.ext.ids,h.ext.kk,fun x hx=>?_,fun x k hx hk=>?_,fun x hx=>?_⟩⟩,Mn⟩
 ·rw[cA]
  split
  ·rename_i e
   subst e
   refine⟨?_,?_,?_⟩
   ·rw[Qa,hl.1];show g.M x+1=(hp ()).m+1;omega
   ·intro k k' hk wO he
    rw[Qa]at hk wO
    by_cases h1:k=g.M x <;> by_cases h2:k'=g.M x
    ·omega
    ·subst h1;rw[T0,Mo k' (by omega)]at he;exact(bE k' (by omega) he.symm).elim
    ·subst h2;rw[T0,Mo k (by omega)]at he;exact(bE k (by omega) he).elim
    ·rw[Mo k (by omega),Mo k' (by omega)]at he;exact Nd k k' (by omega) (by omega) he
   ·intro k hk
    rw[Qa]at hk
    have Mp:=hl.2 k (by rw[hl.1];show k<(hp ()).m+1;omega)
    by_cases h1:k=g.M x
    ·subst h1
     have EJ:=h.aZ.sat j
     rw[hj]at EJ
     have bm:=ft EJ P8
     obtain⟨ob,dZ⟩:∃ ob,w.heap[g.B j]?=some ob:=⟨_,aca bm⟩
     refine⟨ob,by rw[T0];exact dZ,HO.l8 Mp ?_⟩
     have:=hc ob EJ dZ
     simpa [Hp.add,hm]using this
    ·obtain⟨ob,h4,h5⟩:=Vu k (by omega)
     refine⟨ob,by rw[Mo k (by omega)];exact h4,HO.l8 Mp ?_⟩
     have e:((hp ()).add o).o k=(hp ()).o k:=by simp only[Hp.add];rw[if_neg (by omega)]
     rw[e]
     exact HO.l7 (HV.sx (g:=g) (g':=g.take x j) (i:=x) (i':=x) (fun _ _ _ h=>h) (fun h=>h) (fun _ k hk=>Mo k hk) (fun _=>by rw[Qa];exact adh _)) h5
  ·split
   ·trivial
   ·rename_i Hh Qb
    exact Chunk.pJ (g:=g) (g':=g.take i j) _ hΦ rL rfl rfl rfl rfl (hW x Hh) (hM x Hh) (fun h=>h) (fun _ _=>rfl) (h.aZ.sat x)
 ·rcases hblk x b hx with⟨h1,h2⟩|⟨h1,h2⟩ <;> rcases hblk y b hy with⟨h3,h4⟩|⟨h3,h4⟩
  ·exact h.aZ.lL x y b h2 h4
  ·subst h4;exact(h1 (h.aZ.lL x j _ h2 tS)).elim
  ·subst h2;exact(h3 (h.aZ.lL y j _ h4 tS)).elim
  ·exact h1.trans h3.symm
 ·rcases hblk x b hx with⟨h1,h2⟩|⟨h1,h2⟩
  ·exact h.aZ.dQ x b h2
  ·subst h2;exact h.aZ.dQ j _ tS
 ·rcases hblk x b hx with⟨h1,h2⟩|⟨h1,h2⟩
  ·exact h.ext.own x b h2
  ·subst h2;exact h.ext.own j _ tS
 ·rw[cA]
  split
  ·rfl
  ·split
   ·rfl
   ·rw[sy];exact h.ext.nJ x hx
 ·by_cases Hh:x=i
  ·subst Hh;rw[Mo k (abB hk (h.ext.qN x hx))];exact h.ext.r9 x k hx hk
  ·rw[hW x Hh];exact h.ext.r9 x k hx hk
 ·by_cases Hh:x=i
  ·subst Hh;rw[Qa];exact Nat.le_succ_of_le (h.ext.qN x hx)
  ·rw[hM x Hh];exact h.ext.qN x hx
theorem za.ok {i j m:Nat} {c:Chunk} {o:HO} (hi:i<g.n) (hm:m=g.M i) (ha:za i (re i j m) c o) (Vv:∀ es clock,o=.map es clock→∀ ms cl,w.heap[g.B j]?=some (.map ms cl)→cl=clock) (ob:Obj) (hs:c.sat g j w) (hb:w.heap[g.B j]?=some ob):o.sat (g.take i j) i ob:=by
 cases ha with
 | cells T cs cc Bj =>
  obtain⟨vs,h1,h2⟩:=hs
  rw[h1]at hb
  cases hb
  refine⟨vs,rfl,by have:=h2.length;simp at this;exact this.symm,fun p u hp=>?_⟩
  have bm:p<cs.length:=by
   have h3:=h2.length
   have:=(aed.1 hp).1
   simp at h3;omega
  have hr:=h2.at_ p _ u (abj bm) (by simpa using hp)
  exact(Bj p _ (abj bm)).R (g:=g.take i j) hi (R.map (g:=g) (g':=g.take i j) _ (fun _ _ h=>h) (xp hi hm) hr)
 | map k clock =>
  obtain⟨es,cl,h1,h2,h3⟩:=hs
  rw[h1]at hb
  cases hb
  have:=Vv _ _ rfl _ _ h1
  subst this
  refine⟨es,rfl,?_⟩
  have:es.toList=[]:=by simpa using h2
  rw[this]
  exact trivial
theorem Inv.mu (h:Inv B g env E tmps w) (o:Nat→HO):∃ g',Inv B g' env (dz E (.heap fun _=>⟨0,o⟩)) tmps w∧∀ v u,R g v u→R g' v u:=by
 let g0:Gh:={ g with M:=fun x=>if x<g.n then g.M x else 0 }
 have EG:∀ x,x<g.n→g0.M x=g.M x:=fun x hx=>by show(if x<g.n then g.M x else 0)=_;rw[if_pos hx]
 have hle:g.le g0:=⟨abr _,fun _ _ h=>h,fun _ _=>rfl,fun _ _=>rfl,fun _ _=>rfl,rfl,fun _ _ _ _=>rfl,fun i hi=>by rw[EG i hi];exact abr _⟩
 have hlen:=h.aZ.len
 have yx:∀ x,¬x<g.n→af E x=.none:=fun x hx=>kR E x (by omega)
 have cT:∀ x b,(af E x).own g0 x b→(af E x).own g x b:=by
  intro x b hb
  by_cases hx:x<g.n
  ·rwa [Chunk.qM (g:=g) (g':=g0) rfl rfl rfl (EG x hx)]at hb
  ·rw[yx x hx]at hb;cases hb
 have h0:Inv B g0 env E tmps w:=by
  refine⟨fun t=>(h.er t).mono hle,⟨hlen,h.aZ.dA,fun x=>?_,fun x y b hx hy=>h.aZ.lL x y b (cT x b hx) (cT y b hy),fun x b hx=>h.aZ.dQ x b (cT x b hx)⟩,
   ⟨h.ext.os,h.ext.tape,h.ext.output,h.ext.size,h.ext.cE,h.ext.dA,h.ext.fS,fun x b hx=>h.ext.own x b (cT x b hx),h.ext.n,h.ext.ids,h.ext.kk,h.ext.nJ,h.ext.r9,fun x hx=>?_⟩⟩
  ·by_cases hx:x<g.n
   ·exact Chunk.fF (fun _ _ _ h=>h.mono hle.dA) (fun _ _ h=>h.mono hle) rfl rfl rfl rfl rfl (EG x hx) (fun _ _=>rfl) (h.aZ.sat x)
   ·rw[yx x hx];trivial
  ·rw[EG x (abB (jV hx) h.ext.n)];exact h.ext.qN x hx
 have hz:(g0.add 0 none 0).M g0.n=0:=by show(if g.n<g.n then g.M g.n else 0)=0;rw[if_neg (Nat.lt_irrefl _)]
 refine⟨g0.add 0 none 0,h0.new (c:=.heap fun _=>⟨0,o⟩) (b:=0) (v:=none) (l:=0) (w':=w) rfl rfl (jz.refl _) (abr _) (fun _ _=>rfl) ⟨hz,fun k k' hk=>by rw[hz]at hk;omega,fun k hk=>by rw[hz]at hk;omega⟩ (fun b hb=>?_),fun v u hr=>(hr.mono hle).mono (g0.jW _ _ _)⟩
 obtain⟨k,hk,_⟩:=hb
 rw[hz]at hk;omega
end
section
variable {P:Program} {N:Nat} {M:List Bool} {S:Sc} {c:Code} {env:Env} {E:List Chunk} {K:Ex→Env→List Chunk→Prop}
theorem Iv.ie {g:Gh} {a:Act} {w:World} (h:Iv S g env E a w) (hM:∀ B,S.at_ B→bB B.E=M) {i j:Nat} {hp:Unit→Hp} {ch:Chunk} {o:HO} {h':Hp} (hi:af E i=.heap hp) (hj:af E j=ch) (cD:i≠j) (Ku:M.length≤j)
  (hc:∀ ob,ch.sat g j w→w.heap[g.B j]?=some ob→o.sat (g.take i j) i ob) (P8:ch.own g j (g.B j)) (FQ:AW ch=true) (hl:h'.eb ((hp ()).add o)) :
  Iv S (g.take i j) (bj (re i j (hp ()).m) env) (cY (re i j (hp ()).m) (bh (bh E j .none) i (.heap fun _=>h'))) a w:=by
 obtain⟨B,hB,h,hd⟩:=h
 exact⟨B,hB,(h.ie hi hj cD (by rw[←gA,hM B hB];exact Ku) hc P8 FQ hl).1,hd⟩
theorem aC.ie (i j:Nat) (Ku:Nat.ble M.length j=true) {hp:Unit→Hp} {T:TypeId} {cs:List AV} (h':Hp) (cc:Nat→HV) (hi:af E i=.heap hp) (hj:af E j=.cells T cs) (Bj:∀ p v,cs[p]?=some v→fo i (du (re i j (hp ()).m) v) (cc p))
  (hl:h'.eb ((hp ()).add (.cells T cs.length cc)))
  (k:jU (bj (re i j (hp ()).m) env) fun env=>iM (cY (re i j (hp ()).m) (bh (bh E j .none) i (.heap fun _=>h'))) fun E=>aC P N S M c env E K):aC P N S M c env E K where
 h:=by
  intro r g a w hr hM hI hN
  rw[dn,bf]at k
  have cD:i≠j:=fun e=>by subst e;rw[hi]at hj;cases hj
  have hs:=hI.aZ
  have kJ:i<g.n:=by rw[←hs.len];exact dV (by rw[hi];simp)
  have hm:(hp ()).m=g.M i:=by have:=hs.sat i;rw[hi]at this;exact this.1.symm
  exact k.h r _ a w hr hM (hI.ie hM hi hj cD (ab3 Ku) (za.ok kJ hm (.cells T cs cc Bj) (fun _ _ e=>by cases e)) rfl rfl hl) hN
theorem aC.gH (i j:Nat) (Ku:Nat.ble M.length j=true) {hp:Unit→Hp} {kk:IntKind} (h':Nat→Hp) (hi:af E i=.heap hp) (hj:af E j=.jC kk [] [])
  (hl:∀ clock,(h' clock).eb ((hp ()).add (.map [] clock)))
  (k:∀ clock,jU (bj (re i j (hp ()).m) env) fun env=>iM (cY (re i j (hp ()).m) (bh (bh E j .none) i (.heap fun _=>h' clock))) fun E=>aC P N S M c env E K):aC P N S M c env E K where
 h:=by
  intro r g a w hr hM hI hN
  have cD:i≠j:=fun e=>by subst e;rw[hi]at hj;cases hj
  have hs:=hI.aZ
  have kJ:i<g.n:=by rw[←hs.len];exact dV (by rw[hi];simp)
  have hm:(hp ()).m=g.M i:=by have:=hs.sat i;rw[hi]at this;exact this.1.symm
  have EJ:=hs.sat j
  rw[hj]at EJ
  obtain⟨es,cl,h1,_⟩:=EJ
  have k:=k cl
  rw[dn,bf]at k
  exact k.h r _ a w hr hM (hI.ie hM hi hj cD (ab3 Ku) (za.ok kJ hm (.map kk cl) (fun Um Zs e ms Zt hb=>by cases e;rw[h1]at hb;cases hb;rfl)) rfl rfl (hl cl)) hN
theorem aC.mu (o:Nat→HO) (k:iM (dz E (.heap fun _=>⟨0,o⟩)) fun E=>aC P N S M c env E K):aC P N S M c env E K where
 h:=by
  intro r g a w hr hM hI hN
  rw[bf]at k
  obtain⟨B,hB,h,hd⟩:=hI
  obtain⟨g',h',_⟩:=h.mu o
  exact k.h r g' a w hr hM ⟨B,hB,h',hd⟩ hN
variable {l:List AV} {Y:Type} {Q:Y→Prop} {res:Y→List AV} {out:Y→List Chunk}
theorem ae.ie (i j:Nat) (Ku:Nat.ble M.length j=true) {hp:Unit→Hp} {T:TypeId} {cs:List AV} (h':Hp) (cc:Nat→HV) (hi:af E i=.heap hp) (hj:af E j=.cells T cs) (Bj:∀ p v,cs[p]?=some v→fo i (du (re i j (hp ()).m) v) (cc p))
  (hl:h'.eb ((hp ()).add (.cells T cs.length cc)))
  (k:iM (cY (re i j (hp ()).m) (bh (bh E j .none) i (.heap fun _=>h'))) fun E=>fL (fq (re i j (hp ()).m) l) fun l=>ae M [] E l Q res out):ae M env E l Q res out where
 h:=by
  intro B g tmps w aD hM hI hr
  rw[bf,fA]at k
  have cD:i≠j:=fun e=>by subst e;rw[hi]at hj;cases hj
  have hs:=hI.aZ
  have kJ:i<g.n:=by rw[←hs.len];exact dV (by rw[hi];simp)
  have hm:(hp ()).m=g.M i:=by have:=hs.sat i;rw[hi]at this;exact this.1.symm
  obtain⟨h1,h2⟩:=hI.ie hi hj cD (by rw[←gA,hM];exact ab3 Ku) (za.ok kJ hm (.cells T cs cc Bj) (fun _ _ e=>by cases e)) rfl rfl hl
  exact k.h B _ tmps w aD hM ⟨fun t=>.undef _,h1.aZ,h1.ext⟩ (RL.map (g:=g) (g':=g.take i j) _ (fun _ _ h=>h) (xp kJ hm) hr)
theorem ae.gH (i j:Nat) (Ku:Nat.ble M.length j=true) {hp:Unit→Hp} {kk:IntKind} (h':Nat→Hp) (hi:af E i=.heap hp) (hj:af E j=.jC kk [] [])
  (hl:∀ clock,(h' clock).eb ((hp ()).add (.map [] clock)))
  (k:∀ clock,iM (cY (re i j (hp ()).m) (bh (bh E j .none) i (.heap fun _=>h' clock))) fun E=>fL (fq (re i j (hp ()).m) l) fun l=>ae M [] E l Q res out):ae M env E l Q res out where
 h:=by
  intro B g tmps w aD hM hI hr
  have cD:i≠j:=fun e=>by subst e;rw[hi]at hj;cases hj
  have hs:=hI.aZ
  have kJ:i<g.n:=by rw[←hs.len];exact dV (by rw[hi];simp)
  have hm:(hp ()).m=g.M i:=by have:=hs.sat i;rw[hi]at this;exact this.1.symm
  have EJ:=hs.sat j
  rw[hj]at EJ
  obtain⟨es,cl,h1,_⟩:=EJ
  have k:=k cl
  rw[bf,fA]at k
  obtain⟨h2,h3⟩:=hI.ie hi hj cD (by rw[←gA,hM];exact ab3 Ku) (za.ok kJ hm (.map kk cl) (fun Um Zs e ms Zt hb=>by cases e;rw[h1]at hb;cases hb;rfl)) rfl rfl (hl cl)
  exact k.h B _ tmps w aD hM ⟨fun t=>.undef _,h2.aZ,h2.ext⟩ (RL.map (g:=g) (g':=g.take i j) _ (fun _ _ h=>h) (xp kJ hm) hr)
theorem ae.mu (o:Nat→HO) (k:iM (dz E (.heap fun _=>⟨0,o⟩)) fun E=>ae M [] E l Q res out):ae M env E l Q res out where
 h:=by
  intro B g tmps w aD hM hI hr
  rw[bf]at k
  obtain⟨g',h',hm⟩:=hI.mu o
  refine k.h B g' tmps w aD hM ⟨fun t=>.undef _,h'.aZ,h'.ext⟩ (RL.mk hr.length fun i y u h1 h2=>hm _ _ (hr.at_ i y u h1 h2))
end
end Go.Proofs.YthnefnlhcijekaaGreat.Fw
namespace Go.Proofs.YthnefnlhcijekaaGreat.Wh
open Go Go.RowKit Fw
structure Lk where
 id:Int
 slot:Int
 prev:Option Nat
 next:Option Nat
structure Wl where
 n:Nat
 lk:Nat→Lk
 first:Nat→Option Nat
 last:Nat→Option Nat
 at_:List (Nat×Int×Nat)
 pg:Nat
 mask:Int
abbrev mw:TypeId:=240
abbrev ga:TypeId:=298
def pt (x:Option Nat):Option (Nat×Nat):=x.map fun k=>(k+2,0)
def dR (w:Wl) (j:Nat):HV :=
 if j<128 then .hp (pt (if j % 2=0 then w.first (j / 2)else w.last (j / 2)))else if j=128 then .hm 0 else .iq (.list (.int .u64)) [w.mask]
def eX (l:Lk):Nat→HV
 | 0=>.iq (.int .i64) l.id|1=>.iq (.int .i64) l.slot|2=>.hp (pt l.prev)|_=>.hp (pt l.next)
def sk (es:List (Nat×Int×Nat)):List (Nat×Int×HV):=es.map fun e=>(e.1,e.2.1,.hp (pt (some e.2.2)))
def xq (w:Wl):Nat→HO
 | 0=>.map (sk w.at_) w.pg
 | 1=>.cells mw 130 (dR w)
 | k+2=>.cells ga 4 (eX (w.lk k))
def dG (w:Wl):Hp:=⟨w.n+2,xq w⟩
def fJ {α:Type} (f:Nat→α) (k:Nat) (v:α):Nat→α:=fun j=>if j=k then v else f j
theorem bD {α:Type} (f:Nat→α) (k:Nat) (v:α):fJ f k v k=v:=by simp[fJ]
theorem aX {α:Type} (f:Nat→α) (k:Nat) (v:α) {j:Nat} (h:j≠k):fJ f k v j=f j:=by simp[fJ,h]
section
variable {P:Program} {t i:Nat} {w:Wl} {f:Unit→Option (Nat×Nat)} {K:AV→Prop}
theorem CP (s:Nat) (hs:s<64) (hf:f ()=some (1,s*2)) (ht:ph P t=true) (k:K (.hp i fun _=>pt (w.first s))):FI P t i (fun _=>dG w) f K :=
 ⟨1,s*2,mw,130,dR w,.hp (pt (w.first s)),hf,rfl,by omega,by
  unfold dR;rw[if_pos (by omega),if_pos (by omega),show s*2 / 2=s by omega],ht,k⟩
theorem Bk (s:Nat) (hs:s<64) (hf:f ()=some (1,s*2+1)) (ht:ph P t=true) (k:K (.hp i fun _=>pt (w.last s))):FI P t i (fun _=>dG w) f K :=
 ⟨1,s*2+1,mw,130,dR w,.hp (pt (w.last s)),hf,rfl,by omega,by
  unfold dR;rw[if_pos (by omega),if_neg (by omega),show(s*2+1) / 2=s by omega],ht,k⟩
theorem Bl (hf:f ()=some (1,128)) (ht:ph P t=true) (k:K (.hm i fun _=>0)):FI P t i (fun _=>dG w) f K :=
 ⟨1,128,mw,130,dR w,.hm 0,hf,rfl,by omega,rfl,ht,k⟩
theorem Bm (hf:f ()=some (1,129)) (ht:ph P t=true) (k:K (.aG (.int .u64) fun _=>[w.mask])):FI P t i (fun _=>dG w) f K :=
 ⟨1,129,mw,130,dR w,.iq (.list (.int .u64)) [w.mask],hf,rfl,by omega,rfl,ht,k⟩
theorem Kv (n:Nat) (hf:f ()=some (n+2,0)) (ht:ph P t=true) (k:K (.int .i64 fun _=>(w.lk n).id)):FI P t i (fun _=>dG w) f K :=
 ⟨n+2,0,ga,4,eX (w.lk n),_,hf,rfl,by omega,rfl,ht,k⟩
theorem tT (n:Nat) (hf:f ()=some (n+2,1)) (ht:ph P t=true) (k:K (.int .i64 fun _=>(w.lk n).slot)):FI P t i (fun _=>dG w) f K :=
 ⟨n+2,1,ga,4,eX (w.lk n),_,hf,rfl,by omega,rfl,ht,k⟩
theorem rf (n:Nat) (hf:f ()=some (n+2,2)) (ht:ph P t=true) (k:K (.hp i fun _=>pt (w.lk n).prev)):FI P t i (fun _=>dG w) f K :=
 ⟨n+2,2,ga,4,eX (w.lk n),_,hf,rfl,by omega,rfl,ht,k⟩
theorem oN (n:Nat) (hf:f ()=some (n+2,3)) (ht:ph P t=true) (k:K (.hp i fun _=>pt (w.lk n).next)):FI P t i (fun _=>dG w) f K :=
 ⟨n+2,3,ga,4,eX (w.lk n),_,hf,rfl,by omega,rfl,ht,k⟩
theorem jh (es:List (Nat×Int×Nat)) (n:Int):aO (sk es) n=(aO es n).map fun k=>HV.hp (pt (some k)):=by
 induction es with
 | nil=>rfl
 | cons e r ih =>
  obtain⟨b,k,x⟩:=e
  simp only[sk,abH,aO]
  split
  ·rfl
  ·exact ih
theorem tU (es:List (Nat×Int×Nat)) (n:Int):b8 (sk es) n=sk (b8 es n):=by
 induction es with
 | nil=>rfl
 | cons e r ih =>
  obtain⟨b,k,x⟩:=e
  simp only[sk,abH,b8]
  split
  ·rfl
  ·rw[abH];congr 1
theorem tV (es:List (Nat×Int×Nat)) (c:Nat) (n:Int) (v:Nat):bY (sk es) c n (.hp (pt (some v)))=sk (bY es c n v):=by
 induction es with
 | nil=>rfl
 | cons e r ih =>
  obtain⟨b,k,x⟩:=e
  simp only[sk,abH,bY]
  split
  ·rfl
  ·rw[abH];congr 1
theorem Kw (hz:iU P t=some (.pointer none)) {g:Unit→Nat} {n:Unit→Int} (hg:g ()=0)
  (k1:∀ k,aO w.at_ (n ())=some k→K (.bM [.hp i fun _=>pt (some k),.tt])) (k0:aO w.at_ (n ())=none→K (.bM [.bZ,.ff])):PR P t true i (fun _=>dG w) g n K :=
 ⟨sk w.at_,w.pg,_,by rw[hg];rfl,hz,fun v hv=>by
  rw[jh]at hv
  cases h:aO w.at_ (n ())with
  | none=>rw[h]at hv;cases hv
  | some k=>rw[h]at hv;cases hv;exact k1 k h,fun hv=>by
  rw[jh]at hv
  cases h:aO w.at_ (n ())with
  | none=>exact k0 h
  | some k=>rw[h]at hv;cases hv⟩
end
theorem aN {o o':HO} (h:o=o'):o.eb o':=by subst h;exact HO.aJ _
theorem fK {l l':Nat→HV} {T n} (h:∀ j,j<n→l j=l' j):(HO.cells T n l).eb (.cells T n l'):=⟨rfl,rfl,h⟩
section
variable {i:Nat} {w:Wl} {f:Unit→Option (Nat×Nat)} {v:AV} {K:Hp→Prop}
theorem CQ (s:Nat) (x:Option Nat) (hs:s<64) (hf:f ()=some (1,s*2)) (hv:fo i v (.hp (pt x))) (k:K (dG { w with first:=fJ w.first s x })):AT i v (fun _=>dG w) f K:=by
 refine⟨1,s*2,mw,130,dR w,.hp (pt x),dG { w with first:=fJ w.first s x },hf,rfl,by omega,hv,⟨rfl,fun j hj=>?_⟩,k⟩
 match j with
 | 0=>exact aN rfl
 | 1 =>
  refine fK fun j hj=>?_
  by_cases h:j=s*2
  ·subst h;rw[if_pos rfl];unfold dR;rw[if_pos (by omega),if_pos (by omega)]
   show HV.hp (pt (fJ w.first s x _))=_
   rw[show s*2 / 2=s by omega,bD]
  ·rw[if_neg h];unfold dR
   by_cases h1:j<128
   ·rw[if_pos h1,if_pos h1]
    by_cases h2:j % 2=0
    ·rw[if_pos h2,if_pos h2]
     show HV.hp (pt (fJ w.first s x _))=_
     rw[aX _ _ _ (by omega)]
    ·rw[if_neg h2,if_neg h2]
   ·rw[if_neg h1,if_neg h1]
 | k+2=>exact aN rfl
theorem Hj (s:Nat) (x:Option Nat) (hs:s<64) (hf:f ()=some (1,s*2+1)) (hv:fo i v (.hp (pt x))) (k:K (dG { w with last:=fJ w.last s x })):AT i v (fun _=>dG w) f K:=by
 refine⟨1,s*2+1,mw,130,dR w,.hp (pt x),dG { w with last:=fJ w.last s x },hf,rfl,by omega,hv,⟨rfl,fun j hj=>?_⟩,k⟩
 match j with
 | 0=>exact aN rfl
 | 1 =>
  refine fK fun j hj=>?_
  by_cases h:j=s*2+1
  ·subst h;rw[if_pos rfl];unfold dR;rw[if_pos (by omega),if_neg (by omega)]
   show HV.hp (pt (fJ w.last s x _))=_
   rw[show(s*2+1) / 2=s by omega,bD]
  ·rw[if_neg h];unfold dR
   by_cases h1:j<128
   ·rw[if_pos h1,if_pos h1]
    by_cases h2:j % 2=0
    ·rw[if_pos h2,if_pos h2]
    ·rw[if_neg h2,if_neg h2]
     show HV.hp (pt (fJ w.last s x _))=_
     rw[aX _ _ _ (by omega)]
   ·rw[if_neg h1,if_neg h1]
 | k+2=>exact aN rfl
theorem Hk (x:Int) (hf:f ()=some (1,129)) (hv:fo i v (.iq (.list (.int .u64)) [x])) (k:K (dG { w with mask:=x })):AT i v (fun _=>dG w) f K:=by
 refine⟨1,129,mw,130,dR w,.iq (.list (.int .u64)) [x],dG { w with mask:=x },hf,rfl,by omega,hv,⟨rfl,fun j hj=>?_⟩,k⟩
 match j with
 | 0=>exact aN rfl
 | 1 =>
  refine fK fun j hj=>?_
  by_cases h:j=129
  ·subst h;rfl
  ·rw[if_neg h];unfold dR
   by_cases h1:j<128
   ·rw[if_pos h1,if_pos h1]
   ·rw[if_neg h1,if_neg h1,if_pos (by omega),if_pos (by omega)]
 | k+2=>exact aN rfl
theorem Og (n:Nat) (x:Option Nat) (hf:f ()=some (n+2,2)) (hv:fo i v (.hp (pt x))) (k:K (dG { w with lk:=fJ w.lk n { w.lk n with prev:=x } })):AT i v (fun _=>dG w) f K:=by
 refine⟨n+2,2,ga,4,eX (w.lk n),.hp (pt x),dG { w with lk:=fJ w.lk n { w.lk n with prev:=x } },hf,rfl,by omega,hv,⟨rfl,fun j hj=>?_⟩,k⟩
 match j with
 | 0=>exact aN rfl
 | 1=>exact aN rfl
 | j+2 =>
  by_cases h:j=n
  ·subst h
   simp only[dG,Hp.set,xq,bD,if_true]
   refine fK fun q hq=>?_
   match q with
   | 0=>rfl
   | 1=>rfl
   | 2=>rfl
   | q+3=>rfl
  ·simp only[dG,Hp.set,xq]
   rw[if_neg (by omega),aX _ _ _ h]
   exact HO.aJ _
theorem Hl (n:Nat) (x:Option Nat) (hf:f ()=some (n+2,3)) (hv:fo i v (.hp (pt x))) (k:K (dG { w with lk:=fJ w.lk n { w.lk n with next:=x } })):AT i v (fun _=>dG w) f K:=by
 refine⟨n+2,3,ga,4,eX (w.lk n),.hp (pt x),dG { w with lk:=fJ w.lk n { w.lk n with next:=x } },hf,rfl,by omega,hv,⟨rfl,fun j hj=>?_⟩,k⟩
 match j with
 | 0=>exact aN rfl
 | 1=>exact aN rfl
 | j+2 =>
  by_cases h:j=n
  ·subst h
   simp only[dG,Hp.set,xq,bD,if_true]
   refine fK fun q hq=>?_
   match q,hq with
   | 0,_=>rfl
   | 1,_=>rfl
   | 2,_=>rfl
   | 3,_=>rfl
  ·simp only[dG,Hp.set,xq]
   rw[if_neg (by omega),aX _ _ _ h]
   exact HO.aJ _
theorem Oh {P:Program} {t:Nat} (hz:iU P t=some (.pointer none)) {g:Unit→Nat} {n:Unit→Int} (hg:g ()=0) (k:K (dG { w with at_:=b8 w.at_ (n ()) })):Nj P t n (fun _=>dG w) g K:=by
 refine⟨sk w.at_,w.pg,_,dG { w with at_:=b8 w.at_ (n ()) },by rw[hg];rfl,hz,⟨rfl,fun j hj=>?_⟩,k⟩
 rw[hg]
 match j with
 | 0=>simp only[dG,Hp.set,xq,if_true,tU];exact HO.aJ _
 | 1=>exact aN rfl
 | j+2=>exact aN rfl
theorem Oi {P:Program} {t:Nat} (hz:iU P t=some (.pointer none)) {g:Unit→Nat} {n:Unit→Int} (x:Nat) (hg:g ()=0) (hv:fo i v (.hp (pt (some x)))) (cu:aO w.at_ (n ())=none) (k:K (dG { w with at_:=bY w.at_ w.pg (n ()) x,pg:=w.pg+1 })):Ni P t i n v (fun _=>dG w) g K:=by
 refine⟨sk w.at_,w.pg,_,.hp (pt (some x)),dG { w with at_:=bY w.at_ w.pg (n ()) x,pg:=w.pg+1 },by rw[hg];rfl,hz,hv,⟨rfl,fun j hj=>?_⟩,k⟩
 rw[hg]
 match j with
 | 0 =>
  simp only[dG,Hp.set,xq,if_true,vc,tV,jh,cu]
  exact HO.aJ _
 | 1=>exact aN rfl
 | j+2=>exact aN rfl
end
def aS {α:Type} (es:List (Nat×Int×α)):List Int:=es.map (·.2.1)
theorem EK {α:Type} {es:List (Nat×Int×α)} {n:Int}:aO es n=none↔n∉aS es:=by
 induction es with
 | nil=>simp[aO,aS]
 | cons e r ih =>
  obtain⟨b,k,x⟩:=e
  simp only[aO,aS,abH,abE,not_or]
  split
  ·rename_i h;subst h;simp
  ·rename_i h;rw[ih];simp only[aS];constructor
   ·intro h';exact⟨fun e=>h e.symm,h'⟩
   ·intro h';exact h'.2
theorem dt {α:Type} (es:List (Nat×Int×α)) (c:Nat) (n m:Int) (v:α):aO (bY es c n v) m=if m=n then some v else aO es m:=by
 induction es with
 | nil=>simp[bY,aO,eq_comm]
 | cons e r ih =>
  obtain⟨b,k,x⟩:=e
  simp only[bY]
  by_cases hk:k=n
  ·subst hk;rw[if_pos rfl];simp only[aO]
   by_cases hm:m=k
   ·subst hm;simp
   ·rw[if_neg (fun e=>hm e.symm),if_neg hm,if_neg (fun e=>hm e.symm)]
  ·rw[if_neg hk];simp only[aO,ih]
   by_cases hm:m=n
   ·subst hm;rw[if_neg hk,if_pos rfl,if_pos rfl]
   ·rw[if_neg hm,if_neg hm]
theorem zb {α:Type} (es:List (Nat×Int×α)) (c:Nat) (n:Int) (v:α):aS (bY es c n v)=if n∈aS es then aS es else aS es++[n]:=by
 induction es with
 | nil=>simp[bY,aS]
 | cons e r ih =>
  obtain⟨b,k,x⟩:=e
  simp only[bY]
  by_cases hk:k=n
  ·subst hk;simp[aS]
  ·rw[if_neg hk]
   have e1:∀ l:List (Nat×Int×α),aS ((b,k,x)::l)=k::aS l:=fun _=>rfl
   rw[e1,e1,ih]
   by_cases hm:n∈aS r
   ·rw[if_pos hm,if_pos (abn _ hm)]
   ·rw[if_neg hm,if_neg (fun h=>by rcases abE.1 h with h|h;exact hk h.symm;exact hm h)];rfl
theorem cU {α:Type} {es:List (Nat×Int×α)} (h:(aS es).Nodup) (c:Nat) (n:Int) (v:α):(aS (bY es c n v)).Nodup:=by
 rw[zb]
 split
 ·exact h
 ·rename_i hn
  rw[ac6]
  exact⟨h,by simp,fun a ha b hb=>by simp at hb;subst hb;intro e;subst e;exact hn ha⟩
theorem zd {α:Type} (es:List (Nat×Int×α)) (n:Int):aS (b8 es n)=(aS es).erase n:=by
 induction es with
 | nil=>rfl
 | cons e r ih =>
  obtain⟨b,k,x⟩:=e
  simp only[b8]
  by_cases hk:k=n
  ·subst hk;simp[aS]
  ·rw[if_neg hk]
   simp only[aS,abH]at ih ⊢
   rw[ih,List.erase_cons_tail (by simpa using hk)]
theorem cV {α:Type} {es:List (Nat×Int×α)} (h:(aS es).Nodup) (n:Int):(aS (b8 es n)).Nodup:=by
 rw[zd];exact h.erase n
theorem eA {α:Type} {es:List (Nat×Int×α)} (h:(aS es).Nodup) (n m:Int):aO (b8 es n) m=if m=n then none else aO es m:=by
 induction es with
 | nil=>simp[b8,aO]
 | cons e r ih =>
  obtain⟨b,k,x⟩:=e
  simp only[aS,abH,aci]at h
  simp only[b8]
  by_cases hk:k=n
  ·subst hk
   rw[if_pos rfl]
   by_cases hm:m=k
   ·subst hm;rw[if_pos rfl];exact EK.2 h.1
   ·rw[if_neg hm];simp only[aO];rw[if_neg (fun e=>hm e.symm)]
  ·rw[if_neg hk];simp only[aO,ih h.2]
   by_cases hm:m=n
   ·subst hm;rw[if_neg hk,if_pos rfl,if_pos rfl]
   ·rw[if_neg hm,if_neg hm]
structure Oj (w:Wl) (rows:Nat→List Nat):Prop where
 fst:∀ s,s<64→w.first s=(rows s).head?
 aG:∀ s,s<64→w.last s=(rows s).getLast?
 lk:∀ s i k,s<64→(rows s)[i]?=some k→(w.lk k).slot=s∧(w.lk k).prev=(if i=0 then none else(rows s)[i - 1]?)∧(w.lk k).next=(rows s)[i+1]?∧k<w.n
 nd:∀ s,s<64→(rows s).Nodup
theorem ig {L:List Nat} (h:L.Nodup) {a b x:Nat} (ha:L[a]?=some x) (hb:L[b]?=some x):a=b:=by
 have h1:=(abk.1 ha)
 have h2:=(abk.1 hb)
 exact(List.getElem_inj h).1 (h1.2.trans h2.2.symm)
def cF (w:Wl) (s k:Nat):Wl:=match(w.lk k).prev with
 | none=>{ w with first:=fJ w.first s (w.lk k).next }|some p=>{ w with lk:=fJ w.lk p { w.lk p with next:=(w.lk k).next } }
def dL (w:Wl) (s k:Nat):Wl:=match(w.lk k).next with
 | none=>{ w with last:=fJ w.last s (w.lk k).prev }|some q=>{ w with lk:=fJ w.lk q { w.lk q with prev:=(w.lk k).prev } }
theorem pS (w:Wl) (s k:Nat):(dL (cF w s k) s k).n=w.n∧(dL (cF w s k) s k).at_=w.at_∧(dL (cF w s k) s k).pg=w.pg∧(dL (cF w s k) s k).mask=w.mask:=by
 unfold dL;split <;> (unfold cF;split <;> exact⟨rfl,rfl,rfl,rfl⟩)
theorem xr (w:Wl) (s k x:Nat):((cF w s k).lk x).id=(w.lk x).id∧((cF w s k).lk x).slot=(w.lk x).slot∧((cF w s k).lk x).prev=(w.lk x).prev∧((cF w s k).lk x).next=if(w.lk k).prev=some x then(w.lk k).next else(w.lk x).next:=by
 unfold cF
 split
 ·rename_i h;rw[h];simp
 ·rename_i p h
  rw[h]
  show(fJ w.lk p _ x).id=_∧(fJ w.lk p _ x).slot=_∧(fJ w.lk p _ x).prev=_∧(fJ w.lk p _ x).next=_
  by_cases hx:x=p
  ·subst hx;rw[bD,if_pos rfl];exact⟨rfl,rfl,rfl,rfl⟩
  ·rw[aX _ _ _ hx,if_neg (fun e=>hx (by cases e;rfl))]
   exact⟨rfl,rfl,rfl,rfl⟩
theorem Bn (w:Wl) (s k x:Nat):((dL (cF w s k) s k).lk x).id=(w.lk x).id∧((dL (cF w s k) s k).lk x).slot=(w.lk x).slot∧((dL (cF w s k) s k).lk x).prev=(if(w.lk k).next=some x then(w.lk k).prev else(w.lk x).prev) ∧
  ((dL (cF w s k) s k).lk x).next=if(w.lk k).prev=some x then(w.lk k).next else(w.lk x).next:=by
 obtain⟨k1,k2,k3,k4⟩:=xr w s k k
 obtain⟨x1,x2,x3,x4⟩:=xr w s k x
 have Vw:((cF w s k).lk k).next=(w.lk k).next:=by rw[k4];split <;> rfl
 unfold dL
 rw[Vw,k3]
 cases hn:(w.lk k).next with
 | none =>
  rw[if_neg (by simp)]
  rw[hn]at x4
  exact⟨x1,x2,x3,x4⟩
 | some q =>
  show(fJ (cF w s k).lk q _ x).id=_∧(fJ (cF w s k).lk q _ x).slot=_∧(fJ (cF w s k).lk q _ x).prev=_∧(fJ (cF w s k).lk q _ x).next=_
  by_cases hx:x=q
  ·subst hx
   rw[hn]at x4
   rw[bD,if_pos rfl]
   exact⟨x1,x2,rfl,x4⟩
  ·rw[hn]at x4
   rw[aX _ _ _ hx,if_neg (fun e=>hx (by cases e;rfl))]
   exact⟨x1,x2,x3,x4⟩
theorem EL (w:Wl) (s k t:Nat):(dL (cF w s k) s k).first t=if t=s∧(w.lk k).prev=none then(w.lk k).next else w.first t:=by
 have e:(dL (cF w s k) s k).first t=(cF w s k).first t:=by unfold dL;split <;> rfl
 rw[e];unfold cF
 split
 ·rename_i h;simp only[h,and_true];unfold fJ;rfl
 ·rename_i p h;rw[if_neg (by rw[h];simp)]
theorem Hm (w:Wl) (s k t:Nat):(dL (cF w s k) s k).last t=if t=s∧(w.lk k).next=none then(w.lk k).prev else w.last t:=by
 obtain⟨k1,k2,k3,k4⟩:=xr w s k k
 have Vw:((cF w s k).lk k).next=(w.lk k).next:=by rw[k4];split <;> rfl
 have e:(cF w s k).last=w.last:=by unfold cF;split <;> rfl
 unfold dL
 rw[Vw,k3]
 split
 ·rename_i h;simp only[h,and_true,e];unfold fJ;rfl
 ·rename_i p h;rw[if_neg (by rw[h];simp)];simp only[e]
theorem bV (L:List Nat) (i j:Nat):(L.eraseIdx i)[j]?=if j<i then L[j]? else L[j+1]?:=by rw[List.getElem?_eraseIdx]
theorem tW (L:List Nat):L.head?=L[0]?:=by cases L <;> rfl
theorem pT (L:List Nat):L.getLast?=if L.length=0 then none else L[L.length - 1]?:=by
 rw[aei]
 split
 ·rename_i h;rw[h];have:=ab9.1 h;subst this;rfl
 ·rfl
theorem Oj.Zu {w:Wl} {rows:Nat→List Nat} (h:Oj w rows) {s i k:Nat} (hs:s<64) (hi:(rows s)[i]?=some k):Oj (dL (cF w s k) s k) (fJ rows s ((rows s).eraseIdx i)):=by
 obtain⟨a1,a2,a3,a4⟩:=h.lk s i k hs hi
 have dp:=(abk.1 hi).1
 have eZ:=h.nd s hs
 have Ol:(w.lk k).prev=none↔i=0:=by
  rw[a2]
  constructor
  ·intro e;split at e
   ·assumption
   ·have:=adt.1 e;omega
  ·intro e;rw[if_pos e]
 have sj:(w.lk k).next=none↔i+1=(rows s).length:=by
  rw[a3]
  constructor
  ·intro e;have:=adt.1 e;omega
  ·intro e;exact abS (by omega)
 refine⟨fun t ht=>?_,fun t ht=>?_,fun t j x ht hj=>?_,fun t ht=>?_⟩
 ·rw[EL]
  by_cases gU:t=s
  ·subst gU
   rw[bD,tW,bV]
   by_cases h0:i=0
   ·rw[if_pos ⟨rfl,Ol.2 h0⟩,a3,h0];simp
   ·rw[if_neg (fun e=>h0 (Ol.1 e.2)),if_pos (by omega),h.fst t ht,tW]
  ·rw[aX _ _ _ gU,if_neg (fun e=>gU e.1)];exact h.fst t ht
 ·rw[Hm]
  by_cases gU:t=s
  ·subst gU
   rw[bD,pT,List.length_eraseIdx,if_pos dp]
   by_cases h0:i+1=(rows t).length
   ·rw[if_pos ⟨rfl,sj.2 h0⟩,a2]
    by_cases ze:i=0
    ·rw[if_pos ze,if_pos (by omega)]
    ·rw[if_neg ze,if_neg (by omega),bV,if_pos (by omega)]
     congr 1;omega
   ·rw[if_neg (fun e=>h0 (sj.1 e.2)),if_neg (by omega),h.aG t ht,pT,if_neg (by omega),bV,if_neg (by omega)]
    congr 1;omega
  ·rw[aX _ _ _ gU,if_neg (fun e=>gU e.1)];exact h.aG t ht
 ·obtain⟨u1,u2,u3,u4⟩:=Bn w s k x
  rw[u2,u3,u4,(pS w s k).1]
  by_cases gU:t=s
  ·subst gU
   rw[bD]at hj ⊢
   rw[bV]at hj
   have Mq:(w.lk k).prev=some x↔j+1=i:=by
    rw[a2]
    constructor
    ·intro e
     split at e
     ·cases e
     ·split at hj
      ·have:=ig eZ e hj;omega
      ·have:=ig eZ e hj;omega
    ·intro e
     rw[if_neg (by omega)];rw[if_pos (by omega)]at hj
     rw[←hj];congr 1;omega
   have kl:(w.lk k).next=some x↔j=i:=by
    rw[a3]
    constructor
    ·intro e
     split at hj
     ·have:=ig eZ e hj;omega
     ·have:=ig eZ e hj;omega
    ·intro e
     subst e;rw[if_neg (by omega)]at hj;exact hj
   have hold:(w.lk x).slot=t∧(w.lk x).prev=(if(if j<i then j else j+1)=0 then none else(rows t)[(if j<i then j else j+1) - 1]?)∧(w.lk x).next=(rows t)[(if j<i then j else j+1)+1]?∧x<w.n:=by
    refine h.lk t _ x hs ?_
    rw[←hj];split <;> rfl
   refine⟨hold.1,?_,?_,hold.2.2.2⟩
   ·by_cases j8:j=i
    ·rw[if_pos (kl.2 j8),a2]
     subst j8
     by_cases h0:j=0
     ·rw[if_pos h0,if_pos h0]
     ·rw[if_neg h0,if_neg h0,bV,if_pos (by omega)]
    ·rw[if_neg (fun e=>j8 (kl.1 e)),hold.2.1]
     by_cases bm:j<i
     ·rw[if_pos bm]
      by_cases h0:j=0
      ·rw[if_pos h0,if_pos h0]
      ·rw[if_neg h0,if_neg h0,bV,if_pos (by omega)]
     ·rw[if_neg bm,if_neg (by omega),if_neg (by omega),bV,if_neg (by omega)]
      congr 1;omega
   ·by_cases j8:j+1=i
    ·rw[if_pos (Mq.2 j8),a3,bV,if_neg (by omega)]
     congr 1;omega
    ·rw[if_neg (fun e=>j8 (Mq.1 e)),hold.2.2.1,bV]
     by_cases bm:j<i
     ·rw[if_pos bm,if_pos (by omega)]
     ·rw[if_neg bm,if_neg (by omega)]
  ·rw[aX _ _ _ gU]at hj ⊢
   obtain⟨b1,b2,b3,b4⟩:=h.lk t j x ht hj
   have bE:∀ y:Nat,(∃ j':Nat,(rows s)[j']?=some y)→y≠x:=by
    rintro y ⟨j',lM⟩ e
    subst e
    have:=(h.lk s j' y hs lM).1
    rw[b1]at this;omega
   refine⟨b1,?_,?_,b4⟩
   ·rw[if_neg (fun e=>bE x ⟨i+1,by rw[←a3];exact e⟩ rfl)];exact b2
   ·rw[if_neg (fun e=>by
     rw[a2]at e
     split at e
     ·cases e
     ·exact bE x ⟨_,e⟩ rfl)];exact b3
 ·by_cases gU:t=s
  ·subst gU;rw[bD];exact eZ.sublist (List.eraseIdx_sublist _ _)
  ·rw[aX _ _ _ gU];exact h.nd t ht
def kX (w:Wl) (s:Nat) (id:Int):Wl:={ w with n:=w.n+1,lk:=fJ w.lk w.n ⟨id,s,w.last s,none⟩ }
def sl (w:Wl) (s:Nat) (k:Nat):Wl:=match w.last s with
 | none=>{ w with first:=fJ w.first s (some k) }|some p=>{ w with lk:=fJ w.lk p { w.lk p with next:=some k } }
def app (w:Wl) (s:Nat) (id:Int):Wl:={ sl (kX w s id) s w.n with last:=fJ (sl (kX w s id) s w.n).last s (some w.n) }
theorem my (w:Wl) (s:Nat) (id:Int):(app w s id).n=w.n+1∧(app w s id).at_=w.at_∧(app w s id).pg=w.pg∧(app w s id).mask=w.mask∧(app w s id).last=fJ w.last s (some w.n):=by
 unfold app sl;split <;> exact⟨rfl,rfl,rfl,rfl,rfl⟩
theorem EM (w:Wl) (s t:Nat) (id:Int):(app w s id).first t=if t=s∧w.last s=none then some w.n else w.first t:=by
 show(sl (kX w s id) s w.n).first t=_
 unfold sl
 have e:(kX w s id).last s=w.last s:=rfl
 rw[e]
 split
 ·rename_i h;simp only[h,and_true];unfold fJ;rfl
 ·rename_i p h;rw[if_neg (by rw[h];simp)];rfl
theorem Bo (w:Wl) (s:Nat) (id:Int) (x:Nat) (hp:∀ p,w.last s=some p→p≠w.n):(app w s id).lk x=if x=w.n then⟨id,s,w.last s,none⟩else if w.last s=some x then { w.lk x with next:=some w.n } else w.lk x:=by
 show(sl (kX w s id) s w.n).lk x=_
 unfold sl
 have e:(kX w s id).last s=w.last s:=rfl
 rw[e]
 split
 ·rename_i h;rw[if_neg (by rw[h];simp) (c:=w.last s=some x)];show fJ _ _ _ x=_;unfold fJ;rfl
 ·rename_i p h
  have Ol:=hp p h
  show fJ (kX w s id).lk p _ x=_
  by_cases hx:x=p
  ·subst hx
   rw[bD,if_neg Ol,if_pos h]
   show({ (fJ w.lk w.n _) x with next:=_ }:Lk)=_
   rw[aX _ _ _ Ol]
  ·rw[aX _ _ _ hx]
   show fJ _ _ _ x=_
   unfold fJ
   split
   ·rfl
   ·rw[if_neg (fun e=>hx (by rw[h]at e;cases e;rfl))]
theorem Oj.app {w:Wl} {rows:Nat→List Nat} (h:Oj w rows) {s:Nat} (hs:s<64) (id:Int):Oj (app w s id) (fJ rows s (rows s++[w.n])):=by
 have bm:∀ t x,t<64→x∈rows t→x<w.n:=fun t x ht hx=>by
  obtain⟨j,hj⟩:=abu.1 hx
  exact(h.lk t j x ht hj).2.2.2
 have hp:∀ p,w.last s=some p→p≠w.n:=fun p hp=>by
  rw[h.aG s hs]at hp
  have:=bm s p hs (aea hp)
  omega
 refine⟨fun t ht=>?_,fun t ht=>?_,fun t j x ht hj=>?_,fun t ht=>?_⟩
 ·rw[EM]
  by_cases gU:t=s
  ·subst gU
   rw[bD,h.aG t ht]
   cases hr:rows t with
   | nil=>simp
   | cons a r=>rw[if_neg (by simp),h.fst t ht,hr];rfl
  ·rw[aX _ _ _ gU,if_neg (fun e=>gU e.1)];exact h.fst t ht
 ·rw[(my w s id).2.2.2.2]
  by_cases gU:t=s
  ·subst gU;rw[bD,bD];simp
  ·rw[aX _ _ _ gU,aX _ _ _ gU];exact h.aG t ht
 ·rw[(my w s id).1,Bo w s id x hp]
  by_cases gU:t=s
  ·subst gU
   rw[bD]at hj ⊢
   rw[abT]at hj
   split at hj
   ·rename_i rN
    obtain⟨b1,b2,b3,b4⟩:=h.lk t j x ht hj
    rw[if_neg (by omega)]
    have ji:w.last t=some x↔j+1=(rows t).length:=by
     rw[h.aG t ht,pT,if_neg (by omega)]
     constructor
     ·intro e;have:=ig (h.nd t ht) e hj;omega
     ·intro e;rw[←hj];congr 1;omega
    have XE:(if j=0 then none else(rows t)[j - 1]?)=(if j=0 then none else(rows t++[w.n])[j - 1]?):=by
     split
     ·rfl
     ·rw[abT,if_pos (by omega)]
    by_cases hl:j+1=(rows t).length
    ·rw[if_pos (ji.2 hl)]
     refine⟨b1,by rw[←XE];exact b2,?_,by omega⟩
     rw[abT,if_neg (by omega),hl];simp
    ·rw[if_neg (fun e=>hl (ji.1 e))]
     refine⟨b1,by rw[←XE];exact b2,?_,by omega⟩
     rw[abT,if_pos (by omega)];exact b3
   ·rename_i rN
    have RB:j=(rows t).length:=by
     have:=(abk.1 hj).1;simp at this;omega
    subst RB
    simp at hj
    subst hj
    rw[if_pos rfl]
    refine⟨rfl,?_,?_,by omega⟩
    ·show w.last t=_
     rw[h.aG t ht,pT]
     split
     ·rfl
     ·rw[abT,if_pos (by omega)]
    ·exact(abS (by simp)).symm
  ·rw[aX _ _ _ gU]at hj ⊢
   obtain⟨b1,b2,b3,b4⟩:=h.lk t j x ht hj
   rw[if_neg (by omega),if_neg (fun e=>by
    rw[h.aG s hs]at e
    obtain⟨j',lM⟩:=abu.1 (aea e)
    have:=(h.lk s j' x hs lM).1
    rw[b1]at this;omega)]
   exact⟨b1,b2,b3,by omega⟩
 ·by_cases gU:t=s
  ·subst gU
   rw[bD,ac6]
   exact⟨h.nd t ht,by simp,fun a ha b hb=>by simp at hb;subst hb;have:=bm t a ht ha;omega⟩
  ·rw[aX _ _ _ gU];exact h.nd t ht
end Go.Proofs.YthnefnlhcijekaaGreat.Wh
namespace Go.Proofs.YthnefnlhcijekaaGreat.Bt
open Go Go.RowKit Fw
def numOf:List Int→Nat
 | []=>0
 | x::r=>x.toNat+18446744073709551616*numOf r
def ay (k N:Nat):List Int:=(List.range k).map fun i=>((N / 2 ^ (64*i) % 2 ^ 64:Nat):Int)
def Wd (w:List Int):Prop:=∀ x∈w,0≤x∧x<18446744073709551616
theorem bw (k N:Nat):(ay k N).length=k:=by simp[ay]
theorem jj {k N i:Nat} (h:i<k):(ay k N).getD i 0=((N / 2 ^ (64*i) % 2 ^ 64:Nat):Int):=by
 simp[ay,abi,h]
theorem Hn (k N:Nat):Wd (ay k N):=fun x hx=>by
 simp only[ay,abR]at hx
 obtain⟨i,_,rfl⟩:=hx
 have:=acM (N / 2 ^ (64*i)) (show 2 ^ 64>0 by decide)
 omega
theorem xt:∀ {w:List Int},Wd w→∀ i,i<w.length→w.getD i 0=((numOf w / 2 ^ (64*i) % 2 ^ 64:Nat):Int)
 | [],_,i,h=>by simp at h
 | x::r,hw,i,h=>by
  have h1:=hw x (abq ..)
  cases i with
  | zero =>
   show x=_
   rw[numOf,Nat.mul_zero,Nat.pow_zero,Nat.div_one,show(2:Nat) ^ 64=18446744073709551616 from rfl,Nat.add_mul_mod_self_left]
   omega
  | succ i =>
   have ih:=xt (w:=r) (fun y hy=>hw y (abn _ hy)) i (by simpa using h)
   have e:numOf (x::r) / 2 ^ (64*(i+1))=numOf r / 2 ^ (64*i):=by
    rw[show 2 ^ (64*(i+1))=18446744073709551616*2 ^ (64*i) by rw[Nat.mul_add,adP,aen],←ad3,numOf]
    congr 1
    omega
   rw[e,←ih];rfl
theorem pU {l m:List Int} (h:l.length=m.length) (h2:∀ i,i<l.length→l.getD i 0=m.getD i 0):l=m:=by
 apply aez h
 intro i h3 h4
 have:=h2 i h3
 rwa [abi,abi,abj h3,abj h4]at this
theorem vT:∀ {k N:Nat},N<2 ^ (64*k)→numOf (ay k N)=N
 | 0,N,h=>by simp at h;subst h;rfl
 | k+1,N,h=>by
  have e:ay (k+1) N=((N % 2 ^ 64:Nat):Int)::ay k (N / 2 ^ 64):=by
   unfold ay
   rw[List.range_succ_eq_map,abH,List.map_map]
   congr 1
   ·simp
   ·refine acE fun i _=>?_
    show((N / 2 ^ (64*(i+1)) % 2 ^ 64:Nat):Int)=_
    rw[Nat.mul_add,aew,Nat.add_comm,adP,ad3]
  have h2:N / 2 ^ 64<2 ^ (64*k):=by
   rw[ad6 (by decide),←adP]
   rwa [Nat.mul_add]at h
  rw[e,numOf,vT h2]
  have:=Nat.div_add_mod N 18446744073709551616
  show(((N % 18446744073709551616:Nat):Int)).toNat+18446744073709551616*(N / 18446744073709551616)=N
  omega
def FR (N at_ wd:Nat):Nat:=N / 2 ^ at_ % 2 ^ wd
theorem xu (N a b i:Nat):(FR N a b).testBit i=(decide (i<b) && N.testBit (a+i)):=by
 unfold FR;rw[acC,acJ,Nat.add_comm]
theorem gd (N i j:Nat):(N / 2 ^ (64*i) % 2 ^ 64).testBit j=(decide (j<64) && N.testBit (64*i+j)):=xu N (64*i) 64 j
theorem EN (N i low wd:Nat) (hl:low<64) (hw:wd≤64) :
  ((N / 2 ^ (64*i) % 2 ^ 64) / 2 ^ low ||| (N / 2 ^ (64*(i+1)) % 2 ^ 64)*2 ^ (64 - low) % 2 ^ 64) &&& (2 ^ wd - 1)=FR N (64*i+low) wd:=by
 apply acN
 intro j
 rw[Nat.testBit_and,adE,ac2,acJ,gd,acC,acK,gd,xu]
 by_cases h1:j<wd
 ·by_cases h2:j+low<64
  ·have e1:64*i+(j+low)=64*i+low+j:=by omega
   have e2:¬64≤j+low:=by omega
   simp[h1,h2,e1,e2]
  ·have e1:64*(i+1)+(j - (64 - low))=64*i+low+j:=by omega
   have e2:64≤j+low:=by omega
   have e3:j - (64 - low)<64:=by omega
   have e4:j<64:=by omega
   simp[h1,h2,e1,e2,e3,e4]
 ·simp[h1]
theorem Ho (N i low wd:Nat) (hl:low+wd≤64):((N / 2 ^ (64*i) % 2 ^ 64) / 2 ^ low) &&& (2 ^ wd - 1)=FR N (64*i+low) wd:=by
 apply acN
 intro j
 rw[Nat.testBit_and,adE,acJ,gd,xu]
 by_cases h1:j<wd
 ·have e1:64*i+(j+low)=64*i+low+j:=by omega
  have h2:j+low<64:=by omega
  simp[h1,h2,e1]
 ·simp[h1]
def vn (a b:Nat):Nat:=(BitVec.ofNat 64 a &&& ~~~BitVec.ofNat 64 b).toNat
theorem mz (a b i:Nat):(vn a b).testBit i=(decide (i<64) && a.testBit i && !b.testBit i):=by
 unfold vn
 rw[BitVec.testBit_toNat,BitVec.getLsbD_and,BitVec.getLsbD_not,BitVec.getLsbD_ofNat,BitVec.getLsbD_ofNat]
 by_cases h:i<64 <;> simp[h]
theorem Bp {N n a:Nat} (h:N<2 ^ a):N+n*2 ^ a=N ||| n*2 ^ a:=by
 rw[Nat.add_comm,Nat.or_comm,aen]
 exact Nat.two_pow_add_eq_or_of_lt h n
theorem pV {N a i:Nat} (h:N<2 ^ a) (hi:a≤i):N.testBit i=false:=Nat.testBit_lt_two_pow (abB h (adk (by decide) hi))
theorem Ky {N i low n wd:Nat} (h:N<2 ^ (64*i+low)) (hn:n<2 ^ wd) (hl:low<64) (hw:wd≤64) :
  vn (N / 2 ^ (64*i) % 2 ^ 64) ((2 ^ wd - 1)*2 ^ low % 2 ^ 64) ||| n*2 ^ low % 2 ^ 64=(N+n*2 ^ (64*i+low)) / 2 ^ (64*i) % 2 ^ 64:=by
 apply acN
 intro j
 rw[ac2,mz,gd,acC,acK,adE,acC,acK,gd,Bp h,ac2,acK]
 by_cases h1:j<64
 ·by_cases h2:low≤j
  ·have e1:N.testBit (64*i+j)=false:=pV h (by omega)
   have e2:64*i+j - (64*i+low)=j - low:=by omega
   simp[h1,h2,e1,e2]
  ·have e3:¬(64*i+low≤64*i+j):=by omega
   simp[h1,h2]
 ·simp[h1]
theorem Hq {N i low n wd:Nat} (h:N<2 ^ (64*i+low)) (hn:n<2 ^ wd) (hl:low<64) (hw:wd≤64) :
  vn (N / 2 ^ (64*(i+1)) % 2 ^ 64) ((2 ^ wd - 1) / 2 ^ (64 - low)) ||| n / 2 ^ (64 - low)=(N+n*2 ^ (64*i+low)) / 2 ^ (64*(i+1)) % 2 ^ 64:=by
 apply acN
 intro j
 rw[ac2,mz,gd,acJ,acJ,gd,Bp h,ac2,acK]
 have e1:N.testBit (64*(i+1)+j)=false:=pV h (by omega)
 have e2:64*(i+1)+j - (64*i+low)=j+(64 - low):=by omega
 have e3:64*i+low≤64*(i+1)+j:=by omega
 by_cases h1:j<64
 ·simp[h1,e1,e2,e3]
 ·have e4:n.testBit (j+(64 - low))=false:=pV hn (by omega)
  simp[h1,e4]
theorem vU {N i low n wd j:Nat} (h:N<2 ^ (64*i+low)) (hn:n<2 ^ wd) (hl:low<64) (hj:j≠i) (lS:j≠i+1∨low+wd≤64) (hw:wd≤64) :
  (N+n*2 ^ (64*i+low)) / 2 ^ (64*j) % 2 ^ 64=N / 2 ^ (64*j) % 2 ^ 64:=by
 apply acN
 intro b
 rw[gd,gd,Bp h,ac2,acK]
 by_cases h1:b<64
 ·by_cases h2:64*i+low≤64*j+b
  ·have e4:n.testBit (64*j+b - (64*i+low))=false:=pV hn (by omega)
   simp[e4]
  ·simp[h2]
 ·simp[h1]
theorem pW {x:Nat} (h:x<2 ^ 64):IntKind.u64.wrap (x:Int)=(x:Int):=by
 simp[IntKind.wrap,IntKind.bits,IntKind.signed];omega
theorem tX (a b:Nat) (ha:a<2 ^ 64) (hb:b<2 ^ 64):IntKind.u64.wrap (BitVec.ofInt IntKind.u64.bits (a:Int) ||| BitVec.ofInt IntKind.u64.bits (b:Int)).toNat=((a ||| b:Nat):Int):=by
 have e:(BitVec.ofInt IntKind.u64.bits (a:Int) ||| BitVec.ofInt IntKind.u64.bits (b:Int)).toNat=a ||| b:=by
  show(BitVec.ofInt 64 (a:Int) ||| BitVec.ofInt 64 (b:Int)).toNat=a ||| b
  rw[acZ,acZ,BitVec.toNat_or,adF,adF,acs ha,acs hb]
 rw[e]
 have:a ||| b<2 ^ 64:=Nat.or_lt_two_pow ha hb
 simp[IntKind.wrap,IntKind.bits,IntKind.signed];omega
theorem nq (a b:Nat) (ha:a<2 ^ 64) (hb:b<2 ^ 64):IntKind.u64.wrap (BitVec.ofInt IntKind.u64.bits (a:Int) &&& BitVec.ofInt IntKind.u64.bits (b:Int)).toNat=((a &&& b:Nat):Int):=by
 have e:(BitVec.ofInt IntKind.u64.bits (a:Int) &&& BitVec.ofInt IntKind.u64.bits (b:Int)).toNat=a &&& b:=by
  show(BitVec.ofInt 64 (a:Int) &&& BitVec.ofInt 64 (b:Int)).toNat=a &&& b
  rw[acZ,acZ,BitVec.toNat_and,adF,adF,acs ha,acs hb]
 rw[e]
 have:a &&& b<2 ^ 64:=adX Nat.and_le_left ha
 simp[IntKind.wrap,IntKind.bits,IntKind.signed];omega
theorem mA (a b:Nat):IntKind.u64.wrap (BitVec.ofInt IntKind.u64.bits (a:Int) &&& ~~~ BitVec.ofInt IntKind.u64.bits (b:Int)).toNat=((vn a b:Nat):Int):=by
 have e:(BitVec.ofInt IntKind.u64.bits (a:Int) &&& ~~~ BitVec.ofInt IntKind.u64.bits (b:Int))=BitVec.ofNat 64 a &&& ~~~BitVec.ofNat 64 b:=by
  show(BitVec.ofInt 64 (a:Int) &&& ~~~ BitVec.ofInt 64 (b:Int))=_
  rw[acZ,acZ]
 have:(BitVec.ofNat 64 a &&& ~~~BitVec.ofNat 64 b).toNat<2 ^ 64:=BitVec.isLt _
 rw[e]
 exact pW this
theorem pX (a b:Nat) (h:b≤64):IntKind.u64.wrap ((a:Int)*2 ^ (min ((b:Int)).toNat IntKind.u64.bits))=((a*2 ^ b % 2 ^ 64:Nat):Int):=by
 have e:min ((b:Int)).toNat IntKind.u64.bits=b:=by rw[abm];exact acq h
 rw[e]
 simp[IntKind.wrap,IntKind.bits,IntKind.signed]
theorem xv (a b:Nat) (h:b≤64):((a:Int)).fdiv (2 ^ (min ((b:Int)).toNat IntKind.u64.bits))=((a / 2 ^ b:Nat):Int):=by
 have e:min ((b:Int)).toNat IntKind.u64.bits=b:=by rw[abm];exact acq h
 have h2:(2:Int) ^ b=((2 ^ b:Nat):Int):=by simp
 rw[e,h2,ac0 _ (aeq _)]
 exact(Int.natCast_ediv _ _).symm
end Go.Proofs.YthnefnlhcijekaaGreat.Bt
namespace Go.Proofs.YthnefnlhcijekaaGreat.Wh
open Go Go.RowKit Fw
theorem pY (a b:Nat):Bt.vn a b<2 ^ 64:=BitVec.isLt _
open Bt (vn mz tX nq mA pX xv pW)
theorem hm:Tryz.prog.follows .mixedOrders=true:=by kernel_rfl
theorem wr {x:Int} (h:-9223372036854775808≤x∧x≤9223372036854775807):IntKind.i64.wrap x=x:=by rw[IntKind.wrap_i64];omega
theorem mB {n:Nat} (h:n≤64):2 ^ n≤18446744073709551616:=adk (by decide) h
theorem zf (a b:Nat) (h:b≤64):IntKind.u64.wrap ((a:Int)*2 ^ (min b IntKind.u64.bits))=((a*2 ^ b % 2 ^ 64:Nat):Int):=pX a b h
theorem zg (a b:Nat) (h:b≤64):((a:Int)).fdiv (2 ^ (min b IntKind.u64.bits))=((a / 2 ^ b:Nat):Int):=xv a b h
theorem oa (n:Nat) (h:n≤64):aa Tryz.prog 215 [.int .i64 fun _=>(n:Int)] [] (Y:=Unit) (fun _=>True) (fun _=>.int .u64 fun _=>((2 ^ n - 1:Nat):Int)) (fun _=>[]):=by
 have hp:=mB h
 have h1:1≤2 ^ n:=acn
 (refine aa.q Tryz.func215 rfl fun S ao=>Wb _ ?_;(repeat' first|exact tv|apply pr|intro hh))
 ·(refine ae.w () [] _ ?_;(repeat' first|exact tv|apply pr))
  have e:n=64:=by omega
  subst e;rfl
 ·exact Ob.mk (by simp only[];omega)
 ·(refine ae.w () [] _ ?_;(repeat' first|exact tv|apply pr))
  have h2:2 ^ n*2≤18446744073709551616:=by rw[←adT];exact mB (by omega)
  have e:=pX 1 n h
  rw[adn,acs (by omega)]at e
  have e:IntKind.u64.wrap (1*2 ^ min ((n:Int)).toNat IntKind.u64.bits)=((2 ^ n:Nat):Int):=e
  rw[e]
  have e2:=pW (x:=2 ^ n - 1) (by omega)
  rw[←e2]
  congr 1
  omega
theorem xw (x:Int) (a:Nat) (h:a<64):aa Tryz.prog 250 [.aG (.int .u64) fun _=>[x],.int .i64 fun _=>(a:Int),.int .i64 fun _=>1] [] (Y:=Unit) (fun _=>True) (fun _=>.tt) (fun _=>[]):=by
 have e1:IntKind.i64.wrap (64*1)=64:=by decide
 have e2:IntKind.i64.wrap (64 - (a:Int))=64 - a:=wr (by omega)
 (refine aa.q Tryz.func250 rfl fun S ao=>Wb _ ?_;(repeat' first|exact tv|apply pr|intro hh))
 all_goals (try simp only[abt,abP,abx,Int.ofNat_one,e1,e2]at *)
 all_goals first
  | (exfalso;omega)
  | skip
 (refine ae.w () [] _ ?_;(repeat' first|exact tv|apply pr))
 refine decide_eq_true ?_
 omega
theorem Bq (xs:List Int) (hl:xs.length≤100000):aa Tryz.prog 164 [.aG (.int .u64) fun _=>xs] [] (Y:=Unit) (fun _=>True)
  (fun _=>.vec 0 1 (fun _=>0) (fun _=>xs.length)) (fun _=>[.au 41 (.int .u64) fun _=>xs]):=by
 refine aa.q Tryz.func164 rfl fun S ao=>?_;(conv=>whnf)
 ((refine Wb _ ?_;(repeat' first|exact tv|apply pr|intro hh));all_goals(refine Wb _ ?_;(repeat' first|exact tv|apply pr|intro hh)))
 ·have hx:xs=[]:=‹_=true→xs=[]› hh
  refine ae.nil 41 (.int .u64) 0 ?_
  (conv=>whnf)
  (refine ae.w () [0] _ ?_;(repeat' first|exact tv|apply pr))
  all_goals simp[hx]
 ·refine⟨⟨rfl,?_,?_⟩⟩
  ·show 0+xs.length≤_
   omega
  ·show(0+xs.length)*8≤_
   omega
 ·(refine ae.w () [0] _ ?_;(repeat' first|exact tv|apply pr))
  all_goals simp
def jk (x s b:Nat):Nat:=vn x (2 ^ s % 2 ^ 64) ||| (b*2 ^ s % 2 ^ 64)
theorem EO (x s b:Nat):jk x s b<2 ^ 64:=Nat.or_lt_two_pow (pY _ _) (acM _ (by decide))
theorem Br {x s b:Nat} (hb:b≤1) (hs:s<64) (j:Nat) (hj:j<64):(jk x s b).testBit j=if j=s then decide (b=1)else x.testBit j:=by
 unfold jk
 rw[ac2,mz,acC,acC,Nat.testBit_two_pow,acK]
 by_cases h:j=s
 ·subst h
  have:b=0∨b=1:=by omega
  rcases this with rfl|rfl <;> simp[hj]
 ·have h':¬s=j:=fun e=>h e.symm
  have:b.testBit (j - s)=false∨¬s≤j:=by
   by_cases EJ:s≤j
   ·left
    obtain⟨d,hd⟩:∃ d,j - s=d+1:=⟨j - s - 1,by omega⟩
    rw[hd,Nat.testBit_succ]
    have:b / 2=0:=by omega
    rw[this];simp
   ·exact .inr EJ
  rcases this with h2|h2 <;> simp[hj,h,h',h2]
theorem Bs (x s b:Nat) (hx:x<2 ^ 64) (hs:s<64) (hb:b≤1):aa Tryz.prog 216 [.aG (.int .u64) fun _=>[(x:Int)],.int .i64 fun _=>(s:Int),.int .i64 fun _=>1,.int .u64 fun _=>(b:Int)] [] (Y:=Unit) (fun _=>True) (fun _=>.bM [.aG (.int .u64) fun _=>[(jk x s b:Int)],.tt]) (fun _=>[]):=by
 have Jz:(s:Int).tdiv 64=0:=by rw[abL (by omega)];omega
 have el:(s:Int).tmod 64=(s:Int):=by rw[acB (by omega)];omega
 have ei:IntKind.i64.wrap 0=0:=by decide
 have es:IntKind.i64.wrap ((s:Int)+1)=((s+1:Nat):Int):=by rw[wr (by omega)];omega
 have hp:(2:Nat) ^ 64=18446744073709551616:=rfl
 have ev:IntKind.u64.wrap (BitVec.ofInt IntKind.u64.bits (b:Int) &&& BitVec.ofInt IntKind.u64.bits ((2 ^ 1 - 1:Nat):Int)).toNat=(b:Int):=by
  rw[nq _ _ (by omega) (by decide)]
  have:b=0∨b=1:=by omega
  rcases this with rfl|rfl <;> rfl
 (refine aa.q Tryz.func216 rfl fun S ao=>Wb _ ?_;(repeat' first|exact tv|apply pr|intro hh))
 (refine ab.q (xw (x:Int) s hs) [] fun _ _=>Wp _ ?_;(repeat' first|exact tv|apply pr|intro hh))
 (refine ab.q (Bq [(x:Int)] (by simp)) [] fun _ _=>Wp _ ?_;(repeat' first|exact tv|apply pr|intro hh))
 (refine ab.q (oa 1 (by decide)) [] fun _ _=>Wp _ ?_;(repeat' first|exact tv|apply pr|intro hh))
 all_goals (try simp only[Jz,el,ei,es,abm,abt,abP]at hh ⊢)
 all_goals first
  | (refine Ob.mk ?_;first|omega|(simp only[Jz,ei];decide)|(simp only[];omega))
  | skip
 (refine ab.q (oa 1 (by decide)) [] fun _ _=>Wp _ ?_;(repeat' first|exact tv|apply pr|intro hh))
 all_goals (try simp only[Jz,el,ei,es,abm,abt,abP]at hh ⊢)
 all_goals first
  | (refine Ob.mk ?_;first|omega|(simp only[Jz,ei];decide)|(simp only[];omega))
  | (exfalso;omega)
  | skip
 (refine ae.im 0 ?_;(conv=>whnf))
 (refine ae.w () [] _ ?_;(repeat' first|exact tv|apply pr))
 show[IntKind.u64.wrap (BitVec.ofInt IntKind.u64.bits (IntKind.u64.wrap (BitVec.ofInt IntKind.u64.bits (x:Int) &&& ~~~BitVec.ofInt IntKind.u64.bits (IntKind.u64.wrap (((2 ^ 1 - 1:Nat):Int)*2 ^ min s IntKind.u64.bits))).toNat) ||| BitVec.ofInt IntKind.u64.bits (IntKind.u64.wrap (IntKind.u64.wrap (BitVec.ofInt IntKind.u64.bits (b:Int) &&& BitVec.ofInt IntKind.u64.bits ((2 ^ 1 - 1:Nat):Int)).toNat*2 ^ min s IntKind.u64.bits))).toNat]=_
 rw[ev,zf _ _ (by omega),zf _ _ (by omega),mA,tX _ _ (pY _ _) (acM _ (by decide))]
 unfold jk
 rw[show(2 ^ 1 - 1)*2 ^ s=2 ^ s by simp]
structure Hr (x from_ k:Nat):Prop where
 ge:from_≤k
 lt:k<64
 one:x.testBit k=true
 no:∀ j,from_≤j→j<k→x.testBit j=false
def mC (x f:Nat):Nat:=x / 2 ^ f*2 ^ f % 2 ^ 64
theorem oO (x f j:Nat):(mC x f).testBit j=(decide (j<64) && (decide (f≤j) && x.testBit j)):=by
 unfold mC
 rw[acC,acK,acJ]
 by_cases h:f≤j
 ·rw[show j - f+f=j by omega]
 ·simp[h]
theorem vV {n:Nat} (h:n<2 ^ 64):n=0↔∀ j,j<64→n.testBit j=false:=by
 constructor
 ·rintro rfl j _;simp
 ·intro h'
  apply acN
  intro j
  by_cases hj:j<64
  ·rw[h' j hj];simp
  ·rw[Nat.testBit_lt_two_pow (abB h (adk (by decide) (by omega)))];simp
theorem mod_zero {n e:Nat}:n % 2 ^ e=0↔∀ j,j<e→n.testBit j=false:=by
 constructor
 ·intro h j hj
  have:(n % 2 ^ e).testBit j=n.testBit j:=by rw[acC];simp[hj]
  rw[←this,h];simp
 ·intro h
  apply acN
  intro j
  rw[acC]
  by_cases hj:j<e
  ·rw[h j hj];simp
  ·simp[hj]
structure iD (N:Nat) (e n at_:Nat):Prop where
 bit:∀ j,n.testBit j=N.testBit (at_+j)
 no:∀ j,j<at_→N.testBit j=false
 some_:∃ j,j<2 ^ e∧n.testBit j=true
 lt:n<2 ^ 64
 bd:at_+2 ^ e≤64
theorem iD.left {N e n a:Nat} (h:iD N (e+1) n a) (hz:n % 2 ^ (2 ^ e)=0):iD N e (n / 2 ^ (2 ^ e)) (a+2 ^ e):=by
 have hz:=mod_zero.1 hz
 have he:2 ^ (e+1)=2 ^ e+2 ^ e:=by rw[adT];omega
 obtain⟨j,hj,hb⟩:=h.some_
 have JA:=h.bd
 rw[he]at hj JA
 have yA:2 ^ e≤j:=by
  rcases Nat.lt_or_ge j (2 ^ e)with h'|h'
  ·rw[hz j h']at hb;cases hb
  ·exact h'
 refine⟨fun i=>?_,fun i hi=>?_,⟨j - 2 ^ e,by omega,?_⟩,adX (Nat.div_le_self _ _) h.lt,by omega⟩
 ·rw[acJ,h.bit];congr 1;omega
 ·rcases Nat.lt_or_ge i a with h'|h'
  ·exact h.no i h'
  ·have:=hz (i - a) (by omega)
   rw[h.bit]at this
   rw[←this];congr 1;omega
 ·rw[acJ,show j - 2 ^ e+2 ^ e=j by omega];exact hb
theorem iD.stay {N e n a:Nat} (h:iD N (e+1) n a) (hz:n % 2 ^ (2 ^ e)≠0):iD N e n a:=by
 have he:2 ^ (e+1)=2 ^ e+2 ^ e:=by rw[adT];omega
 have JA:=h.bd
 rw[he]at JA
 have dJ:a+2 ^ e≤64:=abW (Nat.add_le_add_left (Nat.le_add_right _ _) a) JA
 refine⟨h.bit,h.no,?_,h.lt,dJ⟩
 refine abV fun cu=>hz (mod_zero.2 fun j hj=>?_)
 cases hb:n.testBit j with
 | false=>rfl
 | true=>exact(cu ⟨j,hj,hb⟩).elim
theorem iD.done {N n a:Nat} (h:iD N 0 n a):N.testBit a=true∧a<64:=by
 obtain⟨j,hj,hb⟩:=h.some_
 have:j=0:=by simp at hj;exact hj
 subst this
 have h2:a+1≤64:=h.bd
 rw[h.bit]at hb
 exact⟨hb,by omega⟩
theorem iD.begin {N:Nat} (h:N<2 ^ 64) (h0:N≠0):iD N 6 N 0:=by
 refine⟨fun j=>by rw[abx],fun j hj=>by omega,?_,h,by decide⟩
 refine abV fun cu=>h0 ((vV h).2 fun j hj=>?_)
 cases hb:N.testBit j with
 | false=>rfl
 | true=>exact(cu ⟨j,hj,hb⟩).elim
def Ht (e:Nat):Nat:=match e with|0=>0|e+1=>2 ^ e
theorem Hu (x f:Nat) (hx:x<2 ^ 64) (hf:f≤64):aa Tryz.prog 211 [.aG (.int .u64) fun _=>[(x:Int)],.int .i64 fun _=>(f:Int)] [] (Y:=Option Nat)
  (fun y=>match y with|some k=>Hr x f k|none=>∀ j,f≤j→j<64→x.testBit j=false)
  (fun y=>.bM [.int .i64 fun _=>((y.getD 0:Nat):Int),.bool fun _=>y.isSome]) (fun _=>[]):=by
 have e1:(if(0:Int)>(f:Int)then 0 else(f:Int))=(f:Int):=if_neg (by omega)
 have hp:(2:Nat) ^ 64=18446744073709551616:=rfl
 have e2:IntKind.i64.wrap ((f:Int).tdiv 64)=((f / 64:Nat):Int):=by
  rw[abL (by omega),wr (by omega)];omega
 have e3:(f:Int).tmod 64=((f % 64:Nat):Int):=by rw[acB (by omega)];omega
 (refine aa.q Tryz.func211 rfl fun S ao=>Wb _ ?_;(repeat' first|exact tv|apply pr|intro hh))
 ·exact Ob.mk (by decide)
 refine aH.intro hm (X:=Nat) (fun i=>i=f / 64∨(i=1∧∀ j,f≤j→j<64→x.testBit j=false)) (fun i=>2 - i)
  (fun i=>[(6,.int .i64 fun _=>(i:Int)),(1,.int .i64 fun _=>(f:Int)),(0,.aG (.int .u64) fun _=>[(x:Int)])]) (fun _=>[]) (f / 64) [] ⟨rfl,rfl,?_,?_⟩ (.inl rfl) (fun i hi=>?_)
 ·exact Vc
 ·(refine Vb _ ?_;(repeat' first|exact tv|apply pr))
  rw[e1];exact e2
 (refine Wb _ ?_;(repeat' first|exact tv|apply pr|intro hh))
 all_goals (try simp only[abt,abP,abx,e2]at hh)
 all_goals (try (have bm:(i:Int)<1:=by assumption))
 all_goals first
  | (exact Ob.mk (by decide))
  | (refine Ob.mk ?_;simp only[e3];omega)
  | (refine Ob.mk ?_;simp only[abt,abP];omega)
  | skip
 all_goals first
  | (exfalso;have h1:=‹¬(i:Int)=IntKind.i64.wrap ((f:Int).tdiv 64)›;rw[e2]at h1;omega)
  | skip
 ·have h1:=‹(i:Int)=IntKind.i64.wrap ((f:Int).tdiv 64)›
  rw[e2]at h1
  have ze:i=0:=by omega
  subst ze
  have Vx:f<64:=by omega
  have Kz:IntKind.u64.wrap (Int.fdiv ([(x:Int)].getD (((0:Nat):Int)).toNat (Ty.int .u64).a8) (2 ^ min ((f:Int).tmod 64).toNat IntKind.u64.bits)*2 ^ min ((f:Int).tmod 64).toNat IntKind.u64.bits)=(mC x f:Int):=by
   rw[e3,show f % 64=f by omega]
   exact(congrArg (fun z:Int=>IntKind.u64.wrap (z*2 ^ min f IntKind.u64.bits)) (zg x f (by omega))).trans (zf _ f (by omega))
  rw[Kz]at hh
  refine⟨1,[],⟨rfl,rfl,?_,?_⟩,.inr ⟨rfl,fun j h2 h3=>?_⟩,by omega⟩
  ·exact Vc
  ·exact Vc
  ·have:=(vV (n:=mC x f) (acM _ (by decide))).1 (by omega) j h3
   rw[oO]at this
   simpa [h2,h3]using this
 ·have h1:=‹(i:Int)=IntKind.i64.wrap ((f:Int).tdiv 64)›
  rw[e2]at h1
  have ze:i=0:=by omega
  subst ze
  have Vx:f<64:=by omega
  have Kz:IntKind.u64.wrap (Int.fdiv ([(x:Int)].getD (((0:Nat):Int)).toNat (Ty.int .u64).a8) (2 ^ min ((f:Int).tmod 64).toNat IntKind.u64.bits)*2 ^ min ((f:Int).tmod 64).toNat IntKind.u64.bits)=(mC x f:Int):=by
   rw[e3,show f % 64=f by omega]
   exact(congrArg (fun z:Int=>IntKind.u64.wrap (z*2 ^ min f IntKind.u64.bits)) (zg x f (by omega))).trans (zf _ f (by omega))
  rw[Kz]at hh
  refine aH.intro hm (X:=Nat×Nat×Nat) (fun y=>iD (mC x f) y.1 y.2.1 y.2.2) (fun y=>y.1)
   (fun y=>[(9,.int .i64 fun _=>(Ht y.1:Int)),(8,.int .i64 fun _=>(y.2.2:Int)),(7,.int .u64 fun _=>(y.2.1:Int)),(6,.int .i64 fun _=>0)]) (fun _=>[]) (6,mC x f,0) [] ⟨rfl,rfl,?_,?_⟩ (.begin (acM _ (by decide)) (by omega)) (fun y hy=>?_)
  ·exact Vc
  ·(refine Vb _ ?_;(repeat' first|exact tv|apply pr))
   exact Kz
  obtain⟨e,n,a⟩:=y
  have hn:=hy.lt
  have JA:=hy.bd
  simp only at hn JA
  cases e with
  | zero =>
   have d12:(mC x f).testBit a=true∧a<64:=hy.done
   obtain⟨d1,d2⟩:=d12
   (refine Wb _ ?_;(repeat' first|exact tv|apply pr|intro hh))
   ·exact absurd hh (by decide)
   ·refine ae.q (some a) [] ?_ ?_ ?_ <;> (refine Vb _ ?_;(repeat' first|exact tv|apply pr))
    ·show IntKind.i64.wrap (IntKind.i64.wrap (0*64)+(a:Int))=_
     rw[show IntKind.i64.wrap (0*64)=0 by decide,wr (x:=0+(a:Int)) (by clear JA hy;omega),Int.zero_add];rfl
    ·rw[oO]at d1
     simp only[abD,decide_eq_true_eq]at d1
     refine⟨d1.2.1,d2,d1.2.2,fun j h2 h3=>?_⟩
     have:=hy.no j h3
     rw[oO]at this
     have h4:j<64:=by omega
     simpa [h2,h4]using this
  | succ e =>
   have XF:2 ^ e≤32:=by rw[adT]at JA;omega
   have h1e:1≤2 ^ e:=acn
   have P2:=mB (n:=2 ^ e) (by omega)
   have hq1:1≤2 ^ 2 ^ e:=acn
   have hand:IntKind.u64.wrap (BitVec.ofInt IntKind.u64.bits (n:Int) &&& BitVec.ofInt IntKind.u64.bits ((2 ^ (2 ^ e) - 1:Nat):Int)).toNat=((n % 2 ^ (2 ^ e):Nat):Int):=by
    rw[nq _ _ hn (by omega),adw]
   have Mr:IntKind.i64.wrap (((2 ^ e:Nat):Int).tdiv 2)=(Ht e:Int):=by
    rw[abL (by omega),wr (by omega)]
    cases e with
    | zero=>rfl
    | succ e =>
     show(((2 ^ (e+1):Nat):Int)) / 2=((2 ^ e:Nat):Int)
     rw[adT];omega
   (refine Wb _ ?_;(repeat' first|exact tv|apply pr|intro hh))
   ·(refine ab.q (oa (2 ^ e) (by omega)) [] fun _ _=>Wp _ ?_;(repeat' first|exact tv|apply pr|intro hh))
    all_goals (try (have yj:IntKind.u64.wrap (BitVec.ofInt IntKind.u64.bits (n:Int) &&& BitVec.ofInt IntKind.u64.bits ((2 ^ (2 ^ e) - 1:Nat):Int)).toNat=0:=by assumption))
    ·refine Ob.mk ?_
     show(0:Int)≤((2 ^ e:Nat):Int)
     omega
    ·rw[hand]at hh
     refine⟨(e,n / 2 ^ (2 ^ e),a+2 ^ e),[],⟨rfl,rfl,?_,?_⟩,hy.left (Int.ofNat.inj hh),acu _⟩
     ·exact Vc
     ·(refine Vb _ ?_;(repeat' first|exact tv|apply pr))
      ·exact Mr
      ·show IntKind.i64.wrap ((a:Int)+((2 ^ e:Nat):Int))=_
       rw[wr (by omega)];omega
      ·exact zg n (2 ^ e) (by omega)
    ·rw[hand]at hh
     refine⟨(e,n,a),[],⟨rfl,rfl,?_,?_⟩,hy.stay (fun h=>hh (congrArg Int.ofNat h)),acu _⟩
     ·exact Vc
     ·(refine Vb _ ?_;(repeat' first|exact tv|apply pr))
      exact Mr
   ·exfalso
    apply hh
    show(0:Int)<((2 ^ e:Nat):Int)
    omega
 ·refine ae.q none [] ?_ ?_ ?_ <;> (refine Vb _ ?_;(repeat' first|exact tv|apply pr))
  intro j h2 h3
  rcases hi with h1|⟨h1,h4⟩
  ·omega
  ·exact h4 j h2 h3
end Go.Proofs.YthnefnlhcijekaaGreat.Wh
namespace Go.Proofs.YthnefnlhcijekaaGreat.Wh
open Go Go.RowKit Fw
structure RC (w:Wl) (rows:Nat→List Nat):Prop extends Oj w rows where
 vW:∀ id k,aO w.at_ id=some k↔∃ s,s<64∧k∈rows s∧(w.lk k).id=id
 keys:(aS w.at_).Nodup
 m0:0≤w.mask∧w.mask<18446744073709551616
 Vy:∀ s,s<64→w.mask.toNat.testBit s=!(rows s).isEmpty
 ids:∀ s k,s<64→k∈rows s→0≤(w.lk k).id∧(w.lk k).id≤1048575
structure dX (w:Wl) (pos:Int→Option Nat):Prop where
 h:∃ rows,RC w rows∧∀ id s,pos id=some s↔s<64∧∃ k,k∈rows s∧(w.lk k).id=id
def kY (pos:Int→Option Nat) (id:Int) (v:Option Nat):Int→Option Nat:=fun j=>if j=id then v else pos j
structure tY (w:Wl) (s:Nat) (x:Int):Prop where
 h:0≤x∧x<18446744073709551616∧∀ j,j<64→x.toNat.testBit j=if j=s then(w.first s).isSome else w.mask.toNat.testBit j
theorem dX.Hv {w:Wl} {pos:Int→Option Nat} (h:dX w pos):0≤w.mask∧w.mask<18446744073709551616:=by obtain⟨r,h,_⟩:=h.h;exact h.m0
theorem dX.CR {w:Wl} {pos:Int→Option Nat} (h:dX w pos) (id:Int):aO w.at_ id=none↔pos id=none:=by
 obtain⟨rows,h,hp⟩:=h.h
 constructor
 ·intro hg
  cases hq:pos id with
  | none=>rfl
  | some s =>
   obtain⟨hs,k,hk,hid⟩:=(hp id s).1 hq
   rw[(h.vW id k).2 ⟨s,hs,hk,hid⟩]at hg;cases hg
 ·intro hq
  cases hg:aO w.at_ id with
  | none=>rfl
  | some k =>
   obtain⟨s,hs,hk,hid⟩:=(h.vW id k).1 hg
   rw[(hp id s).2 ⟨hs,k,hk,hid⟩]at hq;cases hq
theorem RC.Bu {w:Wl} {rows:Nat→List Nat} (h:RC w rows) {s k:Nat} (hs:s<64) (hk:k∈rows s):k<w.n∧(w.lk k).slot=s:=by
 obtain⟨i,hi⟩:=abu.1 hk
 have:=h.lk s i k hs hi
 exact⟨this.2.2.2,this.1⟩
theorem RC.uniq {w:Wl} {rows:Nat→List Nat} (h:RC w rows) {s t k l:Nat} (hs:s<64) (ht:t<64) (hk:k∈rows s) (hl:l∈rows t) (he:(w.lk k).id=(w.lk l).id):k=l:=by
 have h1:=(h.vW (w.lk k).id k).2 ⟨s,hs,hk,rfl⟩
 have h2:=(h.vW (w.lk k).id l).2 ⟨t,ht,hl,he.symm⟩
 rw[h1]at h2;exact ac9 h2
def rX (w:Wl) (k:Nat) (id:Int) (x:Int):Wl:={ dL (cF w (w.lk k).slot.toNat k) (w.lk k).slot.toNat k with at_:=b8 w.at_ id,mask:=x }
theorem mem_erase {L:List Nat} (hn:L.Nodup) {i k:Nat} (hi:L[i]?=some k) (x:Nat):x∈L.eraseIdx i↔x∈L∧x≠k:=by
 constructor
 ·intro hx
  refine⟨(List.eraseIdx_sublist L i).subset hx,fun e=>?_⟩
  subst e
  obtain⟨j,hj⟩:=abu.1 hx
  rw[bV]at hj
  split at hj
  ·have:=ig hn hj hi;omega
  ·have:=ig hn hj hi;omega
 ·rintro⟨hx,bE⟩
  obtain⟨j,hj⟩:=abu.1 hx
  refine abu.2 ?_
  rcases acT j i with h|h|h
  ·exact⟨j,by rw[bV,if_pos h];exact hj⟩
  ·subst h;rw[hi]at hj;cases hj;exact(bE rfl).elim
  ·exact⟨j - 1,by rw[bV,if_neg (by omega),show j - 1+1=j by omega];exact hj⟩
theorem dX.drop {w:Wl} {pos:Int→Option Nat} (h:dX w pos) {id:Int} {k:Nat} (hk:aO w.at_ id=some k) :
  0≤(w.lk k).slot∧(w.lk k).slot<64∧pos id=some (w.lk k).slot.toNat ∧
  ∀ x,tY (dL (cF w (w.lk k).slot.toNat k) (w.lk k).slot.toNat k) (w.lk k).slot.toNat x→dX (rX w k id x) (kY pos id none):=by
 obtain⟨rows,h,hp⟩:=h.h
 obtain⟨s,hs,PX,hid⟩:=(h.vW id k).1 hk
 obtain⟨i,hi⟩:=abu.1 PX
 have xx:=(h.lk s i k hs hi).1
 have dm:(w.lk k).slot.toNat=s:=by rw[xx];simp
 refine⟨by omega,by omega,by rw[dm];exact(hp id s).2 ⟨hs,k,PX,hid⟩,fun x hx=>?_⟩
 rw[dm]at hx
 have hu:=h.toOj.Zu hs hi
 have lD:=pS w s k
 have rh:∀ x,((dL (cF w s k) s k).lk x).id=(w.lk x).id:=fun x=>(Bn w s k x).1
 have bc:∀ t y,t<64→(y∈fJ rows s ((rows s).eraseIdx i) t↔y∈rows t∧y≠k):=by
  intro t y ht
  by_cases gU:t=s
  ·subst gU;rw[bD];exact mem_erase (h.nd t ht) hi y
  ·rw[aX _ _ _ gU]
   refine⟨fun hy=>⟨hy,fun e=>?_⟩,And.left⟩
   subst e
   have h1:=(h.Bu ht hy).2
   rw[xx]at h1;omega
 unfold rX
 rw[dm]
 refine .mk ⟨fJ rows s ((rows s).eraseIdx i),⟨⟨hu.fst,hu.aG,hu.lk,hu.nd⟩,fun yk k'=>?_,cV h.keys id,⟨hx.h.1,hx.h.2.1⟩,fun t ht=>?_,fun t y ht hy=>?_⟩,fun yk t=>?_⟩
 ·show aO (b8 w.at_ id) yk=some k'↔∃ t,t<64∧k'∈fJ rows s ((rows s).eraseIdx i) t∧((dL (cF w s k) s k).lk k').id=yk
  rw[eA h.keys,rh]
  by_cases he:yk=id
  ·subst he
   rw[if_pos rfl]
   refine⟨fun e=>(by cases e),fun⟨t,ht,h1,h2⟩=>?_⟩
   have h3:=(bc t k' ht).1 h1
   exact(h3.2 (h.uniq ht hs h3.1 PX (h2.trans hid.symm))).elim
  ·rw[if_neg he,h.vW]
   constructor
   ·rintro⟨t,ht,h1,h2⟩
    exact⟨t,ht,(bc t k' ht).2 ⟨h1,fun e=>by subst e;exact he (h2.symm.trans hid)⟩,h2⟩
   ·rintro⟨t,ht,h1,h2⟩
    exact⟨t,ht,((bc t k' ht).1 h1).1,h2⟩
 ·show x.toNat.testBit t=_
  rw[hx.h.2.2 t ht]
  by_cases gU:t=s
  ·subst gU
   rw[if_pos rfl,hu.fst t ht]
   cases fJ rows t ((rows t).eraseIdx i) t <;> rfl
  ·rw[if_neg gU,aX _ _ _ gU,lD.2.2.2];exact h.Vy t ht
 ·show 0≤((dL (cF w s k) s k).lk y).id∧_
  rw[rh];exact h.ids t y ht ((bc t y ht).1 hy).1
 ·show kY pos id none yk=some t↔t<64∧∃ k',k'∈fJ rows s ((rows s).eraseIdx i) t∧((dL (cF w s k) s k).lk k').id=yk
  unfold kY
  by_cases he:yk=id
  ·subst he
   rw[if_pos rfl]
   refine⟨fun e=>(by cases e),fun⟨ht,k',h1,h2⟩=>?_⟩
   rw[rh]at h2
   have h3:=(bc t k' ht).1 h1
   exact(h3.2 (h.uniq ht hs h3.1 PX (h2.trans hid.symm))).elim
  ·rw[if_neg he,hp]
   constructor
   ·rintro⟨ht,k',h1,h2⟩
    exact⟨ht,k',(bc t k' ht).2 ⟨h1,fun e=>by subst e;exact he (h2.symm.trans hid)⟩,by rw[rh];exact h2⟩
   ·rintro⟨ht,k',h1,h2⟩
    exact⟨ht,k',((bc t k' ht).1 h1).1,by rw[rh]at h2;exact h2⟩
def Bv (w:Wl) (s:Nat) (id:Int) (x:Int):Wl:={ app w s id with at_:=bY w.at_ w.pg id w.n,pg:=w.pg+1,mask:=x }
theorem dX.add {w:Wl} {pos:Int→Option Nat} (h:dX w pos) {id:Int} {s:Nat} (hs:s<64) (hid:0≤id∧id≤1048575) (cu:pos id=none) :
  aO w.at_ id=none∧∀ x,tY (app w s id) s x→dX (Bv w s id x) (kY pos id (some s)):=by
 have hg:=(h.CR id).2 cu
 refine⟨hg,fun x hx=>?_⟩
 obtain⟨rows,h,hp⟩:=h.h
 have hu:=h.toOj.app hs id
 have lD:=my w s id
 have ji:∀ p,w.last s=some p→p≠w.n:=fun p hp=>by
  rw[h.aG s hs]at hp
  have:=(h.Bu hs (aea hp)).1
  omega
 have rh:∀ y,y≠w.n→((app w s id).lk y).id=(w.lk y).id:=fun y hy=>by
  rw[Bo w s id y ji,if_neg hy];split <;> rfl
 have hZ:((app w s id).lk w.n).id=id:=by rw[Bo w s id w.n ji,if_pos rfl]
 have bE:∀ t y,t<64→y∈rows t→y≠w.n:=fun t y ht hy=>by have:=(h.Bu ht hy).1;omega
 have bc:∀ t y,(y∈fJ rows s (rows s++[w.n]) t↔y∈rows t∨(t=s∧y=w.n)):=by
  intro t y
  by_cases gU:t=s
  ·subst gU;rw[bD];simp
  ·rw[aX _ _ _ gU];simp[gU]
 have Hw:∀ t y,t<64→y∈rows t→(w.lk y).id≠id:=fun t y ht hy e=>by
  have:=(h.vW id y).2 ⟨t,ht,hy,e⟩
  rw[hg]at this;cases this
 refine .mk ⟨fJ rows s (rows s++[w.n]),⟨⟨hu.fst,hu.aG,hu.lk,hu.nd⟩,fun yk k'=>?_,cU h.keys _ _ _,⟨hx.h.1,hx.h.2.1⟩,fun t ht=>?_,fun t y ht hy=>?_⟩,fun yk t=>?_⟩
 ·show aO (bY w.at_ w.pg id w.n) yk=some k'↔∃ t,t<64∧k'∈fJ rows s (rows s++[w.n]) t∧((app w s id).lk k').id=yk
  rw[dt]
  by_cases he:yk=id
  ·subst he
   rw[if_pos rfl]
   constructor
   ·intro e;cases e
    exact⟨s,hs,(bc s w.n).2 (.inr ⟨rfl,rfl⟩),hZ⟩
   ·rintro⟨t,ht,h1,h2⟩
    rcases(bc t k').1 h1 with h3|⟨_,h3⟩
    ·rw[rh k' (bE t k' ht h3)]at h2
     exact(Hw t k' ht h3 h2).elim
    ·rw[h3]
  ·rw[if_neg he,h.vW]
   constructor
   ·rintro⟨t,ht,h1,h2⟩
    exact⟨t,ht,(bc t k').2 (.inl h1),by rw[rh k' (bE t k' ht h1)];exact h2⟩
   ·rintro⟨t,ht,h1,h2⟩
    rcases(bc t k').1 h1 with h3|⟨_,h3⟩
    ·rw[rh k' (bE t k' ht h3)]at h2
     exact⟨t,ht,h3,h2⟩
    ·subst h3;rw[hZ]at h2;exact(he h2.symm).elim
 ·show x.toNat.testBit t=_
  rw[hx.h.2.2 t ht]
  by_cases gU:t=s
  ·subst gU
   rw[if_pos rfl,hu.fst t ht]
   cases fJ rows t (rows t++[w.n]) t <;> rfl
  ·rw[if_neg gU,aX _ _ _ gU,lD.2.2.2.1];exact h.Vy t ht
 ·show 0≤((app w s id).lk y).id∧((app w s id).lk y).id≤_
  rcases(bc t y).1 hy with h3|⟨_,h3⟩
  ·rw[rh y (bE t y ht h3)];exact h.ids t y ht h3
  ·subst h3;rw[hZ];exact hid
 ·show kY pos id (some s) yk=some t↔t<64∧∃ k',k'∈fJ rows s (rows s++[w.n]) t∧((app w s id).lk k').id=yk
  unfold kY
  by_cases he:yk=id
  ·subst he
   rw[if_pos rfl]
   constructor
   ·intro e;cases e
    exact⟨hs,w.n,(bc s w.n).2 (.inr ⟨rfl,rfl⟩),hZ⟩
   ·rintro⟨ht,k',h1,h2⟩
    rcases(bc t k').1 h1 with h3|⟨h4,h3⟩
    ·rw[rh k' (bE t k' ht h3)]at h2
     exact(Hw t k' ht h3 h2).elim
    ·rw[h4]
  ·rw[if_neg he,hp]
   constructor
   ·rintro⟨ht,k',h1,h2⟩
    exact⟨ht,k',(bc t k').2 (.inl h1),by rw[rh k' (bE t k' ht h1)];exact h2⟩
   ·rintro⟨ht,k',h1,h2⟩
    rcases(bc t k').1 h1 with h3|⟨_,h3⟩
    ·rw[rh k' (bE t k' ht h3)]at h2
     exact⟨ht,k',h3,h2⟩
    ·subst h3;rw[hZ]at h2;exact(he h2.symm).elim
theorem nr:∀ (n:Nat) (l:List Nat),l.Nodup→(∀ x∈l,x<n)→l.length≤n
 | 0,l,_,h=>by
  cases l with
  | nil=>simp
  | cons a r=>have:=h a (abq ..);omega
 | n+1,l,hn,h=>by
  by_cases hm:n∈l
  ·have h1:=nr n (l.erase n) (hn.erase n) (fun x hx=>by
    have:=(acf hn).1 hx
    have:=h x this.2
    omega)
   rw[acw hm]at h1
   omega
  ·have:=nr n l hn (fun x hx=>by
    have:=h x hx
    have:x≠n:=fun e=>by subst e;exact hm hx
    omega)
   omega
theorem oP {n:Nat} {l:List Int} (hn:l.Nodup) (h:∀ x∈l,0≤x∧x<n):l.length≤n:=by
 have:=nr n (l.map Int.toNat) ?_ ?_
 ·simpa using this
 ·rw[ab5,ac7]
  refine acW ?_ (ab5.1 hn)
  intro a b ha hb r8 e
  have:=h a ha
  have:=h b hb
  omega
 ·intro x hx
  obtain⟨y,hy,rfl⟩:=abR.1 hx
  have:=h y hy
  omega
theorem dX.row {w:Wl} {pos:Int→Option Nat} (h:dX w pos) {s:Nat} (hs:s<64):∃ L:List Nat,w.first s=L[0]?∧(∀ i k,L[i]?=some k→(w.lk k).next=L[i+1]?)∧L.length≤1048576 ∧
  (L.map fun k=>(w.lk k).id).Nodup∧(∀ id,id∈(L.map fun k=>(w.lk k).id)↔pos id=some s):=by
 obtain⟨rows,h,hp⟩:=h.h
 have eZ:((rows s).map fun k=>(w.lk k).id).Nodup:=by
  rw[ab5,ac7]
  refine acW ?_ (ab5.1 (h.nd s hs))
  intro a b ha hb r8 e
  exact r8 (h.uniq hs hs ha hb e)
 refine⟨rows s,by rw[h.fst s hs,tW],fun i k hi=>(h.lk s i k hs hi).2.2.1,?_,eZ,fun id=>?_⟩
 ·have:=oP (n:=1048576) eZ (fun x hx=>by
   obtain⟨k,hk,rfl⟩:=abR.1 hx
   have:=h.ids s k hs hk
   omega)
  simpa using this
 ·rw[hp]
  simp only[abR]
  exact⟨fun⟨k,h1,h2⟩=>⟨hs,k,h1,h2⟩,fun⟨_,k,h1,h2⟩=>⟨k,h1,h2⟩⟩
theorem dX.bit {w:Wl} {pos:Int→Option Nat} (h:dX w pos) {s:Nat} (hs:s<64):w.mask.toNat.testBit s=true↔∃ id,pos id=some s:=by
 obtain⟨rows,h,hp⟩:=h.h
 rw[h.Vy s hs]
 constructor
 ·intro hb
  cases hr:rows s with
  | nil=>rw[hr]at hb;cases hb
  | cons k r=>exact⟨(w.lk k).id,(hp _ s).2 ⟨hs,k,by rw[hr];exact abq ..,rfl⟩⟩
 ·rintro⟨id,hid⟩
  obtain⟨_,k,hk,_⟩:=(hp id s).1 hid
  cases hr:rows s with
  | nil=>rw[hr]at hk;cases hk
  | cons _ _=>rfl
def FT (c:Nat):Wl:=⟨0,fun _=>⟨0,0,none,none⟩,fun _=>none,fun _=>none,[],c,0⟩
theorem RE (c:Nat):dX (FT c) (fun _=>none):=by
 refine .mk ⟨fun _=>[],⟨⟨fun _ _=>rfl,fun _ _=>rfl,fun _ _ _ _ h=>by simp at h,fun _ _=>acd⟩,fun id k=>?_,acd,⟨abz 0,show(0:Int)<_ by decide⟩,fun s _=>by simp[FT],fun _ _ _ h=>by simp at h⟩,fun id s=>?_⟩
 ·simp[FT,aO]
 ·simp
abbrev WP:AV:=.hp 0 fun _=>some (1,0)
def Bw (w:Wl):List Chunk:=[.heap fun _=>dG w]
theorem CS (w:Wl) (s b:Nat) (hs:s<64) (hb:b=if(w.first s).isSome then 1 else 0) (h0:0≤w.mask∧w.mask<18446744073709551616):tY w s (jk w.mask.toNat s b:Int):=by
 have hl:=EO w.mask.toNat s b
 refine .mk ⟨by omega,by omega,fun j hj=>?_⟩
 rw[abm,Br (by rw[hb];split <;> omega) hs j hj,hb]
 cases (w.first s).isSome <;> rfl
theorem RF (x:Int) (s b:Nat) (hx:0≤x∧x<18446744073709551616) (hs:s<64) (hb:b≤1):aa Tryz.prog 216 [.aG (.int .u64) fun _=>[x],.int .i64 fun _=>(s:Int),.int .i64 fun _=>1,.int .u64 fun _=>(b:Int)] [] (Y:=Unit) (fun _=>True) (fun _=>.bM [.aG (.int .u64) fun _=>[(jk x.toNat s b:Int)],.tt]) (fun _=>[]):=by
 have h:=Bs x.toNat s b (by omega) hs hb
 rwa [abX hx.1]at h
theorem RG (w:Wl) (s:Nat) (hs:s<64) (h0:0≤w.mask∧w.mask<18446744073709551616):aa Tryz.prog 235 [WP,.int .i64 fun _=>(s:Int)] (Bw w) (Y:=Int) (fun x=>tY w s x)
  (fun _=>.bM []) (fun x=>Bw { w with mask:=x }):=by
 have vF:w.mask=((w.mask.toNat:Nat):Int):=(abX h0.1).symm
 (refine aa.q Tryz.func235 rfl fun S ao=>Wb _ ?_;(repeat' first|exact tv|apply pr|intro hh))
 (all_goals first|exact Ob.mk (fun h=>by cases h)|exact Ob.mk ⟨(fun h=>by cases h),by simp only[];omega,by simp only[];omega⟩|skip)
 refine CP s hs (by show some (1,0+0+(s:Int).toNat*2+0)=_;simp) rfl ?_
 (refine Wb _ ?_;(repeat' first|exact tv|apply pr|intro hh))
 (all_goals first|exact Ob.mk (fun h=>by cases h)|exact Ob.mk ⟨(fun h=>by cases h),by simp only[];omega,by simp only[];omega⟩|skip)
 ·refine Bm rfl rfl ?_
  (refine Wb _ ?_;(repeat' first|exact tv|apply pr|intro hh))
  have hn:(w.first s).isSome=true:=by cases h:w.first s <;> simp[h,pt]at *
  (refine ab.q (RF w.mask s 1 h0 hs (by omega)) [] fun y hy=>Wb _ ?_;(repeat' first|exact tv|apply pr|intro hh))
  (all_goals first|exact Ob.mk (fun h=>by cases h)|exact Ob.mk ⟨(fun h=>by cases h),by simp only[];omega,by simp only[];omega⟩|skip)
  refine Hk _ rfl (.eq (.iq (.list (.int .u64)) [(jk w.mask.toNat s 1:Int)])) ?_
  (refine Wb _ ?_;(repeat' first|exact tv|apply pr|intro hh))
  (refine ae.w (jk w.mask.toNat s 1:Int) [0] _ ?_;(repeat' first|exact tv|apply pr))
  exact CS w s 1 hs (by rw[hn];rfl) h0
 ·refine Bm rfl rfl ?_
  (refine Wb _ ?_;(repeat' first|exact tv|apply pr|intro hh))
  have hn:(w.first s).isSome=false:=by cases h:w.first s <;> simp[h,pt]at *
  (refine ab.q (RF w.mask s 0 h0 hs (by omega)) [] fun y hy=>Wb _ ?_;(repeat' first|exact tv|apply pr|intro hh))
  (all_goals first|exact Ob.mk (fun h=>by cases h)|exact Ob.mk ⟨(fun h=>by cases h),by simp only[];omega,by simp only[];omega⟩|skip)
  refine Hk _ rfl (.eq (.iq (.list (.int .u64)) [(jk w.mask.toNat s 0:Int)])) ?_
  (refine Wb _ ?_;(repeat' first|exact tv|apply pr|intro hh))
  (refine ae.w (jk w.mask.toNat s 0:Int) [0] _ ?_;(repeat' first|exact tv|apply pr))
  exact CS w s 0 hs (by rw[hn];rfl) h0
theorem Om (w:Wl) (s:Int):aa Tryz.prog 234 [WP,.int .i64 fun _=>s] (Bw w) (Y:=Unit) (fun _=>True)
  (fun _=>.bool fun _=>decide (0≤s) && decide (s<64)) (fun _=>Bw w):=by
 (refine aa.q Tryz.func234 rfl fun S ao=>Wa _ ?_;(repeat' first|exact tv|apply pr|intro hh))
 ·(refine ae.w () [0] _ ?_;(repeat' first|exact tv|apply pr))
  simp[hh]
 ·(refine ae.w () [0] _ ?_;(repeat' first|exact tv|apply pr))
  simp[hh]
section
variable {i:Nat} {w:Wl} {f:Unit→Option (Nat×Nat)} {v:AV} {K:Hp→Prop}
theorem RH (s k:Nat) (h:(w.lk k).prev=none) (hs:s<64) (hf:f ()=some (1,s*2)) (hv:fo i v (.hp (pt (w.lk k).next))) (kk:K (dG (cF w s k))):AT i v (fun _=>dG w) f K :=
 CQ s _ hs hf hv (by unfold cF at kk;rw[h]at kk;exact kk)
theorem RI (s k p:Nat) (h:(w.lk k).prev=some p) (hf:f ()=some (p+2,3)) (hv:fo i v (.hp (pt (w.lk k).next))) (kk:K (dG (cF w s k))):AT i v (fun _=>dG w) f K :=
 Hl p _ hf hv (by unfold cF at kk;rw[h]at kk;exact kk)
theorem Ms (s k:Nat) (h:(w.lk k).next=none) (hs:s<64) (hf:f ()=some (1,s*2+1)) (hv:fo i v (.hp (pt (w.lk k).prev))) (kk:K (dG (dL w s k))):AT i v (fun _=>dG w) f K :=
 Hj s _ hs hf hv (by unfold dL at kk;rw[h]at kk;exact kk)
theorem Mt (s k p:Nat) (h:(w.lk k).next=some p) (hf:f ()=some (p+2,2)) (hv:fo i v (.hp (pt (w.lk k).prev))) (kk:K (dG (dL w s k))):AT i v (fun _=>dG w) f K :=
 Og p _ hf hv (by unfold dL at kk;rw[h]at kk;exact kk)
end
theorem EP {pos:Int→Option Nat} {id:Int} {v:Option Nat} (h:pos id=v):kY pos id v=pos:=by
 funext j;unfold kY;split
 ·rename_i e;rw[e,h]
 ·rfl
theorem pZ {x:Option Nat}:(pt x).isNone=true↔x=none:=by cases x <;> simp[pt]
theorem p5 {x:Option Nat}:(pt x).isNone=false↔∃ p,x=some p:=by cases x <;> simp[pt]
def oQ (w:Wl) (id:Int):Wl:={ w with at_:=b8 w.at_ id }
def Hx (w:Wl) (x:Int):Wl:={ w with mask:=x }
theorem CT {w:Wl} {K:Hp→Prop} {P:Program} {t:Nat} (hz:iU P t=some (.pointer none)) {g:Unit→Nat} {n:Unit→Int} (hg:g ()=0) (k:K (dG (oQ w (n ())))):Nj P t n (fun _=>dG w) g K:=Oh hz hg k
theorem drop_eq (w:Wl) (k s:Nat) (id x:Int) (h:(w.lk k).slot.toNat=s):rX w k id x=Hx (oQ (dL (cF w s k) s k) id) x:=by
 subst h;unfold rX Hx oQ;rw[(pS w _ k).2.1]
theorem ri (w:Wl) (s:Nat) (hs:s<64) (h0:0≤w.mask∧w.mask<18446744073709551616):aa Tryz.prog 235 [WP,.int .i64 fun _=>(s:Int)] (Bw w) (Y:=Int) (fun x=>tY w s x)
  (fun _=>.bM []) (fun x=>Bw (Hx w x)):=RG w s hs h0
theorem mD (w:Wl) (pos:Int→Option Nat) (hw:dX w pos) (id:Int):aa Tryz.prog 186 [WP,.int .i64 fun _=>id] (Bw w) (Y:=Wl) (fun w'=>dX w' (kY pos id none))
  (fun _=>.bool fun _=>(pos id).isSome) Bw:=by
 (refine aa.q Tryz.func186 rfl fun S ao=>Wa _ ?_;(repeat' first|exact tv|apply pr|intro hh))
 (all_goals first|exact Ob.mk (fun h=>by cases h)|exact Ob.mk ⟨(fun h=>by cases h),by simp only[];omega,by simp only[];omega⟩|skip)
 refine Bl rfl rfl ?_
 (refine Wb _ ?_;(repeat' first|exact tv|apply pr|intro hh))
 refine Kw rfl rfl (fun k hk=>?_) (fun hk=>?_)
 rotate_left
 ·have hp:=(hw.CR id).1 hk
  (refine Wa _ ?_;(repeat' first|exact tv|apply pr|intro hh))
  (refine ae.w w [0] _ ?_;(repeat' first|exact tv|apply pr))
  ·rw[hp];rfl
  ·rw[EP hp];exact hw
 obtain⟨h1,h2,h3,h4⟩:=hw.drop hk
 generalize xx:(w.lk k).slot.toNat=s at *
 have hs:s<64:=by omega
 have XG:(w.lk k).slot=(s:Int):=by omega
 have CU:((dL (cF w s k) s k).lk k).slot=(s:Int):=(Bn w s k k).2.1.trans XG
 have lD:=pS w s k
 have kc:0≤(dL (cF w s k) s k).mask∧(dL (cF w s k) s k).mask<18446744073709551616:=by rw[lD.2.2.2];exact hw.Hv
 (refine Wa _ ?_;(repeat' first|exact tv|apply pr|intro hh))
 (all_goals first|exact Ob.mk (fun h=>by cases h)|exact Ob.mk ⟨(fun h=>by cases h),by simp only[];omega,by simp only[];omega⟩|skip)
 refine tT k rfl rfl ?_
 rw[XG]
 (refine Wa _ ?_;(repeat' first|exact tv|apply pr|intro hh))
 (all_goals first|exact Ob.mk (fun h=>by cases h)|exact Ob.mk ⟨(fun h=>by cases h),by simp only[];omega,by simp only[];omega⟩|skip)
 refine rf k rfl rfl ?_
 (refine Wa _ ?_;(repeat' first|exact tv|apply pr|intro hh))
 (all_goals first|exact Ob.mk (fun h=>by cases h)|exact Ob.mk ⟨(fun h=>by cases h),by simp only[];omega,by simp only[];omega⟩|skip)
 ·have hp:=pZ.1 hh
  refine oN k rfl rfl ?_
  (refine Wa _ ?_;(repeat' first|exact tv|apply pr|intro hh))
  (all_goals first|exact Ob.mk (fun h=>by cases h)|exact Ob.mk ⟨(fun h=>by cases h),by simp only[];omega,by simp only[];omega⟩|skip)
  refine RH s k hp hs (by show some (1,0+0+(s:Int).toNat*2+0)=_;simp) (.eq (.hp _)) ?_
  (refine Wa _ ?_;(repeat' first|exact tv|apply pr|intro hh))
  (all_goals first|exact Ob.mk (fun h=>by cases h)|exact Ob.mk ⟨(fun h=>by cases h),by simp only[];omega,by simp only[];omega⟩|skip)
  refine oN k rfl rfl ?_
  (refine Wa _ ?_;(repeat' first|exact tv|apply pr|intro hh))
  (all_goals first|exact Ob.mk (fun h=>by cases h)|exact Ob.mk ⟨(fun h=>by cases h),by simp only[];omega,by simp only[];omega⟩|skip)
  ·refine rf k rfl rfl ?_
   (refine Wa _ ?_;(repeat' first|exact tv|apply pr|intro hh))
   (all_goals first|exact Ob.mk (fun h=>by cases h)|exact Ob.mk ⟨(fun h=>by cases h),by simp only[];omega,by simp only[];omega⟩|skip)
   refine Ms s k (pZ.1 hh) hs (by show some (1,0+0+(s:Int).toNat*2+1)=_;simp) (.eq (.hp _)) ?_
   (refine Wa _ ?_;(repeat' first|exact tv|apply pr|intro hh))
   (all_goals first|exact Ob.mk (fun h=>by cases h)|exact Ob.mk ⟨(fun h=>by cases h),by simp only[];omega,by simp only[];omega⟩|skip)
   refine Bl rfl rfl ?_
   (refine Wa _ ?_;(repeat' first|exact tv|apply pr|intro hh))
   refine CT rfl rfl ?_
   (refine Wa _ ?_;(repeat' first|exact tv|apply pr|intro hh))
   (all_goals first|exact Ob.mk (fun h=>by cases h)|exact Ob.mk ⟨(fun h=>by cases h),by simp only[];omega,by simp only[];omega⟩|skip)
   refine tT k rfl rfl ?_
   rw[show((oQ (dL (cF w s k) s k) id).lk k).slot=(s:Int)from CU]
   (refine Wa _ ?_;(repeat' first|exact tv|apply pr|intro hh))
   (refine ab.q (ri (oQ (dL (cF w s k) s k) id) s hs kc) [0] ?_;rintro x hx;refine Wp _ ?_;(repeat' first|exact tv|apply pr|intro hh))
   (refine ae.w (rX w k id x) [0] _ ?_;(repeat' first|exact tv|apply pr))
   ·rw[←drop_eq w k s id x xx];exact Hp.aJ _
   ·rw[h3];rfl
   ·exact h4 x ⟨hx.h⟩
  ·obtain⟨q,hq⟩:=p5.1 hh
   refine oN k rfl rfl ?_
   (refine Wa _ ?_;(repeat' first|exact tv|apply pr|intro hh))
   (all_goals first|exact Ob.mk (fun h=>by cases h)|exact Ob.mk ⟨(fun h=>by cases h),by simp only[];omega,by simp only[];omega⟩|skip)
   refine rf k rfl rfl ?_
   (refine Wa _ ?_;(repeat' first|exact tv|apply pr|intro hh))
   all_goals try exact Ob.mk (fun h=>by rw[hq]at h;cases h)
   refine Mt s k q hq (by rw[hq];rfl) (.eq (.hp _)) ?_
   (refine Wa _ ?_;(repeat' first|exact tv|apply pr|intro hh))
   (all_goals first|exact Ob.mk (fun h=>by cases h)|exact Ob.mk ⟨(fun h=>by cases h),by simp only[];omega,by simp only[];omega⟩|skip)
   refine Bl rfl rfl ?_
   (refine Wa _ ?_;(repeat' first|exact tv|apply pr|intro hh))
   refine CT rfl rfl ?_
   (refine Wa _ ?_;(repeat' first|exact tv|apply pr|intro hh))
   (all_goals first|exact Ob.mk (fun h=>by cases h)|exact Ob.mk ⟨(fun h=>by cases h),by simp only[];omega,by simp only[];omega⟩|skip)
   refine tT k rfl rfl ?_
   rw[show((oQ (dL (cF w s k) s k) id).lk k).slot=(s:Int)from CU]
   (refine Wa _ ?_;(repeat' first|exact tv|apply pr|intro hh))
   (refine ab.q (ri (oQ (dL (cF w s k) s k) id) s hs kc) [0] ?_;rintro x hx;refine Wp _ ?_;(repeat' first|exact tv|apply pr|intro hh))
   (refine ae.w (rX w k id x) [0] _ ?_;(repeat' first|exact tv|apply pr))
   ·rw[←drop_eq w k s id x xx];exact Hp.aJ _
   ·rw[h3];rfl
   ·exact h4 x ⟨hx.h⟩
 ·obtain⟨p,hp⟩:=p5.1 hh
  refine rf k rfl rfl ?_
  (refine Wa _ ?_;(repeat' first|exact tv|apply pr|intro hh))
  (all_goals first|exact Ob.mk (fun h=>by cases h)|exact Ob.mk ⟨(fun h=>by cases h),by simp only[];omega,by simp only[];omega⟩|skip)
  refine oN k rfl rfl ?_
  (refine Wa _ ?_;(repeat' first|exact tv|apply pr|intro hh))
  all_goals try exact Ob.mk (fun h=>by rw[hp]at h;cases h)
  refine RI s k p hp (by rw[hp];rfl) (.eq (.hp _)) ?_
  (refine Wa _ ?_;(repeat' first|exact tv|apply pr|intro hh))
  (all_goals first|exact Ob.mk (fun h=>by cases h)|exact Ob.mk ⟨(fun h=>by cases h),by simp only[];omega,by simp only[];omega⟩|skip)
  refine oN k rfl rfl ?_
  (refine Wa _ ?_;(repeat' first|exact tv|apply pr|intro hh))
  (all_goals first|exact Ob.mk (fun h=>by cases h)|exact Ob.mk ⟨(fun h=>by cases h),by simp only[];omega,by simp only[];omega⟩|skip)
  ·refine rf k rfl rfl ?_
   (refine Wa _ ?_;(repeat' first|exact tv|apply pr|intro hh))
   (all_goals first|exact Ob.mk (fun h=>by cases h)|exact Ob.mk ⟨(fun h=>by cases h),by simp only[];omega,by simp only[];omega⟩|skip)
   refine Ms s k (pZ.1 hh) hs (by show some (1,0+0+(s:Int).toNat*2+1)=_;simp) (.eq (.hp _)) ?_
   (refine Wa _ ?_;(repeat' first|exact tv|apply pr|intro hh))
   (all_goals first|exact Ob.mk (fun h=>by cases h)|exact Ob.mk ⟨(fun h=>by cases h),by simp only[];omega,by simp only[];omega⟩|skip)
   refine Bl rfl rfl ?_
   (refine Wa _ ?_;(repeat' first|exact tv|apply pr|intro hh))
   refine CT rfl rfl ?_
   (refine Wa _ ?_;(repeat' first|exact tv|apply pr|intro hh))
   (all_goals first|exact Ob.mk (fun h=>by cases h)|exact Ob.mk ⟨(fun h=>by cases h),by simp only[];omega,by simp only[];omega⟩|skip)
   refine tT k rfl rfl ?_
   rw[show((oQ (dL (cF w s k) s k) id).lk k).slot=(s:Int)from CU]
   (refine Wa _ ?_;(repeat' first|exact tv|apply pr|intro hh))
   (refine ab.q (ri (oQ (dL (cF w s k) s k) id) s hs kc) [0] ?_;rintro x hx;refine Wp _ ?_;(repeat' first|exact tv|apply pr|intro hh))
   (refine ae.w (rX w k id x) [0] _ ?_;(repeat' first|exact tv|apply pr))
   ·rw[←drop_eq w k s id x xx];exact Hp.aJ _
   ·rw[h3];rfl
   ·exact h4 x ⟨hx.h⟩
  ·obtain⟨q,hq⟩:=p5.1 hh
   refine oN k rfl rfl ?_
   (refine Wa _ ?_;(repeat' first|exact tv|apply pr|intro hh))
   (all_goals first|exact Ob.mk (fun h=>by cases h)|exact Ob.mk ⟨(fun h=>by cases h),by simp only[];omega,by simp only[];omega⟩|skip)
   refine rf k rfl rfl ?_
   (refine Wa _ ?_;(repeat' first|exact tv|apply pr|intro hh))
   all_goals try exact Ob.mk (fun h=>by rw[hq]at h;cases h)
   refine Mt s k q hq (by rw[hq];rfl) (.eq (.hp _)) ?_
   (refine Wa _ ?_;(repeat' first|exact tv|apply pr|intro hh))
   (all_goals first|exact Ob.mk (fun h=>by cases h)|exact Ob.mk ⟨(fun h=>by cases h),by simp only[];omega,by simp only[];omega⟩|skip)
   refine Bl rfl rfl ?_
   (refine Wa _ ?_;(repeat' first|exact tv|apply pr|intro hh))
   refine CT rfl rfl ?_
   (refine Wa _ ?_;(repeat' first|exact tv|apply pr|intro hh))
   (all_goals first|exact Ob.mk (fun h=>by cases h)|exact Ob.mk ⟨(fun h=>by cases h),by simp only[];omega,by simp only[];omega⟩|skip)
   refine tT k rfl rfl ?_
   rw[show((oQ (dL (cF w s k) s k) id).lk k).slot=(s:Int)from CU]
   (refine Wa _ ?_;(repeat' first|exact tv|apply pr|intro hh))
   (refine ab.q (ri (oQ (dL (cF w s k) s k) id) s hs kc) [0] ?_;rintro x hx;refine Wp _ ?_;(repeat' first|exact tv|apply pr|intro hh))
   (refine ae.w (rX w k id x) [0] _ ?_;(repeat' first|exact tv|apply pr))
   ·rw[←drop_eq w k s id x xx];exact Hp.aJ _
   ·rw[h3];rfl
   ·exact h4 x ⟨hx.h⟩
theorem ES (w:Wl) (s:Nat) (id:Int):(dG (kX w s id)).eb ((dG w).add (.cells ga 4 (eX ⟨id,s,w.last s,none⟩))):=by
 refine⟨rfl,fun j hj=>?_⟩
 match j with
 | 0=>exact aN (by simp[dG,Hp.add,xq,kX])
 | 1=>exact aN (by simp[dG,Hp.add];rfl)
 | k+2 =>
  by_cases h:k=w.n
  ·subst h;exact aN (by simp[dG,Hp.add,xq,kX,bD])
  ·refine aN ?_
   simp only[dG,Hp.add,xq,kX]
   rw[aX _ _ _ h];exact(if_neg (show¬(k+2=w.n+2) by omega)).symm
def tZ (w:Wl) (id:Int) (k:Nat):Wl:={ w with at_:=bY w.at_ w.pg id k,pg:=w.pg+1 }
theorem add_eq (w:Wl) (s:Nat) (id x:Int):Hx (tZ (app w s id) id w.n) x=Bv w s id x:=by
 obtain⟨h1,h2,h3,h4,h5⟩:=my w s id
 unfold Hx tZ Bv;simp only[h2,h3]
section
variable {i:Nat} {f:Unit→Option (Nat×Nat)} {v:AV} {K:Hp→Prop}
theorem RJ (w:Wl) (s:Nat) (id:Int) (h:w.last s=none) (hs:s<64) (hf:f ()=some (1,s*2)) (hv:fo i v (.hp (pt (some w.n)))) (kk:K (dG (sl (kX w s id) s w.n))):AT i v (fun _=>dG (kX w s id)) f K :=
 CQ s _ hs hf hv (by unfold sl at kk;rw[show(kX w s id).last s=none from h]at kk;exact kk)
theorem RM (w:Wl) (s p:Nat) (id:Int) (h:w.last s=some p) (hf:f ()=some (p+2,3)) (hv:fo i v (.hp (pt (some w.n)))) (kk:K (dG (sl (kX w s id) s w.n))):AT i v (fun _=>dG (kX w s id)) f K :=
 Hl p _ hf hv (by unfold sl at kk;rw[show(kX w s id).last s=some p from h]at kk;exact kk)
theorem RN (w:Wl) (s:Nat) (id:Int) (hs:s<64) (hf:f ()=some (1,s*2+1)) (hv:fo i v (.hp (pt (some w.n)))) (kk:K (dG (app w s id))):AT i v (fun _=>dG (sl (kX w s id) s w.n)) f K :=
 Hj s _ hs hf hv kk
theorem Mu {P:Program} {t:Nat} {w:Wl} (hz:iU P t=some (.pointer none)) {g:Unit→Nat} {n:Unit→Int} (x:Nat) (hg:g ()=0) (hv:fo i v (.hp (pt (some x)))) (cu:aO w.at_ (n ())=none) (k:K (dG (tZ w (n ()) x))):Ni P t i n v (fun _=>dG w) g K:=Oi hz x hg hv cu k
end
theorem ua (pos:Int→Option Nat) (id:Int) (u v:Option Nat):kY (kY pos id u) id v=kY pos id v:=by
 funext j;unfold kY;split <;> rfl
theorem ET (w:Wl) (pos:Int→Option Nat) (hw:dX w pos) (s:Nat) (hs:s<64) (id:Int) (h0:0≤id) (h1:id≤1048575):aa Tryz.prog 187 [WP,.int .i64 fun _=>(s:Int),.int .i64 fun _=>id] (Bw w) (Y:=Wl) (fun w'=>dX w' (kY pos id (some s)))
  (fun _=>.int .i64 fun _=>0) Bw:=by
 (refine aa.q Tryz.func187 rfl fun S ao=>Wa _ ?_;(repeat' first|exact tv|apply pr|intro hh))
 (refine ab.q (Om w s) [0] fun _ _=>Wp _ ?_;(repeat' first|exact tv|apply pr|intro hh))
 all_goals first|(exfalso;omega)|(exfalso;simp at hh;omega)|skip
 (refine ab.q (mD w pos hw id) [0] ?_;rintro w1 Ek;refine Wp _ ?_;(repeat' first|exact tv|apply pr|intro hh))
 (all_goals first|exact Ob.mk (fun h=>by cases h)|exact Ob.mk ⟨(fun h=>by cases h),by simp only[];omega,by simp only[];omega⟩|skip)
 obtain⟨Vz,EU⟩:=Ek.add (id:=id) (s:=s) hs ⟨h0,h1⟩ (by simp[kY])
 obtain⟨e1,e2,e3,e4,e5⟩:=my w1 s id
 have cu:aO (app w1 s id).at_ id=none:=by rw[e2];exact Vz
 have kc:0≤(tZ (app w1 s id) id w1.n).mask∧(tZ (app w1 s id) id w1.n).mask<18446744073709551616:=by
  show 0≤(app w1 s id).mask∧(app w1 s id).mask<_
  rw[e4];exact Ek.Hv
 (all_goals first|exact Ob.mk (fun h=>by cases h)|exact Ob.mk ⟨(fun h=>by cases h),by simp only[];omega,by simp only[];omega⟩|skip)
 refine Bk s hs (by show some (1,0+0+(s:Int).toNat*2+1)=_;simp) rfl ?_
 (refine Wc _ ?_;(repeat' first|exact tv|apply pr|intro hh))
 refine aC.ie 0 1 rfl (dG (kX w1 s id)) (eX ⟨id,s,w1.last s,none⟩) rfl rfl (fun p v h=>?_) ?_ ?_
 ·match p with
  | 0=>cases h;exact .eq (.iq (.int .i64) id)
  | 1=>cases h;exact .eq (.iq (.int .i64) (s:Int))
  | 2=>cases h;exact .eq (.hp _)
  | 3=>cases h;exact .bZ
 ·exact ES w1 s id
 (conv=>whnf)
 (refine Wb _ ?_;(repeat' first|exact tv|apply pr|intro hh))
 (all_goals first|exact Ob.mk (fun h=>by cases h)|exact Ob.mk ⟨(fun h=>by cases h),by simp only[];omega,by simp only[];omega⟩|skip)
 refine Bk s hs (by show some (1,0+0+(s:Int).toNat*2+1)=_;simp) rfl ?_
 (refine Wa _ ?_;(repeat' first|exact tv|apply pr|intro hh))
 (all_goals first|exact Ob.mk (fun h=>by cases h)|exact Ob.mk ⟨(fun h=>by cases h),by simp only[];omega,by simp only[];omega⟩|skip)
 ·have hl:=pZ.1 hh
  refine RJ w1 s id hl hs (by show some (1,0+0+(s:Int).toNat*2+0)=_;simp) (.eq (.hp (pt (some w1.n)))) ?_
  (refine Wa _ ?_;(repeat' first|exact tv|apply pr|intro hh))
  (all_goals first|exact Ob.mk (fun h=>by cases h)|exact Ob.mk ⟨(fun h=>by cases h),by simp only[];omega,by simp only[];omega⟩|skip)
  refine RN w1 s id hs (by show some (1,0+0+(s:Int).toNat*2+1)=_;simp) (.eq (.hp (pt (some w1.n)))) ?_
  (refine Wa _ ?_;(repeat' first|exact tv|apply pr|intro hh))
  (all_goals first|exact Ob.mk (fun h=>by cases h)|exact Ob.mk ⟨(fun h=>by cases h),by simp only[];omega,by simp only[];omega⟩|skip)
  refine Bl rfl rfl ?_
  (refine Wa _ ?_;(repeat' first|exact tv|apply pr|intro hh))
  refine Mu rfl w1.n rfl (.eq (.hp (pt (some w1.n)))) cu ?_
  (refine Wa _ ?_;(repeat' first|exact tv|apply pr|intro hh))
  (refine ab.q (ri (tZ (app w1 s id) id w1.n) s hs kc) [0] ?_;rintro x hx;refine Wp _ ?_;(repeat' first|exact tv|apply pr|intro hh))
  (refine ae.w (Bv w1 s id x) [0] _ ?_;(repeat' first|exact tv|apply pr))
  ·rw[add_eq];exact Hp.aJ _
  ·have:=EU x ⟨hx.h⟩
   exact cast (congrArg (dX (Bv w1 s id x)) (ua pos id none (some s))) this
 ·obtain⟨p,hl⟩:=p5.1 hh
  refine Bk s hs (by show some (1,0+0+(s:Int).toNat*2+1)=_;simp) rfl ?_
  (refine Wa _ ?_;(repeat' first|exact tv|apply pr|intro hh))
  all_goals try exact Ob.mk (fun h=>by rw[hl]at h;cases h)
  (all_goals first|exact Ob.mk (fun h=>by cases h)|exact Ob.mk ⟨(fun h=>by cases h),by simp only[];omega,by simp only[];omega⟩|skip)
  refine RM w1 s p id hl (by rw[hl];rfl) (.eq (.hp (pt (some w1.n)))) ?_
  (refine Wa _ ?_;(repeat' first|exact tv|apply pr|intro hh))
  (all_goals first|exact Ob.mk (fun h=>by cases h)|exact Ob.mk ⟨(fun h=>by cases h),by simp only[];omega,by simp only[];omega⟩|skip)
  refine RN w1 s id hs (by show some (1,0+0+(s:Int).toNat*2+1)=_;simp) (.eq (.hp (pt (some w1.n)))) ?_
  (refine Wa _ ?_;(repeat' first|exact tv|apply pr|intro hh))
  (all_goals first|exact Ob.mk (fun h=>by cases h)|exact Ob.mk ⟨(fun h=>by cases h),by simp only[];omega,by simp only[];omega⟩|skip)
  refine Bl rfl rfl ?_
  (refine Wa _ ?_;(repeat' first|exact tv|apply pr|intro hh))
  refine Mu rfl w1.n rfl (.eq (.hp (pt (some w1.n)))) cu ?_
  (refine Wa _ ?_;(repeat' first|exact tv|apply pr|intro hh))
  (refine ab.q (ri (tZ (app w1 s id) id w1.n) s hs kc) [0] ?_;rintro x hx;refine Wp _ ?_;(repeat' first|exact tv|apply pr|intro hh))
  (refine ae.w (Bv w1 s id x) [0] _ ?_;(repeat' first|exact tv|apply pr))
  ·rw[add_eq];exact Hp.aJ _
  ·have:=EU x ⟨hx.h⟩
   exact cast (congrArg (dX (Bv w1 s id x)) (ua pos id none (some s))) this
structure Mv (pos:Int→Option Nat) (s:Nat) (l:List Int):Prop where
 nd:l.Nodup
 mem:∀ id,id∈l↔pos id=some s
 len:l.length≤1048576
theorem take_succ {L:List Nat} {i k:Nat} (h:L[i]?=some k):L.take (i+1)=L.take i++[k]:=by
 rw[abY,h];rfl
theorem KA (w:Wl) (pos:Int→Option Nat) (hw:dX w pos) (s:Nat) (hs:s<64):aa Tryz.prog 185 [WP,.int .i64 fun _=>(s:Int)] (Bw w) (Y:=List Int) (Mv pos s)
  (fun l=>.aG (.int .i64) fun _=>l) (fun _=>Bw w):=by
 obtain⟨L,Zv,hL,Zw,eZ,bc⟩:=hw.row hs
 (refine aa.q Tryz.func185 rfl fun S ao=>Wa _ ?_;(repeat' first|exact tv|apply pr|intro hh))
 (refine ab.q (Om w s) [0] fun _ _=>Wq _ ?_;(repeat' first|exact tv|apply pr|intro hh))
 (refine Wa _ ?_;(repeat' first|exact tv|apply pr|intro hh))
 ·exfalso;simp at hh;omega
 (all_goals first|exact Ob.mk (fun h=>by cases h)|exact Ob.mk ⟨(fun h=>by cases h),by simp only[];omega,by simp only[];omega⟩|skip)
 refine CP s hs (by show some (1,0+0+(s:Int).toNat*2+0)=_;simp) rfl ?_
 (refine Wc _ ?_;(repeat' first|exact tv|apply pr|intro hh))
 refine aC.nil 3 (.int .i64) none [5] ?_
 (conv=>whnf)
 apply aC.step hm rfl
 (conv=>whnf)
 refine aH.intro hm (X:=Nat) (fun i=>i≤L.length) (fun i=>L.length+1 - i)
  (fun i=>[(0,WP),(4,.aY),(5,.vec 1 1 (fun _=>0) fun _=>i),(6,.hp 0 fun _=>pt L[i]?)])
  (fun i=>[.heap fun _=>dG w,.au 3 (.int .i64) fun _=>(L.take i).map fun k=>(w.lk k).id]) 0 [0,1] ⟨rfl,rfl,?_,?_⟩ (abw _) ?_
 ·exact Vc
 ·(refine Vb _ ?_;(repeat' first|exact tv|apply pr))
  rw[Zv]
 ·intro i hi
  (refine Wa _ ?_;(repeat' first|exact tv|apply pr|intro hh))
  rotate_right
  ·have eH:L.length≤i:=adt.1 (pZ.1 hh)
   (refine ae.im 1 ?_;(conv=>whnf))
   (refine ae.w (L.map fun k=>(w.lk k).id) [0] _ ?_;(repeat' first|exact tv|apply pr))
   ·rw[abo eH,abA];exact abo (by simpa using eH)
   ·exact⟨eZ,bc,by simpa using Zw⟩
  all_goals obtain⟨k,hk⟩:=p5.1 hh
  all_goals try exact Ob.mk (fun h=>by rw[hk]at h;cases h)
  have dp:i<L.length:=(abk.1 hk).1
  refine Kv k (by rw[hk];rfl) rfl ?_
  (refine Wa _ ?_;(repeat' first|exact tv|apply pr|intro hh))
  all_goals try exact Ob.mk (fun h=>by rw[hk]at h;cases h)
  ·refine⟨⟨rfl,?_,?_⟩⟩
   ·show i+1≤_
    omega
   ·show(i+1)*8≤_
    omega
  refine oN k (by rw[hk];rfl) rfl ?_
  (refine Wa _ ?_;(repeat' first|exact tv|apply pr|intro hh))
  refine⟨i+1,[0,1],⟨rfl,rfl,?_,?_⟩,by omega,by omega⟩
  ·(refine Vb _ ?_;(repeat' first|exact tv|apply pr))
   rw[take_succ hk]
   simp[abo,adS]
  ·(refine Vb _ ?_;(repeat' first|exact tv|apply pr))
   rw[hL i k hk]
structure ub (pos:Int→Option Nat) (f:Nat) (y:Option Nat):Prop where
 some_:∀ k,y=some k→f≤k∧k<64∧(∃ id,pos id=some k)∧∀ j,f≤j→j<k→∀ id,pos id≠some j
 none_:y=none→∀ j,f≤j→j<64→∀ id,pos id≠some j
theorem xy (w:Wl) (pos:Int→Option Nat) (hw:dX w pos) (f:Nat) (hf:f≤64):aa Tryz.prog 184 [WP,.int .i64 fun _=>(f:Int)] (Bw w) (Y:=Option Nat) (ub pos f)
  (fun y=>.bM [.int .i64 fun _=>((y.getD 0:Nat):Int),.bool fun _=>y.isSome]) (fun _=>Bw w):=by
 have vF:=hw.Hv
 have sA:w.mask=((w.mask.toNat:Nat):Int):=(abX vF.1).symm
 have hn:=Hu w.mask.toNat f (by have:(2:Nat) ^ 64=18446744073709551616:=rfl;omega) hf
 rw[←sA]at hn
 have RO:∀ j,j<64→w.mask.toNat.testBit j=false→∀ id,pos id≠some j:=fun j hj hb id e=>by
  have:=(hw.bit hj).2 ⟨id,e⟩
  rw[hb]at this;cases this
 (refine aa.q Tryz.func184 rfl fun S ao=>Wa _ ?_;(repeat' first|exact tv|apply pr|intro hh))
 (all_goals first|exact Ob.mk (fun h=>by cases h)|exact Ob.mk ⟨(fun h=>by cases h),by simp only[];omega,by simp only[];omega⟩|skip)
 refine Bm rfl rfl ?_
 (refine Wa _ ?_;(repeat' first|exact tv|apply pr|intro hh))
 (refine ab.q (hn) [] ?_;rintro y hy;refine Wp _ ?_;(repeat' first|exact tv|apply pr|intro hh))
 (refine ae.w y [0] _ ?_;(repeat' first|exact tv|apply pr))
 refine .mk (fun k e=>?_) (fun e=>?_)
 ·subst e
  exact⟨hy.ge,hy.lt,(hw.bit hy.lt).1 hy.one,fun j h1 h2=>RO j (by have:=hy.lt;omega) (hy.no j h1 h2)⟩
 ·subst e
  exact fun j h1 h2=>RO j h2 (hy j h1 h2)
set_option maxRecDepth 4000 in
theorem nK:aa Tryz.prog 106 [] [] (Y:=Wl) (fun w=>dX w fun _=>none)
  (fun _=>WP) Bw:=by
 (refine aa.q Tryz.func106 rfl fun S ao=>Wa _ ?_;(repeat' first|exact tv|apply pr|intro hh))
 ·exact⟨by decide⟩
 (refine ae.im 1 ?_;(conv=>whnf))
 refine ae.mu (fun _=>.map [] 0) ?_
 (conv=>whnf)
 refine ae.gH 3 0 rfl (fun c=>⟨1,fun _=>.map [] c⟩) rfl rfl (fun c=>⟨rfl,fun j hj=>?_⟩) (fun c=>?_)
 ·have:j=0:=by change j<1 at hj;omega
  subst this;exact HO.aJ _
 (conv=>whnf)
 refine ae.ie 3 2 rfl (dG (FT c)) (dR (FT c)) rfl rfl (fun p v h=>?_) ?_ ?_
 ·have h2:(List.replicate 128 AV.bZ++[AV.hm 3 fun _=>0,.aG (.int .u64) fun _=>[0]])[p]?=some v:=h
  by_cases hp:p<128
  ·rw[ads (by simpa using hp)]at h2
   rw[ab0,if_pos hp]at h2
   cases h2
   have e:dR (FT c) p=.hp none:=by
    unfold dR FT pt
    rw[if_pos hp]
    simp
   rw[e];exact .bZ
  ·rw[adp (by simpa using hp)]at h2
   have hl:=(abk.1 h2).1
   simp only[abM,abt,abP]at hl h2
   obtain rfl|rfl:p=128∨p=129:=by omega
   ·cases h2;exact .eq (.hm 0)
   ·cases h2;exact .eq (.iq (.list (.int .u64)) [0])
 ·refine⟨rfl,fun j hj=>?_⟩
  match j,hj with
  | 0,_=>exact HO.aJ _
  | 1,_=>exact HO.aJ _
  | j+2,hj=>exact absurd hj (by show¬(j+2<0+2);omega)
 (conv=>whnf)
 (refine ae.w (FT c) [3] _ ?_;(repeat' first|exact tv|apply pr))
 exact RE c
end Go.Proofs.YthnefnlhcijekaaGreat.Wh
namespace Go.Proofs.YthnefnlhcijekaaGreat.Ti
open Go Go.RowKit Fw Wh
def mE (x y:Int):Int:=if x<y then -1 else if y<x then 1 else 0
theorem Hy (x:Int):aa Tryz.prog 103 [.int .i64 fun _=>x] [] (Y:=Unit) (fun _=>True) (fun _=>.bool fun _=>false) (fun _=>[]):=by
 (refine aa.q Tryz.func103 rfl fun S ao=>Wa _ ?_;(repeat' first|exact tv|apply pr|intro hh))
 (refine ae.w () [] _ ?_;(repeat' first|exact tv|apply pr))
 all_goals simp
theorem uc (x y:Int):aa Tryz.prog 51 [.int .i64 fun _=>x,.int .i64 fun _=>y] [] (Y:=Unit) (fun _=>True) (fun _=>.int .i64 fun _=>mE x y) (fun _=>[]):=by
 (refine aa.q Tryz.func51 rfl fun S ao=>Wa _ ?_;(repeat' first|exact tv|apply pr|intro hh))
 (refine ab.q (Hy x) [] fun _ _=>Wp _ ?_;(repeat' first|exact tv|apply pr|intro hh))
 (refine ab.q (Hy y) [] fun _ _=>Wp _ ?_;(repeat' first|exact tv|apply pr|intro hh))
 ·(refine ae.w () [] _ ?_;(repeat' first|exact tv|apply pr))
  simp[mE,hh]
 ·(refine ae.w () [] _ ?_;(repeat' first|exact tv|apply pr))
  rename_i h1
  simp[mE,hh,h1]
 ·(refine ae.w () [] _ ?_;(repeat' first|exact tv|apply pr))
  rename_i h1
  simp[mE,hh,h1]
theorem orM (x y:Int):aa Tryz.prog 50 [.vec 0 1 (fun _=>0) fun _=>2] [.au 3 (.int .i64) fun _=>[x,y]] (Y:=Unit) (fun _=>True) (fun _=>.int .i64 fun _=>if x=0 then y else x)
  (fun _=>[.au 3 (.int .i64) fun _=>[x,y]]):=by
 (refine aa.q Tryz.func50 rfl fun S ao=>Wa _ ?_;(repeat' first|exact tv|apply pr|intro hh))
 refine aH.intro hm (X:=Nat) (fun i=>i≤2∧(1≤i→x=0)∧(2≤i→y=0)) (fun i=>2 - i)
  (fun i=>[(3,.int .i64 fun _=>0),(6,.vec 0 1 (fun _=>0) fun _=>2),(7,.int .i64 fun _=>2),(8,.int .i64 fun _=>(i:Int))])
  (fun i=>[.au 3 (.int .i64) fun _=>[x,y]]) 0 [0] ⟨rfl,rfl,?_,?_⟩ ⟨by omega,by omega,by omega⟩ ?_
 ·exact Vc
 ·exact Vc
 ·intro i hi
  obtain⟨h1,h2,h3⟩:=hi
  have e0:[x,y].getD 0 (Ty.int .i64).a8=x:=rfl
  have e1:[x,y].getD 1 (Ty.int .i64).a8=y:=rfl
  obtain rfl|rfl|rfl:i=0∨i=1∨i=2:=by omega
  ·(refine Wa _ ?_;(repeat' first|exact tv|apply pr|intro hh))
   ·exact⟨by simp⟩
   ·(refine ae.w () [0] _ ?_;(repeat' first|exact tv|apply pr))
    change x≠0 at hh
    simp[hh,e0]
   ·change x=0 at hh
    refine⟨1,[0],⟨rfl,rfl,?_,?_⟩,⟨by omega,fun _=>hh,by omega⟩,by omega⟩
    ·exact Vc
    ·exact Vc
  ·have hx:=h2 (by omega)
   (refine Wa _ ?_;(repeat' first|exact tv|apply pr|intro hh))
   ·exact⟨by simp⟩
   ·(refine ae.w () [0] _ ?_;(repeat' first|exact tv|apply pr))
    simp[hx,e1]
   ·change y=0 at hh
    refine⟨2,[0],⟨rfl,rfl,?_,?_⟩,⟨by omega,fun _=>hx,fun _=>hh⟩,by omega⟩
    ·exact Vc
    ·exact Vc
  ·(refine Wa _ ?_;(repeat' first|exact tv|apply pr|intro hh))
   all_goals try exact absurd hh (by decide)
   (refine ae.w () [0] _ ?_;(repeat' first|exact tv|apply pr))
   simp[h2 (by omega),h3 (by omega)]
def rj (es:List (Nat×Int×Int)):List (Nat×Int×HV):=es.map fun e=>(e.1,e.2.1,.iq (.int .i64) e.2.2)
def sm (es:List (Nat×Int×Int)) (c:Nat):Hp:=⟨1,fun _=>.map (rj es) c⟩
def bp (es:List (Nat×Int×Int)) (id:Int):Int:=(aO es id).getD 0
def p6 (es:List (Nat×Int×Int)) (a b:Int):Int:=if mE (bp es a) (bp es b)=0 then mE a b else mE (bp es a) (bp es b)
theorem mF (es:List (Nat×Int×Int)) (n:Int):aO (rj es) n=(aO es n).map fun d=>HV.iq (.int .i64) d:=by
 induction es with
 | nil=>rfl
 | cons e r ih =>
  obtain⟨b,k,x⟩:=e
  simp only[rj,abH,aO]
  split
  ·rfl
  ·exact ih
theorem zh {P:Program} {t i c:Nat} {es:List (Nat×Int×Int)} {K:AV→Prop} {g:Unit→Nat} {n:Unit→Int} (hz:iU P t=some (.int .i64 0)) (hg:g ()=0)
  (k:K (.int .i64 fun _=>bp es (n ()))):PR P t false i (fun _=>sm es c) g n K :=
 ⟨rj es,c,_,rfl,hz,fun v hv=>by
  rw[mF]at hv
  cases h:aO es (n ())with
  | none=>rw[h]at hv;cases hv
  | some d =>
   rw[h]at hv;cases hv;have e:bp es (n ())=d:=by simp[bp,h]
   rw[e]at k;exact k,fun hv=>by
  rw[mF]at hv
  cases h:aO es (n ())with
  | none =>
   have e:bp es (n ())=0:=by simp[bp,h]
   rw[e]at k;exact k
  | some d=>rw[h]at hv;cases hv⟩
theorem Hz {P:Program} {t i c:Nat} {es:List (Nat×Int×Int)} {K:AV→Prop} {g:Unit→Nat} {n:Unit→Int} (hz:iU P t=some (.int .i64 0)) (hg:g ()=0)
  (k1:∀ d,aO es (n ())=some d→K (.bM [.int .i64 fun _=>d,.tt])) (k0:aO es (n ())=none→K (.bM [.int .i64 fun _=>0,.ff])):PR P t true i (fun _=>sm es c) g n K :=
 ⟨rj es,c,_,rfl,hz,fun v hv=>by
  rw[mF]at hv
  cases h:aO es (n ())with
  | none=>rw[h]at hv;cases hv
  | some d=>rw[h]at hv;cases hv;exact k1 d h,fun hv=>by
  rw[mF]at hv
  cases h:aO es (n ())with
  | none=>exact k0 h
  | some d=>rw[h]at hv;cases hv⟩
abbrev TR:AV:=.cL [.undef,.hm 1 fun _=>0,.undef,.undef,.undef,.undef,.undef,.undef] 0
theorem On (es:List (Nat×Int×Int)) (c:Nat) (a b:Int):aa Tryz.prog 130 [.int .i64 fun _=>a,.int .i64 fun _=>b,.cL [TR] 0] [.none,.heap fun _=>sm es c] (Y:=Unit) (fun _=>True) (fun _=>.int .i64 fun _=>p6 es a b)
  (fun _=>[.none,.heap fun _=>sm es c]):=by
 (refine aa.q Tryz.func130 rfl fun S ao=>Wa _ ?_;(repeat' first|exact tv|apply pr|intro hh))
 refine zh rfl rfl ?_
 (refine Wa _ ?_;(repeat' first|exact tv|apply pr|intro hh))
 refine zh rfl rfl ?_
 (refine Wa _ ?_;(repeat' first|exact tv|apply pr|intro hh))
 (refine ab.q (uc (bp es a) (bp es b)) [] fun _ _=>Wp _ ?_;(repeat' first|exact tv|apply pr|intro hh))
 all_goals ((refine ab.q (uc a b) [] fun _ _=>Wp _ ?_;(repeat' first|exact tv|apply pr|intro hh)))
 (refine ab.q (orM (mE (bp es a) (bp es b)) (mE a b)) [2] fun _ _=>Wp _ ?_;(repeat' first|exact tv|apply pr|intro hh))
 exact ae.z () [0,1]
end Go.Proofs.YthnefnlhcijekaaGreat.Ti
