/- What the laws of this chapter rest on, for every input; part 3. -/
import Derived.Test.YthnefnlhcijekaaGreatMC1
import Derived.Test.YthnefnlhcijekaaGreatProg
set_option linter.unusedVariables false
set_option linter.unusedSimpArgs false
set_option maxHeartbeats 1000000
namespace Go.Proofs.YthnefnlhcijekaaGreat.Fw
open Go Go.RowKit
def ri:Nat->List Nat
 | 0=>[]|n+1=>ri n++[n]
theorem jm:∀ n,(ri n).length=n
 | 0=>rfl
 | n+1=>by simp[ri,jm n]
theorem oa:∀ (n i:Nat),i<n->(ri n)[i]?=some i
 | 0,i,h=>by omega
 | n+1,i,h=>by
  simp only[ri];by_cases hi:i<n
  .rw[ab1 (by rw[jm];exact hi)];exact oa n i hi
  .have:i=n:=by omega
   subst this;rw[abZ (by rw[jm];exact Z8 _)];simp[jm]
def Ex.code:Ex->Option Code
 | .normal=>none|.ret=>some .ret|.exit n=>some (.exit n)
structure qv (P:Program) (N:Nat) (S:Sc) (Lo:Operand) (ps:List Nat) (assign body:Code) (φ:List Nat) (env:Env) (E:List Chunk) (K:Ex->Env->List Chunk->Prop) (cG:Env) (E1:List Chunk):Prop where
 h:∃ (gf:FuncId) (captured lb:List AV) (α:Type) (gY:α->List AV) (xs:List α) (X:Type) (inv:Nat->X->Prop) (Kx:Ex->X->Prop) (ch:X->List Chunk) (x0:X),
  ev cG Lo=.fn (.func gf) [] captured/\r0 [] captured lb/\jl P gf lb gY xs/\(∀ x,(gY x).length=ps.length)/\(∀ p∈ps,p<N)/\o0 (ri (ah E)) E1 (ri (ah E)) (ch x0)/\(∀ x,eC (ch x0) (ch x)=true)/\(eR assign=true/\eR body=true)/\inv 0 x0 /\
  (∀ (S1 S2:Sc) k x y,xs[k]?=some y->inv k x->fl P N S1 (bw (ch x0)) assign (nz ps (gY y) (ba (okF (ch x0)) cG)) (ch x) fun e aj E'=>(match e with
   | .normal=>fl P N S2 (bw (ch x0)) body aj E' fun e jS Qa=>(match e with
    | .normal=>∃ x' π,bH π=true/\gx (bw (ch x0)) 0 π=true/\o0 π Qa π (ch x')/\inv (k+1) x'
    | e=>∃ x' π,bH π=true/\gx (bw (ch x0)) 0 π=true/\o0 π Qa π (ch x')/\Kx e x')
   | _=>False)) /\
  (∀ x,inv xs.length x->nA (ch x0) (ch x)=true/\K .normal (ba (wA φ E) env) (ky (wA φ E) φ 0 E (ch x))) /\
  (∀ e x,Kx e x->e≠.normal->nA (ch x0) (ch x)=true/\K e (ba (wA φ E) env) (ky (wA φ E) φ 0 E (ch x)))
theorem yu {B:bS} {g g1 g2:Gh} {env:Env} {E E1 gy ch:List Chunk} {tmps:Array Value} {w W1 W5:World} {φ:List Nat} {D:Nat} (hI:Inv B g env E tmps w)
  (rj:g.dN g1) (hΦ1:∀ b o,g.Φ b=some o->g1.Φ b=some o) (kW:∀ i,i∈φ->af E1 i=.none) (TV:∀ i,i∉φ->kd (af E1 i)=kd (af E i)) (kj:∀ i∈φ,∀ b,(af E i).own g i b->∃ o,g1.Φ b=some o) (uY:eE g1 E1 w)
  (hle:o0 (ri (ah E)) E1 (ri (ah E)) gy) (mZ:Grown w W1) (hD:w.heap.size<=D) (Ga:W5.heap[D]?=some (.deferred (some [])))
  (DG:eE g2 ch W5) (hx:Ext ⟨g1.dC (ri (ah E)),gy,W1⟩ g2 ch W5) (O4:eC gy ch=true) (Qb:nA gy ch=true) :
  ∃ gf,Inv (B.mark D) gf (ba (wA φ E) env) (ky (wA φ E) φ 0 E ch) tmps W5:=by
 have hlen:=hI.aW.len;obtain⟨XL,wC⟩:=mD O4;have zO:ah gy=ah E:=by rw[o5 _ _ hle,jm]
 have TW:ah ch<=ah E:=by omega
 have Qc:∀ i,i<ah E->rH (ri (ah E)) (af E1 i) (af gy i):=by
  intro i hi;rcases qq _ _ hle i with⟨j,hj,hc⟩|hc
  .rw[oa _ _ hi]at hj;cases hj;exact hc
  .rw[hc];cases af E1 i <;> trivial
 have xS:∀ i,¬i<ah E->af gy i=.none:=fun i hi=>kr _ _ (by omega);have wD:∀ i,bN gy i=true->i<ah E/\i∉φ/\kd (af E i)=kd (af gy i):=by
  intro i ha;have hi:i<ah E:=by
   by_cases hi:i<ah E
   .exact hi
   .simp[bN,xS i hi]at ha
  have hc:=Qc i hi;have nW:i∉φ:=fun hm=>by
   rw[kW i hm]at hc;have:=yn hc;simp[bN,this]at ha
  refine⟨hi,nW,?_⟩;rw[<-TV i nW];cases h0:af gy i with
  | none=>simp[bN,h0]at ha
  | count k=>simp[bN,h0]at ha
  | jd _ _ _=>simp[bN,h0]at ha
  | row _ _ _=>simp[bN,h0]at ha
  | heap _=>simp[bN,h0]at ha
  | bq _=>simp[bN,h0]at ha
  | je _ _ _ _=>simp[bN,h0]at ha
  | iZ _ _=>simp[bN,h0]at ha
  | cells T cs=>rw[h0]at hc;cases h1:af E1 i <;> rw[h1]at hc <;> first|rfl|exact hc.elim
  | aq T t xs=>rw[h0]at hc;cases h1:af E1 i <;> rw[h1]at hc <;> first|rfl|exact hc.elim
 have K1:∀ i,bN gy i≠true->af ch i=.none\/yt gy (af ch i)=false:=by
  intro i ha;have hk:=wC i;cases h0:af gy i with
  | none=>rw[h0]at hk;cases h1:af ch i <;> rw[h1]at hk <;> first|exact .inl rfl|(simp[kd]at hk;done)
  | count k=>rw[h0]at hk;cases h1:af ch i <;> rw[h1]at hk <;> first|exact .inr rfl|(simp[kd]at hk;done)
  | jd k ks vs=>rw[h0]at hk;cases h1:af ch i <;> rw[h1]at hk <;> first|exact .inr rfl|(simp[kd]at hk;done)
  | row T t xs=>rw[h0]at hk;cases h1:af ch i <;> rw[h1]at hk <;> first|exact .inr rfl|(simp[kd]at hk;done)
  | heap _=>rw[h0]at hk;cases h1:af ch i <;> rw[h1]at hk <;> first|exact .inr rfl|(simp[kd]at hk;done)
  | bq _=>rw[h0]at hk;cases h1:af ch i <;> rw[h1]at hk <;> first|exact .inr rfl|(simp[kd]at hk;done)
  | je _ _ _ _=>rw[h0]at hk;cases h1:af ch i <;> rw[h1]at hk <;> first|exact .inr rfl|(simp[kd]at hk;done)
  | iZ _ _=>rw[h0]at hk;cases h1:af ch i <;> rw[h1]at hk <;> first|exact .inr rfl|(simp[kd]at hk;done)
  | cells T cs=>exact(ha (by simp[bN,h0])).elim
  | aq T t xs=>exact(ha (by simp[bN,h0])).elim
 have MV:=eG Qb;have oK:∀ i,bN gy i≠true->af ch i=.none:=by
  intro i ha;rcases K1 i ha with h1|h1
  .exact h1
  .have:=MV i;rw[h1]at this;cases this
 let gf:Gh:={ n:=g.n,Φ:=fun b=>if b=D then some (.deferred (some []))else g.Φ b,B:=fun i=>if bN gy i=true then g2.B i else g.B i,V:=fun i=>if bN gy i=true then g2.V i else g.V i,L:=fun i=>if bN gy i=true then g2.L i else g.L i,k:=g.k,W:=g.W,M:=g.M }
 have hltΦ:∀ b o,g.Φ b=some o->b≠D:=fun b o hb e=>by have:=bo (hI.aW.dn b o hb);omega
 have hΦf:∀ b o,g.Φ b=some o->gf.Φ b=some o:=fun b o hb=>by
  show(if b=D then some (.deferred (some []))else g.Φ b)=some o;rw[ZY (hltΦ b o hb)];exact hb
 have fB:∀ i,bN gy i=true->gf.B i=g2.B i:=fun i h=>by show(if bN gy i=true then g2.B i else g.B i)=_;rw[Z0 h]
 have fV:∀ i,bN gy i=true->gf.V i=g2.V i:=fun i h=>by show(if bN gy i=true then g2.V i else g.V i)=_;rw[Z0 h]
 have fL:∀ i,bN gy i=true->gf.L i=g2.L i:=fun i h=>by show(if bN gy i=true then g2.L i else g.L i)=_;rw[Z0 h]
 have nB:∀ i,bN gy i≠true->gf.B i=g.B i:=fun i h=>by show(if bN gy i=true then g2.B i else g.B i)=_;rw[ZY h]
 have nV:∀ i,bN gy i≠true->gf.V i=g.V i:=fun i h=>by show(if bN gy i=true then g2.V i else g.V i)=_;rw[ZY h]
 have nL:∀ i,bN gy i≠true->gf.L i=g.L i:=fun i h=>by show(if bN gy i=true then g2.L i else g.L i)=_;rw[ZY h]
 have V6:∀ i,i<ah E->(g1.dC (ri (ah E))).B i=g.B i:=fun i hi=>by rw[(fF g1 (oa _ i hi)).1,rj.B]
 have V7:∀ i,i<ah E->(g1.dC (ri (ah E))).V i=g.V i:=fun i hi=>by rw[(fF g1 (oa _ i hi)).2.1,rj.V]
 have XM:∀ i,i<ah E->(g1.dC (ri (ah E))).L i=g.L i:=fun i hi=>by rw[(fF g1 (oa _ i hi)).2.2,rj.L]
 have Gb:∀ i,isCells (af E i)=true->gf.B i=g.B i/\gf.V i=g.V i/\gf.L i=g.L i:=by
  intro i hc;by_cases ha:bN gy i=true
  .obtain⟨hi,nW,hk⟩:=wD i ha
   rw[fB i ha,fV i ha,fL i ha];cases h0:af gy i with
   | cells T cs =>
    have h1:=hx.ids i (by show c8 (af gy i)=true;rw[h0];rfl);rw[h1.1,h1.2.1,h1.2.2];exact⟨V6 i hi,V7 i hi,XM i hi⟩
   | none=>simp[bN,h0]at ha
   | count k=>simp[bN,h0]at ha
   | jd _ _ _=>simp[bN,h0]at ha
   | row _ _ _=>simp[bN,h0]at ha
   | heap _=>simp[bN,h0]at ha
   | bq _=>simp[bN,h0]at ha
   | je _ _ _ _=>simp[bN,h0]at ha
   | iZ _ _=>simp[bN,h0]at ha
   | aq T t xs=>rw[h0]at hk;cases hE:af E i <;> rw[hE]at hc hk <;> first|(cases hc;done)|(simp[kd]at hk;done)
  .exact⟨nB i ha,nV i ha,nL i ha⟩
 have MW:∀ i,isCells (af E i)=true->gf.B i=g.B i:=fun i hc=>(Gb i hc).1;have hinφ:∀ i,wx φ i=true->bN gy i≠true:=fun i h ha=>(wD i ha).2.1 (BR.1 h);have r6:∀ v u,isRef v=true->R g v u->R gf (wA φ E v) u:=by
  intro v u hv hr;cases hr <;> first|(cases hv;done)|skip
  .rename_i i off hi
   simp only[wA];split
   .rename_i hm;rw[<-nB i (hinφ i hm)];exact .ptr (g:=gf) _ _ hi
   .split
    .rename_i hc;rw[<-MW i hc];exact .ptr (g:=gf) _ _ hi
    .exact .undef _
  .rename_i i sz idx off hi hL
   simp only[wA];split
   .rename_i hm;rw[<-nB i (hinφ i hm)];exact .bg (g:=gf) _ _ _ _ hi (by rw[nL i (hinφ i hm)];exact hL)
   .exact .undef _
  .rename_i i sz off n A c hi hL hn hs
   simp only[wA];split
   .rename_i hm
    exact .vec (g:=gf) _ _ _ _ A c hi (by rw[nL i (hinφ i hm)];exact hL) (by rw[nV i (hinφ i hm)];exact hn) (by rw[nV i (hinφ i hm),nB i (hinφ i hm)];exact hs)
   .exact .undef _
  .exact .undef _
  .exact .undef _
  .exact .undef _
 have TX:g2.n=g.n:=by have:=DG.len;omega
 have XN:o9 gy g2 gf:=⟨ab4 TX,fB,fV,fL⟩
 have cL:∀ i,af (ky (wA φ E) φ 0 E ch) i=if wx φ i=true then dg (wA φ E) (af E i)else af ch i:=fun i=>by rw[wB _ _ _ _ _ _ TW,aaf]
 have hblk:∀ i b,(af (ky (wA φ E) φ 0 E ch) i).own gf i b->(wx φ i=true/\(af E i).own g i b)\/(wx φ i=false/\bN gy i=true/\(af ch i).own g2 i b):=by
  intro i b hb;rw[cL]at hb;split at hb
  .rename_i hm
   rw[iI,Chunk.n5 (nB i (hinφ i hm)) (nV i (hinφ i hm)) rfl rfl]at hb;exact .inl ⟨hm,hb⟩
  .rename_i hm
   have ha:bN gy i=true:=aaG fun ha=>by rw[oK i ha]at hb;cases hb
   rw[Chunk.BT (F8 (MV i)) (fB i ha) (fV i ha)]at hb;exact .inr ⟨by simpa using hm,ha,hb⟩
 have wE:∀ i b,wx φ i=true->(af E i).own g i b->b<w.heap.size/\g2.Φ b≠none/\W5.heap[b]?=w.heap[b]?:=by
  intro i b hm hb;obtain⟨o,ho⟩:=kj i (BR.1 hm) b hb;have OX:g2.Φ b=some o:=hx.dn b o ho;refine⟨eQ (hI.aW.sat i) hb,by rw[OX];simp,?_⟩;rw[DG.dn b o OX,uY.dn b o ho]
 have Lp:∀ b,(⟨g1.dC (ri (ah E)),gy,W1⟩:bS).owns b->∃ i,(af E i).own g i b:=by
  rintro b ⟨i,hi⟩;have ha:bN gy i=true:=aaG fun ha=>by
   cases h0:af gy i with
   | none=>rw[h0]at hi;cases hi
   | count k=>rw[h0]at hi;cases hi
   | jd k ks vs=>have h1:=oK i ha;have hk:=wC i;rw[h0,h1]at hk;simp[kd]at hk
   | row k ks vs=>have h1:=oK i ha;have hk:=wC i;rw[h0,h1]at hk;simp[kd]at hk
   | heap _=>have h1:=oK i ha;have hk:=wC i;rw[h0,h1]at hk;simp[kd]at hk
   | bq _=>have h1:=oK i ha;have hk:=wC i;rw[h0,h1]at hk;simp[kd]at hk
   | je _ _ _ _=>have h1:=oK i ha;have hk:=wC i;rw[h0,h1]at hk;simp[kd]at hk
   | iZ _ _=>have h1:=oK i ha;have hk:=wC i;rw[h0,h1]at hk;simp[kd]at hk
   | cells T cs=>exact ha (by simp[bN,h0])
   | aq T t xs=>exact ha (by simp[bN,h0])
  obtain⟨dp,nW,hk⟩:=wD i ha;refine⟨i,?_⟩;rw[MS hk];have h1:Ac (af gy i)=true:=by cases h0:af gy i <;> first|rfl|(simp[bN,h0]at ha;done)
  rw[Chunk.BT (g:=g1.dC (ri (ah E))) h1 (V6 i dp).symm (V7 i dp).symm];exact hi
 have Qd:∀ b,W1.heap.size<=b\/(⟨g1.dC (ri (ah E)),gy,W1⟩:bS).owns b->B.w.heap.size<=b\/B.owns b:=by
  rintro b (h1|h1)
  .exact .inl (aaA (aaA hI.ext.size mZ.size) h1)
  .obtain⟨i,hi⟩:=Lp b h1
   exact hI.ext.own i b hi
 have BW:∀ b,(B.mark D).owns b↔B.owns b:=fun b=>by
  constructor
  .rintro⟨i,hi⟩;refine⟨i,?_⟩;exact(Chunk.n5 rfl rfl rfl rfl).mp hi
  .rintro⟨i,hi⟩;refine⟨i,?_⟩;exact(Chunk.n5 rfl rfl rfl rfl).mp hi
 refine⟨gf,fun t=>by rw[cU];exact R.map (g:=g) (g':=gf) _ hΦf r6 (hI.er t),⟨by rw[s5];exact hlen,fun b o hb=>?_,fun i=>?_,fun i j b hi hj=>?_,fun i b hi=>?_⟩,
  ⟨hx.os.trans (mZ.os.trans hI.ext.os),hx.tape.trans (mZ.tape.trans hI.ext.tape),hx.output.trans (mZ.output.trans hI.ext.output),aaA hI.ext.size (aaA mZ.size hx.size),fun b h1 h2=>?_,fun b o hb=>?_,fun b o hb=>?_,fun i b hi=>?_,?_,fun i hi=>?_,hI.ext.kk,Fu (fun i T' t xs hi hv=>?_) (fun i T' cs hi hv=>?_),hI.ext.rC,hI.ext.qi⟩⟩
 .have mC:(if b=D then some (.deferred (some []))else g.Φ b)=some o:=hb
  clear hb;split at mC
  .rename_i e;rw[e,Ga];exact mC
  .exact DG.dn b o (hx.dn b o (hΦ1 b o mC))
 .rw[cL]
  split
  .rename_i hm
   exact Chunk.o6 (g:=g) (g':=gf) _ hΦf r6 (nB i (hinφ i hm)) (nV i (hinφ i hm)) (nL i (hinφ i hm)) rfl rfl rfl (fun h=>h) (fun b hb=>(wE i b hm hb).2.2) (hI.aW.sat i)
  .rename_i hm
   refine vi XN ?_ (MV i) (fun _ _=>rfl) (DG.sat i);by_cases ha:bN gy i=true
   .exact .inl ha
   .exact .inr (oK i ha)
 .rcases hblk i b hi with⟨h1,h2⟩|⟨h1,h2,h3⟩ <;> rcases hblk j b hj with⟨h4,h5⟩|⟨h4,h5,h6⟩
  .exact hI.aW.lf i j b h2 h5
  .exact((wE i b h1 h2).2.1 (DG.dE j b h6)).elim
  .exact((wE j b h4 h5).2.1 (DG.dE i b h3)).elim
  .exact DG.lf i j b h3 h6
 .show(if b=D then some (.deferred (some []))else g.Φ b)=none
  rcases hblk i b hi with⟨h1,h2⟩|⟨h1,h2,h3⟩
  .rw[ZY (by have:=(wE i b h1 h2).1;omega)];exact hI.aW.dE i b h2
  .obtain⟨o4,h4,XO⟩:=mE (DG.sat i) h3
   rw[ZY (fun e=>by rw[e,Ga]at h4;cases h4;cases XO)];cases hp:g.Φ b with
   | none=>rfl
   | some o=>have:=hx.dn b o (hΦ1 b o hp);rw[DG.dE i b h3]at this;cases this
 .have Gc:¬B.owns b:=fun h=>h2 ((BW b).2 h)
  have xB:b<B.w.heap.size:=h1;have h3:b<w.heap.size:=aag xB hI.ext.size;rw[hx.cz b (aag h3 mZ.size) (fun ho=>by
   obtain⟨i,hi⟩:=Lp b ho;rcases hI.ext.own i b hi with h4|h4
   .omega
   .exact Gc h4),mZ.same b h3]
  exact hI.ext.cz b xB Gc
 .have mC:(if b=D then some (.deferred (some []))else B.g.Φ b)=some o:=hb
  clear hb;show(if b=D then some (.deferred (some []))else g.Φ b)=some o;split at mC
  .rename_i e;rw[Z0 e];exact mC
  .rename_i e;rw[ZY e];exact hI.ext.dn b o mC
 .have mC:(if b=D then some (.deferred (some []))else g.Φ b)=some o:=hb
  clear hb;split at mC
  .rename_i e
   left;show(if b=D then some (.deferred (some []))else B.g.Φ b)=some o;rw[Z0 e];exact mC
  .rename_i e
   rcases hI.ext.fz b o mC with h1|h1|h1
   .left
    show(if b=D then some (.deferred (some []))else B.g.Φ b)=some o;rw[ZY e];exact h1
   .exact .inr (.inl h1)
   .exact .inr (.inr ((BW b).2 h1))
 .rcases hblk i b hi with⟨h1,h2⟩|⟨h1,h2,h3⟩
  .exact(hI.ext.own i b h2).imp id (BW b).2
  .exact(Qd b (hx.own i b h3)).imp id (BW b).2
 .exact hI.ext.n
 .have dW:c8 (af B.E i)=true:=hi
  by_cases ha:bN gy i=true
  .obtain⟨dp,nW,hk⟩:=wD i ha
   have hc:isCells (af E i)=true:=by
    cases hE:af E i with
    | cells _ _=>rfl
    | none=>rw[hE]at hk;cases h0:af gy i <;> rw[h0]at hk <;> first|(simp[kd]at hk;done)|(simp[bN,h0]at ha;done)
    | count k=>rw[hE]at hk;cases h0:af gy i <;> rw[h0]at hk <;> first|(simp[kd]at hk;done)|(simp[bN,h0]at ha;done)
    | jd k ks vs=>rw[hE]at hk;cases h0:af gy i <;> rw[h0]at hk <;> first|(simp[kd]at hk;done)|(simp[bN,h0]at ha;done)
    | row k ks vs=>rw[hE]at hk;cases h0:af gy i <;> rw[h0]at hk <;> first|(simp[kd]at hk;done)|(simp[bN,h0]at ha;done)
    | heap _=>rw[hE]at hk;cases h0:af gy i <;> rw[h0]at hk <;> first|(simp[kd]at hk;done)|(simp[bN,h0]at ha;done)
    | bq _=>rw[hE]at hk;cases h0:af gy i <;> rw[h0]at hk <;> first|(simp[kd]at hk;done)|(simp[bN,h0]at ha;done)
    | je _ _ _ _=>rw[hE]at hk;cases h0:af gy i <;> rw[h0]at hk <;> first|(simp[kd]at hk;done)|(simp[bN,h0]at ha;done)
    | aq T' t' Iz=>exact(jg (hI.ext.mY i dW) hE).elim
    | iZ _ _=>exact(sv (hI.ext.mY i dW) hE).elim
   have h1:=Gb i hc;rw[h1.1,h1.2.1,h1.2.2];exact hI.ext.ids i dW
  .rw[nB i ha,nV i ha,nL i ha];exact hI.ext.ids i dW
 .have dW:c8 (af B.E i)=true:=hi
  rw[cL]at hv;split at hv
  .cases hE:af E i with
   | none=>rw[hE]at hv;cases hv
   | count k=>rw[hE]at hv;cases hv
   | cells _ _=>rw[hE]at hv;cases hv
   | jd _ _ _=>rw[hE]at hv;cases hv
   | row _ _ _=>rw[hE]at hv;cases hv
   | heap _=>rw[hE]at hv;cases hv
   | bq _=>rw[hE]at hv;cases hv
   | je _ _ _ _=>rw[hE]at hv;cases hv
   | iZ _ _=>rw[hE]at hv;cases hv
   | aq _ _ _=>exact jg (hI.ext.mY i dW) hE
  .have ha:bN gy i=true:=aaG fun ha=>by rw[oK i ha]at hv;cases hv
   obtain⟨dp,nW,hk⟩:=wD i ha;have yh:=wC i;rw[hv]at yh;rw[<-yh]at hk;cases hE:af E i <;> first|exact jg (hI.ext.mY i dW) hE|(rw[hE]at hk;simp[kd]at hk;done)
 .have dW:c8 (af B.E i)=true:=hi
  rw[cL]at hv;split at hv
  .cases hE:af E i <;> first|exact sv (hI.ext.mY i dW) hE|(rw[hE]at hv;cases hv;done)
  .have ha:bN gy i=true:=aaG fun ha=>by rw[oK i ha]at hv;cases hv
   obtain⟨dp,nW,hk⟩:=wD i ha;have yh:=wC i;rw[hv]at yh;rw[<-yh]at hk;cases hE:af E i <;> first|exact sv (hI.ext.mY i dW) hE|(rw[hE]at hk;simp[kd]at hk;done)
end Go.Proofs.YthnefnlhcijekaaGreat.Fw
set_option maxHeartbeats 1000000
namespace Go.Proofs.YthnefnlhcijekaaGreat.Fw
open Go Go.RowKit
theorem Jj {g:Gh} {u:Value} {gf:FuncId} {captured:List AV} (h:R g (.fn (.func gf) [] captured) u):∃ ws:Array Value,u=.func (.func gf) #[] ws/\RL g captured ws.toList:=by
 cases h with|fn _ _ _ vs ws hl k9 hr qS =>
 have e1:vs=#[]:=aa8 (by simpa using hl.symm);subst e1;exact⟨ws,rfl,RL.mk (by simpa using k9) fun i y u h1 h2=>qS i y u h1 (by simpa using h2)⟩
theorem aB.range {P:Program} {N:Nat} {M:List Bool} {S:Sc} {Lo:Operand} {ps:Array Tmp} {assign body:Code} {env:Env} {E:List Chunk} {K:Ex->Env->List Chunk->Prop} (hm:P.follows .mixedOrders=true) (aw:S.ok=true) (φ:List Nat)
  (h:yo φ env E fun cG E1=>qv P N S Lo ps.toList assign body φ env E K cG E1):aB P N S M (.rangeFunc Lo ps assign body) env E K where
 h:=by
  intro r g a w hr hM ⟨B,hB,hI,hd⟩ hN;have qS:r=none:=hr.resolve_right (by simp[eR]);subst qS;obtain⟨g1,cG,E1,uY,O5,hq,rj,hΦ1,hΦ2,Ix,kW,TV,kj⟩:=r5 φ hI.aW hI.er h;obtain⟨gf,captured,lb,α,gY,xs,X,inv,Kx,ch,x0,hg,cS,SG,Fo,yv,hle,O4,eA,h0,Aw,Qe,Qf⟩:=hq.h;have V8:=O5.ev Lo;rw[hg]at V8;obtain⟨ws,TY,PV⟩:=Jj V8;obtain⟨XP,TZ,Gd,MX⟩:=SG.aA;have hlen:=hI.aW.len;have zO:ah (ch x0)=ah E:=by rw[o5 _ _ hle,jm]
  have Qg:∀ x,bw (ch x)=bw (ch x0):=fun x=>pa (O4 x);have T0:∀ x,ah (ch x)=ah E:=fun x=>by rw[(mD (O4 x)).1,zO]
  refine wpIn_rangeFunc ?_;intro fn IA;obtain⟨D,hD⟩:∃ D,D=w.heap.size:=⟨_,rfl⟩
  obtain⟨l,hl⟩:∃ l,l=w.heap.size+1:=⟨_,rfl⟩
  obtain⟨rec,wF⟩:∃ rec:LoopState->Option Code->Loop,rec=fun st pe=>{ state:=st,pending:=pe,fn,tmps:=a.tmps,params:=ps,assign,body,defers:=w.heap.size }:=⟨_,rfl⟩
  obtain⟨W1,Qh⟩:∃ W1,(w.alloc (.deferred (some []))).alloc (.loop (rec .ready none))=W1:=⟨_,rfl⟩
  have MY:Grown w W1:=by rw[<-Qh];exact(Grown.alloc _ _).trans (Grown.alloc _ _)
  have Tp:W1.heap.size=w.heap.size+2:=by rw[<-Qh];simp
  have XQ:W1.heap[l]?=some (.loop (rec .ready none)):=by
   rw[<-Qh,hl];have:=World.alloc_heap_new (w.alloc (.deferred (some []))) (.loop (rec .ready none));rwa [World.size_alloc]at this
  have XR:W1.heap[D]?=some (.deferred (some [])):=by
   rw[<-Qh,hD];exact(Below.heap_alloc _ _ _ (by simp)).trans (World.alloc_heap_new w _)
  have T3:D≠l:=by omega
  obtain⟨gr,mZ⟩:∃ gr,gr=g1.dC (ri (ah E)):=⟨_,rfl⟩
  have Qi:eE gr (ch x0) w:=by
   rw[mZ];refine uY.dC hle ?_;have:∀ n,bH (ri n)=true:=by
    intro n;have eA:(ri n).Nodup:=by
     induction n with
     | zero=>exact aaP
     | succ n ih =>
      rw[ri,abH];refine⟨ih,by simp,fun a ha b hb e=>?_⟩;simp at hb;subst hb e;obtain⟨j,hj⟩:=aaa.1 ha;have q8:=(Z2.1 hj).1;rw[jm]at q8;rw[oa _ _ q8]at hj;cases hj;omega
    generalize ri n=l at eA;induction l with
    | nil=>rfl
    | cons i r ih =>
     have h':=aaT.1 eA;simp only[bH];split
     .rename_i ha
      obtain⟨b,hb,mC⟩:=List.any_eq_true.1 ha;have:=Z3 mC;subst this;exact(h'.1 hb).elim
     .exact ih h'.2
   exact this _
  have Qj:ER gr (ba (okF (ch x0)) cG) a.tmps:=by
   intro t;rw[cU];refine R.map (g:=g1) (g':=gr) _ (by rw[mZ];exact fun _ _ h=>h) (F7 (by rw[mZ];show g1.n<=(ri (ah E)).length;rw[jm,rj.n,hlen];exact Z8 _) (fun i hc=>?_)) (O5 t);rw[mZ];refine(fF g1 (oa _ i ?_)).1;rw[<-zO];exact dI (fun e=>by rw[e]at hc;cases hc)
  have s6:∀ {g2:Gh} {x:X} {W:World},eE g2 (ch x) W->(∃ o,W.heap[l]?=some (.loop o))->∀ i b,(af (ch x) i).own g2 i b->b≠l:=by
   intro g2 x W hs ⟨o,ho⟩ i b hb e;subst e;obtain⟨o1,h1,XS⟩:=mE (hs.sat i) hb;rw[h1]at ho;cases ho;cases XS
  obtain⟨St,MZ⟩:∃ St:LoopState->Option Code->X->Gh->(Nat->Prop)->World->Prop,St=fun st pe x g2 own W=>∃ Wb,Grown w Wb/\Wb.heap.size=W1.heap.size/\eE g2 (ch x) W/\ER g2 (ba (okF (ch x0)) cG) a.tmps/\Ext ⟨gr,ch x0,Wb⟩ g2 (ch x) W /\
   (∀ b,own b↔b=l\/∃ i,(af (ch x) i).own g2 i b)/\W.heap[l]?=some (.loop (rec st pe))/\W.heap[D]?=some (.deferred (some []))/\g2.Φ l=none:=⟨_,rfl⟩
  have rk:∀ {st pe x g2 own W W'},St st pe x g2 own W->Grown W W'->St st pe x g2 own W':=by
   intro st pe x g2 own W W' h hg;rw[MZ]at h ⊢;obtain⟨Wb,h1,h2,h3,h4,h5,h6,h7,h8,h9⟩:=h;exact⟨Wb,h1,h2,h3.grown hg,h4,h5.grow hg,h6,by rw[hg.same l (bo h7)];exact h7,by rw[hg.same D (bo h8)];exact h8,h9⟩
  have hΦl:gr.Φ l=none:=by
   cases hp:gr.Φ l with
   | none=>rfl
   | some o=>have:=bo (Qi.dn l o hp);omega
  have Ge:∀ {st pe x g2 own W},St st pe x g2 own W->∀ o:Loop,nA (ch x0) (ch x)=true->∀ K':Env->List Chunk->Prop,K' (ba (wA φ E) env) (ky (wA φ E) φ 0 E (ch x)) ->
    ∃ g' aj E',Iv S g' aj E' { a with defers:=[{ target:=.collected D,args:=#[] }]++a.defers } (W.putObj l (.loop o))/\K' aj E':=by
   intro st pe x g2 own W h o EV K' XT;rw[MZ]at h;obtain⟨Wb,h1,h2,h3,h4,h5,h6,h7,h8,h9⟩:=h;have O6:=bo h7;have hp:Inv ⟨gr,ch x0,Wb.putObj l (.loop o)⟩ g2 [] (ch x) #[] (W.putObj l (.loop o)):=Inv.F9 (B:=⟨gr,ch x0,Wb⟩) ⟨fun t=>.undef _,h3,h5⟩ (.loop o) h9 (s6 h3 ⟨_,h7⟩) O6;have TA:Grown w (Wb.putObj l (.loop o)):=⟨h1.os,h1.tape,⟨h1.output.o,h1.output.d⟩,by simpa using h1.size,fun b hb=>by rw[World.putObj_heap_other (by omega)];exact h1.same b hb⟩
   have hx:Ext ⟨g1.dC (ri (ah E)),ch x0,Wb.putObj l (.loop o)⟩ g2 (ch x) (W.putObj l (.loop o)):=by rw[<-mZ];exact hp.ext
   obtain⟨XU,hf⟩:=yu (D:=D) hI rj hΦ1 kW TV kj uY hle TA (by omega) (by rw[World.putObj_heap_other T3];exact h8) hp.aW hx (O4 x) EV;refine⟨XU,_,_,⟨B.mark D,S.cl aw B D hB (by rw[hD];exact aaA (S.hb aw B hB) hI.ext.size),hf,?_⟩,XT⟩;refine⟨fun h=>(by rw[aw]at h;cases h),?_⟩;obtain⟨_,Ds,O1,T4,SE⟩:=hd;refine⟨D::Ds,by rw[O1];rfl,aaT.2 ⟨fun hm=>?_,T4⟩,fun D' OZ=>?_⟩
   .have fu:=(SE D hm).2
    have:=bo (hI.aW.dn D _ (hI.ext.dn D _ fu));omega
   .have Af:∀ b,(B.mark D).g.Φ b=if b=D then some (.deferred (some []))else B.g.Φ b:=fun _=>rfl
    rcases aaj.1 OZ with e|OZ
    .rw[e,Af,Z0 rfl];exact⟨by rw[hD];exact aaA (S.hb aw B hB) hI.ext.size,rfl⟩
    .obtain⟨fu,xE⟩:=SE D' OZ
     refine⟨fu,?_⟩;rw[Af];split
     .rfl
     .exact xE
  refine⟨l,[{ target:=.collected D,args:=#[] }],W1,{ target:=.fn (.func gf) ws,args:=#[.func (.yield l) #[] #[]] },W1,gf,#[.func (.yield l) #[] #[]]++ws,W1,?_,?_,fun _ _=>trivial,?_,fun h=>by simp[Fr,Fence.wide]at h,?_⟩
  .rw[<-Qh,wF,hl,hD];exact run_enterLoop_outer _ _ _ _ _
  .simp only[resolve,TY]
   simp[go_sem]
  .have XV:XP.body≠none:=by intro e;rw[e]at Gd;simp at Gd
   simp[invoke,callFunc,TZ,MX,XV]
  .have Qk:∀ b,(∃ i,(af (ch x0) i).own gr i b)->b<w.heap.size:=fun b ⟨i,hi⟩=>eQ (Qi.sat i) hi
   have T5:St .ready none x0 gr (fun b=>b=l\/∃ i,(af (ch x0) i).own gr i b) W1:=by
    rw[MZ];exact⟨W1,MY,rfl,Qi.grown MY,Qj,o8 Qi.len,fun _=>Iff.rfl,XQ,XR,hΦl⟩
   have T6:eE (g1.dC []) [] W1:=(uY.dC (π:=[]) (E':=[]) trivial rfl).grown MY;refine iG.2 ?_;have sJ:Calls P gf (#[Value.func (.yield l) #[] #[]]++ws) W1 (fun e W'=>(∃ v,e=.returned v)/\((∃ own,∃ x g2,inv xs.length x/\St .ready none x g2 own W')\/∃ own,∃ x g2 e c,Ex.code e=some c/\Kx e x/\St .done (some c) x g2 own W')):=by
    have:=SG.h (g1.dC []) W1 ws.toList l T6 (eT _ _ _ cS PV) (fun k own W=>∃ x g2,inv k x/\St .ready none x g2 own W) (fun own W=>∃ x g2 e c,Ex.code e=some c/\Kx e x/\St .done (some c) x g2 own W)
     (fun b=>b=l\/∃ i,(af (ch x0) i).own gr i b) ?_ ?_ ?_ ⟨x0,gr,h0,T5⟩ ?_
    .have e:(#[Value.func (.yield l) #[] #[]]++ws)=(Value.func (.yield l) #[] #[]::ws.toList).toArray:=by apply abq;simp
     rw[e];exact this
    .rintro k own W W' ⟨x,g2,h1,h2⟩ hg;exact⟨x,g2,h1,rk h2 hg⟩
    .rintro own W W' ⟨x,g2,e,c,h1,h2,h3⟩ hg;exact⟨x,g2,e,c,h1,h2,rk h3 hg⟩
    .rintro b (rfl|hb)
     .refine⟨by omega,?_⟩
      rw[mZ]at hΦl;exact hΦl
     .have bf:=Qk b hb
      refine⟨by omega,?_⟩;obtain⟨i,hi⟩:=hb;have:=Qi.dE i b hi;rw[mZ]at this;exact this
    ·
     rintro k y own W us hy ⟨x,g2,hi,fR⟩ cO V9;have DH:=fR;rw[MZ]at fR;obtain⟨Wb,h1,h2,h3,h4,h5,h6,h7,h8,h9⟩:=fR;have O6:=bo h7;have T7:us.toArray.size=ps.size:=by
      have:=(V9 g2).length;rw[Fo]at this;simpa using this.symm
     have Gf:=run_yield (P:=P) (args:=us.toArray) h7 (by rw[wF];exact T7);rw[wF]at Gf;refine⟨fn,_,assign,body,Gf,roundIn_of_wpIn (F:=Fence.wide) (n:=0) trivial ?_⟩;have xQ:(ps.zip us.toArray).foldl (fun t (p,v)=>t.setIfInBounds p v) a.tmps=(ps.toList.zip us).foldl (fun t (p,v)=>t.setIfInBounds p v) a.tmps:=by
      rw[<-Array.foldl_toList];simp
     have Ql:ER g2 (nz ps.toList (gY y) (ba (okF (ch x0)) cG)) ((ps.toList.zip us).foldl (fun t (p,v)=>t.setIfInBounds p v) a.tmps) :=
      ER.nz _ _ _ h4 (V9 g2) (fun p hp=>by rw[hN];exact yv p hp) (by rw[Fo])
     have M0:∀ (l:List (Nat×Value)) (t:Array Value),(l.foldl (fun t (p,v)=>t.setIfInBounds p v) t).size=t.size:=by
      intro l;induction l with
      | nil=>intro t;rfl
      | cons c r ih=>intro t;simp[List.foldl_cons,ih]
     let S1:Sc:=⟨fun B=>B=⟨g2,ch x,W⟩,0,false,by simp,by simp⟩
     let S2:Sc:=⟨fun B=>B=⟨g2,ch x,W.putObj l (.loop { rec .ready none with state:=.busy })⟩,0,false,by simp,by simp⟩
     have SD:=Aw S1 S2 k x y hy hi;have Sr:Iv S1 g2 (nz ps.toList (gY y) (ba (okF (ch x0)) cG)) (ch x) { tmps:=(ps.zip us.toArray).foldl (fun t (p,v)=>t.setIfInBounds p v) a.tmps,defers:=[] } W :=
      ⟨⟨g2,ch x,W⟩,rfl,⟨by rw[xQ];exact Ql,h3,o8 h3.len⟩,fun _=>rfl,[],rfl,aaP,by simp⟩
     have Dw:=iH (S:=S1) (M:=bw (ch x0)) hm (fun B hB=>by rw[show B=⟨g2,ch x,W⟩from hB];exact Qg x) assign (some l) (.inr eA.1) Sr (by simp only[xQ,M0];exact hN) SD;refine ab9 (F:=Fr (some l)) Dw ?_;rintro e1 a1 w1 ⟨XW,g3,T8,E3,rfl,⟨_,rfl,M8,We,_⟩,XX,T9⟩;cases XW with
     | ret=>exact T9.elim
     | exit n=>exact T9.elim
     | normal =>
     have SH:∀ i b,(af E3 i).own g3 i b->b≠l:=fun i b hb e=>by
      subst e;rcases M8.ext.own i b hb with fu|⟨j,hj⟩
      .exact absurd fu (by simp only;omega)
      .exact s6 h3 ⟨_,h7⟩ j b hj rfl
     have Qm:w1.heap[l]?=some (.loop (rec .ready none)):=by
      rw[M8.ext.cz l O6 (fun⟨j,hj⟩=>s6 h3 ⟨_,h7⟩ j l hj rfl)];exact h7
     have hΦ3:g3.Φ l=none:=by
      cases hp:g3.Φ l with
      | none=>rfl
      | some o =>
       rcases M8.ext.fz l o hp with fu|fu|⟨j,hj⟩
       .have:g2.Φ l=some o:=fu
        rw[h9]at this;cases this
       .exact absurd fu (by simp only;omega)
       .exact(s6 h3 ⟨_,h7⟩ j l hj rfl).elim
     have Ua:=bo Qm;refine⟨_,run_beginRound Qm (by rw[wF]),?_⟩;have XY:=M8.F9 (.loop { rec .ready none with state:=.busy }) hΦ3 SH Ua;have Ub:Iv S2 g3 T8 E3 a1 (w1.putObj l (.loop { rec .ready none with state:=.busy })):=⟨_,rfl,XY,We,[],We rfl,aaP,by simp⟩
     have O7:=iH (S:=S2) (M:=bw (ch x0)) hm (fun B hB=>by rw[show B=⟨g2,ch x,W.putObj l (.loop { rec .ready none with state:=.busy })⟩from hB];exact Qg x) body (some l) (.inr eA.2) Ub XX T9;refine ab9 (F:=Fr (some l)) O7 ?_;rintro e2 a2 w2 ⟨XZ,g5,X0,E5,rfl,⟨_,rfl,Qn,_⟩,Zy,Jk⟩;have Qo:l<(W.putObj l (.loop { rec .ready none with state:=.busy })).heap.size:=by simpa using O6
     have Gg:∀ b,(⟨g2,ch x,W.putObj l (.loop { rec .ready none with state:=.busy })⟩:bS).owns b->b≠l:=fun b ⟨j,hj⟩=>s6 h3 ⟨_,h7⟩ j b hj;have Uc:w2.heap[l]?=some (.loop { rec .ready none with state:=.busy }):=by
      rw[Qn.ext.cz l Qo (fun h=>Gg l h rfl)];exact World.putObj_heap_same O6
     have M9:=bo Uc;have X1:w2.heap[D]?=some (.deferred (some [])):=by
      have X2:=bo h8;have cy:¬(⟨g2,ch x,W.putObj l (.loop { rec .ready none with state:=.busy })⟩:bS).owns D:=fun⟨j,hj⟩=>by
       obtain⟨Zz,fu,Ud⟩:=mE (h3.sat j) hj;rw[h8]at fu;cases fu;cases Ud
      rw[Qn.ext.cz D (by simpa using X2) cy];show(W.putObj l _).heap[D]?=_;rw[World.putObj_heap_other T3];exact h8
     have X3:∀ i b,(af E5 i).own g5 i b->b≠l:=fun i b hb e=>by
      subst e;rcases Qn.ext.own i b hb with fu|fu
      .have xE:W.heap.size<=b:=by simpa using fu
       omega
      .exact Gg b fu rfl
     have hΦ5:g5.Φ l=none:=by
      cases hp:g5.Φ l with
      | none=>rfl
      | some o =>
       rcases Qn.ext.fz l o hp with fu|fu|fu
       .have:g2.Φ l=some o:=fu
        rw[h9]at this;cases this
       .have xE:W.heap.size<=l:=by simpa using fu
        omega
       .exact(Gg l fu rfl).elim
     have fin:∀ (jump:Option Code) (x':X) (π:List Nat),bH π=true->gx (bw (ch x0)) 0 π=true->o0 π E5 π (ch x') ->
       ∃ iK g6,(Instr.endRound l jump).run P w2=.ok (.bool jump.isNone) (w2.putObj l (.loop (rec (if jump.isNone then .ready else .done) jump)))/\Kept own iK W (w2.putObj l (.loop (rec (if jump.isNone then .ready else .done) jump))) /\
        St (if jump.isNone then .ready else .done) jump x' g6 iK (w2.putObj l (.loop (rec (if jump.isNone then .ready else .done) jump))):=by
      intro jump x' π hn hh wv;have bh:=run_endRound (P:=P) jump Uc;have bh:(Instr.endRound l jump).run P w2=.ok (.bool jump.isNone) (w2.putObj l (.loop (rec (if jump.isNone then .ready else .done) jump))):=by
       rw[wF]at bh ⊢;exact bh
      obtain⟨ob,dM⟩:∃ ob,ob=Obj.loop (rec (if jump.isNone then .ready else .done) jump):=⟨_,rfl⟩
      rw[<-dM]at bh ⊢;have DI:=(Qn.F9 ob hΦ5 X3 M9).dC (aj:=[]) trivial wv hn (by rw[Qg x];exact hh);have P3:Inv ⟨gr,ch x0,Wb⟩ g2 [] (ch x) #[] W:=⟨fun t=>.undef _,h3,h5⟩
      have O2:=P3.F9 (.loop { rec .ready none with state:=.busy }) h9 (s6 h3 ⟨_,h7⟩) O6;have X4:=O2.F9 ob h9 (s6 h3 ⟨_,h7⟩) Qo;have nR:∀ i,c8 (af (ch x0) i)=true->c8 (af (ch x) i)=true:=by
       intro i hc;have hk:=(mD (O4 x)).2 i;cases qw:af (ch x0) i <;> rw[qw]at hc <;> first|(cases hc;done)|skip
       all_goals
        rw[qw]at hk;cases Qg:af (ch x) i <;> rw[Qg]at hk <;> first|rfl|(simp[kd]at hk;done)
      have X5:=Ext.trans (B:=⟨gr,ch x0,(Wb.putObj l (.loop { rec .ready none with state:=.busy })).putObj l ob⟩) X4.ext DI.ext nR (by simp only[T0];exact Z8 _);have iE:∀ (W:World) b,b≠l->((W.putObj l (.loop { rec .ready none with state:=.busy })).putObj l ob).heap[b]?=W.heap[b]?:=fun W b hb=>by rw[World.putObj_heap_other hb,World.putObj_heap_other hb]
      have Lq:∀ b,(⟨g2,ch x,(W.putObj l (.loop { rec .ready none with state:=.busy })).putObj l ob⟩:bS).owns b->own b:=fun b ⟨j,hj⟩=>(h6 b).2 (.inr ⟨j,hj⟩);refine⟨fun b=>b=l\/∃ i,(af (ch x') i).own (g5.dC π) i b,g5.dC π,bh,⟨DI.ext.os,DI.ext.tape,⟨DI.ext.output.o,DI.ext.output.d⟩,by have:=DI.ext.size;simpa using this,fun b hb SI=>?_,fun b hb=>?_,fun b hb=>?_⟩,?_⟩
      .have BH:b≠l:=fun e=>SI ((h6 b).2 (.inl e))
       rw[DI.ext.cz b (by simpa using hb) (fun h=>SI (Lq b h))];exact iE W b BH
      .rcases hb with rfl|⟨i,hi⟩
       .exact .inl ((h6 b).2 (.inl rfl))
       .rcases DI.ext.own i b hi with fu|fu
        .right;simpa using fu
        .exact .inl (Lq b fu)
      .rcases hb with rfl|⟨i,hi⟩
       .simpa using M9
       .exact eQ (DI.aW.sat i) hi
      .rw[MZ]
       refine⟨(Wb.putObj l (.loop { rec .ready none with state:=.busy })).putObj l ob,⟨h1.os,h1.tape,⟨h1.output.o,h1.output.d⟩,by simpa using h1.size,fun b hb=>?_⟩,by simpa using h2,DI.aW,?_,X5,fun _=>Iff.rfl,?_,?_,hΦ5⟩
       .rw[iE Wb b (by omega)];exact h1.same b hb
       .have:=ER.okF (g':=g5.dC π) (ch:=ch x0) h4 (by rw[<-h3.len,<-DI.aW.len,T0,T0];exact Z8 _) DI.ext.dn (fun i hc=>?_)
        .rwa [BV]at this
        .cases qw:af (ch x0) i with
         | cells T cs=>exact(DI.ext.ids i (nR i (by rw[qw];rfl))).1
         | none=>rw[qw]at hc;cases hc
         | count k=>rw[qw]at hc;cases hc
         | jd _ _ _=>rw[qw]at hc;cases hc
         | row _ _ _=>rw[qw]at hc;cases hc
         | heap _=>rw[qw]at hc;cases hc
         | bq _=>rw[qw]at hc;cases hc
         | je _ _ _ _=>rw[qw]at hc;cases hc
         | iZ _ _=>rw[qw]at hc;cases hc
         | aq _ _ _=>rw[qw]at hc;cases hc
       .rw[<-dM];exact World.putObj_heap_same M9
       .rw[World.putObj_heap_other T3];exact X1
     cases XZ with
     | normal =>
      obtain⟨x',π,hn,hh,wv,dW⟩:=Jk;obtain⟨iK,g6,fu,xE,Qp⟩:=fin none x' π hn hh wv;exact⟨_,_,fu,iK,xE,.inl ⟨rfl,x',g6,dW,Qp⟩⟩
     | ret =>
      obtain⟨x',π,hn,hh,wv,dW⟩:=Jk;obtain⟨iK,g6,fu,xE,Qp⟩:=fin (some .ret) x' π hn hh wv;exact⟨_,_,fu,iK,xE,.inr ⟨rfl,x',g6,.ret,.ret,rfl,dW,Qp⟩⟩
     | exit n =>
      obtain⟨x',π,hn,hh,wv,dW⟩:=Jk;obtain⟨iK,g6,fu,xE,Qp⟩:=fin (some (.exit n)) x' π hn hh wv;exact⟨_,_,fu,iK,xE,.inr ⟨rfl,x',g6,.exit n,.exit n,rfl,dW,Qp⟩⟩
   refine Calls.mono sJ ?_;rintro e W2 ⟨⟨v,rfl⟩,⟨own,x,g2,hi,fR⟩|⟨own,x,g2,e,c,hc,X6,fR⟩⟩
   .have DH:=fR
    rw[MZ]at DH;obtain⟨_,_,_,_,_,_,_,h7,_⟩:=DH;obtain⟨EV,Ue⟩:=Qe x hi;have bh:=run_endLoop (P:=P) h7 (by rw[wF];simp);obtain⟨g',aj,E',fu,xE⟩:=Ge fR { rec .ready none with state:=.exhausted } EV (K .normal) Ue;exact⟨none,_,by rw[wF]at bh ⊢;exact bh,.normal,g',aj,E',rfl,fu,hN,xE⟩
   .have DH:=fR
    rw[MZ]at DH;obtain⟨_,_,_,_,_,_,_,h7,_⟩:=DH;obtain⟨EV,Ue⟩:=Qf e x X6 (fun h=>by rw[h]at hc;cases hc);have bh:=run_endLoop (P:=P) h7 (by rw[wF];simp);obtain⟨g',aj,E',fu,xE⟩:=Ge fR { rec .done (some c)with state:=.exhausted } EV (K e) Ue;have bh:(Instr.endLoop l).run P W2=.ok (some c) (W2.putObj l (.loop { rec .done (some c)with state:=.exhausted })):=by rw[wF]at bh ⊢;exact bh
    refine⟨some c,_,bh,?_⟩;cases e with
    | normal=>cases hc
    | ret=>cases hc;exact wpIn_ret ⟨.ret,g',aj,E',rfl,fu,hN,xE⟩
    | exit n=>cases hc;exact wpIn_exit ⟨.exit n,g',aj,E',rfl,fu,hN,xE⟩
def SJ (n sz:Nat):AV->AV
 | .aZ=>.vec n sz (fun _=>0) (fun _=>0)|v=>v
def Lr (n sz:Nat):Nat->List AV->List AV
 | _,[]=>[]|0,c::r=>SJ n sz c::r|j+1,c::r=>c::Lr n sz j r
def pb (n sz:Nat) (ts:List Nat):Env->Env
 | []=>[]|(k,v)::r=>(k,match wx ts k with|true=>SJ n sz v|false=>v)::pb n sz ts r
def SK (T:TypeId) (t:Ty) (E:List Chunk):Option (Nat×Nat)->List Chunk
 | none=>dm E (.aq T t fun _=>[])
 | some (i,j)=>(match af E i with|.cells T' cs=>a8 (dm E (.aq T t fun _=>[])) i (.cells T' (Lr (ah E) t.size j cs))|_=>dm E (.aq T t fun _=>[]))
theorem Gi {g g':Gh} {n sz:Nat} (hn:n<g'.n) (hV:g'.V n=none) (hm:∀ v u,R g v u->R g' v u) {v:AV} {u:Value} (h:R g v u):R g' (SJ n sz v) u:=by
 cases v <;> first|exact hm _ _ h|skip
 cases h;exact .vec n sz (fun _=>0) (fun _=>0) none 0 hn (aae _) (fun _=>⟨rfl,rfl,rfl,rfl⟩) (fun cap hc=>by rw[hV]at hc;cases hc)
theorem Ax {g g':Gh} {n sz:Nat} (hn:n<g'.n) (hV:g'.V n=none) (hm:∀ v u,R g v u->R g' v u):∀ (j:Nat) (cs:List AV) (us:List Value),RL g cs us->RL g' (Lr n sz j cs) us
 | j,[],[],_=>by cases j <;> exact trivial
 | 0,c::r,u::us,h=>⟨Gi hn hV hm h.1,RL.mk h.2.length (fun i y u h1 h2=>hm _ _ (h.2.at_ i y u h1 h2))⟩
 | j+1,c::r,u::us,h=>⟨hm _ _ h.1,Ax hn hV hm j r us h.2⟩
 | _,[],_::_,h=>h.elim
 | _,_::_,[],h=>h.elim
theorem Gj {g g':Gh} {n sz:Nat} {ts:List Nat} (hn:n<g'.n) (hV:g'.V n=none) (hm:∀ v u,R g v u->R g' v u) {tmps:Array Value}:∀ (env:Env),ER g env tmps->ER g' (pb n sz ts env) tmps:=by
 have one:∀ (env:Env) (t:Nat),look (pb n sz ts env) t=look env t\/look (pb n sz ts env) t=SJ n sz (look env t):=by
  intro env t;induction env with
  | nil=>exact .inl rfl
  | cons p r ih =>
   obtain⟨k,v⟩:=p;simp only[pb,look];cases Nat.beq k t
   .exact ih
   .simp only
    cases wx ts k
    .exact .inl rfl
    .exact .inr rfl
 intro env h t;rcases one env t with e|e <;> rw[e]
 .exact hm _ _ (h t)
 .exact Gi hn hV hm (h t)
theorem Iv.nil {S:Sc} {g:Gh} {env:Env} {E:List Chunk} {a:Act} {w:World} (h:Iv S g env E a w) (T:TypeId) (t:Ty) (p:Option (Nat×Nat)) (ts:List Nat) :
  ∃ g',Iv S g' (pb (ah E) t.size ts env) (SK T t E p) a w:=by
 obtain⟨B,hB,hI,hd⟩:=h;have hlen:=hI.aW.len;have hN:=hI.new (c:=.aq T t fun _=>[]) (b:=0) (v:=none) (l:=0) (w':=w) rfl rfl (ja.refl _) (Z8 _) (fun _ _=>rfl)
  ⟨by simp[Gh.add],fun _=>rfl,fun cap hc=>by simp[Gh.add]at hc⟩ (fun b hb=>by simp[Chunk.own,Gh.add]at hb)
 have hle:=g.jE 0 none 0;have hm:∀ v u,R g v u->R (g.add 0 none 0) v u:=fun v u h=>h.mono hle;have hn:ah E<(g.add 0 none 0).n:=by rw[hlen];exact aa3 _
 have hV:(g.add 0 none 0).V (ah E)=none:=by simp[Gh.add,hlen]
 have Je:=Gj (ts:=ts) (sz:=t.size) hn hV hm env hI.er;have base:Iv S (g.add 0 none 0) (pb (ah E) t.size ts env) (dm E (.aq T t fun _=>[])) a w:=⟨B,hB,⟨Je,hN.aW,hN.ext⟩,hd⟩
 refine⟨g.add 0 none 0,?_⟩;unfold SK;split
 .exact base
 .rename_i i j
  split
  .rename_i T' cs hc
   have hi:i<ah E:=dI (by rw[hc];simp);have hg:af (dm E (.aq T t fun _=>[])) i=.cells T' cs:=by rw[lA,ZY (by omega)];exact hc
   have hs:=hI.aW.sat i;rw[hc]at hs;obtain⟨vs,h1,h2⟩:=hs;have X7:(g.add 0 none 0).B i=g.B i:=hle.B i (by omega);have fU:(Chunk.cells T' (Lr (ah E) t.size j cs)).sat (g.add 0 none 0) i w:=⟨vs,by rw[X7];exact h1,Ax hn hV hm j cs _ h2⟩
   have cL:∀ k,af (a8 (dm E (.aq T t fun _=>[])) i (.cells T' (Lr (ah E) t.size j cs))) k=if i=k then .cells T' (Lr (ah E) t.size j cs)else af (dm E (.aq T t fun _=>[])) k:=by
    intro k;rw[bx];by_cases Du:i=k
    .subst Du;simp[lB];omega
    .simp[Du]
   have hblk:∀ k b,(af (a8 (dm E (.aq T t fun _=>[])) i (.cells T' (Lr (ah E) t.size j cs))) k).own (g.add 0 none 0) k b=(af (dm E (.aq T t fun _=>[])) k).own (g.add 0 none 0) k b:=by
    intro k b;rw[cL];split
    .rename_i e;subst e;rw[hg];rfl
    .rfl
   refine⟨B,hB,⟨Je,⟨by rw[b8];exact hN.aW.len,hN.aW.dn,fun k=>?_,fun k m b hk zN=>?_,fun k b hk=>?_⟩,⟨hN.ext.os,hN.ext.tape,hN.ext.output,hN.ext.size,hN.ext.cz,hN.ext.dn,hN.ext.fz,fun k b hk=>?_,hN.ext.n,hN.ext.ids,hN.ext.kk,fun k hk=>?_,hN.ext.rC,hN.ext.qi⟩⟩,hd⟩
   .rw[cL]
    split
    .rename_i e;subst e;exact fU
    .exact hN.aW.sat k
   .rw[hblk]at hk zN;exact hN.aW.lf k m b hk zN
   .rw[hblk]at hk;exact hN.aW.dE k b hk
   .rw[hblk]at hk;exact hN.ext.own k b hk
   .rw[cL]
    split
    .rfl
    .exact hN.ext.mY k hk
  .exact base
theorem aM.nil {P:Program} {N:Nat} {M:List Bool} {S:Sc} {body:Code} {env:Env} {E:List Chunk} {K:Ex->Env->List Chunk->Prop} (T:TypeId) (t:Ty) (p:Option (Nat×Nat)) (ts:List Nat)
  (h:jC (pb (ah E) t.size ts env) fun aj=>iq (SK T t E p) fun E'=>aM P N S M body aj E' K):aM P N S M body env E K where
 h:=by
  intro r g a w hr hM hI hN;obtain⟨g',h'⟩:=hI.nil T t p ts;rw[c9,a7]at h;exact h.h r g' a w hr hM h' hN
theorem aB.nil {P:Program} {N:Nat} {M:List Bool} {S:Sc} {c:Code} {env:Env} {E:List Chunk} {K:Ex->Env->List Chunk->Prop} (T:TypeId) (t:Ty) (p:Option (Nat×Nat)) (ts:List Nat)
  (h:jC (pb (ah E) t.size ts env) fun aj=>iq (SK T t E p) fun E'=>aB P N S M c aj E' K):aB P N S M c env E K where
 h:=by
  intro r g a w hr hM hI hN;obtain⟨g',h'⟩:=hI.nil T t p ts;rw[c9,a7]at h;exact h.h r g' a w hr hM h' hN
theorem qv.intro {P:Program} {N:Nat} {S:Sc} {Lo:Operand} {ps:List Nat} {assign body:Code} {φ:List Nat} {env:Env} {E:List Chunk} {K:Ex->Env->List Chunk->Prop} {cG:Env} {E1:List Chunk}
  {gf:FuncId} {lb:List AV} {α:Type} {gY:α->List AV} {xs:List α} (SG:jl P gf lb gY xs) (captured:List AV) {X:Type} (inv:Nat->X->Prop) (Kx:Ex->X->Prop) (ch:X->List Chunk) (x0:X)
  (h1:ev cG Lo=.fn (.func gf) [] captured) (h2:r0 [] captured lb) (h3:∀ x,(gY x).length=ps.length) (h4:∀ p∈ps,p<N) (h5:o0 (ri (ah E)) E1 (ri (ah E)) (ch x0)) (h6:∀ x,eC (ch x0) (ch x)=true) (h7:eR assign=true/\eR body=true) (h8:inv 0 x0)
  (h9:∀ (S1 S2:Sc) k x y,xs[k]?=some y->inv k x->fl P N S1 (bw (ch x0)) assign (nz ps (gY y) (ba (okF (ch x0)) cG)) (ch x) fun e aj E'=>(match e with
   | .normal=>fl P N S2 (bw (ch x0)) body aj E' fun e jS Qa=>(match e with
    | .normal=>∃ x' π,bH π=true/\gx (bw (ch x0)) 0 π=true/\o0 π Qa π (ch x')/\inv (k+1) x'
    | e=>∃ x' π,bH π=true/\gx (bw (ch x0)) 0 π=true/\o0 π Qa π (ch x')/\Kx e x')
   | _=>False))
  (fu:∀ x,inv xs.length x->nA (ch x0) (ch x)=true/\K .normal (ba (wA φ E) env) (ky (wA φ E) φ 0 E (ch x)))
  (xE:∀ e x,Kx e x->e≠.normal->nA (ch x0) (ch x)=true/\K e (ba (wA φ E) env) (ky (wA φ E) φ 0 E (ch x))):qv P N S Lo ps assign body φ env E K cG E1 :=
 ⟨⟨gf,captured,lb,α,gY,xs,X,inv,Kx,ch,x0,h1,h2,SG,h3,h4,h5,h6,h7,h8,h9,fu,xE⟩⟩
def BX (env:Env):Nat->Nat->List AV
 | _,0=>[]|k,n+1=>look env k::BX env (k+1) n
theorem s7 {g:Gh} {env:Env} {aC:Array Value} (h:ER g env aC):∀ (n k:Nat),k+n=aC.size->RL g (BX env k n) (aC.toList.drop k)
 | 0,k,hk=>by
  have:aC.toList.drop k=[]:=acF (by simp;omega);rw[this];trivial
 | n+1,k,hk=>by
  have bf:k<aC.toList.length:=by simp;omega
  rw[aaU bf];refine⟨?_,s7 h n (k+1) (by omega)⟩;have:=h k;rw[aan]at this;have e:aC[k]?=some (aC.toList[k]'bf):=by rw[<-abK];exact Z1 bf
  rw[e]at this;exact this
theorem ab.rest {P:Program} {f:FuncId} {args args₀:List AV} {env:Env} {E:List Chunk} {K:AV->Env->List Chunk->Prop} {Y:Type} {Q:Y->Prop} {res:Y->AV} {out:Y->List Chunk}
  (hs:aa P f args₀ [] Q res out) (φ:List Nat) (ha:yo φ (fZ 0 args) E fun Qq E1=>r0 [] (BX Qq 0 args.length) args₀)
  (EV:∀ y,Q y->yq (out y) (res y)=true/\nA (out y) (out y)=true)
  (k:∀ y,Q y->fV (df (gI [] (ah E)) (res y)) fun r=>iq (iJ (gI [] (ah E)) [] (out y) E) fun E'=>K r env E'):ab P f args env E K where
 aA:=hs.aA
 h:=by
  intro B g tmps w aC h hr;have hl:=hr.length;have Qj:ER g (fZ 0 args) aC.toArray:=jV 0 args aC hr (fun j u hj=>by simp[aan,hj]);obtain⟨g1,Qq,E1,uY,O5,hle,rj,hΦ1,_⟩:=r5 φ h.aW Qj ha;have dR:=s7 O5 args.length 0 (by simpa using hl);have dR:RL (g1.dC []) args₀ aC:=eT _ _ _ hle (by simpa using dR);refine(hs.h (g1.dC []) w aC (uY.dC (π:=[]) (E':=[]) trivial rfl) dR).mono ?_;rintro e w' ⟨y,c,g',hq,rfl,h1,h2,h3⟩;obtain⟨X8,Ls⟩:=EV y hq
  let g2:Gh:={ g' with Φ:=g.Φ }
  have wD:o9 (out y) g' g2:=⟨Z8 _,fun _ _=>rfl,fun _ _=>rfl,fun _ _=>rfl⟩
  have cy:∀ b,¬(⟨g1.dC [],[],w⟩:bS).owns b:=fun b ⟨i,hi⟩=>by simp[af]at hi;cases hi
  have Jl:∀ b,¬(⟨g.dC [],[],w⟩:bS).owns b:=fun b ⟨i,hi⟩=>by simp[af]at hi;cases hi
  have yl:∀ i b,(af (out y) i).own g2 i b=(af (out y) i).own g' i b:=fun i b=>Chunk.n5 rfl rfl rfl rfl;have F6:eE g2 (out y) w':=by
   refine⟨h2.len,fun b o hb=>h2.dn b o (h3.dn b o (hΦ1 b o hb)),fun i=>?_,fun i j b hi hj=>?_,fun i b hi=>?_⟩
   .refine vi wD ?_ (eG Ls i) (fun _ _=>rfl) (h2.sat i)
    cases hc:af (out y) i with
    | none=>exact .inr rfl
    | cells _ _=>left;simp[bN,hc]
    | aq _ _ _=>left;simp[bN,hc]
    | count k=>have:=eG Ls i;rw[hc]at this;cases this
    | row _ _ _=>have:=eG Ls i;rw[hc]at this;cases this
    | jd _ _ _=>have:=eG Ls i;rw[hc]at this;cases this
    | heap _=>have:=eG Ls i;rw[hc]at this;cases this
    | bq _=>have:=eG Ls i;rw[hc]at this;cases this
    | je _ _ _ _=>have:=eG Ls i;rw[hc]at this;cases this
    | iZ _ _=>have:=eG Ls i;rw[hc]at this;cases this
   .rw[yl]at hi hj;exact h2.lf i j b hi hj
   .rw[yl]at hi
    rcases h3.own i b hi with h4|h4
    .cases hp:g2.Φ b with
     | none=>rfl
     | some o=>have:=bo (h.aW.dn b o hp);exact absurd h4 (by simp only;omega)
    .exact(cy b h4).elim
  have Uf:Ext ⟨g.dC [],[],w⟩ g2 (out y) w' :=
   ⟨h3.os,h3.tape,h3.output,h3.size,fun b hb _=>h3.cz b hb (cy b),fun _ _ h=>h,fun _ _ h=>.inl h,fun i b hi=>by
    rw[yl]at hi;exact(h3.own i b hi).imp id (fun h=>(cy b h).elim),aae _,fun i hi=>(by cases hi),h3.kk.trans rj.k,fun i hi=>(by cases hi),fun i k hi=>(by cases hi),fun i hi=>(by cases hi)⟩
  obtain⟨h4,h5⟩:=h.join (π:=[]) (E₀:=[]) rfl rfl trivial F6 Uf;have hid:∀ v:AV,df (gJ [] []) v=v:=fun v=>by
   have:gJ [] []=id:=by funext v;cases v <;> rfl
   rw[this];exact gT v
  have Ug:∀ E:List Chunk,cT (gJ [] []) E=E:=fun E=>by
   have:gJ [] []=id:=by funext v;cases v <;> rfl
   rw[this];induction E with
   | nil=>rfl
   | cons c r ih=>simp only[cT,ih,wu]
  have vY:=k y hq;rw[fP,a7]at vY;rw[Ug]at h4;refine⟨c,_,_,env,_,rfl,⟨fun t=>?_,h4.aW,h4.ext⟩,h5 _ _ (s4 wD _ _ X8 h1),vY⟩;have:=h4.er t;rw[cU,hid]at this;exact this
theorem ae.nil {M:List Bool} {env:Env} {E:List Chunk} {l:List AV} {Y:Type} {Q:Y->Prop} {res:Y->List AV} {out:Y->List Chunk} (T:TypeId) (t:Ty) (j:Nat)
  (h:iq (dm E (.aq T t fun _=>[])) fun E'=>fL (Lr (ah E) t.size j l) fun l'=>ae M [] E' l' Q res out):ae M env E l Q res out where
 h:=by
  intro B g tmps w cs hM hI hr;rw[a7,fg]at h;have hlen:=hI.aW.len;have hN:=hI.new (c:=.aq T t fun _=>[]) (b:=0) (v:=none) (l:=0) (w':=w) rfl rfl (ja.refl _) (Z8 _) (fun _ _=>rfl)
   ⟨by simp[Gh.add],fun _=>rfl,fun cap hc=>by simp[Gh.add]at hc⟩ (fun b hb=>by simp[Chunk.own,Gh.add]at hb)
  have hle:=g.jE 0 none 0;have hm:∀ v u,R g v u->R (g.add 0 none 0) v u:=fun v u h=>h.mono hle;have hn:ah E<(g.add 0 none 0).n:=by rw[hlen];exact aa3 _
  have hV:(g.add 0 none 0).V (ah E)=none:=by simp[Gh.add,hlen]
  exact h.h B _ tmps w cs hM ⟨fun t=>.undef _,hN.aW,hN.ext⟩ (Ax hn hV hm j l cs hr)
theorem ab.gU {P:Program} {f:FuncId} {args:List AV} {env:Env} {E:List Chunk} {K:AV->Env->List Chunk->Prop} (i:Nat) (h:Fw.gU i env E args fun aj E' Qr=>ab P f Qr aj E' K) (hc:fE P f):ab P f args env E K where
 aA:=hc
 h:=by
  intro B g tmps w aC hI hr;obtain⟨g',aj,E',mu,h1,h2,h3⟩:=v8 hI hr h;exact h3.h B g' tmps w aC h1 h2
def jo:Chunk->Chunk
 | .row T t xs=>.aq T t xs|c=>c
theorem DJ {g:Gh} {i:Nat} {w:World} {c:Chunk} (h:c.sat g i w):(jo c).sat g i w:=by cases c <;> exact h
theorem DK (g:Gh) (i:Nat) (c:Chunk) (b:Nat):(jo c).own g i b=c.own g i b:=by cases c <;> rfl
theorem Inv.jo {B:bS} {g:Gh} {env:Env} {E:List Chunk} {tmps:Array Value} {w:World} (h:Inv B g env E tmps w) {i:Nat} (hi:ah B.E<=i):Inv B g env (a8 E i (jo (af E i))) tmps w:=by
 have cL:∀ j,af (a8 E i (Fw.jo (af E i))) j=if i=j then Fw.jo (af E j)else af E j:=by
  intro j;rw[bx];by_cases cx:i=j
  .subst cx
   by_cases hl:i<ah E
   .simp[hl]
   .have:af E i=.none:=by rw[IP,aat (by rw[<-IN];omega)];rfl
    simp[hl,this,Fw.jo]
  .simp[cx]
 have hb:∀ j b,(af (a8 E i (Fw.jo (af E i))) j).own g j b=(af E j).own g j b:=fun j b=>by
  rw[cL];split
  .exact DK _ _ _ _
  .rfl
 refine⟨h.er,⟨by rw[b8];exact h.aW.len,h.aW.dn,fun j=>?_,fun j k b hj hk=>h.aW.lf j k b (by rw[<-hb];exact hj) (by rw[<-hb];exact hk),fun j b hj=>h.aW.dE j b (by rw[<-hb];exact hj)⟩,
  ⟨h.ext.os,h.ext.tape,h.ext.output,h.ext.size,h.ext.cz,h.ext.dn,h.ext.fz,fun j b hj=>h.ext.own j b (by rw[<-hb];exact hj),h.ext.n,h.ext.ids,h.ext.kk,fun j hf=>?_,h.ext.rC,h.ext.qi⟩⟩
 .rw[cL];split
  .exact DJ (h.aW.sat j)
  .exact h.aW.sat j
 .rw[cL]
  split
  .have:=jD hf;omega
  .exact h.ext.mY j hf
theorem ae.jo {M:List Bool} {env:Env} {E:List Chunk} {l:List AV} {Y:Type} {Q:Y->Prop} {res:Y->List AV} {out:Y->List Chunk} (i:Nat) (hM:Nat.ble M.length i=true) (h:ae M env (a8 E i (Fw.jo (af E i))) l Q res out):ae M env E l Q res out where
 h:=by
  intro B g tmps w cs hB hI hr;exact h.h B g tmps w cs hB (hI.jo (by rw[<-fY,hB];exact aaM hM)) hr
def flat:Ty->Bool
 | .list _=>false|.pair a b=>flat a && flat b|_=>true
theorem mF:∀ (t:Ty),flat t=true->∀ x y:t.den,(Bu t x y=true↔x=y)
 | .int k,_,x,y=>by
  show(@BEq.beq Int _ x y=true↔x=y);exact beq_iff_eq
 | .bool,_,x,y=>by
  show(@BEq.beq Bool _ x y=true↔x=y);exact beq_iff_eq
 | .str,_,x,y=>by
  show(@BEq.beq (List UInt8) _ x y=true↔x=y);exact beq_iff_eq
 | .list e,h,x,y=>by cases h
 | .pair a b,h,x,y=>by
  have h:(flat a && flat b)=true:=h;rw[aai]at h;show((Bu a x.1 y.1 && Bu b x.2 y.2)=true↔x=y);rw[aai,mF a h.1,mF b h.2];exact Prod.ext_iff.symm
theorem Gk (t:Ty) (h:flat t=true) (x y:t.den):Bu t x y=false↔x≠y:=by
 rw[<-acN,mF t h]
theorem wG {α:Type} {a b:List α} {i:Nat} {d:α} (hi:i<a.length) (hj:i<b.length) (h:a.take i=b.take i) (he:a.getD i d=b.getD i d):a.take (i+1)=b.take (i+1):=by
 rw[ZZ,ZZ,Z1 hi,Z1 hj]at he;rw[aaE,aaE,h,Z1 hi,Z1 hj];exact congrArg _ (congrArg _ (congrArg _ he))
theorem bs:(∀ (p:Prop) [Decidable p],(decide p=true)=p)/\(∀ (p:Prop) [Decidable p],(decide p=false)=¬p)/\(∀ (α:Type) [BEq α] [LawfulBEq α] (a b:α),((a == b)=true)=(a=b))/\(∀ (α:Type) [BEq α] [LawfulBEq α] (a b:α),((a == b)=false)=¬a=b) /\
  (∀ (α:Type) [BEq α] [LawfulBEq α] (a b:α),((a != b)=true)=(a≠b))/\(∀ (α:Type) [BEq α] [LawfulBEq α] (a b:α),((a != b)=false)=(a=b))/\(∀ b:Bool,((!b)=true)=(b=false))/\(∀ b:Bool,((!b)=false)=(b=true))/\((!true)=false)/\((!false)=true) :=
 ⟨fun _ _=>propext decide_eq_true_iff,fun _ _=>propext decide_eq_false_iff_not,fun _ _ _ _ _=>propext beq_iff_eq,fun _ _ _ _ _=>propext beq_eq_false_iff_ne,fun _ _ _ _ _=>propext bne_iff_ne,fun _ _ _ _ _=>propext bne_eq_false_iff_eq,fun _=>aa4 _,fun _=>Bool.not_eq_false' _,rfl,rfl⟩
theorem ab.q {P:Program} {f:FuncId} {args args₀:List AV} {env:Env} {E E₀:List Chunk} {K:AV->Env->List Chunk->Prop} {Y:Type} {Q:Y->Prop} {res:Y->AV} {out:Y->List Chunk}
  (hs:aa P f args₀ E₀ Q res out) (π:List Nat)
  (k:∀ y,Q y->fV (df (gI π (ah E)) (res y)) fun r=>jC (ba (gJ π E₀) env) fun aj=>iq (iJ (gI π (ah E)) π (out y) (cT (gJ π E₀) E)) fun E'=>K r aj E')
  (hn:bH π=true:=by rfl) (hk:Ar E₀=true:=by rfl)
  (ha:r0 π args args₀:=by((repeat' ((conv=>whnf) <;> first|exact rfl|exact trivial|exact Hp.aG _|apply And.intro|exact aaf _));done))
  (hE:o0 π E π E₀:=by((repeat' ((conv=>whnf) <;> first|exact rfl|exact trivial|exact Hp.aG _|apply And.intro|exact aaf _));done)):ab P f args env E K:=ab.intro hs π hn hk ha hE k
theorem ae.q {M:List Bool} {env:Env} {E:List Chunk} {l:List AV} {Y:Type} {Q:Y->Prop} {res:Y->List AV} {out:Y->List Chunk} (y:Y) (π:List Nat)
  (hE:o0 π E π (out y)) (hl:r0 π l (res y)) (hq:Q y) (hn:bH π=true:=by rfl) (hh:gx M 0 π=true:=by rfl):ae M env E l Q res out:=ae.intro y π hn hh hE hl hq
theorem ae.w {M:List Bool} {env:Env} {E:List Chunk} {l:List AV} {Y:Type} {Q:Y->Prop} {res:Y->List AV} {out:Y->List Chunk} (y:Y) (π:List Nat) (q:Prop) (h:q)
  (e:Im q (o0 π E π (out y)/\r0 π l (res y)/\Q y):=by
  (repeat' ((conv=>arg 2;whnf);first
   | (apply Im.done;exact rfl)
   | (apply Im.done;exact trivial)
   | (apply Im.done;exact Hp.aG _)
   | apply Im.and
   | (apply Im.done;exact aaf _)
   | fail))
  (all_goals ((conv=>arg 2;whnf);(try (conv=>arg 2;simp only[]));exact Im.id)))
  (hn:bH π=true:=by rfl) (hh:gx M 0 π=true:=by rfl):ae M env E l Q res out :=
 ae.intro y π hn hh (e.h h).1 (e.h h).2.1 (e.h h).2.2
theorem ae.z {M:List Bool} {env:Env} {E:List Chunk} {l:List AV} {Y:Type} {Q:Y->Prop} {res:Y->List AV} {out:Y->List Chunk} (y:Y) (π:List Nat) {q:Prop}
  (e:Im q (o0 π E π (out y)/\r0 π l (res y)/\Q y):=by
  (repeat' ((conv=>arg 2;whnf);first
   | (apply Im.done;exact rfl)
   | (apply Im.done;exact trivial)
   | (apply Im.done;exact Hp.aG _)
   | apply Im.and
   | (apply Im.done;exact aaf _)
   | fail))
  (all_goals ((conv=>arg 2;whnf);(try (conv=>arg 2;simp only[]));exact Im.id)))
  (h:q:=by(repeat' first|exact trivial|apply And.intro))
  (hn:bH π=true:=by rfl) (hh:gx M 0 π=true:=by rfl):ae M env E l Q res out :=
 ae.intro y π hn hh (e.h h).1 (e.h h).2.1 (e.h h).2.2
theorem aB.mid {P:Program} {N:Nat} {M:List Bool} {S:Sc} {c a b:Code} {env:Env} {E:List Chunk} {K:Ex->Env->List Chunk->Prop} (hm:P.follows .mixedOrders=true) {X:Type} (inv:X->Prop) (st:X->Env) (ch:X->List Chunk)
  (hc:c=.seq a b)
  (first:fl P N S M a env E fun e aj E'=>match e with
   | .normal=>∃ x,∃ π,Le M π aj E' (st x) (ch x)/\inv x
   | .ret=>K .ret aj E'|.exit n=>K (.exit n) aj E')
  (rest:∀ x,inv x->jC (st x) fun env=>iq (ch x) fun E=>aB P N S M b env E K):aB P N S M c env E K:=by
 subst hc;refine⟨fun r g a' w hr hM h hN=>?_⟩;obtain⟨nX,sI⟩:=n4 hr rfl;refine wpIn_seq (ab9 (iH hm hM a r nX h hN first) ?_);rintro e a' w' ⟨e',g',aj,E',rfl,h1,h2,h4⟩;cases e' with
 | normal =>
  obtain⟨x,π,hle,hi⟩:=h4;have hk:=rest x hi;rw[c9,a7]at hk;exact hk.h r (g'.dC π) a' w' sI hM (h1.dC hM hle) h2
 | ret=>exact⟨.ret,g',aj,E',rfl,h1,h2,h4⟩
 | exit n=>exact⟨.exit n,g',aj,E',rfl,h1,h2,h4⟩
end Go.Proofs.YthnefnlhcijekaaGreat.Fw
namespace Go.Proofs.YthnefnlhcijekaaGreat.Sl
open Go Go.RowKit Fw
theorem hm:Tryz.prog.follows .mixedOrders=true:=by kernel_rfl
abbrev pc:Ty:=.pair (.int .i64) (.pair .bool (.int .i64))
structure ck where
 cells:List (Int×Bool×Int)
 words:List Int
 each:Int
 first:Int
 free:Int
def ch (s:ck):List Chunk :=
  [.cells 169 [.vec 1 3 (fun _=>0) (fun _=>s.cells.length),.vec 2 1 (fun _=>0) (fun _=>s.words.length),.I s.each,.I s.first,.I s.free],
   .aq 171 pc fun _=>s.cells,.aq 41 (.int .u64) fun _=>s.words]
def gen (s:ck) (i:Nat):Int:=(s.cells.getD i (0,false,0)).1
def eA (s:ck) (i:Int):Int:=IntKind.i64.wrap (IntKind.i64.wrap (gen s i.toNat*64)+i)
def jb (s:ck) (h:Int):Bool:=decide (0<=h) && decide (h.tmod 64<s.cells.length) && (s.cells.getD (h.tmod 64).toNat (0,false,0)).2.1 && eA s (h.tmod 64) == h
theorem handle (s:ck) (i:Int) (h:0<=i/\i<s.cells.length):MU Tryz.prog 115 [.ptr 0 0,.I i] (ch s) (.I (eA s i)) (ch s):=by
 refine aa.q Tryz.func115 rfl fun S aw=>Wb _ ?_;repeat' first|exact tv|apply pr|intro hh
 .exact⟨h⟩
 .refine ae.w () [0,1,2] _ ?_;repeat' first|exact tv|apply pr
  show IntKind.i64.wrap (IntKind.i64.wrap ((s.cells.getD (0+i.toNat) pc.bA).1*64)+i)=_;rw[aaf];rfl
theorem qx {h:Int} (h0:¬h<0):0<=h.tmod 64/\h.tmod 64<64:=by
 have h1:=acC 64 (a:=h) (by omega);have h2:=Int.tmod_lt_of_pos h (b:=64) (by omega);omega
theorem Gl (s:ck) (h:Int):MU Tryz.prog 163 [.ptr 0 0,.I h] (ch s) (.bQ [.int .i64 fun _=>if 0<=h then h.tmod 64 else -1,.bool fun _=>jb s h]) (ch s):=by
 refine aa.q Tryz.func163 rfl fun S aw=>Wb _ ?_;repeat' first|exact tv|apply pr|intro hh
 .refine ae.w () [0,1,2] _ ?_;repeat' first|exact tv|apply pr
  .rw[ZY (by omega)]
  .simp[jb];omega
 .exact⟨by decide⟩
 .have:=qx ‹_›
  exact⟨⟨this.1,hh⟩⟩
 .have:=qx ‹_›
  (refine ab.q (handle s (h.tmod 64) ⟨this.1,‹_›⟩) [0,1,2] fun y hy=>Wb _ ?_;(repeat' first|exact tv|apply pr|intro hh));refine ae.w () [0,1,2] _ ?_;repeat' first|exact tv|apply pr
  .rw[Z0 (by omega)]
  .rename_i h1 h2
   have e:0+(h.tmod 64).toNat=(h.tmod 64).toNat:=aaf _;rw[e]at hh;have Gn:(s.cells.getD (h.tmod 64).toNat (0,false,0)).2.1=true:=hh;simp only[jb];rw[Gn,decide_eq_true (show 0<=h by omega),decide_eq_true h2];rfl
 .have:=qx ‹_›
  refine ae.w () [0,1,2] _ ?_;repeat' first|exact tv|apply pr
  .rw[Z0 (by omega)]
  .have e:0+(h.tmod 64).toNat=(h.tmod 64).toNat:=aaf _
   rw[e]at hh;have Gn:(s.cells.getD (h.tmod 64).toNat (0,false,0)).2.1=false:=hh;simp only[jb];rw[Gn];simp
 .refine ae.w () [0,1,2] _ ?_;repeat' first|exact tv|apply pr
  .rw[Z0 (by omega)]
  .simp only[jb];rw[decide_eq_false hh];simp
theorem wr {x:Int} (h:-9223372036854775808<=x/\x<=9223372036854775807):IntKind.i64.wrap x=x:=by rw[IntKind.wrap_i64];omega
structure Ok (s:ck) (n:Nat):Prop where
 len:s.cells.length=n
 cap:1<=n/\n<=64
 each:0<=s.each/\s.each<=1000
 words:(s.words.length:Int)=n*s.each
 first:-1<=s.first/\s.first<n
 next:∀ (i:Nat) (c:Int×Bool×Int),s.cells[i]?=some c->-1<=c.2.2/\c.2.2<n
theorem Ok.at_ {s:ck} {n:Nat} (h:Ok s n) {i:Int} (hi:0<=i/\i<n):0<=i*s.each/\i*s.each+s.each<=s.words.length/\(i+1)*s.each=i*s.each+s.each/\i*s.each+s.each<=64000:=by
 have h1:=h.words;have h2:=h.each;have h3:=h.cap;have h4:(i+1)*s.each=i*s.each+s.each:=by rw[abD,acG]
 have h5:0<=i*s.each:=aaw hi.1 h2.1;have h6:(i+1)*s.each<=n*s.each:=aa9 (by omega) h2.1;have h7:(n:Int)*s.each<=64*s.each:=aa9 (by omega) h2.1;omega
theorem ofM (s:ck) (n:Nat) (i:Int) (ok:Ok s n) (h:0<=i/\i<n):MU Tryz.prog 114 [.ptr 0 0,.I i] (ch s) (.vec 2 1 (fun _=>(i*s.each).toNat) (fun _=>s.each.toNat)) (ch s):=by
 have h1:=ok.at_ h;have h2:=ok.each;have h3:=ok.cap;have e1:IntKind.i64.wrap (i*s.each)=i*s.each:=wr (by omega);have e2:IntKind.i64.wrap (i+1)=i+1:=wr (by omega);have e3:IntKind.i64.wrap ((i+1)*s.each)=i*s.each+s.each:=by rw[h1.2.2.1];exact wr (by omega)
 refine aa.q Tryz.func114 rfl fun S aw=>Wb _ ?_;repeat' first|exact tv|apply pr|intro hh
 .refine⟨?_⟩
  simp only[];rw[e1,e2,e3];omega
 .refine ae.w () [0,1,2] _ ?_;repeat' first|exact tv|apply pr
  .rw[e1,aaf]
  .rw[e1,e2,e3];omega
def cellAt (s:ck) (i:Nat):Int×Bool×Int:=s.cells.getD i (0,false,0)
def gz (s:ck):ck:={ s with
 cells:=s.cells.set s.first.toNat ((cellAt s s.first.toNat).1,true,(cellAt s s.first.toNat).2.2)
 words:=s.words.take (s.first*s.each).toNat++List.replicate s.each.toNat 0++s.words.drop ((s.first*s.each).toNat+s.each.toNat)
 first:=(cellAt s s.first.toNat).2.2
 free:=IntKind.i64.wrap (s.free - 1) }
theorem mG {s:ck} {n:Nat} (h:Ok s n) (i:Nat):-1<=(cellAt s i).2.2/\(cellAt s i).2.2<n:=by
 unfold cellAt;rw[ZZ];cases hc:s.cells[i]? with
 | none=>have:=h.cap;simp;omega
 | some c=>exact h.next i c hc
theorem s8 {s:ck} {n:Nat} (h:Ok s n) (i:Nat) {d:Int×Bool×Int} (hd:∀ c,c=d->-1<=c.2.2/\c.2.2<n):∀ (j:Nat) (c:Int×Bool×Int),(s.cells.set i d)[j]?=some c->-1<=c.2.2/\c.2.2<n:=by
 intro j c hc;rw[abh]at hc;split at hc
 .split at hc
  .cases hc;exact hd _ rfl
  .cases hc
 .exact h.next j c hc
theorem Qs (s:ck) (n:Nat) (ok:Ok s n) (h:s.first≠-1):MU Tryz.prog 64 [.ptr 0 0] (ch s) (.bQ [.I (eA s s.first),.I 0]) (ch (gz s)):=by
 have h0:0<=s.first/\s.first<n:=by have:=ok.first;omega
 have h1:=ok.at_ h0;have hl:=ok.len;refine aa.q Tryz.func64 rfl fun S aw=>Wb _ ?_;repeat' first|exact tv|apply pr|intro hh
 .exact(h (by omega)).elim
 .exact⟨by simp only[];omega⟩
 .exact⟨by simp only[];omega⟩
 .obtain⟨s1,uY⟩:∃ s1:ck,s1={ s with cells:=s.cells.set s.first.toNat ((cellAt s s.first.toNat).1,true,(cellAt s s.first.toNat).2.2),first:=(cellAt s s.first.toNat).2.2,free:=IntKind.i64.wrap (s.free - 1) }:=⟨_,rfl⟩
  have X9:Ok s1 n:=by
   rw[uY];exact⟨by simpa using ok.len,ok.cap,ok.each,ok.words,mG ok _,s8 ok _ (fun c hc=>by subst hc;exact mG ok _)⟩
  have Wf:s1.each=s.each:=by rw[uY]
  refine ab.intro (ofM s1 n s.first X9 h0) [0,1,2] rfl rfl ?_ ?_ ?_
  .exact Vc
  .rw[uY];refine Vb _ ?_;repeat' first|exact tv|apply pr
   all_goals simp[cellAt,Ty.bA]
  .intro y hy
   rw[uY];(refine Wb _ ?_;(repeat' first|exact tv|apply pr|intro hh));have hw:=ok.words;refine ab.intro (handle (gz s) s.first (by simp[gz];omega)) [0,1,2] rfl rfl ?_ ?_ ?_
   .exact Vc
   .simp only[gz];refine Vb _ ?_;repeat' first|exact tv|apply pr
    all_goals (simp;try omega)
   .intro y hy
    (refine Wb _ ?_;(repeat' first|exact tv|apply pr|intro hh));(refine ae.w () [0,1,2] _ ?_;(repeat' first|exact tv|apply pr));have bf:s.first.toNat<s.cells.length:=by omega
    simp[eA,gen,gz,cellAt,abh,bf]
theorem Na (s:ck) (h:s.first=-1):MU Tryz.prog 64 [.ptr 0 0] (ch s) (.bQ [.I 0,.I 4]) (ch s):=by
 refine aa.q Tryz.func64 rfl fun S aw=>Wb _ ?_;repeat' first|exact tv|apply pr|intro hh
 .exact ae.z () [0,1,2]
 all_goals exact absurd h ‹_›
theorem Qt (s:ck):MU Tryz.prog 70 [.ptr 0 0] (ch s) (.I s.free) (ch s):=by
 refine aa.q Tryz.func70 rfl fun S aw=>Wb _ ?_;repeat' first|exact tv|apply pr|intro hh
 .exact ae.z () [0,1,2]
def lO (s:ck) (i:Nat):ck:={ s with
 cells:=s.cells.set i (IntKind.i64.wrap ((cellAt s i).1+1),false,s.first)
 first:=i
 free:=IntKind.i64.wrap (s.free+1) }
theorem iM {s:ck} {h:Int} (hg:jb s h=true):0<=h/\(0<=h.tmod 64/\h.tmod 64<s.cells.length)/\(cellAt s (h.tmod 64).toNat).2.1=true/\eA s (h.tmod 64)=h:=by
 simp only[jb,aai,decide_eq_true_eq,beq_iff_eq]at hg;exact⟨hg.1.1.1,⟨(qx (by omega)).1,hg.1.1.2⟩,hg.1.2,hg.2⟩
theorem Qu (s:ck) (h:Int):MU Tryz.prog 134 [.ptr 0 0,.I h] (ch s) (.int .i64 fun _=>if jb s h then 0 else 6) (ch (if jb s h then lO s (h.tmod 64).toNat else s)):=by
 refine aa.q Tryz.func134 rfl fun S aw=>Wb _ ?_;repeat' first|exact tv|apply pr|intro hh
 .refine ab.q (Gl s h) [0,1,2] fun y hy=>Wb _ ?_;repeat' first|exact tv|apply pr|intro hh
  .have hg:jb s h=false:=by simpa using hh
   (refine ae.w () [0,1,2] _ ?_;(repeat' first|exact tv|apply pr));all_goals simp[hg]
  all_goals (have hg:jb s h=true:=by simpa using hh)
  all_goals (have hq:=iM hg)
  .exact⟨by simp only[];rw[Z0 hq.1];exact hq.2.1⟩
  .exact⟨by simp only[];rw[Z0 hq.1];exact hq.2.1⟩
  .refine ae.w () [0,1,2] _ ?_;repeat' first|exact tv|apply pr
   all_goals (simp[hg,lO,cellAt,Ty.bA,hq.1])
   all_goals omega
def kz (s:ck) (i:Int) (xs:List Int):ck:={ s with words:=s.words.take (i*s.each).toNat++xs++s.words.drop ((i*s.each).toNat+s.each.toNat) }
theorem Nb (s:ck) (n:Nat) (ok:Ok s n) (h:Int) (xs:List Int):MU Tryz.prog 117 [.ptr 0 0,.I h,.aL (.int .u64) fun _=>xs] (ch s) (.int .i64 fun _=>if jb s h then(if(xs.length:Int)=s.each then 0 else 1)else 6) (ch (if jb s h/\(xs.length:Int)=s.each then kz s (h.tmod 64) xs else s)):=by
 refine aa.q Tryz.func117 rfl fun S aw=>Wb _ ?_;repeat' first|exact tv|apply pr|intro hh
 .refine ab.q (Gl s h) [0,1,2] fun y hy=>Wb _ ?_;repeat' first|exact tv|apply pr|intro hh
  .have hg:jb s h=false:=by simpa using hh
   (refine ae.w () [0,1,2] _ ?_;(repeat' first|exact tv|apply pr));all_goals simp[hg]
  .rename_i hg
   (refine ae.w () [0,1,2] _ ?_;(repeat' first|exact tv|apply pr));all_goals simp[hg,hh]
  .rename_i hg
   have he:(xs.length:Int)=s.each:=by simpa using hh
   have hq:=iM hg;have hl:=ok.len;have h1:=ok.at_ (i:=h.tmod 64) (by omega);have h2:=ok.each;have h3:=ok.words;refine ab.intro (ofM s n (h.tmod 64) ok (by omega)) [0,1,2] rfl rfl ?_ ?_ ?_
   .refine Vb _ ?_;repeat' first|exact tv|apply pr
    rw[Z0 hq.1]
   .exact Vc
   .intro y hy
    (refine Wb _ ?_;(repeat' first|exact tv|apply pr|intro hh));(refine ae.w () [0,1,2] _ ?_;(repeat' first|exact tv|apply pr));all_goals simp[kz,hg,he,lh]
    .omega
    .have e1:min xs.length s.each.toNat=s.each.toNat:=by omega
     have e2:xs.take s.each.toNat=xs:=Z6 (by omega);rw[e2];try simp[e1]
def rest (s:ck):AV:=.cM [.aL pc fun _=>s.cells,.aL (.int .u64) fun _=>s.words,.I s.each,.I s.first,.I s.free] 0
theorem Jm (s:ck) (i:Int) (h:0<=i/\i<s.cells.length):MU Tryz.prog 115 [rest s,.I i] [] (.I (eA s i)) []:=by
 refine aa.q Tryz.func115 rfl fun S aw=>Wb _ ?_;repeat' first|exact tv|apply pr|intro hh
 .exact⟨h⟩
 .exact ae.z () []
def dq (s:ck):Nat->List Int
 | 0=>[]|i+1=>dq s i++(if(cellAt s i).2.1 then[eA s i]else[])
def taken (s:ck):List Int:=dq s s.cells.length
theorem lP (s:ck) (i:Nat):∀ n,i<=n->∃ r,dq s n=dq s i++r
 | 0,h=>by
  have:i=0:=by omega
  subst this;exact⟨[],rfl⟩
 | n+1,h=>by
  by_cases e:i=n+1
  .subst e;exact⟨[],by simp⟩
  .obtain⟨r,hr⟩:=lP s i n (by omega)
   exact⟨r++(if(cellAt s n).2.1 then[eA s n]else[]),by simp only[dq,hr,ac6]⟩
theorem Gp (s:ck) {i:Nat} (hi:i<s.cells.length) (ht:(cellAt s i).2.1=true):(taken s)[(dq s i).length]?=some (eA s i):=by
 obtain⟨r,hr⟩:=lP s (i+1) s.cells.length hi;unfold taken;rw[hr];simp[dq,ht]
theorem Wg {n:Nat} (i:Nat) (h:i<n) (hn:n<=64):IntKind.i64.wrap ((i:Int)+1)=((i+1:Nat):Int):=by rw[wr (by omega)];omega
theorem Jn (s:ck) (hl:s.cells.length<=64):jl Tryz.prog 173 [.cM [rest s] 0] (fun x:Int=>[.I x]) (taken s):=by
 refine jl.intro hm (fn:=Tryz.f173) Tryz.func173 rfl (by decide) (aaM rfl) (fun x g g' us h=>?_) ?_
 .cases us with
  | nil=>exact h.elim
  | cons u r=>exact⟨by have:=h.1;rw[this.bY];exact .int _ _,by cases r with|nil=>trivial|cons=>exact h.2.elim⟩
 .intro S l Uh
  (refine Wb _ ?_;(repeat' first|exact tv|apply pr|intro hh));refine aM.intro hm (X:=Nat) (fun i=>i<=s.cells.length) (fun i=>s.cells.length - i)
   (fun i=>[(10,.I (i:Int)),(9,.I (s.cells.length:Int)),(8,.aL pc fun _=>s.cells),(1,.cM [rest s] 0),(0,.fn (.yield l) [] [])]) (fun i=>[.count fun _=>(dq s i).length]) 0 [0] ?_ (aae _) (fun i hi=>?_)
  .refine⟨rfl,rfl,?_,?_⟩
   .exact Vc
   .refine Vb _ ?_;repeat' first|exact tv|apply pr
    split
    .exact⟨trivial,trivial⟩
    .rename_i h _;exact(h rfl).elim
  .refine Wb _ ?_;repeat' first|exact tv|apply pr|intro hh
   .exact⟨by simp only[];omega⟩
   .have ht:(cellAt s i).2.1=true:=by simpa [cellAt,Ty.bA]using hh
    have bf:i<s.cells.length:=by omega
    (refine ab.q (Jm s i (by omega)) [] fun y hy=>Wb _ ?_;(repeat' first|exact tv|apply pr|intro hh));refine Uh (dq s i).length (eA s i) [(17,.tt),(10,.I (i:Int)),(9,.I (s.cells.length:Int)),(8,.aL pc fun _=>s.cells),(1,.cM [rest s] 0),(0,.fn (.yield l) [] [])] (Gp s bf ht) ?_ ⟨rfl,rfl,?_,?_⟩ ?_ ?_
    .exact Vc
    .exact Vc
    .refine Vb _ ?_;repeat' first|exact tv|apply pr
     split
     .exact⟨trivial,trivial⟩
     .rename_i h _;exact(h rfl).elim
    .refine Wb _ ?_;repeat' first|exact tv|apply pr|intro hh
     refine⟨i+1,[0],⟨rfl,rfl,?_,?_⟩,bf,by omega⟩
     .refine Vb _ ?_;repeat' first|exact tv|apply pr
      simp[dq,ht]
     .refine Vb _ ?_;repeat' first|exact tv|apply pr
      .exact Wg i bf hl
      .split
       .exact⟨trivial,trivial⟩
       .rename_i h _;exact(h rfl).elim
    .refine Wb _ ?_;repeat' first|exact tv|apply pr|intro hh
     refine⟨_,⟨rfl,trivial⟩,.inr rfl⟩
   .have ht:(cellAt s i).2.1=false:=by simpa [cellAt,Ty.bA]using hh
    have bf:i<s.cells.length:=by omega
    refine⟨i+1,[0],⟨rfl,rfl,?_,?_⟩,bf,by omega⟩
    .refine Vb _ ?_;repeat' first|exact tv|apply pr
     simp[dq,ht]
    .refine Vb _ ?_;repeat' first|exact tv|apply pr
     .exact Wg i bf hl
     .split
      .exact⟨trivial,trivial⟩
      .rename_i h _;exact(h rfl).elim
   .have e:i=s.cells.length:=by omega
    subst e;exact⟨_,⟨rfl,trivial⟩,.inl rfl⟩
theorem Nc (s:ck):MU Tryz.prog 121 [.ptr 0 0] (ch s) (.fn (.func 173) [] [.ptr 3 0]) (ch s++[.cells 108 [.ptr 0 0]]):=by
 (refine aa.q Tryz.func121 rfl fun S aw=>Wb _ ?_;(repeat' first|exact tv|apply pr|intro hh));exact ae.z () [0,1,2,3]
theorem vj (s:ck):∀ i,(dq s i).length<=i
 | 0=>Z8 _
 | i+1=>by have:=vj s i;simp only[dq,aab];split <;> simp <;> omega
theorem Qv (s:ck) (hl:s.cells.length<=64):MU Tryz.prog 66 [.ptr 0 0] (ch s) (.aL (.int .i64) fun _=>taken s) (ch s):=by
 (refine aa.q Tryz.func66 rfl fun S aw=>Wb _ ?_;(repeat' first|exact tv|apply pr|intro hh));(refine ab.q (Nc s) [0,1,2] fun y hy=>Wb _ ?_;(repeat' first|exact tv|apply pr|intro hh));refine aB.nil 3 (.int .i64) (some (3,0)) [] ?_;(conv=>whnf);refine aB.range hm aw [1,2,0,4] ?_;(conv=>whnf);refine qv.intro (Jn s hl) _ (X:=List Int) (fun k x=>x=(taken s).take k) (fun _ _=>False)
  (fun x=>[.none,.none,.none,.cells 122 [.vec 5 1 (fun _=>0) fun _=>x.length],.none,.aq 3 (.int .i64) fun _=>x]) [] rfl ?_ (fun _=>rfl) ?_ ?_ (fun _=>rfl) ⟨rfl,rfl⟩ (by simp) ?_ ?_ ?_
 .refine Vb _ ?_;repeat' first|exact tv|apply pr
  all_goals simp
 .intro p hp;simp at hp;subst hp;decide
 .exact Vc
 .intro S1 S2 k x y hy hx
  have Mo:x.length<=64:=by have:=vj s s.cells.length;rw[hx,aak];unfold taken;omega
  refine Wb _ ?_;repeat' first|exact tv|apply pr|intro hh
  .refine⟨⟨rfl,?_,?_⟩⟩
   .show x.length+1<=_
    omega
   .show(x.length+1)*8<=_
    omega
  .refine⟨x++[y],[0,1,2,3,4,5],rfl,rfl,?_,?_⟩
   .refine Vb _ ?_;repeat' first|exact tv|apply pr
    all_goals simp
   .rw[hx,aaE,hy];rfl
 .intro x hx
  refine⟨rfl,?_⟩;have qg:x=taken s:=by rw[hx];exact Z6 (Z8 _)
  (refine Wb _ ?_;(repeat' first|exact tv|apply pr|intro hh));(refine ae.gU 5 ?_;(conv=>whnf));(refine ae.w () [0,1,2] _ ?_;(repeat' first|exact tv|apply pr));simp[qg]
 .intro e x h;exact h.elim
def db (c i:Nat):List (Int×Bool×Int):=(List.range c).map fun j=>(0,false,if j<i then((j:Int)+1)else 0)
def gZ (c w:Nat):ck:={ cells:=(db c c).set (c - 1) (0,false,-1),words:=List.replicate (c*w) 0,each:=w,first:=0,free:=c }
theorem cv (c i:Nat):(db c i).length=c:=by simp[db]
theorem rl (c:Nat):List.replicate c ((0:Int),false,(0:Int))=db c 0:=by
 apply abG;intro k;simp only[db,aaS,List.getElem?_range',aaC];by_cases hk:k<c
 .simp[hk]
 .simp[hk]
theorem rn (c i:Nat) (h:i<c) (x:Int×Bool×Int) (hx:x=(0,false,(i:Int)+1)):(db c i).set i x=db c (i+1):=by
 subst hx;apply abG;intro k;rw[abh];simp only[db,aaS,aba,List.length_range];by_cases hk:k<c
 .by_cases Du:i=k
  .subst Du;simp[h]
  .have:(k<i+1)=(k<i):=by apply propext;omega
   simp[Du,hk,this]
 .by_cases Du:i=k
  .omega
  .simp[Du,hk]
theorem vk (c i k:Nat) (hk:k<c) (h:i<=k):(db c i).getD k (0,false,0)=(0,false,0):=by
 have:¬k<i:=by omega
 simp[db,ZZ,hk,this]
theorem qy (c i k:Nat) (hk:k<c) (h:k<i):(db c i).getD k (0,false,0)=(0,false,(k:Int)+1):=by
 simp[db,ZZ,hk,h]
theorem nc (c w:Nat) (hc:1<=c/\c<=64) (hw:w<=32):MU Tryz.prog 56 [.I (c:Int),.I (w:Int)] [] (.bQ [.ptr 0 0,.I 0]) (ch (gZ c w)):=by
 have ZA:c*w<=64*32:=Nat.mul_le_mul hc.2 hw;have Qw:IntKind.i64.wrap ((c:Int)*(w:Int))=((c*w:Nat):Int):=by rw[<-acW];exact wr (by omega)
 (refine aa.q Tryz.func56 rfl fun S aw=>Wb _ ?_;(repeat' first|exact tv|apply pr|intro hh));all_goals first|omega|skip
 all_goals first
  | (refine Ob.mk ?_;simp only[Qw];exact⟨by omega,by omega,by omega,by show(8:Int)*_<=_;omega⟩)
  | (refine Ob.mk ?_;exact⟨by simp only[];omega,by simp only[];omega,by simp only[];omega,by
    have hb:(Tryz.t171.bytes:Int)<=1000:=by decide
    have:=aaH hb (show(c:Int)<=64 by omega) (by omega) (by omega);simp only[];omega⟩)
  | skip
 .refine aM.intro hm (X:=Nat) (fun i=>i<=c) (fun i=>c - i)
   (fun i=>[(37,.I (i:Int)),(36,.I (c:Int)),(6,.ptr 0 0),(0,.I (c:Int)),(1,.I (w:Int))])
   (fun i=>ch { gZ c w with cells:=db c i }) 0 [2,0,1] ⟨rfl,rfl,?_,?_⟩ (aae _) (fun i hi=>?_)
  .refine Vb _ ?_;repeat' first|exact tv|apply pr
   .simp[cv]
   .rw[Qw,Z4];simp[gZ]
   .simpa using rl c
   .rw[Qw,Z4];simp[gZ]
  .refine Vb _ ?_;repeat' first|exact tv|apply pr
   all_goals simp
  .refine Wb _ ?_;repeat' first|exact tv|apply pr|intro hh
   .exact⟨by simp only[cv];omega⟩
   .refine⟨i+1,[0,1,2],⟨rfl,rfl,?_,?_⟩,by omega,by omega⟩
    .refine Vb _ ?_;repeat' first|exact tv|apply pr
     .simp[cv]
     .have hg:(db c i).getD i (0,false,0)=(0,false,0):=vk c i i (by omega) (Z8 _)
      have e0:0+((i:Nat):Int).toNat=i:=by simp
      rw[e0,wr (by omega)];exact rn c i (by omega) _ (by rw[show pc.bA=((0:Int),false,(0:Int))from rfl,hg])
    .refine Vb _ ?_;repeat' first|exact tv|apply pr
     rw[wr (by omega)];omega
   .refine⟨?_⟩
    simp only[cv];rw[wr (by omega)];omega
   .have e:i=c:=by omega
    subst e;refine ae.w () [0,1,2] _ ?_;repeat' first|exact tv|apply pr
    .simp[gZ,cv]
    .have hg:(db i i).getD (i - 1) (0,false,0)=(0,false,((i - 1:Nat):Int)+1):=qy i i (i - 1) (by omega) (by omega)
     have e0:0+(IntKind.i64.wrap ((i:Int) - 1)).toNat=i - 1:=by rw[wr (by omega)];omega
     rw[e0,show pc.bA=((0:Int),false,(0:Int))from rfl,hg];rfl
 .refine aM.intro hm (X:=Nat) (fun i=>i<=c) (fun i=>c - i)
   (fun i=>[(37,.I (i:Int)),(36,.I (c:Int)),(6,.ptr 0 0),(0,.I (c:Int)),(1,.I (w:Int))])
   (fun i=>ch { gZ c w with cells:=db c i }) 0 [2,1,0] ⟨rfl,rfl,?_,?_⟩ (aae _) (fun i hi=>?_)
  .refine Vb _ ?_;repeat' first|exact tv|apply pr
   .simp[cv]
   .rw[Qw,Z4];simp[gZ]
   .simpa using rl c
   .rw[Qw,Z4];simp[gZ]
  .refine Vb _ ?_;repeat' first|exact tv|apply pr
   all_goals simp
  .refine Wb _ ?_;repeat' first|exact tv|apply pr|intro hh
   .exact⟨by simp only[cv];omega⟩
   .refine⟨i+1,[0,1,2],⟨rfl,rfl,?_,?_⟩,by omega,by omega⟩
    .refine Vb _ ?_;repeat' first|exact tv|apply pr
     .simp[cv]
     .have hg:(db c i).getD i (0,false,0)=(0,false,0):=vk c i i (by omega) (Z8 _)
      have e0:0+((i:Nat):Int).toNat=i:=by simp
      rw[e0,wr (by omega)];exact rn c i (by omega) _ (by rw[show pc.bA=((0:Int),false,(0:Int))from rfl,hg])
    .refine Vb _ ?_;repeat' first|exact tv|apply pr
     rw[wr (by omega)];omega
   .refine⟨?_⟩
    simp only[cv];rw[wr (by omega)];omega
   .have e:i=c:=by omega
    subst e;refine ae.w () [0,1,2] _ ?_;repeat' first|exact tv|apply pr
    .simp[gZ,cv]
    .have hg:(db i i).getD (i - 1) (0,false,0)=(0,false,((i - 1:Nat):Int)+1):=qy i i (i - 1) (by omega) (by omega)
     have e0:0+(IntKind.i64.wrap ((i:Int) - 1)).toNat=i - 1:=by rw[wr (by omega)];omega
     rw[e0,show pc.bA=((0:Int),false,(0:Int))from rfl,hg];rfl
theorem Nd (xs:List Int) (hl:xs.length<=100000):MU Tryz.prog 164 [.aL (.int .u64) fun _=>xs] [] (.vec 0 1 (fun _=>0) (fun _=>xs.length)) [.aq 41 (.int .u64) fun _=>xs]:=by
 refine aa.q Tryz.func164 rfl fun S aw=>?_;(conv=>whnf)
 ((refine Wb _ ?_;(repeat' first|exact tv|apply pr|intro hh));all_goals(refine Wb _ ?_;(repeat' first|exact tv|apply pr|intro hh)))
 .have hx:xs=[]:=‹_=true->xs=[]› hh
  refine ae.nil 41 (.int .u64) 0 ?_;(conv=>whnf);(refine ae.w () [0] _ ?_;(repeat' first|exact tv|apply pr));all_goals simp[hx]
 .refine⟨⟨rfl,?_,?_⟩⟩
  .show 0+xs.length<=_
   omega
  .show(0+xs.length)*8<=_
   omega
 .exact ae.z () [0]
theorem BY (s:ck) (n:Nat) (ok:Ok s n) (h:Int) (hg:jb s h=true):MU Tryz.prog 111 [.ptr 0 0,.I h] (ch s) (.bQ [.aL (.int .u64) fun _=>(s.words.drop (h.tmod 64*s.each).toNat).take s.each.toNat,.I 0]) (ch s):=by
 have hq:=iM hg;have hl:=ok.len;have h1:=ok.at_ (i:=h.tmod 64) (by omega);have h2:=ok.each;have h3:=ok.words;refine aa.q Tryz.func111 rfl fun S aw=>Wb _ ?_;repeat' first|exact tv|apply pr|intro hh
 .refine ab.q (Gl s h) [0,1,2] fun y hy=>Wb _ ?_;repeat' first|exact tv|apply pr|intro hh
  .rw[hg]at hh;cases hh
  .refine ab.intro (ofM s n (h.tmod 64) ok (by omega)) [0,1,2] rfl rfl ?_ ?_ ?_
   .refine Vb _ ?_;repeat' first|exact tv|apply pr
    rw[Z0 hq.1]
   .exact Vc
   .intro y hy
    (refine Wb _ ?_;(repeat' first|exact tv|apply pr|intro hh));refine ab.rest (Nd ((s.words.drop (h.tmod 64*s.each).toNat).take s.each.toNat) (by simp;omega)) [2] ?_ (fun _ _=>⟨rfl,rfl⟩) ?_
    .exact Vc
    .intro y hy
     (refine Wb _ ?_;(repeat' first|exact tv|apply pr|intro hh));(refine ae.gU 3 ?_;(conv=>whnf));(refine ae.w () [0,1,2] _ ?_;(repeat' first|exact tv|apply pr));rw[aah,aac]
structure Ref where
 gen:List Int
 taken:List Bool
 words:List (List Int)
 row:List Int
def Nf (s:Ref) (i:Nat):Int:=IntKind.i64.wrap (IntKind.i64.wrap (64*s.gen.getD i 0)+i)
def gK (s:Ref) (i:Nat) (r:List Int):Ref:={ s with taken:=s.taken.set i true,words:=s.words.set i (List.replicate (s.words.getD i []).length 0),row:=r }
structure ID (s:Ref) (n w:Nat):Prop where
 gen:s.gen.length=n
 taken:s.taken.length=n
 words:s.words.length=n
 cap:1<=n/\n<=64/\w<=32
 each:∀ x∈s.words,x.length=w
 row:s.row.length<=n/\∀ x∈s.row,0<=x/\x<n
theorem ID.wH {s:Ref} {n w:Nat} (h:ID s n w) {i:Nat} (hi:i<n):(s.words.getD i []).length=w:=by
 rw[ZZ,Z1 (by rw[h.words];exact hi)];exact h.each _ (aax _)
def dx (s:Ref) (h:Int):Int :=
 if h<0 then -1 else if(s.gen.length:Int)<=h.tmod 64\/s.taken.getD (h.tmod 64).toNat false=false\/s.gen.getD (h.tmod 64).toNat 0≠h.tdiv 64 then -1 else h.tmod 64
def jI (s:Ref) (h:Int):Ref :=
 if dx s h<0 then s else { s with taken:=s.taken.set (dx s h).toNat false,gen:=s.gen.set (dx s h).toNat (IntKind.i64.wrap (s.gen.getD (dx s h).toNat 0+1)),row:=dx s h::s.row }
def pf (s:Ref) (h:Int) (xs:List Int):Ref:={ s with words:=s.words.set (dx s h).toNat xs }
def eH (s:Ref):Nat->List Int
 | 0=>[]|i+1=>eH s i++(if s.taken.getD i false then[Nf s i]else[])
def Ay (s:Ref):List Int:=eH s s.gen.length
def jq (c w:Nat):Ref:={ gen:=List.replicate c 0,taken:=List.replicate c false,words:=List.replicate c (List.replicate w 0),row:=(List.range c).map fun j:Nat=>(j:Int) }
theorem Ok.new {c w:Nat} (hc:1<=c/\c<=64) (hw:w<=32):Ok (gZ c w) c:=by
 refine⟨by simp[gZ,cv],hc,⟨by simp[gZ],by simp only[gZ];omega⟩,by simp[gZ],⟨by simp[gZ],by simp only[gZ];omega⟩,fun i d hd=>?_⟩;simp only[gZ]at hd;rw[abh]at hd;split at hd
 .split at hd
  .cases hd;exact⟨by simp,by simp only[];omega⟩
  .cases hd
 .rename_i bC
  simp only[db,aaS]at hd;cases hr:(List.range c)[i]? with
  | none=>rw[hr]at hd;cases hd
  | some j =>
   rw[hr]at hd;have hj:=(Z2.1 hr)
   obtain⟨h1,h2⟩:=hj;simp at h1 h2;simp only[aaO,aaJ]at hd;subst hd;subst h2;simp only[h1,if_true];omega
theorem Ok.take {s:ck} {n:Nat} (h:Ok s n) (hf:s.first≠-1):Ok (gz s) n:=by
 have h0:0<=s.first/\s.first<n:=by have:=h.first;omega
 have h1:=h.at_ h0;have h2:=h.each;have h3:=h.words;exact⟨by simpa [gz]using h.len,h.cap,h.each,by simp only[gz,aab,aak,aar,aaz];omega,mG h _,s8 h _ (fun c hc=>by subst hc;exact mG h _)⟩
theorem Ok.Gq {s:ck} {n:Nat} (h:Ok s n) {i:Nat} (hi:i<n):Ok (lO s i) n :=
 ⟨by simpa [lO]using h.len,h.cap,h.each,h.words,⟨by simp only[lO];omega,by simp only[lO];omega⟩,s8 h _ (fun c hc=>by subst hc;exact h.first)⟩
theorem Ok.write {s:ck} {n:Nat} (h:Ok s n) {i:Int} {xs:List Int} (hi:0<=i/\i<n) (hx:(xs.length:Int)=s.each):Ok (kz s i xs) n:=by
 have h1:=h.at_ hi;have h2:=h.each;have h3:=h.words;exact⟨h.len,h.cap,h.each,by simp only[kz,aab,aak,aar];omega,h.first,h.next⟩
def ax (s:ck) (h:Int):List Int:=(s.words.drop (h.tmod 64*s.each).toNat).take s.each.toNat
def pg (s:ck):Int->List Int->Prop
 | f,[]=>f=-1
 | f,i::r=>f=i/\0<=i/\pg s (cellAt s i.toNat).2.2 r
structure Rel (s:ck) (r:Ref) (n w b:Nat):Prop where
 ok:Ok s n
 iY:ID r n w
 each:s.each=w
 gen:∀ i,i<n->(cellAt s i).1=r.gen.getD i 0/\(cellAt s i).2.1=r.taken.getD i false
 bound:∀ i,i<n->0<=r.gen.getD i 0/\r.gen.getD i 0<=b
 words:∀ i,i<n->∀ k,k<w->s.words[i*w+k]?=(r.words.getD i [])[k]?
 chain:pg s s.first r.row
 free:s.free=r.row.length
 nodup:r.row.Nodup
 row:∀ i:Nat,i<n->((i:Int)∈r.row↔r.taken.getD i false=false)
theorem bj {α:Type} (l:List α) (i j:Nat) (x d:α) (h:i<l.length):(l.set i x).getD j d=if i=j then x else l.getD j d:=by
 rw[ZZ,ZZ,abh];by_cases e:i=j
 .subst e;simp[h]
 .simp[e]
section
variable {s:ck} {r:Ref} {n w b:Nat}
theorem Rel.eA (h:Rel s r n w b) (hb:b<=100000000000) {i:Nat} (hi:i<n):eA s i=64*r.gen.getD i 0+i/\Nf r i=64*r.gen.getD i 0+i:=by
 have h1:=(h.gen i hi).1;have h2:=h.bound i hi;have h3:=h.ok.cap;have e:Sl.gen s ((i:Int).toNat)=r.gen.getD i 0:=by rw[Z4];exact h1
 unfold Sl.eA Nf;rw[e,wr (x:=r.gen.getD i 0*64) (by omega),wr (x:=64*r.gen.getD i 0) (by omega),wr (by omega),wr (by omega)];omega
theorem Rel.iM (h:Rel s r n w b) (hb:b<=100000000000) (x:Int):jb s x=true↔¬dx r x<0:=by
 have hl:=h.ok.len;have hg:=h.iY.gen;by_cases hx:x<0
 .have:dx r x=-1:=by unfold dx;rw[Z0 hx]
  simp only[jb,this];rw[decide_eq_false (by omega)];simp
 .have ht:=qx hx
  have IC:x=64*(x.tdiv 64)+x.tmod 64:=(ab0 x 64).symm;by_cases bf:x.tmod 64<s.cells.length
  .have hi:(x.tmod 64).toNat<n:=by omega
   have e:((x.tmod 64).toNat:Int)=x.tmod 64:=by omega
   have hh:=h.eA hb hi;rw[e]at hh;have h2:=h.gen _ hi;simp only[jb,dx,ZY hx];have ec:(s.cells.getD (x.tmod 64).toNat (0,false,0)).2.1=r.taken.getD (x.tmod 64).toNat false:=h2.2;rw[ec,decide_eq_true (show 0<=x by omega),decide_eq_true bf];by_cases h3:r.taken.getD (x.tmod 64).toNat false=false
   .rw[Z0 (.inr (.inl h3)),h3];simp
   .by_cases h4:r.gen.getD (x.tmod 64).toNat 0=x.tdiv 64
    .rw[ZY (by rintro(h5|h5|h5);omega;exact h3 h5;exact h5 h4)]
     have Gn:r.taken.getD (x.tmod 64).toNat false=true:=by simpa using h3
     have h6:Sl.eA s (x.tmod 64)=x:=by rw[hh.1];omega
     rw[Gn,h6];simp;omega
    .rw[Z0 (.inr (.inr h4))]
     have h6:Sl.eA s (x.tmod 64)≠x:=by rw[hh.1];omega
     simp[h6]
  .have:dx r x=-1:=by unfold dx;rw[ZY hx,Z0 (.inl (by omega))]
   simp only[jb,this];rw[decide_eq_false bf];simp
theorem ga {x:Int} (hr:¬dx r x<0):dx r x=x.tmod 64/\0<=x.tmod 64/\x.tmod 64<r.gen.length/\r.taken.getD (x.tmod 64).toNat false=true/\r.gen.getD (x.tmod 64).toNat 0=x.tdiv 64:=by
 unfold dx at hr ⊢;by_cases hx:x<0
 .rw[Z0 hx]at hr;omega
 .rw[ZY hx]at hr ⊢
  have:=qx hx;split at hr
  .omega
  .rename_i hc
   rw[ZY hc];have h1:¬(r.gen.length:Int)<=x.tmod 64:=fun h=>hc (.inl h);have h2:¬r.taken.getD (x.tmod 64).toNat false=false:=fun h=>hc (.inr (.inl h));have h3:r.gen.getD (x.tmod 64).toNat 0=x.tdiv 64:=aaG fun h=>hc (.inr (.inr h));exact⟨rfl,this.1,by omega,by simpa using h2,h3⟩
theorem Rel.Gr (h:Rel s r n w b) (hb:b<=100000000000):taken s=Ay r:=by
 have hl:=h.ok.len;have hg:=h.iY.gen;have key:∀ i,i<=n->dq s i=eH r i:=by
  intro i;induction i with
  | zero=>intro _;rfl
  | succ i ih =>
   intro hi;have h1:=h.gen i (by omega);have h2:=h.eA hb (i:=i) (by omega);simp only[dq,eH,ih (by omega),h1.2,h2.1,h2.2]
 unfold taken Ay;rw[hl,hg];exact key n (Z8 _)
theorem Rel.tc (h:Rel s r n w b) {i:Int} {l:List Int} (hr:r.row=i::l):s.first=i/\0<=i/\i<n:=by
 have:=h.chain;rw[hr]at this;exact⟨this.1,h.iY.row.2 i (by rw[hr];exact Z7 ..)⟩
theorem oc {s s':ck} (he:∀ i,(cellAt s' i).2.2=(cellAt s i).2.2):∀ (l:List Int) (f:Int),pg s f l->pg s' f l
 | [],_,h=>h
 | i::l,f,h=>⟨h.1,h.2.1,by rw[he];exact oc he l _ h.2.2⟩
theorem vl {s s':ck} {j:Nat} (he:∀ i,i≠j->(cellAt s' i).2.2=(cellAt s i).2.2):∀ (l:List Int) (f:Int),(j:Int)∉l->(∀ x∈l,0<=x)->pg s f l->pg s' f l
 | [],_,_,_,h=>h
 | i::l,f,hj,hp,h=>⟨h.1,h.2.1,by
   have h1:i.toNat≠j:=fun e=>hj (by have:=hp i (Z7 ..);rw[<-e,aaB this];exact Z7 ..);rw[he _ h1];exact vl he l _ (fun h=>hj (Z5 _ h)) (fun x hx=>hp x (Z5 _ hx)) h.2.2⟩
theorem Ng {w i j k k':Nat} (hk:k<w) (vY:k'<w) (h:i<j):i*w+k<j*w:=by
 have:(i+1)*w<=j*w:=aav w h;rw[aaQ,abY]at this;omega
theorem BZ {ws xs:List Int} {w i:Nat} (hl:i*w+w<=ws.length) (hx:xs.length=w) {j k:Nat} (hk:k<w) :
  (ws.take (i*w)++xs++ws.drop (i*w+w))[j*w+k]?=if j=i then xs[k]? else ws[j*w+k]?:=by
 have e1:(ws.take (i*w)).length=i*w:=by rw[aak];omega
 rw[ac6,aau,e1];rcases abr j i with h|h|h
 .have:=Ng (k':=k) hk hk h
  rw[Z0 this,ZY (by omega),aap,Z0 this]
 .subst h
  rw[ZY (by omega),Z0 rfl,aau,Z0 (by omega)];congr 1;omega
 .have h1:(i+1)*w<=j*w:=aav w h
  rw[aaQ,abY]at h1;rw[ZY (by omega),ZY (by omega),aau,ZY (by omega),aam];congr 1;omega
theorem toNat_mul {s:ck} {w:Nat} (he:s.each=w) (i:Nat):((i:Int)*s.each).toNat=i*w/\s.each.toNat=w:=by
 rw[he];exact⟨by rw[<-acW];exact Z4 _,Z4 _⟩
theorem Rel.take (h:Rel s r n w b) {i:Nat} {l:List Int} (hr:r.row=(i:Int)::l):Rel (gz s) (gK r i l) n w b:=by
 obtain⟨hf,_,kj⟩:=h.tc hr;have hi:i<n:=by omega
 have hl:=h.ok.len;have hg:=h.iY.gen;have ht:=h.iY.taken;have hw:=h.iY.words;have bC:s.first≠-1:=by omega
 have aw:=h.ok.take bC;have vm:∀ j,cellAt (gz s) j=if i=j then((cellAt s i).1,true,(cellAt s i).2.2)else cellAt s j:=by
  intro j;have e:s.first.toNat=i:=by rw[hf];exact Z4 i
  show(s.cells.set s.first.toNat _).getD j (0,false,0)=_;rw[bj _ _ _ _ _ (by omega),e];rfl
 have EU:∀ j,(cellAt (gz s) j).2.2=(cellAt s j).2.2:=by
  intro j;rw[vm];split
  .rename_i e;subst e;rfl
  .rfl
 have hm:=toNat_mul h.each i;have ql:=h.ok.at_ (i:=(i:Int)) (by omega);have Wi:=h.chain;rw[hr]at Wi;have hlen:(r.words.getD i []).length=w:=h.iY.wH hi;have eA:=h.nodup;rw[hr]at eA;have lj:=h.iY.row;rw[hr]at lj;have Nh:=h.ok.words;rw[h.each]at Nh;have qa:n*w=s.words.length:=by
  have:((n*w:Nat):Int)=s.words.length:=by rw[Nh];exact acW n w
  omega
 refine⟨aw,⟨hg,by simpa [gK]using ht,by simpa [gK]using hw,h.iY.cap,fun x hx=>?_,⟨by simp only[gK,Z9]at lj ⊢;omega,fun x hx=>lj.2 x (Z5 _ hx)⟩⟩,h.each,fun j hj=>?_,h.bound,fun j hj k hk=>?_,?_,?_,(aaT.1 eA).2,fun j hj=>?_⟩
 .rcases acm hx with h1|h1
  .exact h.iY.each x h1
  .rw[h1,aaz];exact hlen
 .have h1:=h.gen j hj
  rw[vm];simp only[gK];rw[bj _ _ _ _ _ (by omega)];split
  .rename_i e;subst e;exact⟨h1.1,rfl⟩
  .exact h1
 .have h1:=h.words j hj k hk
  simp only[gz,gK];rw[hf,hm.1,hm.2,BZ (by rw[<-qa];have:=aav w (show i+1<=n by omega);rw[aaQ,abY]at this;exact this) (by simp) hk,bj _ _ _ _ _ (by omega)];by_cases e:j=i
  .subst e;simp only[if_true,hlen]
  .rw[ZY e,ZY (fun e2=>e e2.symm)];exact h1
 .show pg (gz s) (cellAt s s.first.toNat).2.2 l
  rw[hf,Z4];have h5:=Wi.2.2;rw[Z4]at h5;exact oc EU _ _ h5
 .show IntKind.i64.wrap (s.free - 1)=_
  have h1:=h.free;rw[hr]at h1;have h2:=lj.1;have h3:=h.ok.cap;simp only[Z9]at h1 h2;rw[wr (by omega)];simp only[gK];omega
 .have h1:=h.row j hj
  rw[hr]at h1;simp only[gK];rw[bj _ _ _ _ _ (by omega)];by_cases e:i=j
  .subst e
   rw[Z0 rfl];simp only[Bool.true_eq_false,iff_false];exact(aaT.1 eA).1
  .rw[ZY e,<-h1,aaj]
   constructor
   .exact .inr
   .rintro(h2|h2)
    .omega
    .exact h2
theorem Rel.Gq (h:Rel s r n w b) (hb:b<=10000000000) {x:Int} (hx:¬dx r x<0):Rel (lO s (x.tmod 64).toNat) (jI r x) n w (b+1):=by
 obtain⟨hv,h0,bf,SL,_⟩:=ga hx;have hg:=h.iY.gen;have ht:=h.iY.taken;have hw:=h.iY.words;have hl:=h.ok.len;obtain⟨i,hi⟩:∃ i:Nat,x.tmod 64=i:=⟨(x.tmod 64).toNat,by omega⟩
 have kj:i<n:=by omega
 have Ya:jI r x={ r with taken:=r.taken.set i false,gen:=r.gen.set i (IntKind.i64.wrap (r.gen.getD i 0+1)),row:=(i:Int)::r.row }:=by
  unfold jI;rw[ZY hx,hv,hi,Z4]
 rw[Ya,hi,Z4];rw[hi,Z4]at SL;have Az:=h.bound i kj;have yg:IntKind.i64.wrap (r.gen.getD i 0+1)=r.gen.getD i 0+1:=wr (by omega);have Yb:=(h.gen i kj).1;have vm:∀ j,cellAt (lO s i) j=if i=j then(r.gen.getD i 0+1,false,s.first)else cellAt s j:=by
  intro j;show(s.cells.set i _).getD j (0,false,0)=_;rw[bj _ _ _ _ _ (by omega),Yb,yg];rfl
 have Ni:(i:Int)∉r.row:=fun hm=>by rw[(h.row i kj).1 hm]at SL;cases SL
 have hlen:r.row.length<n:=by
  have Jo:r.row.length<=((List.range n).filter (fun j=>decide (j≠i))).length:=by
   have:r.row.map Int.toNat ⊆ (List.range n).filter (fun j=>decide (j≠i)):=by
    intro y hy;obtain⟨z,hz,rfl⟩:=aas.1 hy;have Yc:=h.iY.row.2 z hz;refine aa1.2 ⟨abu.2 (by omega),?_⟩;simp only[decide_eq_true_eq];intro e;exact Ni (by rw[<-e,aaB Yc.1];exact hz)
   have eA:(r.row.map Int.toNat).Nodup:=by
    have:=h.nodup;refine(abI).2 (abv (fun {a c} ha hc Yd=>?_) this);have h1:=h.iY.row.2 a ha;have h2:=h.iY.row.2 c hc;intro e;exact Yd (by omega)
   have:=List.Nodup.length_le_of_subset eA this;simpa using this
  have hf:((List.range n).filter (fun j=>decide (j≠i))).length<n:=by
   have h1:((List.range n).filter (fun j=>decide (j≠i))).length<(List.range n).length:=by
    refine List.length_filter_lt_length_iff_exists.2 ⟨i,abu.2 kj,by simp⟩
   simpa using h1
  omega
 refine⟨h.ok.Gq kj,⟨by simpa using hg,by simpa using ht,hw,h.iY.cap,h.iY.each,⟨by simp only[Z9];omega,fun y hy=>?_⟩⟩,h.each,fun j hj=>?_,fun j hj=>?_,h.words,?_,?_,aaT.2 ⟨Ni,h.nodup⟩,fun j hj=>?_⟩
 .rcases aaj.1 hy with rfl|hy
  .omega
  .exact h.iY.row.2 y hy
 .rw[vm]
  simp only[];rw[bj _ _ _ _ _ (by omega),bj _ _ _ _ _ (by omega),yg];split
  .exact⟨rfl,rfl⟩
  .exact h.gen j hj
 .have:=h.bound j hj
  simp only[];rw[bj _ _ _ _ _ (by omega),yg];split <;> omega
 .show pg (lO s i) (i:Int) ((i:Int)::r.row)
  refine⟨rfl,by omega,?_⟩;rw[Z4,vm,Z0 rfl];exact vl (j:=i) (fun j hj=>by rw[vm,ZY (fun e=>hj e.symm)]) _ _ Ni (fun y hy=>(h.iY.row.2 y hy).1) h.chain
 .show IntKind.i64.wrap (s.free+1)=_
  have h1:=h.free;have h3:=h.ok.cap;rw[wr (by omega),h1];simp
 .simp only[]
  rw[bj _ _ _ _ _ (by omega),aaj];by_cases e:i=j
  .subst e;simp
  .rw[ZY e,<-h.row j hj]
   constructor
   .rintro(h2|h2)
    .omega
    .exact h2
   .exact .inr
theorem Rel.read (h:Rel s r n w b) {x:Int} (hx:¬dx r x<0):ax s x=r.words.getD (dx r x).toNat []:=by
 obtain⟨hv,h0,bf,_,_⟩:=ga hx;have hg:=h.iY.gen;obtain⟨i,hi⟩:∃ i:Nat,x.tmod 64=i:=⟨(x.tmod 64).toNat,by omega⟩
 have kj:i<n:=by omega
 rw[hv,hi,Z4];have hm:=toNat_mul h.each i;have hlen:(r.words.getD i []).length=w:=h.iY.wH kj;unfold ax;rw[hi,hm.1,hm.2];apply abG;intro k;rw[aap];split
 .rename_i hk
  rw[aam];exact h.words i kj k hk
 .rename_i hk
  rw[aat (by omega)]
theorem Rel.write (h:Rel s r n w b) {x:Int} (hx:¬dx r x<0) {xs:List Int} (hl:xs.length=w):Rel (kz s (x.tmod 64) xs) (pf r x xs) n w b:=by
 obtain⟨hv,h0,bf,_,_⟩:=ga hx;have hg:=h.iY.gen;have hw:=h.iY.words;obtain⟨i,hi⟩:∃ i:Nat,x.tmod 64=i:=⟨(x.tmod 64).toNat,by omega⟩
 have kj:i<n:=by omega
 have hm:=toNat_mul h.each i;have Nh:=h.ok.words;rw[h.each]at Nh;have qa:n*w=s.words.length:=by
  have:((n*w:Nat):Int)=s.words.length:=by rw[Nh];exact acW n w
  omega
 have Ye:pf r x xs={ r with words:=r.words.set i xs }:=by unfold pf;rw[hv,hi,Z4]
 rw[Ye,hi];have dh:∀ j,cellAt (kz s (i:Int) xs) j=cellAt s j:=fun j=>rfl;refine⟨h.ok.write (by omega) (by rw[h.each,hl]),⟨hg,h.iY.taken,by simpa using hw,h.iY.cap,fun y hy=>?_,h.iY.row⟩,h.each,h.gen,h.bound,fun j hj k hk=>?_,oc (fun j=>by rw[dh]) _ _ h.chain,h.free,h.nodup,h.row⟩
 .rcases acm hy with h1|h1
  .exact h.iY.each y h1
  .rw[h1];exact hl
 .have h1:=h.words j hj k hk
  simp only[kz];rw[hm.1,hm.2,BZ (by rw[<-qa];have:=aav w (show i+1<=n by omega);rw[aaQ,abY]at this;exact this) hl hk,bj _ _ _ _ _ (by omega)];by_cases e:j=i
  .subst e;simp
  .rw[ZY e,ZY (fun e2=>e e2.symm)];exact h1
theorem vn (c w i:Nat) (hi:i<c):cellAt (gZ c w) i=(0,false,if i+1<c then((i+1:Nat):Int)else -1):=by
 show((db c c).set (c - 1) (0,false,-1)).getD i (0,false,0)=_;rw[bj _ _ _ _ _ (by rw[cv];omega),qy c c i hi hi];by_cases h:c - 1=i
 .rw[Z0 h,ZY (by omega)]
 .rw[ZY h,Z0 (by omega)];simp
theorem Rel.new {c w:Nat} (hc:1<=c/\c<=64) (hw:w<=32):Rel (gZ c w) (jq c w) c w 0:=by
 have Qx:∀ {α:Type} (x d:α) (i:Nat),i<c->(List.replicate c x).getD i d=x:=fun x d i hi=>by
  rw[ZZ,aaC,Z0 hi];rfl
 have lj:∀ k,k<=c->∀ l:List Int,l=((List.range c).drop k).map (fun j:Nat=>(j:Int))->pg (gZ c w) (if k<c then(k:Int)else -1) l:=by
  intro k;induction hk:c - k generalizing k with
  | zero=>intro _ l hl;subst hl;rw[ZY (by omega),acF (by simp;omega)];rfl
  | succ m ih =>
   intro ZB l hl;subst hl;rw[Z0 (by omega),aaU (by simp;omega)];simp only[List.getElem_range,aal];refine⟨rfl,by omega,?_⟩;rw[Z4,vn c w k (by omega)];exact ih (k+1) (by omega) (by omega) _ rfl
 refine⟨Ok.new hc hw,⟨by simp[jq],by simp[jq],by simp[jq],⟨hc.1,hc.2,hw⟩,fun x hx=>?_,⟨by simp[jq],fun x hx=>?_⟩⟩,rfl,fun i hi=>?_,fun i hi=>?_,fun i hi k hk=>?_,?_,by simp[gZ,jq],?_,fun i hi=>?_⟩
 .rw[abP hx];simp
 .simp only[jq,aas,abu]at hx
  obtain⟨j,hj,rfl⟩:=hx;omega
 .rw[vn c w i hi]
  simp only[jq];rw[Qx _ _ i hi,Qx _ _ i hi];exact⟨rfl,rfl⟩
 .simp only[jq]
  rw[Qx _ _ i hi];omega
 .simp only[gZ,jq]
  rw[Qx _ _ i hi,aaC,aaC,Z0 hk,Z0];have:=aav w (show i+1<=c by omega);rw[aaQ,abY]at this;omega
 .have:=lj 0 (aae _) _ rfl
  rw[Z0 (by omega),aah]at this;exact this
 .simp only[jq]
  refine abI.2 (List.Pairwise.imp (fun {a c} h=>?_) List.nodup_range);omega
 .simp only[jq]
  rw[Qx _ _ i hi];simp only[aas,abu,iff_true];exact⟨i,hi,rfl⟩
end
def td (s:ck):Int×Int:=if s.first=-1 then(0,4)else(eA s s.first,0)
def tf (s:ck):ck:=if s.first=-1 then s else gz s
theorem Qy (s:ck) (n:Nat) (ok:Ok s n):MU Tryz.prog 64 [.ptr 0 0] (ch s) (.bQ [.I ((td s).1),.I ((td s).2)]) (ch (tf s)):=by
 by_cases h:s.first=-1
 .simp only[td,tf,Z0 h];exact Na s h
 .simp only[td,tf,ZY h];exact Qs s n ok h
section
variable {s:ck} {r:Ref} {n w b:Nat}
end
section
variable {s:ck} {r:Ref} {n w b:Nat}
theorem Rel.Nj (h:Rel s r n w b) (hb:b<=100000000000) (hr:r.row≠[]):∃ (i:Nat) (l:List Int),r.row=(i:Int)::l/\i<n/\Sl.td s=(64*r.gen.getD i 0+i,0)/\Rel (Sl.tf s) (gK r i l) n w b:=by
 cases lj:r.row with
 | nil=>exact(hr lj).elim
 | cons i l =>
  obtain⟨h1,h2,h3⟩:=h.tc lj;have h4:=h.eA hb (i:=i.toNat) (by omega);rw[aaB h2]at h4;refine⟨i.toNat,l,by rw[aaB h2],by omega,?_,?_⟩
  .unfold Sl.td;rw[ZY (by omega),h1,h4.1,aaB h2]
  .unfold Sl.tf;rw[ZY (by omega)];exact h.take (by rw[aaB h2];exact lj)
end
end Go.Proofs.YthnefnlhcijekaaGreat.Sl
namespace Go.Proofs.YthnefnlhcijekaaGreat.Fw
open Go Go.RowKit
def IE:Chunk->Chunk
 | .iZ T cs=>.cells T cs|c=>c
def cls:Chunk->Chunk
 | .cells T cs=>.iZ T cs|c=>c
theorem Jp {g:Gh} {i:Nat} {w:World} {c:Chunk} (h:c.sat g i w):(IE c).sat g i w:=by cases c <;> exact h
theorem Jq (g:Gh) (i:Nat) (c:Chunk) (b:Nat):(IE c).own g i b=c.own g i b:=by cases c <;> rfl
theorem Jr {g:Gh} {i:Nat} {w:World} {c:Chunk} (h:c.sat g i w):(cls c).sat g i w:=by cases c <;> exact h
theorem Js (g:Gh) (i:Nat) (c:Chunk) (b:Nat):(cls c).own g i b=c.own g i b:=by cases c <;> rfl
theorem Nk {c:Chunk} (h:Iy c=false):Iy (IE c)=false:=by cases c <;> first|rfl|exact h
theorem Inv.one {B:bS} {g:Gh} {env:Env} {E:List Chunk} {tmps:Array Value} {w:World} (h:Inv B g env E tmps w) {i:Nat} {d:Chunk} (hs:(af E i).sat g i w->d.sat g i w) (ho:∀ b,d.own g i b=(af E i).own g i b)
  (hk:c8 (af B.E i)=true->Iy d=false):Inv B g env (a8 E i d) tmps w:=by
 have hb:∀ j b,(af (a8 E i d) j).own g j b=(af E j).own g j b:=fun j b=>by
  rw[bx];split
  .rename_i e;rw[<-e.1];exact ho b
  .rfl
 refine⟨h.er,⟨by rw[b8];exact h.aW.len,h.aW.dn,fun j=>?_,fun j k b hj hk=>h.aW.lf j k b (by rw[<-hb];exact hj) (by rw[<-hb];exact hk),fun j b hj=>h.aW.dE j b (by rw[<-hb];exact hj)⟩,
  ⟨h.ext.os,h.ext.tape,h.ext.output,h.ext.size,h.ext.cz,h.ext.dn,h.ext.fz,fun j b hj=>h.ext.own j b (by rw[<-hb];exact hj),h.ext.n,h.ext.ids,h.ext.kk,fun j hf=>?_,h.ext.rC,h.ext.qi⟩⟩
 .rw[bx];split
  .rename_i e;rw[<-e.1];exact hs (h.aW.sat i)
  .exact h.aW.sat j
 .rw[bx];split
  .rename_i e;rw[<-e.1]at hf;exact hk hf
  .exact h.ext.mY j hf
def DL:List Nat->List Chunk->List Chunk
 | [],E=>E|i::r,E=>DL r (a8 E i (IE (af E i)))
def Jt:List Nat->List Chunk->List Chunk
 | [],E=>E|i::r,E=>Jt r (a8 E i (cls (af E i)))
def tg (M:List Bool):List Nat->Bool
 | []=>true|i::r=>(match nth M i with|some true=>false|_=>tg M r)
theorem Inv.DL {B:bS} {g:Gh} {env:Env} {tmps:Array Value} {w:World}:∀ (is:List Nat) {E:List Chunk},Inv B g env E tmps w->Inv B g env (Fw.DL is E) tmps w
 | [],E,h=>h
 | i::r,E,h=>Inv.DL r (h.one Jp (Jq g i _) fun hf=>Nk (h.ext.mY i hf))
theorem Inv.Jt {B:bS} {g:Gh} {env:Env} {tmps:Array Value} {w:World}:∀ (is:List Nat) {E:List Chunk},tg (bw B.E) is=true->Inv B g env E tmps w->Inv B g env (Fw.Jt is E) tmps w
 | [],E,_,h=>h
 | i::r,E,hm,h=>by
  have key:nth (bw B.E) i≠some true/\tg (bw B.E) r=true:=by
   simp only[tg]at hm;split at hm
   .cases hm
   .rename_i bC;exact⟨fun e=>bC e,hm⟩
  exact Inv.Jt r key.2 (h.one Jr (Js g i _) fun hf=>(key.1 (by rw[gE];exact qs _ _ hf)).elim)
section
variable {P:Program} {N:Nat} {M:List Bool} {S:Sc} {c:Code} {env:Env} {E:List Chunk} {K:Ex->Env->List Chunk->Prop}
theorem aB.IE (is:List Nat) (k:iq (DL is E) fun E=>aB P N S M c env E K):aB P N S M c env E K where
 h:=by
  intro r g a w hr hM hI hN;rw[a7]at k;obtain⟨B,hB,h,hd⟩:=hI;exact k.h r g a w hr hM ⟨B,hB,h.DL is,hd⟩ hN
theorem ae.cls {l:List AV} {Y:Type} {Q:Y->Prop} {res:Y->List AV} {out:Y->List Chunk} (is:List Nat) (hm:tg M is=true) (k:ae M env (Jt is E) l Q res out):ae M env E l Q res out where
 h:=by
  intro B g tmps w cs hB hI hr;exact k.h B g tmps w cs hB (hI.Jt is (by rw[hB];exact hm)) hr
end
theorem Ju {c:Chunk} (h:c8 c=true):c8 (IE c)=true:=by cases c <;> first|rfl|exact h
theorem B0:∀ (is:List Nat) (E:List Chunk) (j:Nat),c8 (af E j)=true->c8 (af (DL is E) j)=true
 | [],E,j,h=>h
 | i::r,E,j,h=>by
  refine B0 r _ j ?_;rw[bx];split
  .rename_i e;rw[<-e.1]at h;exact Ju h
  .exact h
theorem B2:∀ (is:List Nat) (E:List Chunk),ah (DL is E)=ah E
 | [],E=>rfl
 | i::r,E=>by rw[DL,B2 r,b8]
theorem aa.iZ {P:Program} {f:FuncId} {args:List AV} {E:List Chunk} {Y:Type} {Q:Y->Prop} {res:Y->AV} {out:Y->List Chunk} (is:List Nat) (hf:tg (bw E) is=true)
  (hm:aa P f args (DL is E) Q res out):aa P f args E Q res (fun y=>Jt is (out y)) where
 aA:=hm.aA
 h:=by
  intro g w aC hS hr;have T5:Inv ⟨g,E,w⟩ g [] E #[] w:=Inv.start hS (fun t=>.undef _);have O3:=T5.DL is;refine(hm.h g w aC O3.aW hr).mono ?_;rintro e w' ⟨y,c,g',hq,rfl,h1,h2,h3⟩;have hx:Ext ⟨g,E,w⟩ g' (out y) w':=Ext.trans (B1:=⟨g,Fw.DL is E,w⟩) O3.ext h3 (fun i hi=>B0 is E i hi) (ab4 (B2 is E).symm);have Jv:Inv ⟨g,E,w⟩ g' [] (out y) #[] w':=⟨fun t=>.undef _,h2,hx⟩
  have M8:=Jv.Jt is hf;exact⟨y,c,g',hq,rfl,h1,M8.aW,M8.ext⟩
theorem aa.as {P:Program} {f:FuncId} {args:List AV} {E:List Chunk} {Y Y':Type} {Q:Y->Prop} {res:Y->AV} {out:Y->List Chunk} {Q':Y'->Prop} {nf:Y'->AV} {DM:Y'->List Chunk}
  (hm:aa P f args E Q res out) (h:∀ y,Q y->∃ y',Q' y'/\res y=nf y'/\out y=DM y'):aa P f args E Q' nf DM where
 aA:=hm.aA
 h:=by
  intro g w aC hS hr;refine(hm.h g w aC hS hr).mono ?_;rintro e w' ⟨y,c,g',hq,rfl,h1,h2,h3⟩;obtain⟨y',k1,k2,k3⟩:=h y hq;exact⟨y',c,g',k1,rfl,by rw[<-k2];exact h1,by rw[<-k3];exact h2,by rw[<-k3];exact h3⟩
theorem R.refs {g g':Gh} (hn:g'.n=g.n) (hB:g'.B=g.B) (hV:g'.V=g.V) (hL:g'.L=g.L) (hW:g'.W=g.W) (hM:g'.M=g.M):∀ v u,isRef v=true->R g v u->R g' (id v) u:=by
 intro v u hv h;cases h <;> first|(cases hv;done)|skip
 .rw[<-hB];exact .ptr (g:=g') _ _ (by rw[hn];assumption)
 .rw[<-hB];exact .bg (g:=g') _ _ _ _ (by rw[hn];assumption) (by rw[hL];assumption)
 .rename_i hi Dn rK hs
  exact .vec (g:=g') _ _ _ _ _ _ (by rw[hn];exact hi) (by rw[hL];exact Dn) (by rw[hV];exact rK) (by rw[hV,hB];exact hs)
 .rw[<-hB];exact .mp (g:=g') _ (by rw[hn];assumption)
 .rename_i hi hf
  rw[<-hW];exact .hp (g:=g') _ _ (by rw[hn];exact hi) (by rw[hM];exact hf)
 .rename_i hi hf
  rw[<-hW];exact .hm (g:=g') _ _ (by rw[hn];exact hi) (by rw[hM];exact hf)
def pk (E:List Chunk):OQ where
 h Φ b S hp:=∃ gh:Gh,gh.Φ=Φ/\gh.n=ah E/\gh.B 0=b/\(∀ i (w:World),(∀ k,S k->w.heap[k]?=hp k)->(af E i).sat gh i w)/\(∀ i j b,(af E i).own gh i b->(af E j).own gh j b->i=j)/\∀ i b,(af E i).own gh i b->S b
 mono:=by
  rintro Φ Φ' b S hp Iu hA hS ⟨gh,rfl,h2,h3,h4,h5,h6⟩;have Yf:∀ A k u,At gh A k u->At { gh with Φ:=Φ' } A k u:=by
   rintro A k u ⟨b,off,cells,T,fr,rfl,h7,h8⟩;obtain⟨cs,T',Pr,h9,fu⟩:=hA b (off+k) u ⟨cells,T,fr,h7,h8⟩;exact⟨b,off,cs,T',Pr,rfl,h9,fu⟩
  have ho:∀ i b,(af E i).own { gh with Φ:=Φ' } i b=(af E i).own gh i b:=fun i b=>Chunk.qh (g:=gh) rfl rfl rfl rfl;refine⟨{ gh with Φ:=Φ' },rfl,h2,h3,fun i w hw=>?_,fun i j b hi hj=>h5 i j b (by rwa [ho]at hi) (by rwa [ho]at hj),fun i b hb=>h6 i b (by rwa [ho]at hb)⟩;have hs:=h4 i w fun k hk=>(hw k hk).trans (hS k hk);have:=Chunk.sS (g:=gh) (g':={ gh with Φ:=Φ' }) (i:=i) (j:=i) (w':=w) id Yf (R.refs rfl rfl rfl rfl rfl rfl) rfl rfl rfl rfl rfl rfl (fun h=>h) (fun _ _=>rfl) hs;rwa [wu]at this
def rt:AV->AV
 | .ptr 0 o=>.ptr 0 o|_=>.undef
theorem B3 {g g':Gh} (hB:g'.B 0=g.B 0) (h0:0<g.n->0<g'.n):∀ v u,isRef v=true->R g v u->R g' (rt v) u:=by
 intro v u hv h;cases h <;> first|(cases hv;done)|skip
 .rename_i i off hi
  cases i with
  | zero=>simp only[rt];rw[<-hB];exact .ptr (g:=g') 0 off (h0 hi)
  | succ i=>exact .undef _
 all_goals exact .undef _
noncomputable def qz (S:Nat->Prop):Nat->Nat:=fun k=>by classical exact if S k then k+1 else 0
theorem jW (S:Nat->Prop) (b:Nat):(∃ k,qz S k=b+1)↔S b:=by
 unfold qz;constructor
 .rintro⟨k,hk⟩
  split at hk
  .have:k=b:=by omega
   subst this;assumption
  .omega
 .intro h;exact⟨b,by rw[Z0 h]⟩
theorem wI {g1:Gh} {E:List Chunk} {w:World} (h:eE g1 E w) {g':Gh} {i:Nat} (hΦ:g'.Φ=g1.Φ) (hB:g'.B i=g1.B 0) (hM:g'.M i=0) (hW:g'.W i=qz fun b=>∃ i,(af E i).own g1 i b):(Chunk.bq (pk E)).sat g' i w:=by
 have hS:∀ b,(∃ k,g'.W i k=b+1)↔∃ i,(af E i).own g1 i b:=fun b=>by rw[hW];exact jW _ b
 refine⟨hM,fun b k hk=>?_,g1,hΦ.symm,h.len.symm,hB.symm,fun j w' hw=>?_,h.lf,fun j b hb=>(hS b).2 ⟨j,hb⟩⟩
 .obtain⟨j,hj⟩:=(hS b).1 ⟨k,hk⟩
  exact mE (h.sat j) hj
 .exact Chunk.fj (fun _ _ _ h=>h) (fun _ _ h=>h) rfl rfl rfl rfl rfl rfl (fun b hb=>hw b ((hS b).2 ⟨j,hb⟩)) (h.sat j)
section
variable {P:Program} {f:FuncId} {args:List AV} {Y:Type} {Q:Y->Prop} {res:Y->AV}
theorem aa.pack {E:List Chunk} {out:Y->List Chunk} (hm:aa P f args E Q res out) (ha:eP rt args=args) (hr:∀ y,Q y->df rt (res y)=res y) (h0:c8 (af E 0)=true) :
  aa P f args [.bq (pk E)] Q res (fun y=>[.bq (pk (out y))]) where
 aA:=hm.aA
 h:=by
  intro g w aC hS hv;have hs:=hS.sat 0;obtain⟨DN,Qz,gh,hΦ,hn,hB,fU,Nl,cO⟩:=hs;have SF:g.n=1:=hS.len.symm;have Ui:eE gh E w:=⟨hn.symm,fun b o hb=>hS.dn b o (by rw[<-hΦ];exact hb),fun i=>fU i w fun _ _=>rfl,Nl,fun i b hb=>by rw[hΦ];exact hS.dE 0 b (cO i b hb)⟩
  have Jw:0<ah E:=jD h0;have Uj:RL gh args aC:=by
   have:=hv.map (g':=gh) rt (fun b o h=>by rw[hΦ];exact h) (B3 hB fun _=>by rw[hn];exact Jw);rwa [ha]at this
  refine(hm.h gh w aC Ui Uj).mono ?_;rintro e w' ⟨y,c,g1,hq,rfl,h1,h2,h3⟩;have O0:g1.B 0=g.B 0:=(h3.ids 0 h0).1.trans hB;have BU:∀ b,(⟨gh,E,w⟩:bS).owns b->(⟨g,[.bq (pk E)],w⟩:bS).owns b:=fun b ⟨i,hi⟩=>⟨0,cO i b hi⟩
  have Lt:∀ (b:Nat),(Chunk.bq (pk (out y))).own { g with n:=1,Φ:=g1.Φ,W:=fun i=>if i=0 then qz fun b=>∃ i,(af (out y) i).own g1 i b else g.W i } 0 b->∃ i,(af (out y) i).own g1 i b:=fun b hb=>(jW _ b).1 hb;refine⟨y,c,{ g with n:=1,Φ:=g1.Φ,W:=fun i=>if i=0 then qz fun b=>∃ i,(af (out y) i).own g1 i b else g.W i },hq,rfl,?_,⟨rfl,h2.dn,fun i=>?_,fun i j b hi hj=>?_,fun i b hi=>?_⟩,
   ⟨h3.os,h3.tape,h3.output,h3.size,fun b k1 k2=>h3.cz b k1 fun ho=>k2 (BU b ho),fun b o hb=>h3.dn b o (by rw[hΦ];exact hb),fun b o hb=>?_,fun i b hi=>?_,Z8 _,fun i hi=>⟨rfl,rfl,rfl⟩,rfl,fun i hi=>?_,fun i k hi hk=>?_,fun i hi=>Z8 _⟩⟩
  .have:=h1.map (g':={ g with n:=1,Φ:=g1.Φ,W:=fun i=>if i=0 then qz fun b=>∃ i,(af (out y) i).own g1 i b else g.W i }) rt (fun b o (h:g1.Φ b=some o)=>h) (B3 (g:=g1) O0.symm fun _=>Nat.one_pos)
   rwa [hr y hq]at this
  .cases i with
   | zero=>exact wI h2 rfl O0.symm DN rfl
   | succ i=>trivial
  .cases i <;> cases j <;> first|rfl|(cases hi;done)|(cases hj;done)
  .cases i with
   | zero=>obtain⟨j,hj⟩:=Lt b hi;exact h2.dE j b hj
   | succ i=>cases hi
  .rcases h3.fz b o hb with h4|h4|h4
   .exact .inl (by rw[<-hΦ];exact h4)
   .exact .inr (.inl h4)
   .exact .inr (.inr (BU b h4))
  .cases i with
   | zero =>
    obtain⟨j,hj⟩:=Lt b hi;exact(h3.own j b hj).imp id (BU b)
   | succ i=>cases hi
  .cases i with
   | zero=>rfl
   | succ i=>cases hi
  .cases i with
   | zero=>rw[show(⟨g,[.bq (pk E)],w⟩:bS).g.M 0=0 from DN]at hk;exact absurd hk (abW k)
   | succ i=>cases hi
theorem aa.Jy {out:Y->List Chunk} (hm:aa P f args [] Q res out) (hr:∀ y,Q y->df rt (res y)=res y):aa P f args [] Q res (fun y=>[.bq (pk (out y))]) where
 aA:=hm.aA
 h:=by
  intro g w aC hS hv;refine(hm.h g w aC hS hv).mono ?_;rintro e w' ⟨y,c,g1,hq,rfl,h1,h2,h3⟩;refine⟨y,c,{ g1 with n:=1,M:=fun _=>0,W:=fun i=>qz fun b=>∃ i,(af (out y) i).own g1 i b },hq,rfl,?_,⟨rfl,h2.dn,fun i=>?_,fun i j b hi hj=>?_,fun i b hi=>?_⟩,
   ⟨h3.os,h3.tape,h3.output,h3.size,h3.cz,h3.dn,h3.fz,fun i b hi=>?_,aae _,fun i hi=>?_,h3.kk,fun i hi=>?_,fun i k hi hk=>?_,fun i hi=>?_⟩⟩
  .have:=h1.map (g':={ g1 with n:=1,M:=fun _=>0,W:=fun i=>qz fun b=>∃ i,(af (out y) i).own g1 i b }) rt (fun b o (h:g1.Φ b=some o)=>h) (B3 (g:=g1) rfl fun _=>Nat.one_pos)
   rwa [hr y hq]at this
  .cases i with
   | zero=>exact wI h2 rfl rfl rfl rfl
   | succ i=>trivial
  .cases i <;> cases j <;> first|rfl|(cases hi;done)|(cases hj;done)
  .cases i with
   | zero=>obtain⟨j,hj⟩:=(jW _ b).1 hi;exact h2.dE j b hj
   | succ i=>cases hi
  .cases i with
   | zero=>obtain⟨j,hj⟩:=(jW _ b).1 hi;exact h3.own j b hj
   | succ i=>cases hi
  .cases i <;> cases hi
  .cases i <;> cases hi
  .cases i <;> cases hi
  .cases i <;> cases hi
def DO {X:Type} (p:X->Prop) (q:X->OQ):OQ where
 h Φ b S hp:=∃ x,p x/\(q x).h Φ b S hp
 mono:=fun Φ Φ' b S hp Iu h1 h2 ⟨x,hx,h3⟩=>⟨x,hx,(q x).mono Φ Φ' b S hp Iu h1 h2 h3⟩
theorem B4 {q q':OQ} (h:∀ Φ b S hp,q.h Φ b S hp->q'.h Φ b S hp) {g:Gh} {i:Nat} {w:World} (hs:(Chunk.bq q).sat g i w):(Chunk.bq q').sat g i w:=⟨hs.1,hs.2.1,h _ _ _ _ hs.2.2⟩
theorem eE.swap {g:Gh} {E:List Chunk} {w:World} (h:eE g E w) {i:Nat} {q q':OQ} (hi:af E i=.bq q) (hs:(Chunk.bq q').sat g i w):eE g (a8 E i (.bq q')) w:=by
 have ho:∀ j b,(af (a8 E i (.bq q')) j).own g j b=(af E j).own g j b:=fun j b=>by
  rw[bx];split
  .rename_i e;rw[<-e.1,hi];rfl
  .rfl
 refine⟨by rw[b8];exact h.len,h.dn,fun j=>?_,fun j k b hj hk=>h.lf j k b (by rwa [ho]at hj) (by rwa [ho]at hk),fun j b hj=>h.dE j b (by rwa [ho]at hj)⟩;rw[bx];split
 .rename_i e;rw[<-e.1];exact hs
 .exact h.sat j
theorem Ext.Lu {B:bS} {g:Gh} {E:List Chunk} {w:World} (h:Ext B g E w) {i:Nat} {q q':OQ} (hi:af E i=.bq q):Ext B g (a8 E i (.bq q')) w:=by
 have ho:∀ j b,(af (a8 E i (.bq q')) j).own g j b=(af E j).own g j b:=fun j b=>by
  rw[bx];split
  .rename_i e;rw[<-e.1,hi];rfl
  .rfl
 refine⟨h.os,h.tape,h.output,h.size,h.cz,h.dn,h.fz,fun j b hj=>h.own j b (by rwa [ho]at hj),h.n,h.ids,h.kk,fun j hj=>?_,h.rC,h.qi⟩;rw[bx];split
 .rfl
 .exact h.mY j hj
theorem Ext.QA {g0:Gh} {E0:List Chunk} {w0:World} {g:Gh} {E:List Chunk} {w:World} {i:Nat} {q q':OQ} (hi:af E0 i=.bq q) (h:Ext ⟨g0,a8 E0 i (.bq q'),w0⟩ g E w):Ext ⟨g0,E0,w0⟩ g E w:=by
 have ho:∀ b,(⟨g0,a8 E0 i (.bq q'),w0⟩:bS).owns b↔(⟨g0,E0,w0⟩:bS).owns b:=fun b=>by
  have:∀ j,(af (a8 E0 i (.bq q')) j).own g0 j b=(af E0 j).own g0 j b:=fun j=>by
   rw[bx];split
   .rename_i e;rw[<-e.1,hi];rfl
   .rfl
  exact⟨fun⟨j,hj⟩=>⟨j,(this j).mp hj⟩,fun⟨j,hj⟩=>⟨j,(this j).mpr hj⟩⟩
 have hf:∀ j,c8 (af E0 j)=true->c8 (af (a8 E0 i (.bq q')) j)=true:=fun j hj=>by
  rw[bx];split
  .rfl
  .exact hj
 refine⟨h.os,h.tape,h.output,h.size,fun b h1 h2=>h.cz b h1 fun h3=>h2 ((ho b).1 h3),h.dn,fun b o hb=>?_,fun j b hj=>(h.own j b hj).imp id (ho b).1,by have:=h.n;rwa [b8]at this,fun j hj=>h.ids j (hf j hj),h.kk,fun j hj=>h.mY j (hf j hj),fun j k hj hk=>h.rC j k (hf j hj) hk,fun j hj=>h.qi j (hf j hj)⟩;rcases h.fz b o hb with h1|h1|h1
 .exact .inl h1
 .exact .inr (.inl h1)
 .exact .inr (.inr ((ho b).1 h1))
theorem aa.Wj {E:List Chunk} {out:Y->List Chunk} {X:Type} {p:X->Prop} {q:X->OQ} (i:Nat) (hi:af E i=.bq (DO p q)) (h:∀ x,p x->aa P f args (a8 E i (.bq (q x))) Q res out) (hc:fE P f):aa P f args E Q res out where
 aA:=hc
 h:=by
  intro g w aC hS hv;have hs:=hS.sat i;rw[hi]at hs;obtain⟨h1,h2,x,hx,h3⟩:=hs;refine((h x hx).h g w aC (hS.swap hi ⟨h1,h2,h3⟩) hv).mono ?_;rintro e w' ⟨y,c,g1,hq,rfl,k1,k2,k3⟩;exact⟨y,c,g1,hq,rfl,k1,k2,k3.QA hi⟩
theorem aa.SM {E:List Chunk} {out:Y->List Chunk} {Y':Type} {Q':Y'->Prop} {nf:Y'->AV} {DM:Y'->List Chunk} (i:Nat) (hm:aa P f args E Q res out)
  (h:∀ y,Q y->∃ y' q q',Q' y'/\res y=nf y'/\af (out y) i=.bq q/\DM y'=a8 (out y) i (.bq q')/\∀ Φ b S hp,q.h Φ b S hp->q'.h Φ b S hp):aa P f args E Q' nf DM where
 aA:=hm.aA
 h:=by
  intro g w aC hS hv;refine(hm.h g w aC hS hv).mono ?_;rintro e w' ⟨y,c,g1,hq,rfl,k1,k2,k3⟩;obtain⟨y',q,q',h1,h2,h3,h4,h5⟩:=h y hq;have hs:=k2.sat i;rw[h3]at hs;exact⟨y',c,g1,h1,rfl,by rw[<-h2];exact k1,by rw[h4];exact k2.swap h3 (B4 h5 hs),by rw[h4];exact k3.Lu h3⟩
theorem aa.boxed {X Y':Type} {p:X->Prop} {ch:X->List Chunk} {p':Y'->X->Prop} {Q':Y'->Prop} {nf:Y'->AV} (hc:fE P f)
  (h:∀ x,p x->aa P f args (ch x) (Y:=Y'×X) (fun y=>Q' y.1/\p' y.1 y.2) (fun y=>nf y.1) (fun y=>ch y.2)) (ha:eP rt args=args) (hr:∀ y,Q' y->df rt (nf y)=nf y) (h0:∀ x,p x->c8 (af (ch x) 0)=true) :
  aa P f args [.bq (DO p fun x=>pk (ch x))] Q' nf (fun y=>[.bq (DO (p' y) fun x=>pk (ch x))]) :=
 aa.Wj 0 rfl (fun x hx=>(aa.pack (h x hx) ha (fun y hy=>hr y.1 hy.1) (h0 x hx)).SM 0 fun y hy=>⟨y.1,_,_,hy.1,rfl,rfl,rfl,fun Φ b S hp hq=>⟨y.2,hy.2,hq⟩⟩) hc
theorem aa.lQ {X Y':Type} {ch:X->List Chunk} {p':Y'->X->Prop} {Q':Y'->Prop} {nf:Y'->AV}
  (h:aa P f args [] (Y:=Y'×X) (fun y=>Q' y.1/\p' y.1 y.2) (fun y=>nf y.1) (fun y=>ch y.2)) (hr:∀ y,Q' y->df rt (nf y)=nf y) :
  aa P f args [] Q' nf (fun y=>[.bq (DO (p' y) fun x=>pk (ch x))]) :=
 (aa.Jy h fun y hy=>hr y.1 hy.1).SM 0 fun y hy=>⟨y.1,_,_,hy.1,rfl,rfl,rfl,fun Φ b S hp hq=>⟨y.2,hy.2,hq⟩⟩
end
end Go.Proofs.YthnefnlhcijekaaGreat.Fw
set_option maxRecDepth 8000
namespace Go.Proofs.YthnefnlhcijekaaGreat.Eb
open Go Go.RowKit Fw
theorem DP {a i:Int} (ha:0<=a) (hi:0<=i/\i<64):(64*a+i).tmod 64=i/\(64*a+i).tdiv 64=a:=by
 rw[abc (by omega),aaq (by omega)];omega
abbrev Gs:=Int->Option (List Int)
def Nn (r:Sl.Ref):Gs:=fun h=>if Sl.dx r h<0 then none else some (r.words.getD (h.tmod 64).toNat [])
def hZ {α:Type} (f:Int->Option α) (h:Int) (v:Option α):Int->Option α:=fun j=>if j=h then v else f j
structure wJ (n G:Nat) (wd:Gs) (k:Nat) (s:Sl.ck):Prop where
 h:∃ r,Sl.Rel s r n 19 G/\r.row.length=k/\wd=Nn r
section
variable {n G:Nat} {wd:Gs} {k:Nat} {s:Sl.ck}
theorem mH {r:Sl.Ref} (hr:Sl.Rel s r n 19 G) {h:Int} {w:List Int} (e:Nn r h=some w):¬Sl.dx r h<0/\0<=h/\h.tmod 64<n/\0<=h.tmod 64/\w=r.words.getD (h.tmod 64).toNat []/\h=64*r.gen.getD (h.tmod 64).toNat 0+h.tmod 64/\r.taken.getD (h.tmod 64).toNat false=true:=by
 unfold Nn at e;split at e
 .cases e
 .rename_i hg
  obtain⟨k1,k2,k3,k4,k5⟩:=Sl.ga hg;have hl:=hr.iY.gen;have h0:0<=h:=by
   have hd:=ab0 h 64;have hb:=(hr.bound (h.tmod 64).toNat (by omega)).1;omega
  cases e;have hd:=ab0 h 64;exact⟨hg,h0,by omega,k2,rfl,by rw[k5];omega,k4⟩
theorem wJ.fr (p:wJ n G wd k s):s.free=k/\k<=n/\1<=n/\n<=64:=by
 obtain⟨r,hr,rfl,h2⟩:=p.h;exact⟨hr.free,hr.iY.row.1,hr.iY.cap.1,hr.iY.cap.2.1⟩
theorem Gt {r:Sl.Ref} (hr:Sl.Rel s r n 19 G) {i:Nat} (hi:i<n) (ht:r.taken.getD i false=true):Sl.dx r (64*r.gen.getD i 0+i)=i:=by
 have hb:=hr.bound i hi;have hl:=hr.iY.gen;have hc:=hr.iY.cap;have hm:(64*r.gen.getD i 0+i).tmod 64=i:=(DP hb.1 (by omega)).1;have hd:(64*r.gen.getD i 0+i).tdiv 64=r.gen.getD i 0:=(DP hb.1 (by omega)).2;unfold Sl.dx;rw[ZY (by omega),hm,hd,Z4,ZY];rintro(h|h|h)
 .omega
 .rw[ht]at h;cases h
 .exact h rfl
theorem ia {r:Sl.Ref} (hr:Sl.Rel s r n 19 G) (h:Int) (w:List Int):Nn r h=some w↔∃ i:Nat,i<n/\r.taken.getD i false=true/\h=64*r.gen.getD i 0+i/\w=r.words.getD i []:=by
 constructor
 .intro e
  obtain⟨k1,k2,k3,k4,k5,k6,k7⟩:=mH hr e;exact⟨(h.tmod 64).toNat,by omega,k7,by omega,k5⟩
 .rintro⟨i,hi,ht,rfl,rfl⟩
  have hc:=hr.iY.cap;have hb:=hr.bound i hi;unfold Nn;rw[Gt hr hi ht,ZY (by omega)];have hm:(64*r.gen.getD i 0+i).tmod 64=i:=(DP hb.1 (by omega)).1;rw[hm,Z4]
theorem wK {a b:Gs} (h:∀ x w,a x=some w↔b x=some w):a=b:=by
 funext x;exact Option.ext fun w=>h x w
theorem wJ.take (p:wJ n G wd k s) (hG:G<=1000000000) (hk:0<k):∃ h:Int,Sl.td s=(h,0)/\wd h=none/\0<=h/\0<=h.tmod 64/\h.tmod 64<n/\(∀ h' w,wd h'=some w->h'.tmod 64≠h.tmod 64) /\
  wJ n G (hZ wd h (some (List.replicate 19 0))) (k - 1) (Sl.tf s):=by
 obtain⟨r,hr,rfl,rfl⟩:=p.h;obtain⟨i,l,h1,h2,h3,h4⟩:=hr.Nj (by omega) (fun e=>by rw[e]at hk;simp at hk);have hc:=hr.iY.cap;have hb:=hr.bound i h2;have hm:(64*r.gen.getD i 0+i).tmod 64=i:=(DP hb.1 (by omega)).1;have OW:r.taken.getD i false=false:=(hr.row i h2).1 (by rw[h1];exact Z7 ..);have cy:Nn r (64*r.gen.getD i 0+i)=none:=by
  cases e:Nn r (64*r.gen.getD i 0+i)with
  | none=>rfl
  | some w =>
   obtain⟨_,_,_,_,_,_,k7⟩:=mH hr e;rw[hm,Z4,OW]at k7;cases k7
 refine⟨64*r.gen.getD i 0+i,h3,cy,by omega,by omega,by omega,fun h' w e=>?_,⟨_,h4,?_,wK fun x w=>?_⟩⟩
 .obtain⟨_,_,_,_,_,_,k7⟩:=mH hr e
  intro e2;rw[e2,hm,Z4,OW]at k7;cases k7
 .show l.length=_;rw[h1];simp
 .rw[ia h4]
  have dp:i<r.taken.length:=by rw[hr.iY.taken];exact h2
  have Uk:i<r.words.length:=by rw[hr.iY.words];exact h2
  have Ul:=hr.iY.wH h2;have e1:∀ j,(Sl.gK r i l).taken.getD j false=if i=j then true else r.taken.getD j false:=fun j=>Sl.bj _ _ _ _ _ dp;have e2:∀ j,(Sl.gK r i l).words.getD j []=if i=j then List.replicate 19 0 else r.words.getD j []:=fun j=>by
   show(r.words.set i (List.replicate (r.words.getD i []).length 0)).getD j []=_;rw[Ul];exact Sl.bj r.words i j _ [] Uk
  have e3:(Sl.gK r i l).gen=r.gen:=rfl;unfold hZ;by_cases hx:x=64*r.gen.getD i 0+i
  .rw[Z0 hx]
   constructor
   .intro e
    cases e;exact⟨i,h2,by rw[e1,Z0 rfl],by rw[e3];exact hx,by rw[e2,Z0 rfl]⟩
   .rintro⟨j,hj,k1,k2,rfl⟩
    rw[e3]at k2;have jN:i=j:=by omega
    rw[e2,Z0 jN]
  .rw[ZY hx,ia hr]
   constructor
   .rintro⟨j,hj,k1,k2,rfl⟩
    have cx:i≠j:=fun e=>by subst e;exact hx k2
    exact⟨j,hj,by rw[e1,ZY cx];exact k1,by rw[e3];exact k2,by rw[e2,ZY cx]⟩
   .rintro⟨j,hj,k1,k2,rfl⟩
    rw[e3]at k2;have cx:i≠j:=fun e=>by subst e;exact hx k2
    rw[e1,ZY cx]at k1;exact⟨j,hj,k1,k2,by rw[e2,ZY cx]⟩
theorem wJ.Gq (p:wJ n G wd k s) (hG:G<=1000000000) {h:Int} {w:List Int} (e:wd h=some w):Sl.jb s h=true/\wJ n (G+1) (hZ wd h none) (k+1) (Sl.lO s (h.tmod 64).toNat):=by
 obtain⟨r,hr,rfl,rfl⟩:=p.h;obtain⟨k1,k2,k3,k4,k5,k6,k7⟩:=mH hr e;have h4:=hr.Gq (by omega) k1;refine⟨(hr.iM (by omega) h).2 k1,_,h4,?_,wK fun x v=>?_⟩
 .unfold Sl.jI;rw[ZY k1];simp
 .rw[ia h4]
  obtain⟨i,hi⟩:∃ i:Nat,h.tmod 64=i:=⟨(h.tmod 64).toNat,by omega⟩
  have No:Sl.dx r h=i:=by rw[(Sl.ga k1).1];exact hi
  have kj:i<n:=by omega
  have dp:i<r.taken.length:=by rw[hr.iY.taken];exact kj
  have Yg:i<r.gen.length:=by rw[hr.iY.gen];exact kj
  have e1:∀ j,(Sl.jI r h).taken.getD j false=if i=j then false else r.taken.getD j false:=fun j=>by
   unfold Sl.jI;rw[ZY k1,No,Z4];exact Sl.bj _ _ _ _ _ dp
  have e2:(Sl.jI r h).words=r.words:=by unfold Sl.jI;rw[ZY k1]
  have e3:∀ j,i≠j->(Sl.jI r h).gen.getD j 0=r.gen.getD j 0:=fun j hj=>by
   unfold Sl.jI;rw[ZY k1,No,Z4];exact(Sl.bj _ _ _ _ _ Yg).trans (ZY hj)
  have hc:=hr.iY.cap;unfold hZ;by_cases hx:x=h
  .rw[Z0 hx]
   constructor
   .intro e;cases e
   .rintro⟨j,hj,l1,l2,l3⟩
    have cx:i≠j:=fun e=>by rw[e1,Z0 e]at l1;cases l1
    rw[e3 j cx]at l2;have:h.tmod 64=j:=by rw[<-hx,l2];exact(DP (hr.bound j hj).1 (by omega)).1
    omega
  .rw[ZY hx,ia hr]
   constructor
   .rintro⟨j,hj,l1,l2,rfl⟩
    have cx:i≠j:=fun e=>by
     subst e;rw[hi,Z4]at k6;exact hx (by rw[l2,k6])
    exact⟨j,hj,by rw[e1,ZY cx];exact l1,by rw[e3 j cx];exact l2,by rw[e2]⟩
   .rintro⟨j,hj,l1,l2,rfl⟩
    have cx:i≠j:=fun e=>by rw[e1,Z0 e]at l1;cases l1
    rw[e1,ZY cx]at l1;rw[e3 j cx]at l2;exact⟨j,hj,l1,l2,by rw[e2]⟩
theorem wJ.read (p:wJ n G wd k s) (hG:G<=1000000000) {h:Int} {w:List Int} (e:wd h=some w):Sl.jb s h=true/\Sl.ax s h=w:=by
 obtain⟨r,hr,rfl,rfl⟩:=p.h;obtain⟨k1,k2,k3,k4,k5,k6,k7⟩:=mH hr e;exact⟨(hr.iM (by omega) h).2 k1,by rw[hr.read k1,(Sl.ga k1).1,k5]⟩
theorem wJ.write (p:wJ n G wd k s) (hG:G<=1000000000) {h:Int} {w v:List Int} (e:wd h=some w) (hv:v.length=19):Sl.jb s h=true/\s.each=19/\wJ n G (hZ wd h (some v)) k (Sl.kz s (h.tmod 64) v):=by
 obtain⟨r,hr,rfl,rfl⟩:=p.h;obtain⟨k1,k2,k3,k4,k5,k6,k7⟩:=mH hr e;have h4:=hr.write k1 hv;refine⟨(hr.iM (by omega) h).2 k1,hr.each,_,h4,rfl,wK fun x u=>?_⟩;rw[ia h4];obtain⟨i,hi⟩:∃ i:Nat,h.tmod 64=i:=⟨(h.tmod 64).toNat,by omega⟩
 have No:Sl.dx r h=i:=by rw[(Sl.ga k1).1];exact hi
 have kj:i<n:=by omega
 have Uk:i<r.words.length:=by rw[hr.iY.words];exact kj
 have e2:∀ j,(Sl.pf r h v).words.getD j []=if i=j then v else r.words.getD j []:=fun j=>by
  unfold Sl.pf;rw[No,Z4];exact Sl.bj _ _ _ _ _ Uk
 have hc:=hr.iY.cap;rw[hi,Z4]at k6 k7;unfold hZ;by_cases hx:x=h
 .rw[Z0 hx]
  constructor
  .intro e;cases e
   exact⟨i,kj,k7,by rw[hx];exact k6,by rw[e2,Z0 rfl]⟩
  .rintro⟨j,hj,l1,l2,rfl⟩
   have lq:h.tmod 64=j:=by rw[<-hx,l2];exact(DP (hr.bound j hj).1 (by omega)).1
   rw[e2,Z0 (by omega)]
 .rw[ZY hx,ia hr]
  have bC:∀ j:Nat,x=64*r.gen.getD j 0+j->i≠j:=fun j hj e=>by subst e;exact hx (by rw[hj,k6])
  constructor
  .rintro⟨j,hj,l1,l2,rfl⟩
   exact⟨j,hj,l1,l2,by rw[e2,ZY (bC j l2)]⟩
  .rintro⟨j,hj,l1,l2,rfl⟩
   exact⟨j,hj,l1,l2,by rw[e2,ZY (bC j l2)]⟩
theorem th {r:Sl.Ref} (hr:Sl.Rel s r n 19 G) (hG:G<=1000000000):∀ m,m<=n->(∀ x,x∈Sl.eH r m↔∃ i:Nat,i<m/\r.taken.getD i false=true/\x=64*r.gen.getD i 0+i)/\(Sl.eH r m).Nodup
 | 0,_=>⟨fun x=>by simp[Sl.eH],by simp[Sl.eH]⟩
 | m+1,hm=>by
  obtain⟨h1,h2⟩:=th hr hG m (by omega);have hh:=(hr.eA (by omega) (i:=m) (by omega)).2;have hc:=hr.iY.cap;constructor
  .intro x
   rw[Sl.eH,aaD,h1];constructor
   .rintro(⟨i,k1,k2,k3⟩|h)
    .exact⟨i,by omega,k2,k3⟩
    .split at h
     .simp at h;exact⟨m,by omega,‹_›,by rw[h,hh]⟩
     .cases h
   .rintro⟨i,k1,k2,k3⟩
    by_cases e:i=m
    .subst e;right;rw[Z0 k2,hh,k3];simp
    .exact .inl ⟨i,by omega,k2,k3⟩
  .rw[Sl.eH,abH]
   refine⟨h2,by split <;> simp,fun x hx y hy=>?_⟩;split at hy
   .simp at hy
    obtain⟨i,k1,k2,k3⟩:=(h1 x).1 hx;have b1:=(hr.bound i (by omega)).1;have b2:=(hr.bound m (by omega)).1;rw[hy,hh,k3];omega
   .cases hy
theorem wJ.live (p:wJ n G wd k s) (hG:G<=1000000000):(Sl.taken s).Nodup/\∀ h,h∈Sl.taken s↔(wd h).isSome=true:=by
 obtain⟨r,hr,rfl,rfl⟩:=p.h;rw[hr.Gr (by omega)];unfold Sl.Ay;rw[hr.iY.gen];obtain⟨h1,h2⟩:=th hr hG n (Z8 _);refine⟨h2,fun h=>?_⟩;rw[h1,aaF];constructor
 .rintro⟨i,k1,k2,k3⟩;exact⟨_,(ia hr h _).2 ⟨i,k1,k2,k3,rfl⟩⟩
 .rintro⟨w,hw⟩
  obtain⟨i,k1,k2,k3,_⟩:=(ia hr h w).1 hw;exact⟨i,k1,k2,k3⟩
theorem wJ.new {n:Nat} (hn:1<=n/\n<=64):wJ n 0 (fun _=>none) n (Sl.gZ n 19):=by
 have hr:=Sl.Rel.new hn (by decide:19<=32);refine⟨_,hr,by simp[Sl.jq],wK fun x w=>?_⟩;rw[ia hr];constructor
 .intro h;cases h
 .rintro⟨i,h1,h2,_⟩
  exfalso;simp[Sl.jq,ZZ,aaC,h1]at h2
end
end Go.Proofs.YthnefnlhcijekaaGreat.Eb
namespace Go.Proofs.YthnefnlhcijekaaGreat.Fw
open Go Go.RowKit
def qA (i j m:Nat):AV->AV
 | .ptr a o=>(match Nat.beq a j with|true=>.hp i (fun _=>some (m,o))|false=>.ptr a o)
 | .bg a s x o=>(match Nat.beq a j with|true=>.undef|false=>.bg a s x o)
 | .vec a s o n=>(match Nat.beq a j with|true=>.undef|false=>.vec a s o n)
 | .mp a=>(match Nat.beq a j with|true=>.hm i (fun _=>m)|false=>.mp a)
 | .hp a f=>(match Nat.beq a j with|true=>.undef|false=>.hp a f)
 | .hm a f=>(match Nat.beq a j with|true=>.undef|false=>.hm a f)
 | v=>v
inductive yw (i:Nat) (f:AV->AV):Chunk->HO->Prop
 | cells (T:TypeId) (cs:List AV) (c:Nat->HV) (h:∀ p v,cs[p]?=some v->eN i (df f v) (c p)):yw i f (.cells T cs) (.cells T cs.length c)
 | map (k:IntKind) (clock:Nat):yw i f (.jd k [] []) (.map [] clock)
def Hp.add (h:Hp) (o:HO):Hp:=⟨h.m+1,fun k=>if k=h.m then o else h.o k⟩
def Gh.take (g:Gh) (i j:Nat):Gh :=
 { g with W:=fun x k=>if x=i then(if k=g.M i then g.B j else g.W i k)else g.W x k,M:=fun x=>if x=i then g.M i+1 else g.M x }
section
variable {B:bS} {g:Gh} {env:Env} {E:List Chunk} {tmps:Array Value} {w:World}
theorem wL {i j m:Nat} (hi:i<g.n) (hm:m=g.M i) (v:AV) (u:Value) (hv:isRef v=true) (hr:R g v u):R (g.take i j) (qA i j m v) u:=by
 subst hm;have hW:∀ x k,k<g.M x->(g.take i j).W x k=g.W x k:=by
  intro x k hk;simp only[Gh.take];split
  .rename_i e;subst e;rw[ZY (by omega)]
  .rfl
 have hM:∀ x,g.M x<=(g.take i j).M x:=by intro x;simp only[Gh.take];split <;> simp_all
 have gH:(g.take i j).W i (g.M i)=g.B j:=by simp[Gh.take]
 have bf:g.M i<(g.take i j).M i:=by simp[Gh.take]
 cases hr <;> first|(cases hv;done)|skip
 .rename_i a o ha
  simp only[qA];split
  .rename_i hb
   have hb:=Z3 hb;subst hb;have:=R.hp (g:=g.take i a) i (fun _=>some (g.M i,o)) hi (fun x hx=>by cases hx;exact bf);simpa [gH]using this
  .exact .ptr (g:=g.take i j) a o ha
 .rename_i a s x o ha hL
  simp only[qA];split
  .exact .undef _
  .exact .bg (g:=g.take i j) a s x o ha hL
 .rename_i a s o n A c ha hL hn hs
  simp only[qA];split
  .exact .undef _
  .exact .vec (g:=g.take i j) a s o n A c ha hL hn hs
 .rename_i a ha
  simp only[qA];split
  .rename_i hb
   have hb:=Z3 hb;subst hb;have:=R.hm (g:=g.take i a) i (fun _=>g.M i) hi bf;rw[gH]at this;exact this
  .exact .mp (g:=g.take i j) a ha
 .rename_i a f ha hf
  simp only[qA];split
  .exact .undef _
  .have:=R.hp (g:=g.take i j) a f ha (fun x hx=>aag (hf x hx) (hM a))
   cases Fp:f ()with
   | none=>rw[Fp]at this;exact this
   | some x=>rw[Fp]at this;simp only[aaO]at this ⊢;rw[<-hW a x.1 (hf x Fp)];exact this
 .rename_i a f ha hf
  simp only[qA];split
  .exact .undef _
  .rw[<-hW a _ hf];exact .hm (g:=g.take i j) a f ha (aag hf (hM a))
theorem Inv.gL (h:Inv B g env E tmps w) {i j:Nat} {hp:Unit->Hp} {c:Chunk} {o:HO} {h':Hp} (hi:af E i=.heap hp) (hj:af E j=c) (cx:i≠j) (ZC:ah B.E<=j) (hc:∀ ob,c.sat g j w->w.heap[g.B j]?=some ob->o.sat (g.take i j) i ob)
  (O8:c.own g j (g.B j)) (EW:Ac c=true) (hl:h'.dN ((hp ()).add o)) :
  Inv B (g.take i j) (ba (qA i j (hp ()).m) env) (cT (qA i j (hp ()).m) (a8 (a8 E j .none) i (.heap fun _=>h'))) tmps w/\∀ v u,R g v u->R (g.take i j) (df (qA i j (hp ()).m) v) u:=by
 have O9:=h.aW.sat i;rw[hi]at O9;obtain⟨hm,Md,Um⟩:=O9;have dp:i<ah E:=dI (by rw[hi];simp);have q8:j<ah E:=dI (by rw[hj];intro e;rw[e]at O8;exact O8);have kj:i<g.n:=by rw[<-h.aW.len];exact dp
 have qZ:=wL (g:=g) (j:=j) kj hm.symm;have hΦ:∀ b o,g.Φ b=some o->(g.take i j).Φ b=some o:=fun _ _ h=>h;have Lv:∀ v u,R g v u->R (g.take i j) (df (qA i j (hp ()).m) v) u:=fun v u hr=>R.map (g:=g) (g':=g.take i j) _ hΦ qZ hr;have hW:∀ x,x≠i->(g.take i j).W x=g.W x:=by intro x hx;funext k;simp[Gh.take,hx]
 have hM:∀ x,x≠i->(g.take i j).M x=g.M x:=by intro x hx;simp[Gh.take,hx]
 have Lw:∀ k,k<g.M i->(g.take i j).W i k=g.W i k:=by intro k hk;simp only[Gh.take,if_true];rw[ZY (by omega)]
 have SN:(g.take i j).W i (g.M i)=g.B j:=by simp[Gh.take]
 have Pa:(g.take i j).M i=g.M i+1:=by simp[Gh.take]
 have Gu:∀ k,k<g.M i->(af E i).own g i (g.W i k):=fun k hk=>by rw[hi];exact⟨k,hk,rfl⟩
 have tj:(af E j).own g j (g.B j):=by rw[hj];exact O8
 have bC:∀ k,k<g.M i->g.W i k≠g.B j:=fun k hk e=>cx (h.aW.lf i j _ (Gu k hk) (by rw[e];exact tj));have cL:∀ x,af (cT (qA i j (hp ()).m) (a8 (a8 E j .none) i (.heap fun _=>h'))) x=if x=i then .heap (fun _=>h')else if x=j then .none else dg (qA i j (hp ()).m) (af E x):=by
  intro x;rw[fi,bx];by_cases hx:i=x
  .subst hx;simp[b8,dp,dg]
  .rw[ZY (fun h=>hx h.1),bx]
   by_cases Pb:j=x
   .subst Pb;rw[ZY (Ne.symm hx),Z0 rfl,Z0 ⟨rfl,q8⟩];rfl
   .rw[ZY (Ne.symm hx),ZY (Ne.symm Pb),ZY (fun h=>Pb h.1)]
 have hblk:∀ x b,(af (cT (qA i j (hp ()).m) (a8 (a8 E j .none) i (.heap fun _=>h'))) x).own (g.take i j) x b->(x≠j/\(af E x).own g x b)\/(x=i/\b=g.B j):=by
  intro x b hb;rw[cL]at hb;split at hb
  .rename_i e
   subst e;obtain⟨k,hk,rfl⟩:=hb;rw[Pa]at hk;by_cases Fx:k=g.M x
   .subst Fx;exact .inr ⟨rfl,SN⟩
   .refine .inl ⟨cx,?_⟩
    rw[Lw k (by omega)];exact Gu k (by omega)
  .split at hb
   .cases hb
   .rename_i Gv Pb
    rw[iI,Chunk.qh (g:=g) (g':=g.take i j) rfl rfl (hW x Gv) (hM x Gv)]at hb;exact .inl ⟨Pb,hb⟩
 refine⟨⟨fun t=>by rw[cU];exact Lv _ _ (h.er t),⟨by rw[dY,b8,b8];exact h.aW.len,h.aW.dn,fun x=>?_,fun x y b hx hy=>?_,fun x b hx=>?_⟩,
  ⟨h.ext.os,h.ext.tape,h.ext.output,h.ext.size,h.ext.cz,h.ext.dn,h.ext.fz,fun x b hx=>?_,h.ext.n,h.ext.ids,h.ext.kk,fun x hx=>?_,fun x k hx hk=>?_,fun x hx=>?_⟩⟩,Lv⟩
 .rw[cL]
  split
  .rename_i e
   subst e;refine⟨?_,?_,?_⟩
   .rw[Pa,hl.1];show g.M x+1=(hp ()).m+1;omega
   .intro k k' hk vY he
    rw[Pa]at hk vY;by_cases h1:k=g.M x <;> by_cases h2:k'=g.M x
    .omega
    .subst h1;rw[SN,Lw k' (by omega)]at he;exact(bC k' (by omega) he.symm).elim
    .subst h2;rw[SN,Lw k (by omega)]at he;exact(bC k (by omega) he).elim
    .rw[Lw k (by omega),Lw k' (by omega)]at he;exact Md k k' (by omega) (by omega) he
   .intro k hk
    rw[Pa]at hk;have Lx:=hl.2 k (by rw[hl.1];show k<(hp ()).m+1;omega);by_cases h1:k=g.M x
    .subst h1
     have DQ:=h.aW.sat j;rw[hj]at DQ;have bf:=eQ DQ O8;obtain⟨ob,dM⟩:∃ ob,w.heap[g.B j]?=some ob:=⟨_,aaN bf⟩
     refine⟨ob,by rw[SN];exact dM,HO.lD Lx ?_⟩;have:=hc ob DQ dM;simpa [Hp.add,hm]using this
    .obtain⟨ob,h4,h5⟩:=Um k (by omega)
     refine⟨ob,by rw[Lw k (by omega)];exact h4,HO.lD Lx ?_⟩;have e:((hp ()).add o).o k=(hp ()).o k:=by simp only[Hp.add];rw[ZY (by omega)]
     rw[e];exact HO.lC (HV.rW (g:=g) (g':=g.take x j) (i:=x) (i':=x) (fun _ _ _ h=>h) (fun h=>h) (fun _ k hk=>Lw k hk) (fun _=>by rw[Pa];exact abQ _)) h5
  .split
   .trivial
   .rename_i Gv Pb
    exact Chunk.o6 (g:=g) (g':=g.take i j) _ hΦ qZ rfl rfl rfl rfl (hW x Gv) (hM x Gv) (fun h=>h) (fun _ _=>rfl) (h.aW.sat x)
 .rcases hblk x b hx with⟨h1,h2⟩|⟨h1,h2⟩ <;> rcases hblk y b hy with⟨h3,h4⟩|⟨h3,h4⟩
  .exact h.aW.lf x y b h2 h4
  .subst h4;exact(h1 (h.aW.lf x j _ h2 tj)).elim
  .subst h2;exact(h3 (h.aW.lf y j _ h4 tj)).elim
  .exact h1.trans h3.symm
 .rcases hblk x b hx with⟨h1,h2⟩|⟨h1,h2⟩
  .exact h.aW.dE x b h2
  .subst h2;exact h.aW.dE j _ tj
 .rcases hblk x b hx with⟨h1,h2⟩|⟨h1,h2⟩
  .exact h.ext.own x b h2
  .subst h2;exact h.ext.own j _ tj
 .rw[cL]
  split
  .rfl
  .split
   .rfl
   .rw[rX];exact h.ext.mY x hx
 .by_cases Gv:x=i
  .subst Gv;rw[Lw k (aag hk (h.ext.qi x hx))];exact h.ext.rC x k hx hk
  .rw[hW x Gv];exact h.ext.rC x k hx hk
 .by_cases Gv:x=i
  .subst Gv;rw[Pa];exact Nat.le_succ_of_le (h.ext.qi x hx)
  .rw[hM x Gv];exact h.ext.qi x hx
theorem yw.ok {i j m:Nat} {c:Chunk} {o:HO} (hi:i<g.n) (hm:m=g.M i) (ha:yw i (qA i j m) c o) (Un:∀ es clock,o=.map es clock->∀ ms cl,w.heap[g.B j]?=some (.map ms cl)->cl=clock) (ob:Obj) (hs:c.sat g j w) (hb:w.heap[g.B j]?=some ob):o.sat (g.take i j) i ob:=by
 cases ha with
 | cells T cs cc AA =>
  obtain⟨vs,h1,h2⟩:=hs;rw[h1]at hb;cases hb;refine⟨vs,rfl,by have:=h2.length;simp at this;exact this.symm,fun p u hp=>?_⟩;have bf:p<cs.length:=by
   have h3:=h2.length;have:=(acR.1 hp).1;simp at h3;omega
  have hr:=h2.at_ p _ u (Z1 bf) (by simpa using hp);exact(AA p _ (Z1 bf)).R (g:=g.take i j) hi (R.map (g:=g) (g':=g.take i j) _ (fun _ _ h=>h) (wL hi hm) hr)
 | map k clock =>
  obtain⟨es,cl,h1,h2,h3⟩:=hs;rw[h1]at hb;cases hb;have:=Un _ _ rfl _ _ h1;subst this;refine⟨es,rfl,?_⟩;have:es.toList=[]:=by simpa using h2
  rw[this];exact trivial
theorem Inv.lR (h:Inv B g env E tmps w) (o:Nat->HO):∃ g',Inv B g' env (dm E (.heap fun _=>⟨0,o⟩)) tmps w/\∀ v u,R g v u->R g' v u:=by
 let g0:Gh:={ g with M:=fun x=>if x<g.n then g.M x else 0 }
 have DN:∀ x,x<g.n->g0.M x=g.M x:=fun x hx=>by show(if x<g.n then g.M x else 0)=_;rw[Z0 hx]
 have hle:g.le g0:=⟨Z8 _,fun _ _ h=>h,fun _ _=>rfl,fun _ _=>rfl,fun _ _=>rfl,rfl,fun _ _ _ _=>rfl,fun i hi=>by rw[DN i hi];exact Z8 _⟩
 have hlen:=h.aW.len;have xS:∀ x,¬x<g.n->af E x=.none:=fun x hx=>kr E x (by omega);have cO:∀ x b,(af E x).own g0 x b->(af E x).own g x b:=by
  intro x b hb;by_cases hx:x<g.n
  .rwa [Chunk.qh (g:=g) (g':=g0) rfl rfl rfl (DN x hx)]at hb
  .rw[xS x hx]at hb;cases hb
 have h0:Inv B g0 env E tmps w:=by
  refine⟨fun t=>(h.er t).mono hle,⟨hlen,h.aW.dn,fun x=>?_,fun x y b hx hy=>h.aW.lf x y b (cO x b hx) (cO y b hy),fun x b hx=>h.aW.dE x b (cO x b hx)⟩,
   ⟨h.ext.os,h.ext.tape,h.ext.output,h.ext.size,h.ext.cz,h.ext.dn,h.ext.fz,fun x b hx=>h.ext.own x b (cO x b hx),h.ext.n,h.ext.ids,h.ext.kk,h.ext.mY,h.ext.rC,fun x hx=>?_⟩⟩
  .by_cases hx:x<g.n
   .exact Chunk.fj (fun _ _ _ h=>h.mono hle.dn) (fun _ _ h=>h.mono hle) rfl rfl rfl rfl rfl (DN x hx) (fun _ _=>rfl) (h.aW.sat x)
   .rw[xS x hx];trivial
  .rw[DN x (aag (jD hx) h.ext.n)];exact h.ext.qi x hx
 have hz:(g0.add 0 none 0).M g0.n=0:=by show(if g.n<g.n then g.M g.n else 0)=0;rw[ZY (Nat.lt_irrefl _)]
 refine⟨g0.add 0 none 0,h0.new (c:=.heap fun _=>⟨0,o⟩) (b:=0) (v:=none) (l:=0) (w':=w) rfl rfl (ja.refl _) (Z8 _) (fun _ _=>rfl) ⟨hz,fun k k' hk=>by rw[hz]at hk;omega,fun k hk=>by rw[hz]at hk;omega⟩ (fun b hb=>?_),fun v u hr=>(hr.mono hle).mono (g0.jE _ _ _)⟩;obtain⟨k,hk,_⟩:=hb;rw[hz]at hk;omega
end
section
variable {P:Program} {N:Nat} {M:List Bool} {S:Sc} {c:Code} {env:Env} {E:List Chunk} {K:Ex->Env->List Chunk->Prop}
theorem Iv.gL {g:Gh} {a:Act} {w:World} (h:Iv S g env E a w) (hM:∀ B,S.at_ B->bw B.E=M) {i j:Nat} {hp:Unit->Hp} {ch:Chunk} {o:HO} {h':Hp} (hi:af E i=.heap hp) (hj:af E j=ch) (cx:i≠j) (Jz:M.length<=j)
  (hc:∀ ob,ch.sat g j w->w.heap[g.B j]?=some ob->o.sat (g.take i j) i ob) (O8:ch.own g j (g.B j)) (EW:Ac ch=true) (hl:h'.dN ((hp ()).add o)) :
  Iv S (g.take i j) (ba (qA i j (hp ()).m) env) (cT (qA i j (hp ()).m) (a8 (a8 E j .none) i (.heap fun _=>h'))) a w:=by
 obtain⟨B,hB,h,hd⟩:=h;exact⟨B,hB,(h.gL hi hj cx (by rw[<-fY,hM B hB];exact Jz) hc O8 EW hl).1,hd⟩
theorem aB.gL (i j:Nat) (Jz:Nat.ble M.length j=true) {hp:Unit->Hp} {T:TypeId} {cs:List AV} (h':Hp) (cc:Nat->HV) (hi:af E i=.heap hp) (hj:af E j=.cells T cs) (AA:∀ p v,cs[p]?=some v->eN i (df (qA i j (hp ()).m) v) (cc p))
  (hl:h'.dN ((hp ()).add (.cells T cs.length cc)))
  (k:jC (ba (qA i j (hp ()).m) env) fun env=>iq (cT (qA i j (hp ()).m) (a8 (a8 E j .none) i (.heap fun _=>h'))) fun E=>aB P N S M c env E K):aB P N S M c env E K where
 h:=by
  intro r g a w hr hM hI hN;rw[c9,a7]at k;have cx:i≠j:=fun e=>by subst e;rw[hi]at hj;cases hj
  have hs:=hI.aW;have kj:i<g.n:=by rw[<-hs.len];exact dI (by rw[hi];simp)
  have hm:(hp ()).m=g.M i:=by have:=hs.sat i;rw[hi]at this;exact this.1.symm
  exact k.h r _ a w hr hM (hI.gL hM hi hj cx (aaM Jz) (yw.ok kj hm (.cells T cs cc AA) (fun _ _ e=>by cases e)) rfl rfl hl) hN
theorem aB.gk (i j:Nat) (Jz:Nat.ble M.length j=true) {hp:Unit->Hp} {kk:IntKind} (h':Nat->Hp) (hi:af E i=.heap hp) (hj:af E j=.jd kk [] [])
  (hl:∀ clock,(h' clock).dN ((hp ()).add (.map [] clock)))
  (k:∀ clock,jC (ba (qA i j (hp ()).m) env) fun env=>iq (cT (qA i j (hp ()).m) (a8 (a8 E j .none) i (.heap fun _=>h' clock))) fun E=>aB P N S M c env E K):aB P N S M c env E K where
 h:=by
  intro r g a w hr hM hI hN;have cx:i≠j:=fun e=>by subst e;rw[hi]at hj;cases hj
  have hs:=hI.aW;have kj:i<g.n:=by rw[<-hs.len];exact dI (by rw[hi];simp)
  have hm:(hp ()).m=g.M i:=by have:=hs.sat i;rw[hi]at this;exact this.1.symm
  have DQ:=hs.sat j;rw[hj]at DQ;obtain⟨es,cl,h1,_⟩:=DQ;have k:=k cl;rw[c9,a7]at k;exact k.h r _ a w hr hM (hI.gL hM hi hj cx (aaM Jz) (yw.ok kj hm (.map kk cl) (fun Ta Yh e ms Yi hb=>by cases e;rw[h1]at hb;cases hb;rfl)) rfl rfl (hl cl)) hN
theorem aB.lR (o:Nat->HO) (k:iq (dm E (.heap fun _=>⟨0,o⟩)) fun E=>aB P N S M c env E K):aB P N S M c env E K where
 h:=by
  intro r g a w hr hM hI hN;rw[a7]at k;obtain⟨B,hB,h,hd⟩:=hI;obtain⟨g',h',_⟩:=h.lR o;exact k.h r g' a w hr hM ⟨B,hB,h',hd⟩ hN
variable {l:List AV} {Y:Type} {Q:Y->Prop} {res:Y->List AV} {out:Y->List Chunk}
theorem ae.gL (i j:Nat) (Jz:Nat.ble M.length j=true) {hp:Unit->Hp} {T:TypeId} {cs:List AV} (h':Hp) (cc:Nat->HV) (hi:af E i=.heap hp) (hj:af E j=.cells T cs) (AA:∀ p v,cs[p]?=some v->eN i (df (qA i j (hp ()).m) v) (cc p))
  (hl:h'.dN ((hp ()).add (.cells T cs.length cc)))
  (k:iq (cT (qA i j (hp ()).m) (a8 (a8 E j .none) i (.heap fun _=>h'))) fun E=>fL (eP (qA i j (hp ()).m) l) fun l=>ae M [] E l Q res out):ae M env E l Q res out where
 h:=by
  intro B g tmps w aC hM hI hr;rw[a7,fg]at k;have cx:i≠j:=fun e=>by subst e;rw[hi]at hj;cases hj
  have hs:=hI.aW;have kj:i<g.n:=by rw[<-hs.len];exact dI (by rw[hi];simp)
  have hm:(hp ()).m=g.M i:=by have:=hs.sat i;rw[hi]at this;exact this.1.symm
  obtain⟨h1,h2⟩:=hI.gL hi hj cx (by rw[<-fY,hM];exact aaM Jz) (yw.ok kj hm (.cells T cs cc AA) (fun _ _ e=>by cases e)) rfl rfl hl;exact k.h B _ tmps w aC hM ⟨fun t=>.undef _,h1.aW,h1.ext⟩ (RL.map (g:=g) (g':=g.take i j) _ (fun _ _ h=>h) (wL kj hm) hr)
theorem ae.gk (i j:Nat) (Jz:Nat.ble M.length j=true) {hp:Unit->Hp} {kk:IntKind} (h':Nat->Hp) (hi:af E i=.heap hp) (hj:af E j=.jd kk [] [])
  (hl:∀ clock,(h' clock).dN ((hp ()).add (.map [] clock)))
  (k:∀ clock,iq (cT (qA i j (hp ()).m) (a8 (a8 E j .none) i (.heap fun _=>h' clock))) fun E=>fL (eP (qA i j (hp ()).m) l) fun l=>ae M [] E l Q res out):ae M env E l Q res out where
 h:=by
  intro B g tmps w aC hM hI hr;have cx:i≠j:=fun e=>by subst e;rw[hi]at hj;cases hj
  have hs:=hI.aW;have kj:i<g.n:=by rw[<-hs.len];exact dI (by rw[hi];simp)
  have hm:(hp ()).m=g.M i:=by have:=hs.sat i;rw[hi]at this;exact this.1.symm
  have DQ:=hs.sat j;rw[hj]at DQ;obtain⟨es,cl,h1,_⟩:=DQ;have k:=k cl;rw[a7,fg]at k;obtain⟨h2,h3⟩:=hI.gL hi hj cx (by rw[<-fY,hM];exact aaM Jz) (yw.ok kj hm (.map kk cl) (fun Ta Yh e ms Yi hb=>by cases e;rw[h1]at hb;cases hb;rfl)) rfl rfl (hl cl);exact k.h B _ tmps w aC hM ⟨fun t=>.undef _,h2.aW,h2.ext⟩ (RL.map (g:=g) (g':=g.take i j) _ (fun _ _ h=>h) (wL kj hm) hr)
theorem ae.lR (o:Nat->HO) (k:iq (dm E (.heap fun _=>⟨0,o⟩)) fun E=>ae M [] E l Q res out):ae M env E l Q res out where
 h:=by
  intro B g tmps w aC hM hI hr;rw[a7]at k;obtain⟨g',h',hm⟩:=hI.lR o;refine k.h B g' tmps w aC hM ⟨fun t=>.undef _,h'.aW,h'.ext⟩ (RL.mk hr.length fun i y u h1 h2=>hm _ _ (hr.at_ i y u h1 h2))
end
end Go.Proofs.YthnefnlhcijekaaGreat.Fw
namespace Go.Proofs.YthnefnlhcijekaaGreat.Wh
open Go Go.RowKit Fw
structure Lk where
 id:Int
 slot:Int
 prev:Option Nat
 next:Option Nat
structure Wl where
 n:Nat
 lk:Nat->Lk
 first:Nat->Option Nat
 last:Nat->Option Nat
 at_:List (Nat×Int×Nat)
 oH:Nat
 mask:Int
abbrev lS:TypeId:=240
abbrev fG:TypeId:=298
def pt (x:Option Nat):Option (Nat×Nat):=x.map fun k=>(k+2,0)
def dF (w:Wl) (j:Nat):HV :=
 if j<128 then .hp (pt (if j % 2=0 then w.first (j / 2)else w.last (j / 2)))else if j=128 then .hm 0 else .gQ (.list (.int .u64)) [w.mask]
def ep (l:Lk):Nat->HV
 | 0=>.gQ (.int .i64) l.id|1=>.gQ (.int .i64) l.slot|2=>.hp (pt l.prev)|_=>.hp (pt l.next)
def rL (es:List (Nat×Int×Nat)):List (Nat×Int×HV):=es.map fun e=>(e.1,e.2.1,.hp (pt (some e.2.2)))
def wM (w:Wl):Nat->HO
 | 0=>.map (rL w.at_) w.oH
 | 1=>.cells lS 130 (dF w)
 | k+2=>.cells fG 4 (ep (w.lk k))
def du (w:Wl):Hp:=⟨w.n+2,wM w⟩
def fo {α:Type} (f:Nat->α) (k:Nat) (v:α):Nat->α:=fun j=>if j=k then v else f j
theorem bz {α:Type} (f:Nat->α) (k:Nat) (v:α):fo f k v k=v:=by simp[fo]
theorem aV {α:Type} (f:Nat->α) (k:Nat) (v:α) {j:Nat} (h:j≠k):fo f k v j=f j:=by simp[fo,h]
section
variable {P:Program} {t i:Nat} {w:Wl} {f:Unit->Option (Nat×Nat)} {K:AV->Prop}
theorem B5 (s:Nat) (hs:s<64) (hf:f ()=some (1,s*2)) (ht:oI P t=true) (k:K (.hp i fun _=>pt (w.first s))):EL P t i (fun _=>du w) f K :=
 ⟨1,s*2,lS,130,dF w,.hp (pt (w.first s)),hf,rfl,by omega,by
  unfold dF;rw[Z0 (by omega),Z0 (by omega),show s*2 / 2=s by omega],ht,k⟩
theorem AB (s:Nat) (hs:s<64) (hf:f ()=some (1,s*2+1)) (ht:oI P t=true) (k:K (.hp i fun _=>pt (w.last s))):EL P t i (fun _=>du w) f K :=
 ⟨1,s*2+1,lS,130,dF w,.hp (pt (w.last s)),hf,rfl,by omega,by
  unfold dF;rw[Z0 (by omega),ZY (by omega),show(s*2+1) / 2=s by omega],ht,k⟩
theorem AD (hf:f ()=some (1,128)) (ht:oI P t=true) (k:K (.hm i fun _=>0)):EL P t i (fun _=>du w) f K :=
 ⟨1,128,lS,130,dF w,.hm 0,hf,rfl,by omega,rfl,ht,k⟩
theorem AE (hf:f ()=some (1,129)) (ht:oI P t=true) (k:K (.aL (.int .u64) fun _=>[w.mask])):EL P t i (fun _=>du w) f K :=
 ⟨1,129,lS,130,dF w,.gQ (.list (.int .u64)) [w.mask],hf,rfl,by omega,rfl,ht,k⟩
theorem JA (n:Nat) (hf:f ()=some (n+2,0)) (ht:oI P t=true) (k:K (.I ((w.lk n).id))):EL P t i (fun _=>du w) f K :=
 ⟨n+2,0,fG,4,ep (w.lk n),_,hf,rfl,by omega,rfl,ht,k⟩
theorem tk (n:Nat) (hf:f ()=some (n+2,1)) (ht:oI P t=true) (k:K (.I ((w.lk n).slot))):EL P t i (fun _=>du w) f K :=
 ⟨n+2,1,fG,4,ep (w.lk n),_,hf,rfl,by omega,rfl,ht,k⟩
theorem qB (n:Nat) (hf:f ()=some (n+2,2)) (ht:oI P t=true) (k:K (.hp i fun _=>pt (w.lk n).prev)):EL P t i (fun _=>du w) f K :=
 ⟨n+2,2,fG,4,ep (w.lk n),_,hf,rfl,by omega,rfl,ht,k⟩
theorem od (n:Nat) (hf:f ()=some (n+2,3)) (ht:oI P t=true) (k:K (.hp i fun _=>pt (w.lk n).next)):EL P t i (fun _=>du w) f K :=
 ⟨n+2,3,fG,4,ep (w.lk n),_,hf,rfl,by omega,rfl,ht,k⟩
theorem iN (es:List (Nat×Int×Nat)) (n:Int):aP (rL es) n=(aP es n).map fun k=>HV.hp (pt (some k)):=by
 induction es with
 | nil=>rfl
 | cons e r ih =>
  obtain⟨b,k,x⟩:=e;simp only[rL,aal,aP];split
  .rfl
  .exact ih
theorem tl (es:List (Nat×Int×Nat)) (n:Int):bZ (rL es) n=rL (bZ es n):=by
 induction es with
 | nil=>rfl
 | cons e r ih =>
  obtain⟨b,k,x⟩:=e;simp only[rL,aal,bZ];split
  .rfl
  .rw[aal];congr 1
theorem tp (es:List (Nat×Int×Nat)) (c:Nat) (n:Int) (v:Nat):bV (rL es) c n (.hp (pt (some v)))=rL (bV es c n v):=by
 induction es with
 | nil=>rfl
 | cons e r ih =>
  obtain⟨b,k,x⟩:=e;simp only[rL,aal,bV];split
  .rfl
  .rw[aal];congr 1
theorem JB (hz:iC P t=some (.pointer none)) {g:Unit->Nat} {n:Unit->Int} (hg:g ()=0)
  (k1:∀ k,aP w.at_ (n ())=some k->K (.bQ [.hp i fun _=>pt (some k),.tt])) (k0:aP w.at_ (n ())=none->K (.bQ [.bW,.ff])):OS P t true i (fun _=>du w) g n K :=
 ⟨rL w.at_,w.oH,_,by rw[hg];rfl,hz,fun v hv=>by
  rw[iN]at hv;cases h:aP w.at_ (n ())with
  | none=>rw[h]at hv;cases hv
  | some k=>rw[h]at hv;cases hv;exact k1 k h,fun hv=>by
  rw[iN]at hv;cases h:aP w.at_ (n ())with
  | none=>exact k0 h
  | some k=>rw[h]at hv;cases hv⟩
end
theorem aK {o o':HO} (h:o=o'):o.dN o':=by subst h;exact HO.aG _
theorem fp {l l':Nat->HV} {T n} (h:∀ j,j<n->l j=l' j):(HO.cells T n l).dN (.cells T n l'):=⟨rfl,rfl,h⟩
section
variable {i:Nat} {w:Wl} {f:Unit->Option (Nat×Nat)} {v:AV} {K:Hp->Prop}
theorem B6 (s:Nat) (x:Option Nat) (hs:s<64) (hf:f ()=some (1,s*2)) (hv:eN i v (.hp (pt x))) (k:K (du { w with first:=fo w.first s x })):z8 i v (fun _=>du w) f K:=by
 refine⟨1,s*2,lS,130,dF w,.hp (pt x),du { w with first:=fo w.first s x },hf,rfl,by omega,hv,⟨rfl,fun j hj=>?_⟩,k⟩;match j with
 | 0=>exact aK rfl
 | 1 =>
  refine fp fun j hj=>?_;by_cases h:j=s*2
  .subst h;rw[Z0 rfl];unfold dF;rw[Z0 (by omega),Z0 (by omega)]
   show HV.hp (pt (fo w.first s x _))=_;rw[show s*2 / 2=s by omega,bz]
  .rw[ZY h];unfold dF
   by_cases h1:j<128
   .rw[Z0 h1,Z0 h1]
    by_cases h2:j % 2=0
    .rw[Z0 h2,Z0 h2]
     show HV.hp (pt (fo w.first s x _))=_;rw[aV _ _ _ (by omega)]
    .rw[ZY h2,ZY h2]
   .rw[ZY h1,ZY h1]
 | k+2=>exact aK rfl
theorem Gw (s:Nat) (x:Option Nat) (hs:s<64) (hf:f ()=some (1,s*2+1)) (hv:eN i v (.hp (pt x))) (k:K (du { w with last:=fo w.last s x })):z8 i v (fun _=>du w) f K:=by
 refine⟨1,s*2+1,lS,130,dF w,.hp (pt x),du { w with last:=fo w.last s x },hf,rfl,by omega,hv,⟨rfl,fun j hj=>?_⟩,k⟩;match j with
 | 0=>exact aK rfl
 | 1 =>
  refine fp fun j hj=>?_;by_cases h:j=s*2+1
  .subst h;rw[Z0 rfl];unfold dF;rw[Z0 (by omega),ZY (by omega)]
   show HV.hp (pt (fo w.last s x _))=_;rw[show(s*2+1) / 2=s by omega,bz]
  .rw[ZY h];unfold dF
   by_cases h1:j<128
   .rw[Z0 h1,Z0 h1]
    by_cases h2:j % 2=0
    .rw[Z0 h2,Z0 h2]
    .rw[ZY h2,ZY h2]
     show HV.hp (pt (fo w.last s x _))=_;rw[aV _ _ _ (by omega)]
   .rw[ZY h1,ZY h1]
 | k+2=>exact aK rfl
theorem Gx (x:Int) (hf:f ()=some (1,129)) (hv:eN i v (.gQ (.list (.int .u64)) [x])) (k:K (du { w with mask:=x })):z8 i v (fun _=>du w) f K:=by
 refine⟨1,129,lS,130,dF w,.gQ (.list (.int .u64)) [x],du { w with mask:=x },hf,rfl,by omega,hv,⟨rfl,fun j hj=>?_⟩,k⟩;match j with
 | 0=>exact aK rfl
 | 1 =>
  refine fp fun j hj=>?_;by_cases h:j=129
  .subst h;rfl
  .rw[ZY h];unfold dF
   by_cases h1:j<128
   .rw[Z0 h1,Z0 h1]
   .rw[ZY h1,ZY h1,Z0 (by omega),Z0 (by omega)]
 | k+2=>exact aK rfl
theorem Np (n:Nat) (x:Option Nat) (hf:f ()=some (n+2,2)) (hv:eN i v (.hp (pt x))) (k:K (du { w with lk:=fo w.lk n { w.lk n with prev:=x } })):z8 i v (fun _=>du w) f K:=by
 refine⟨n+2,2,fG,4,ep (w.lk n),.hp (pt x),du { w with lk:=fo w.lk n { w.lk n with prev:=x } },hf,rfl,by omega,hv,⟨rfl,fun j hj=>?_⟩,k⟩;match j with
 | 0=>exact aK rfl
 | 1=>exact aK rfl
 | j+2 =>
  by_cases h:j=n
  .subst h
   simp only[du,Hp.set,wM,bz,if_true];refine fp fun q hq=>?_;match q with
   | 0=>rfl
   | 1=>rfl
   | 2=>rfl
   | q+3=>rfl
  .simp only[du,Hp.set,wM]
   rw[ZY (by omega),aV _ _ _ h];exact HO.aG _
theorem Gy (n:Nat) (x:Option Nat) (hf:f ()=some (n+2,3)) (hv:eN i v (.hp (pt x))) (k:K (du { w with lk:=fo w.lk n { w.lk n with next:=x } })):z8 i v (fun _=>du w) f K:=by
 refine⟨n+2,3,fG,4,ep (w.lk n),.hp (pt x),du { w with lk:=fo w.lk n { w.lk n with next:=x } },hf,rfl,by omega,hv,⟨rfl,fun j hj=>?_⟩,k⟩;match j with
 | 0=>exact aK rfl
 | 1=>exact aK rfl
 | j+2 =>
  by_cases h:j=n
  .subst h
   simp only[du,Hp.set,wM,bz,if_true];refine fp fun q hq=>?_;match q,hq with
   | 0,_=>rfl
   | 1,_=>rfl
   | 2,_=>rfl
   | 3,_=>rfl
  .simp only[du,Hp.set,wM]
   rw[ZY (by omega),aV _ _ _ h];exact HO.aG _
theorem Nq {P:Program} {t:Nat} (hz:iC P t=some (.pointer none)) {g:Unit->Nat} {n:Unit->Int} (hg:g ()=0) (k:K (du { w with at_:=bZ w.at_ (n ()) })):Mi P t n (fun _=>du w) g K:=by
 refine⟨rL w.at_,w.oH,_,du { w with at_:=bZ w.at_ (n ()) },by rw[hg];rfl,hz,⟨rfl,fun j hj=>?_⟩,k⟩;rw[hg];match j with
 | 0=>simp only[du,Hp.set,wM,if_true,tl];exact HO.aG _
 | 1=>exact aK rfl
 | j+2=>exact aK rfl
theorem Nr {P:Program} {t:Nat} (hz:iC P t=some (.pointer none)) {g:Unit->Nat} {n:Unit->Int} (x:Nat) (hg:g ()=0) (hv:eN i v (.hp (pt (some x)))) (cy:aP w.at_ (n ())=none) (k:K (du { w with at_:=bV w.at_ w.oH (n ()) x,oH:=w.oH+1 })):Mh P t i n v (fun _=>du w) g K:=by
 refine⟨rL w.at_,w.oH,_,.hp (pt (some x)),du { w with at_:=bV w.at_ w.oH (n ()) x,oH:=w.oH+1 },by rw[hg];rfl,hz,hv,⟨rfl,fun j hj=>?_⟩,k⟩;rw[hg];match j with
 | 0 =>
  simp only[du,Hp.set,wM,if_true,uB,tp,iN,cy];exact HO.aG _
 | 1=>exact aK rfl
 | j+2=>exact aK rfl
end
def aR {α:Type} (es:List (Nat×Int×α)):List Int:=es.map (·.2.1)
theorem DR {α:Type} {es:List (Nat×Int×α)} {n:Int}:aP es n=none↔n∉aR es:=by
 induction es with
 | nil=>simp[aP,aR]
 | cons e r ih =>
  obtain⟨b,k,x⟩:=e;simp only[aP,aR,aal,aaj,not_or];split
  .rename_i h;subst h;simp
  .rename_i h;rw[ih];simp only[aR];constructor
   .intro h';exact⟨fun e=>h e.symm,h'⟩
   .intro h';exact h'.2
theorem de {α:Type} (es:List (Nat×Int×α)) (c:Nat) (n m:Int) (v:α):aP (bV es c n v) m=if m=n then some v else aP es m:=by
 induction es with
 | nil=>simp[bV,aP,eq_comm]
 | cons e r ih =>
  obtain⟨b,k,x⟩:=e;simp only[bV];by_cases hk:k=n
  .subst hk;rw[Z0 rfl];simp only[aP]
   by_cases hm:m=k
   .subst hm;simp
   .rw[ZY (fun e=>hm e.symm),ZY hm,ZY (fun e=>hm e.symm)]
  .rw[ZY hk];simp only[aP,ih]
   by_cases hm:m=n
   .subst hm;rw[ZY hk,Z0 rfl,Z0 rfl]
   .rw[ZY hm,ZY hm]
theorem yx {α:Type} (es:List (Nat×Int×α)) (c:Nat) (n:Int) (v:α):aR (bV es c n v)=if n∈aR es then aR es else aR es++[n]:=by
 induction es with
 | nil=>simp[bV,aR]
 | cons e r ih =>
  obtain⟨b,k,x⟩:=e;simp only[bV];by_cases hk:k=n
  .subst hk;simp[aR]
  .rw[ZY hk]
   have e1:∀ l:List (Nat×Int×α),aR ((b,k,x)::l)=k::aR l:=fun _=>rfl;rw[e1,e1,ih];by_cases hm:n∈aR r
   .rw[Z0 hm,Z0 (Z5 _ hm)]
   .rw[ZY hm,ZY (fun h=>by rcases aaj.1 h with h|h;exact hk h.symm;exact hm h)];rfl
theorem cP {α:Type} {es:List (Nat×Int×α)} (h:(aR es).Nodup) (c:Nat) (n:Int) (v:α):(aR (bV es c n v)).Nodup:=by
 rw[yx];split
 .exact h
 .rename_i hn
  rw[abH];exact⟨h,by simp,fun a ha b hb=>by simp at hb;subst hb;intro e;subst e;exact hn ha⟩
theorem yy {α:Type} (es:List (Nat×Int×α)) (n:Int):aR (bZ es n)=(aR es).erase n:=by
 induction es with
 | nil=>rfl
 | cons e r ih =>
  obtain⟨b,k,x⟩:=e;simp only[bZ];by_cases hk:k=n
  .subst hk;simp[aR]
  .rw[ZY hk]
   simp only[aR,aal]at ih ⊢;rw[ih,List.erase_cons_tail (by simpa using hk)]
theorem cQ {α:Type} {es:List (Nat×Int×α)} (h:(aR es).Nodup) (n:Int):(aR (bZ es n)).Nodup:=by
 rw[yy];exact h.erase n
theorem dS {α:Type} {es:List (Nat×Int×α)} (h:(aR es).Nodup) (n m:Int):aP (bZ es n) m=if m=n then none else aP es m:=by
 induction es with
 | nil=>simp[bZ,aP]
 | cons e r ih =>
  obtain⟨b,k,x⟩:=e;simp only[aR,aal,aaT]at h;simp only[bZ];by_cases hk:k=n
  .subst hk
   rw[Z0 rfl];by_cases hm:m=k
   .subst hm;rw[Z0 rfl];exact DR.2 h.1
   .rw[ZY hm];simp only[aP];rw[ZY (fun e=>hm e.symm)]
  .rw[ZY hk];simp only[aP,ih h.2]
   by_cases hm:m=n
   .subst hm;rw[ZY hk,Z0 rfl,Z0 rfl]
   .rw[ZY hm,ZY hm]
structure Ns (w:Wl) (rows:Nat->List Nat):Prop where
 fst:∀ s,s<64->w.first s=(rows s).head?
 aL:∀ s,s<64->w.last s=(rows s).getLast?
 lk:∀ s i k,s<64->(rows s)[i]?=some k->(w.lk k).slot=s/\(w.lk k).prev=(if i=0 then none else(rows s)[i - 1]?)/\(w.lk k).next=(rows s)[i+1]?/\k<w.n
 nd:∀ s,s<64->(rows s).Nodup
theorem gM {L:List Nat} (h:L.Nodup) {a b x:Nat} (ha:L[a]?=some x) (hb:L[b]?=some x):a=b:=by
 have h1:=(Z2.1 ha)
 have h2:=(Z2.1 hb)
 exact(List.getElem_inj h).1 (h1.2.trans h2.2.symm)
def cA (w:Wl) (s k:Nat):Wl:=match(w.lk k).prev with
 | none=>{ w with first:=fo w.first s (w.lk k).next }|some p=>{ w with lk:=fo w.lk p { w.lk p with next:=(w.lk k).next } }
def dy (w:Wl) (s k:Nat):Wl:=match(w.lk k).next with
 | none=>{ w with last:=fo w.last s (w.lk k).prev }|some q=>{ w with lk:=fo w.lk q { w.lk q with prev:=(w.lk k).prev } }
theorem ph (w:Wl) (s k:Nat):(dy (cA w s k) s k).n=w.n/\(dy (cA w s k) s k).at_=w.at_/\(dy (cA w s k) s k).oH=w.oH/\(dy (cA w s k) s k).mask=w.mask:=by
 unfold dy;split <;> (unfold cA;split <;> exact⟨rfl,rfl,rfl,rfl⟩)
theorem wO (w:Wl) (s k x:Nat):((cA w s k).lk x).id=(w.lk x).id/\((cA w s k).lk x).slot=(w.lk x).slot/\((cA w s k).lk x).prev=(w.lk x).prev/\((cA w s k).lk x).next=if(w.lk k).prev=some x then(w.lk k).next else(w.lk x).next:=by
 unfold cA;split
 .rename_i h;rw[h];simp
 .rename_i p h
  rw[h];show(fo w.lk p _ x).id=_/\(fo w.lk p _ x).slot=_/\(fo w.lk p _ x).prev=_/\(fo w.lk p _ x).next=_;by_cases hx:x=p
  .subst hx;rw[bz,Z0 rfl];exact⟨rfl,rfl,rfl,rfl⟩
  .rw[aV _ _ _ hx,ZY (fun e=>hx (by cases e;rfl))]
   exact⟨rfl,rfl,rfl,rfl⟩
theorem AF (w:Wl) (s k x:Nat):((dy (cA w s k) s k).lk x).id=(w.lk x).id/\((dy (cA w s k) s k).lk x).slot=(w.lk x).slot/\((dy (cA w s k) s k).lk x).prev=(if(w.lk k).next=some x then(w.lk k).prev else(w.lk x).prev) /\
  ((dy (cA w s k) s k).lk x).next=if(w.lk k).prev=some x then(w.lk k).next else(w.lk x).next:=by
 obtain⟨k1,k2,k3,k4⟩:=wO w s k k;obtain⟨x1,x2,x3,x4⟩:=wO w s k x;have Uo:((cA w s k).lk k).next=(w.lk k).next:=by rw[k4];split <;> rfl
 unfold dy;rw[Uo,k3];cases hn:(w.lk k).next with
 | none =>
  rw[ZY (by simp)];rw[hn]at x4;exact⟨x1,x2,x3,x4⟩
 | some q =>
  show(fo (cA w s k).lk q _ x).id=_/\(fo (cA w s k).lk q _ x).slot=_/\(fo (cA w s k).lk q _ x).prev=_/\(fo (cA w s k).lk q _ x).next=_;by_cases hx:x=q
  .subst hx
   rw[hn]at x4;rw[bz,Z0 rfl];exact⟨x1,x2,rfl,x4⟩
  .rw[hn]at x4
   rw[aV _ _ _ hx,ZY (fun e=>hx (by cases e;rfl))];exact⟨x1,x2,x3,x4⟩
theorem DS (w:Wl) (s k t:Nat):(dy (cA w s k) s k).first t=if t=s/\(w.lk k).prev=none then(w.lk k).next else w.first t:=by
 have e:(dy (cA w s k) s k).first t=(cA w s k).first t:=by unfold dy;split <;> rfl
 rw[e];unfold cA;split
 .rename_i h;simp only[h,and_true];unfold fo;rfl
 .rename_i p h;rw[ZY (by rw[h];simp)]
theorem Gz (w:Wl) (s k t:Nat):(dy (cA w s k) s k).last t=if t=s/\(w.lk k).next=none then(w.lk k).prev else w.last t:=by
 obtain⟨k1,k2,k3,k4⟩:=wO w s k k;have Uo:((cA w s k).lk k).next=(w.lk k).next:=by rw[k4];split <;> rfl
 have e:(cA w s k).last=w.last:=by unfold cA;split <;> rfl
 unfold dy;rw[Uo,k3];split
 .rename_i h;simp only[h,and_true,e];unfold fo;rfl
 .rename_i p h;rw[ZY (by rw[h];simp)];simp only[e]
theorem bT (L:List Nat) (i j:Nat):(L.eraseIdx i)[j]?=if j<i then L[j]? else L[j+1]?:=by rw[List.getElem?_eraseIdx]
theorem tq (L:List Nat):L.head?=L[0]?:=by cases L <;> rfl
theorem pj (L:List Nat):L.getLast?=if L.length=0 then none else L[L.length - 1]?:=by
 rw[acX];split
 .rename_i h;rw[h];have:=aaL.1 h;subst this;rfl
 .rfl
theorem Ns.Yj {w:Wl} {rows:Nat->List Nat} (h:Ns w rows) {s i k:Nat} (hs:s<64) (hi:(rows s)[i]?=some k):Ns (dy (cA w s k) s k) (fo rows s ((rows s).eraseIdx i)):=by
 obtain⟨a1,a2,a3,a4⟩:=h.lk s i k hs hi;have dp:=(Z2.1 hi).1;have eA:=h.nd s hs;have Nt:(w.lk k).prev=none↔i=0:=by
  rw[a2];constructor
  .intro e;split at e
   .assumption
   .have:=ab2.1 e;omega
  .intro e;rw[Z0 e]
 have rK:(w.lk k).next=none↔i+1=(rows s).length:=by
  rw[a3];constructor
  .intro e;have:=ab2.1 e;omega
  .intro e;exact aat (by omega)
 refine⟨fun t ht=>?_,fun t ht=>?_,fun t j x ht hj=>?_,fun t ht=>?_⟩
 .rw[DS]
  by_cases gC:t=s
  .subst gC
   rw[bz,tq,bT];by_cases h0:i=0
   .rw[Z0 ⟨rfl,Nt.2 h0⟩,a3,h0];simp
   .rw[ZY (fun e=>h0 (Nt.1 e.2)),Z0 (by omega),h.fst t ht,tq]
  .rw[aV _ _ _ gC,ZY (fun e=>gC e.1)];exact h.fst t ht
 .rw[Gz]
  by_cases gC:t=s
  .subst gC
   rw[bz,pj,List.length_eraseIdx,Z0 dp];by_cases h0:i+1=(rows t).length
   .rw[Z0 ⟨rfl,rK.2 h0⟩,a2]
    by_cases yz:i=0
    .rw[Z0 yz,Z0 (by omega)]
    .rw[ZY yz,ZY (by omega),bT,Z0 (by omega)]
     congr 1;omega
   .rw[ZY (fun e=>h0 (rK.1 e.2)),ZY (by omega),h.aL t ht,pj,ZY (by omega),bT,ZY (by omega)]
    congr 1;omega
  .rw[aV _ _ _ gC,ZY (fun e=>gC e.1)];exact h.aL t ht
 .obtain⟨u1,u2,u3,u4⟩:=AF w s k x
  rw[u2,u3,u4,(ph w s k).1];by_cases gC:t=s
  .subst gC
   rw[bz]at hj ⊢;rw[bT]at hj;have Ly:(w.lk k).prev=some x↔j+1=i:=by
    rw[a2];constructor
    .intro e
     split at e
     .cases e
     .split at hj
      .have:=gM eA e hj;omega
      .have:=gM eA e hj;omega
    .intro e
     rw[ZY (by omega)];rw[Z0 (by omega)]at hj;rw[<-hj];congr 1;omega
   have jX:(w.lk k).next=some x↔j=i:=by
    rw[a3];constructor
    .intro e
     split at hj
     .have:=gM eA e hj;omega
     .have:=gM eA e hj;omega
    .intro e
     subst e;rw[ZY (by omega)]at hj;exact hj
   have hold:(w.lk x).slot=t/\(w.lk x).prev=(if(if j<i then j else j+1)=0 then none else(rows t)[(if j<i then j else j+1) - 1]?)/\(w.lk x).next=(rows t)[(if j<i then j else j+1)+1]?/\x<w.n:=by
    refine h.lk t _ x hs ?_;rw[<-hj];split <;> rfl
   refine⟨hold.1,?_,?_,hold.2.2.2⟩
   .by_cases jN:j=i
    .rw[Z0 (jX.2 jN),a2]
     subst jN;by_cases h0:j=0
     .rw[Z0 h0,Z0 h0]
     .rw[ZY h0,ZY h0,bT,Z0 (by omega)]
    .rw[ZY (fun e=>jN (jX.1 e)),hold.2.1]
     by_cases bf:j<i
     .rw[Z0 bf]
      by_cases h0:j=0
      .rw[Z0 h0,Z0 h0]
      .rw[ZY h0,ZY h0,bT,Z0 (by omega)]
     .rw[ZY bf,ZY (by omega),ZY (by omega),bT,ZY (by omega)]
      congr 1;omega
   .by_cases jN:j+1=i
    .rw[Z0 (Ly.2 jN),a3,bT,ZY (by omega)]
     congr 1;omega
    .rw[ZY (fun e=>jN (Ly.1 e)),hold.2.2.1,bT]
     by_cases bf:j<i
     .rw[Z0 bf,Z0 (by omega)]
     .rw[ZY bf,ZY (by omega)]
  .rw[aV _ _ _ gC]at hj ⊢
   obtain⟨b1,b2,b3,b4⟩:=h.lk t j x ht hj;have bC:∀ y:Nat,(∃ j':Nat,(rows s)[j']?=some y)->y≠x:=by
    rintro y ⟨j',lg⟩ e;subst e;have:=(h.lk s j' y hs lg).1;rw[b1]at this;omega
   refine⟨b1,?_,?_,b4⟩
   .rw[ZY (fun e=>bC x ⟨i+1,by rw[<-a3];exact e⟩ rfl)];exact b2
   .rw[ZY (fun e=>by
     rw[a2]at e;split at e
     .cases e
     .exact bC x ⟨_,e⟩ rfl)];exact b3
 .by_cases gC:t=s
  .subst gC;rw[bz];exact eA.sublist (List.eraseIdx_sublist _ _)
  .rw[aV _ _ _ gC];exact h.nd t ht
def kA (w:Wl) (s:Nat) (id:Int):Wl:={ w with n:=w.n+1,lk:=fo w.lk w.n ⟨id,s,w.last s,none⟩ }
def rM (w:Wl) (s:Nat) (k:Nat):Wl:=match w.last s with
 | none=>{ w with first:=fo w.first s (some k) }|some p=>{ w with lk:=fo w.lk p { w.lk p with next:=some k } }
def app (w:Wl) (s:Nat) (id:Int):Wl:={ rM (kA w s id) s w.n with last:=fo (rM (kA w s id) s w.n).last s (some w.n) }
theorem lT (w:Wl) (s:Nat) (id:Int):(app w s id).n=w.n+1/\(app w s id).at_=w.at_/\(app w s id).oH=w.oH/\(app w s id).mask=w.mask/\(app w s id).last=fo w.last s (some w.n):=by
 unfold app rM;split <;> exact⟨rfl,rfl,rfl,rfl,rfl⟩
theorem DT (w:Wl) (s t:Nat) (id:Int):(app w s id).first t=if t=s/\w.last s=none then some w.n else w.first t:=by
 show(rM (kA w s id) s w.n).first t=_;unfold rM;have e:(kA w s id).last s=w.last s:=rfl;rw[e];split
 .rename_i h;simp only[h,and_true];unfold fo;rfl
 .rename_i p h;rw[ZY (by rw[h];simp)];rfl
theorem AG (w:Wl) (s:Nat) (id:Int) (x:Nat) (hp:∀ p,w.last s=some p->p≠w.n):(app w s id).lk x=if x=w.n then⟨id,s,w.last s,none⟩else if w.last s=some x then { w.lk x with next:=some w.n } else w.lk x:=by
 show(rM (kA w s id) s w.n).lk x=_;unfold rM;have e:(kA w s id).last s=w.last s:=rfl;rw[e];split
 .rename_i h;rw[ZY (by rw[h];simp) (c:=w.last s=some x)];show fo _ _ _ x=_;unfold fo;rfl
 .rename_i p h
  have Nt:=hp p h;show fo (kA w s id).lk p _ x=_;by_cases hx:x=p
  .subst hx
   rw[bz,ZY Nt,Z0 h];show({ (fo w.lk w.n _) x with next:=_ }:Lk)=_;rw[aV _ _ _ Nt]
  .rw[aV _ _ _ hx]
   show fo _ _ _ x=_;unfold fo;split
   .rfl
   .rw[ZY (fun e=>hx (by rw[h]at e;cases e;rfl))]
theorem Ns.app {w:Wl} {rows:Nat->List Nat} (h:Ns w rows) {s:Nat} (hs:s<64) (id:Int):Ns (app w s id) (fo rows s (rows s++[w.n])):=by
 have bf:∀ t x,t<64->x∈rows t->x<w.n:=fun t x ht hx=>by
  obtain⟨j,hj⟩:=aaa.1 hx;exact(h.lk t j x ht hj).2.2.2
 have hp:∀ p,w.last s=some p->p≠w.n:=fun p hp=>by
  rw[h.aL s hs]at hp;have:=bf s p hs (acO hp);omega
 refine⟨fun t ht=>?_,fun t ht=>?_,fun t j x ht hj=>?_,fun t ht=>?_⟩
 .rw[DT]
  by_cases gC:t=s
  .subst gC
   rw[bz,h.aL t ht];cases hr:rows t with
   | nil=>simp
   | cons a r=>rw[ZY (by simp),h.fst t ht,hr];rfl
  .rw[aV _ _ _ gC,ZY (fun e=>gC e.1)];exact h.fst t ht
 .rw[(lT w s id).2.2.2.2]
  by_cases gC:t=s
  .subst gC;rw[bz,bz];simp
  .rw[aV _ _ _ gC,aV _ _ _ gC];exact h.aL t ht
 .rw[(lT w s id).1,AG w s id x hp]
  by_cases gC:t=s
  .subst gC
   rw[bz]at hj ⊢;rw[aau]at hj;split at hj
   .rename_i q8
    obtain⟨b1,b2,b3,b4⟩:=h.lk t j x ht hj;rw[ZY (by omega)];have iO:w.last t=some x↔j+1=(rows t).length:=by
     rw[h.aL t ht,pj,ZY (by omega)];constructor
     .intro e;have:=gM (h.nd t ht) e hj;omega
     .intro e;rw[<-hj];congr 1;omega
    have Wk:(if j=0 then none else(rows t)[j - 1]?)=(if j=0 then none else(rows t++[w.n])[j - 1]?):=by
     split
     .rfl
     .rw[aau,Z0 (by omega)]
    by_cases hl:j+1=(rows t).length
    .rw[Z0 (iO.2 hl)]
     refine⟨b1,by rw[<-Wk];exact b2,?_,by omega⟩;rw[aau,ZY (by omega),hl];simp
    .rw[ZY (fun e=>hl (iO.1 e))]
     refine⟨b1,by rw[<-Wk];exact b2,?_,by omega⟩;rw[aau,Z0 (by omega)];exact b3
   .rename_i q8
    have QB:j=(rows t).length:=by
     have:=(Z2.1 hj).1;simp at this;omega
    subst QB;simp at hj;subst hj;rw[Z0 rfl];refine⟨rfl,?_,?_,by omega⟩
    .show w.last t=_
     rw[h.aL t ht,pj];split
     .rfl
     .rw[aau,Z0 (by omega)]
    .exact(aat (by simp)).symm
  .rw[aV _ _ _ gC]at hj ⊢
   obtain⟨b1,b2,b3,b4⟩:=h.lk t j x ht hj;rw[ZY (by omega),ZY (fun e=>by
    rw[h.aL s hs]at e;obtain⟨j',lg⟩:=aaa.1 (acO e);have:=(h.lk s j' x hs lg).1;rw[b1]at this;omega)]
   exact⟨b1,b2,b3,by omega⟩
 .by_cases gC:t=s
  .subst gC
   rw[bz,abH];exact⟨h.nd t ht,by simp,fun a ha b hb=>by simp at hb;subst hb;have:=bf t a ht ha;omega⟩
  .rw[aV _ _ _ gC];exact h.nd t ht
end Go.Proofs.YthnefnlhcijekaaGreat.Wh
namespace Go.Proofs.YthnefnlhcijekaaGreat.Bt
open Go Go.RowKit Fw
def numOf:List Int->Nat
 | []=>0
 | x::r=>x.toNat+18446744073709551616*numOf r
def ax (k N:Nat):List Int:=(List.range k).map fun i=>((N / 2 ^ (64*i) % 2 ^ 64:Nat):Int)
def Wd (w:List Int):Prop:=∀ x∈w,0<=x/\x<18446744073709551616
theorem br (k N:Nat):(ax k N).length=k:=by simp[ax]
theorem iP {k N i:Nat} (h:i<k):(ax k N).getD i 0=((N / 2 ^ (64*i) % 2 ^ 64:Nat):Int):=by
 simp[ax,ZZ,h]
theorem GA (k N:Nat):Wd (ax k N):=fun x hx=>by
 simp only[ax,aas]at hx;obtain⟨i,_,rfl⟩:=hx;have:=abm (N / 2 ^ (64*i)) (show 2 ^ 64>0 by decide);omega
theorem wP:∀ {w:List Int},Wd w->∀ i,i<w.length->w.getD i 0=((numOf w / 2 ^ (64*i) % 2 ^ 64:Nat):Int)
 | [],_,i,h=>by simp at h
 | x::r,hw,i,h=>by
  have h1:=hw x (Z7 ..);cases i with
  | zero =>
   show x=_;rw[numOf,Nat.mul_zero,Nat.pow_zero,Nat.div_one,show(2:Nat) ^ 64=18446744073709551616 from rfl,Nat.add_mul_mod_self_left];omega
  | succ i =>
   have ih:=wP (w:=r) (fun y hy=>hw y (Z5 _ hy)) i (by simpa using h);have e:numOf (x::r) / 2 ^ (64*(i+1))=numOf r / 2 ^ (64*i):=by
    rw[show 2 ^ (64*(i+1))=18446744073709551616*2 ^ (64*i) by rw[Nat.mul_add,aco,ac2],<-acH,numOf];congr 1;omega
   rw[e,<-ih];rfl
theorem pn {l m:List Int} (h:l.length=m.length) (h2:∀ i,i<l.length->l.getD i 0=m.getD i 0):l=m:=by
 apply ada h;intro i h3 h4;have:=h2 i h3;rwa [ZZ,ZZ,Z1 h3,Z1 h4]at this
theorem vo:∀ {k N:Nat},N<2 ^ (64*k)->numOf (ax k N)=N
 | 0,N,h=>by simp at h;subst h;rfl
 | k+1,N,h=>by
  have e:ax (k+1) N=((N % 2 ^ 64:Nat):Int)::ax k (N / 2 ^ 64):=by
   unfold ax;rw[List.range_succ_eq_map,aal,List.map_map];congr 1
   .simp
   .refine abe fun i _=>?_
    show((N / 2 ^ (64*(i+1)) % 2 ^ 64:Nat):Int)=_;rw[Nat.mul_add,ac8,Nat.add_comm,aco,acH]
  have h2:N / 2 ^ 64<2 ^ (64*k):=by
   rw[acK (by decide),<-aco];rwa [Nat.mul_add]at h
  rw[e,numOf,vo h2];have:=Nat.div_add_mod N 18446744073709551616;show(((N % 18446744073709551616:Nat):Int)).toNat+18446744073709551616*(N / 18446744073709551616)=N;omega
def EX (N at_ wd:Nat):Nat:=N / 2 ^ at_ % 2 ^ wd
theorem wQ (N a b i:Nat):(EX N a b).testBit i=(decide (i<b) && N.testBit (a+i)):=by
 unfold EX;rw[abd,abk,Nat.add_comm]
theorem fH (N i j:Nat):(N / 2 ^ (64*i) % 2 ^ 64).testBit j=(decide (j<64) && N.testBit (64*i+j)):=wQ N (64*i) 64 j
theorem DU (N i low wd:Nat) (hl:low<64) (hw:wd<=64) :
  ((N / 2 ^ (64*i) % 2 ^ 64) / 2 ^ low ||| (N / 2 ^ (64*(i+1)) % 2 ^ 64)*2 ^ (64 - low) % 2 ^ 64) &&& (2 ^ wd - 1)=EX N (64*i+low) wd:=by
 apply abn;intro j;rw[Nat.testBit_and,aca,abC,abk,fH,abd,abl,fH,wQ];by_cases h1:j<wd
 .by_cases h2:j+low<64
  .have e1:64*i+(j+low)=64*i+low+j:=by omega
   have e2:¬64<=j+low:=by omega
   simp[h1,h2,e1,e2]
  .have e1:64*(i+1)+(j - (64 - low))=64*i+low+j:=by omega
   have e2:64<=j+low:=by omega
   have e3:j - (64 - low)<64:=by omega
   have e4:j<64:=by omega
   simp[h1,h2,e1,e2,e3,e4]
 .simp[h1]
theorem GB (N i low wd:Nat) (hl:low+wd<=64):((N / 2 ^ (64*i) % 2 ^ 64) / 2 ^ low) &&& (2 ^ wd - 1)=EX N (64*i+low) wd:=by
 apply abn;intro j;rw[Nat.testBit_and,aca,abk,fH,wQ];by_cases h1:j<wd
 .have e1:64*i+(j+low)=64*i+low+j:=by omega
  have h2:j+low<64:=by omega
  simp[h1,h2,e1]
 .simp[h1]
def uL (a b:Nat):Nat:=(BitVec.ofNat 64 a &&& ~~~BitVec.ofNat 64 b).toNat
theorem lU (a b i:Nat):(uL a b).testBit i=(decide (i<64) && a.testBit i && !b.testBit i):=by
 unfold uL;rw[BitVec.testBit_toNat,BitVec.getLsbD_and,BitVec.getLsbD_not,BitVec.getLsbD_ofNat,BitVec.getLsbD_ofNat];by_cases h:i<64 <;> simp[h]
theorem AH {N n a:Nat} (h:N<2 ^ a):N+n*2 ^ a=N ||| n*2 ^ a:=by
 rw[Nat.add_comm,Nat.or_comm,ac2];exact Nat.two_pow_add_eq_or_of_lt h n
theorem po {N a i:Nat} (h:N<2 ^ a) (hi:a<=i):N.testBit i=false:=Nat.testBit_lt_two_pow (aag h (abT (by decide) hi))
theorem JC {N i low n wd:Nat} (h:N<2 ^ (64*i+low)) (hn:n<2 ^ wd) (hl:low<64) (hw:wd<=64) :
  uL (N / 2 ^ (64*i) % 2 ^ 64) ((2 ^ wd - 1)*2 ^ low % 2 ^ 64) ||| n*2 ^ low % 2 ^ 64=(N+n*2 ^ (64*i+low)) / 2 ^ (64*i) % 2 ^ 64:=by
 apply abn;intro j;rw[abC,lU,fH,abd,abl,aca,abd,abl,fH,AH h,abC,abl];by_cases h1:j<64
 .by_cases h2:low<=j
  .have e1:N.testBit (64*i+j)=false:=po h (by omega)
   have e2:64*i+j - (64*i+low)=j - low:=by omega
   simp[h1,h2,e1,e2]
  .have e3:¬(64*i+low<=64*i+j):=by omega
   simp[h1,h2]
 .simp[h1]
theorem GC {N i low n wd:Nat} (h:N<2 ^ (64*i+low)) (hn:n<2 ^ wd) (hl:low<64) (hw:wd<=64) :
  uL (N / 2 ^ (64*(i+1)) % 2 ^ 64) ((2 ^ wd - 1) / 2 ^ (64 - low)) ||| n / 2 ^ (64 - low)=(N+n*2 ^ (64*i+low)) / 2 ^ (64*(i+1)) % 2 ^ 64:=by
 apply abn;intro j;rw[abC,lU,fH,abk,abk,fH,AH h,abC,abl];have e1:N.testBit (64*(i+1)+j)=false:=po h (by omega);have e2:64*(i+1)+j - (64*i+low)=j+(64 - low):=by omega
 have e3:64*i+low<=64*(i+1)+j:=by omega
 by_cases h1:j<64
 .simp[h1,e1,e2,e3]
 .have e4:n.testBit (j+(64 - low))=false:=po hn (by omega)
  simp[h1,e4]
theorem vp {N i low n wd j:Nat} (h:N<2 ^ (64*i+low)) (hn:n<2 ^ wd) (hl:low<64) (hj:j≠i) (lq:j≠i+1\/low+wd<=64) (hw:wd<=64) :
  (N+n*2 ^ (64*i+low)) / 2 ^ (64*j) % 2 ^ 64=N / 2 ^ (64*j) % 2 ^ 64:=by
 apply abn;intro b;rw[fH,fH,AH h,abC,abl];by_cases h1:b<64
 .by_cases h2:64*i+low<=64*j+b
  .have e4:n.testBit (64*j+b - (64*i+low))=false:=po hn (by omega)
   simp[e4]
  .simp[h2]
 .simp[h1]
theorem pq {x:Nat} (h:x<2 ^ 64):IntKind.u64.wrap (x:Int)=(x:Int):=by
 simp[IntKind.wrap,IntKind.bits,IntKind.signed];omega
theorem tr (a b:Nat) (ha:a<2 ^ 64) (hb:b<2 ^ 64):IntKind.u64.wrap (BitVec.ofInt IntKind.u64.bits (a:Int) ||| BitVec.ofInt IntKind.u64.bits (b:Int)).toNat=((a ||| b:Nat):Int):=by
 have e:(BitVec.ofInt IntKind.u64.bits (a:Int) ||| BitVec.ofInt IntKind.u64.bits (b:Int)).toNat=a ||| b:=by
  show(BitVec.ofInt 64 (a:Int) ||| BitVec.ofInt 64 (b:Int)).toNat=a ||| b
  rw[abz,abz,BitVec.toNat_or,acb,acb,aa2 ha,aa2 hb]
 rw[e];have:a ||| b<2 ^ 64:=Nat.or_lt_two_pow ha hb
 simp[IntKind.wrap,IntKind.bits,IntKind.signed];omega
theorem mI (a b:Nat) (ha:a<2 ^ 64) (hb:b<2 ^ 64):IntKind.u64.wrap (BitVec.ofInt IntKind.u64.bits (a:Int) &&& BitVec.ofInt IntKind.u64.bits (b:Int)).toNat=((a &&& b:Nat):Int):=by
 have e:(BitVec.ofInt IntKind.u64.bits (a:Int) &&& BitVec.ofInt IntKind.u64.bits (b:Int)).toNat=a &&& b:=by
  show(BitVec.ofInt 64 (a:Int) &&& BitVec.ofInt 64 (b:Int)).toNat=a &&& b;rw[abz,abz,BitVec.toNat_and,acb,acb,aa2 ha,aa2 hb]
 rw[e];have:a &&& b<2 ^ 64:=acB Nat.and_le_left ha;simp[IntKind.wrap,IntKind.bits,IntKind.signed];omega
theorem lV (a b:Nat):IntKind.u64.wrap (BitVec.ofInt IntKind.u64.bits (a:Int) &&& ~~~ BitVec.ofInt IntKind.u64.bits (b:Int)).toNat=((uL a b:Nat):Int):=by
 have e:(BitVec.ofInt IntKind.u64.bits (a:Int) &&& ~~~ BitVec.ofInt IntKind.u64.bits (b:Int))=BitVec.ofNat 64 a &&& ~~~BitVec.ofNat 64 b:=by
  show(BitVec.ofInt 64 (a:Int) &&& ~~~ BitVec.ofInt 64 (b:Int))=_;rw[abz,abz]
 have:(BitVec.ofNat 64 a &&& ~~~BitVec.ofNat 64 b).toNat<2 ^ 64:=BitVec.isLt _;rw[e];exact pq this
theorem px (a b:Nat) (h:b<=64):IntKind.u64.wrap ((a:Int)*2 ^ (min ((b:Int)).toNat IntKind.u64.bits))=((a*2 ^ b % 2 ^ 64:Nat):Int):=by
 have e:min ((b:Int)).toNat IntKind.u64.bits=b:=by rw[Z4];exact aa0 h
 rw[e];simp[IntKind.wrap,IntKind.bits,IntKind.signed]
theorem wR (a b:Nat) (h:b<=64):((a:Int)).fdiv (2 ^ (min ((b:Int)).toNat IntKind.u64.bits))=((a / 2 ^ b:Nat):Int):=by
 have e:min ((b:Int)).toNat IntKind.u64.bits=b:=by rw[Z4];exact aa0 h
 have h2:(2:Int) ^ b=((2 ^ b:Nat):Int):=by simp
 rw[e,h2,abA _ (Int.natCast_nonneg _)];exact(Int.natCast_ediv _ _).symm
end Go.Proofs.YthnefnlhcijekaaGreat.Bt
namespace Go.Proofs.YthnefnlhcijekaaGreat.Wh
open Go Go.RowKit Fw
theorem py (a b:Nat):Bt.uL a b<2 ^ 64:=BitVec.isLt _
open Bt (uL lU tr mI lV px wR pq)
theorem hm:Tryz.prog.follows .mixedOrders=true:=by kernel_rfl
theorem wr {x:Int} (h:-9223372036854775808<=x/\x<=9223372036854775807):IntKind.i64.wrap x=x:=by rw[IntKind.wrap_i64];omega
theorem lW {n:Nat} (h:n<=64):2 ^ n<=18446744073709551616:=abT (by decide) h
theorem yA (a b:Nat) (h:b<=64):IntKind.u64.wrap ((a:Int)*2 ^ (min b IntKind.u64.bits))=((a*2 ^ b % 2 ^ 64:Nat):Int):=px a b h
theorem yB (a b:Nat) (h:b<=64):((a:Int)).fdiv (2 ^ (min b IntKind.u64.bits))=((a / 2 ^ b:Nat):Int):=wR a b h
theorem nC (n:Nat) (h:n<=64):MU Tryz.prog 215 [.I (n:Int)] [] (.int .u64 fun _=>((2 ^ n - 1:Nat):Int)) []:=by
 have hp:=lW h;have h1:1<=2 ^ n:=aaW;refine aa.q Tryz.func215 rfl fun S aw=>Wb _ ?_;repeat' first|exact tv|apply pr|intro hh
 .refine ae.w () [] _ ?_;repeat' first|exact tv|apply pr
  have e:n=64:=by omega
  subst e;rfl
 .exact Ob.mk (by simp only[];omega)
 .refine ae.w () [] _ ?_;repeat' first|exact tv|apply pr
  have h2:2 ^ n*2<=18446744073709551616:=by rw[<-acu];exact lW (by omega)
  have e:=px 1 n h;rw[abY,aa2 (by omega)]at e;have e:IntKind.u64.wrap (1*2 ^ min ((n:Int)).toNat IntKind.u64.bits)=((2 ^ n:Nat):Int):=e;rw[e];have e2:=pq (x:=2 ^ n - 1) (by omega);rw[<-e2];congr 1;omega
theorem wS (x:Int) (a:Nat) (h:a<64):MU Tryz.prog 250 [.aL (.int .u64) fun _=>[x],.I (a:Int),.I 1] [] .tt []:=by
 have e1:IntKind.i64.wrap (64*1)=64:=by decide
 have e2:IntKind.i64.wrap (64 - (a:Int))=64 - a:=wr (by omega);(refine aa.q Tryz.func250 rfl fun S aw=>Wb _ ?_;(repeat' first|exact tv|apply pr|intro hh));all_goals (try simp only[Z9,aay,aaf,Int.ofNat_one,e1,e2]at *)
 all_goals first
  | (exfalso;omega)
  | skip
 (refine ae.w () [] _ ?_;(repeat' first|exact tv|apply pr));refine decide_eq_true ?_;omega
theorem AI (xs:List Int) (hl:xs.length<=100000):MU Tryz.prog 164 [.aL (.int .u64) fun _=>xs] [] (.vec 0 1 (fun _=>0) (fun _=>xs.length)) [.aq 41 (.int .u64) fun _=>xs]:=by
 refine aa.q Tryz.func164 rfl fun S aw=>?_;(conv=>whnf)
 ((refine Wb _ ?_;(repeat' first|exact tv|apply pr|intro hh));all_goals(refine Wb _ ?_;(repeat' first|exact tv|apply pr|intro hh)))
 .have hx:xs=[]:=‹_=true->xs=[]› hh
  refine ae.nil 41 (.int .u64) 0 ?_;(conv=>whnf);(refine ae.w () [0] _ ?_;(repeat' first|exact tv|apply pr));all_goals simp[hx]
 .refine⟨⟨rfl,?_,?_⟩⟩
  .show 0+xs.length<=_
   omega
  .show(0+xs.length)*8<=_
   omega
 .refine ae.w () [0] _ ?_;repeat' first|exact tv|apply pr
  all_goals simp
def iQ (x s b:Nat):Nat:=uL x (2 ^ s % 2 ^ 64) ||| (b*2 ^ s % 2 ^ 64)
theorem DV (x s b:Nat):iQ x s b<2 ^ 64:=Nat.or_lt_two_pow (py _ _) (abm _ (by decide))
theorem AJ {x s b:Nat} (hb:b<=1) (hs:s<64) (j:Nat) (hj:j<64):(iQ x s b).testBit j=if j=s then decide (b=1)else x.testBit j:=by
 unfold iQ;rw[abC,lU,abd,abd,Nat.testBit_two_pow,abl];by_cases h:j=s
 .subst h
  have:b=0\/b=1:=by omega
  rcases this with rfl|rfl <;> simp[hj]
 .have h':¬s=j:=fun e=>h e.symm
  have:b.testBit (j - s)=false\/¬s<=j:=by
   by_cases DQ:s<=j
   .left
    obtain⟨d,hd⟩:∃ d,j - s=d+1:=⟨j - s - 1,by omega⟩
    rw[hd,Nat.testBit_succ];have:b / 2=0:=by omega
    rw[this];simp
   .exact .inr DQ
  rcases this with h2|h2 <;> simp[hj,h,h',h2]
theorem AK (x s b:Nat) (hx:x<2 ^ 64) (hs:s<64) (hb:b<=1):MU Tryz.prog 216 [.aL (.int .u64) fun _=>[(x:Int)],.I (s:Int),.I 1,.int .u64 fun _=>(b:Int)] [] (.bQ [.aL (.int .u64) fun _=>[(iQ x s b:Int)],.tt]) []:=by
 have IF:(s:Int).tdiv 64=0:=by rw[aaq (by omega)];omega
 have el:(s:Int).tmod 64=(s:Int):=by rw[abc (by omega)];omega
 have ei:IntKind.i64.wrap 0=0:=by decide
 have es:IntKind.i64.wrap ((s:Int)+1)=((s+1:Nat):Int):=by rw[wr (by omega)];omega
 have hp:(2:Nat) ^ 64=18446744073709551616:=rfl;have ev:IntKind.u64.wrap (BitVec.ofInt IntKind.u64.bits (b:Int) &&& BitVec.ofInt IntKind.u64.bits ((2 ^ 1 - 1:Nat):Int)).toNat=(b:Int):=by
  rw[mI _ _ (by omega) (by decide)];have:b=0\/b=1:=by omega
  rcases this with rfl|rfl <;> rfl
 (refine aa.q Tryz.func216 rfl fun S aw=>Wb _ ?_;(repeat' first|exact tv|apply pr|intro hh));(refine ab.q (wS (x:Int) s hs) [] fun _ _=>Wp _ ?_;(repeat' first|exact tv|apply pr|intro hh));(refine ab.q (AI [(x:Int)] (by simp)) [] fun _ _=>Wp _ ?_;(repeat' first|exact tv|apply pr|intro hh));(refine ab.q (nC 1 (by decide)) [] fun _ _=>Wp _ ?_;(repeat' first|exact tv|apply pr|intro hh));all_goals (try simp only[IF,el,ei,es,Z4,Z9,aay]at hh ⊢)
 all_goals first
  | (refine Ob.mk ?_;first|omega|(simp only[IF,ei];decide)|(simp only[];omega))
  | skip
 (refine ab.q (nC 1 (by decide)) [] fun _ _=>Wp _ ?_;(repeat' first|exact tv|apply pr|intro hh));all_goals (try simp only[IF,el,ei,es,Z4,Z9,aay]at hh ⊢)
 all_goals first
  | (refine Ob.mk ?_;first|omega|(simp only[IF,ei];decide)|(simp only[];omega))
  | (exfalso;omega)
  | skip
 (refine ae.gU 0 ?_;(conv=>whnf));(refine ae.w () [] _ ?_;(repeat' first|exact tv|apply pr));show[IntKind.u64.wrap (BitVec.ofInt IntKind.u64.bits (IntKind.u64.wrap (BitVec.ofInt IntKind.u64.bits (x:Int) &&& ~~~BitVec.ofInt IntKind.u64.bits (IntKind.u64.wrap (((2 ^ 1 - 1:Nat):Int)*2 ^ min s IntKind.u64.bits))).toNat) ||| BitVec.ofInt IntKind.u64.bits (IntKind.u64.wrap (IntKind.u64.wrap (BitVec.ofInt IntKind.u64.bits (b:Int) &&& BitVec.ofInt IntKind.u64.bits ((2 ^ 1 - 1:Nat):Int)).toNat*2 ^ min s IntKind.u64.bits))).toNat]=_;rw[ev,yA _ _ (by omega),yA _ _ (by omega),lV,tr _ _ (py _ _) (abm _ (by decide))];unfold iQ;rw[show(2 ^ 1 - 1)*2 ^ s=2 ^ s by simp]
structure GD (x from_ k:Nat):Prop where
 ge:from_<=k
 lt:k<64
 one:x.testBit k=true
 no:∀ j,from_<=j->j<k->x.testBit j=false
def lX (x f:Nat):Nat:=x / 2 ^ f*2 ^ f % 2 ^ 64
theorem oe (x f j:Nat):(lX x f).testBit j=(decide (j<64) && (decide (f<=j) && x.testBit j)):=by
 unfold lX;rw[abd,abl,abk];by_cases h:f<=j
 .rw[show j - f+f=j by omega]
 .simp[h]
theorem vq {n:Nat} (h:n<2 ^ 64):n=0↔∀ j,j<64->n.testBit j=false:=by
 constructor
 .rintro rfl j _;simp
 .intro h'
  apply abn;intro j;by_cases hj:j<64
  .rw[h' j hj];simp
  .rw[Nat.testBit_lt_two_pow (aag h (abT (by decide) (by omega)))];simp
theorem mod_zero {n e:Nat}:n % 2 ^ e=0↔∀ j,j<e->n.testBit j=false:=by
 constructor
 .intro h j hj
  have:(n % 2 ^ e).testBit j=n.testBit j:=by rw[abd];simp[hj]
  rw[<-this,h];simp
 .intro h
  apply abn;intro j;rw[abd];by_cases hj:j<e
  .rw[h j hj];simp
  .simp[hj]
structure ib (N:Nat) (e n at_:Nat):Prop where
 bit:∀ j,n.testBit j=N.testBit (at_+j)
 no:∀ j,j<at_->N.testBit j=false
 some_:∃ j,j<2 ^ e/\n.testBit j=true
 lt:n<2 ^ 64
 bd:at_+2 ^ e<=64
theorem ib.left {N e n a:Nat} (h:ib N (e+1) n a) (hz:n % 2 ^ (2 ^ e)=0):ib N e (n / 2 ^ (2 ^ e)) (a+2 ^ e):=by
 have hz:=mod_zero.1 hz;have he:2 ^ (e+1)=2 ^ e+2 ^ e:=by rw[acu];omega
 obtain⟨j,hj,hb⟩:=h.some_;have IG:=h.bd;rw[he]at hj IG;have xV:2 ^ e<=j:=by
  rcases Nat.lt_or_ge j (2 ^ e)with h'|h'
  .rw[hz j h']at hb;cases hb
  .exact h'
 refine⟨fun i=>?_,fun i hi=>?_,⟨j - 2 ^ e,by omega,?_⟩,acB (Nat.div_le_self _ _) h.lt,by omega⟩
 .rw[abk,h.bit];congr 1;omega
 .rcases Nat.lt_or_ge i a with h'|h'
  .exact h.no i h'
  .have:=hz (i - a) (by omega)
   rw[h.bit]at this;rw[<-this];congr 1;omega
 .rw[abk,show j - 2 ^ e+2 ^ e=j by omega];exact hb
theorem ib.stay {N e n a:Nat} (h:ib N (e+1) n a) (hz:n % 2 ^ (2 ^ e)≠0):ib N e n a:=by
 have he:2 ^ (e+1)=2 ^ e+2 ^ e:=by rw[acu];omega
 have IG:=h.bd;rw[he]at IG;have dw:a+2 ^ e<=64:=aaA (Nat.add_le_add_left (Nat.le_add_right _ _) a) IG;refine⟨h.bit,h.no,?_,h.lt,dw⟩;refine aaG fun cy=>hz (mod_zero.2 fun j hj=>?_);cases hb:n.testBit j with
 | false=>rfl
 | true=>exact(cy ⟨j,hj,hb⟩).elim
theorem ib.done {N n a:Nat} (h:ib N 0 n a):N.testBit a=true/\a<64:=by
 obtain⟨j,hj,hb⟩:=h.some_;have:j=0:=by simp at hj;exact hj
 subst this;have h2:a+1<=64:=h.bd;rw[h.bit]at hb;exact⟨hb,by omega⟩
theorem ib.begin {N:Nat} (h:N<2 ^ 64) (h0:N≠0):ib N 6 N 0:=by
 refine⟨fun j=>by rw[aaf],fun j hj=>by omega,?_,h,by decide⟩;refine aaG fun cy=>h0 ((vq h).2 fun j hj=>?_);cases hb:N.testBit j with
 | false=>rfl
 | true=>exact(cy ⟨j,hj,hb⟩).elim
def GF (e:Nat):Nat:=match e with|0=>0|e+1=>2 ^ e
theorem GG (x f:Nat) (hx:x<2 ^ 64) (hf:f<=64):aa Tryz.prog 211 [.aL (.int .u64) fun _=>[(x:Int)],.I (f:Int)] [] (Y:=Option Nat)
  (fun y=>match y with|some k=>GD x f k|none=>∀ j,f<=j->j<64->x.testBit j=false)
  (fun y=>.bQ [.I ((y.getD 0:Nat):Int),.bool fun _=>y.isSome]) (fun _=>[]):=by
 have e1:(if(0:Int)>(f:Int)then 0 else(f:Int))=(f:Int):=ZY (by omega);have hp:(2:Nat) ^ 64=18446744073709551616:=rfl;have e2:IntKind.i64.wrap ((f:Int).tdiv 64)=((f / 64:Nat):Int):=by
  rw[aaq (by omega),wr (by omega)];omega
 have e3:(f:Int).tmod 64=((f % 64:Nat):Int):=by rw[abc (by omega)];omega
 refine aa.q Tryz.func211 rfl fun S aw=>Wb _ ?_;repeat' first|exact tv|apply pr|intro hh
 .exact Ob.mk (by decide)
 refine aM.intro hm (X:=Nat) (fun i=>i=f / 64\/(i=1/\∀ j,f<=j->j<64->x.testBit j=false)) (fun i=>2 - i)
  (fun i=>[(6,.I (i:Int)),(1,.I (f:Int)),(0,.aL (.int .u64) fun _=>[(x:Int)])]) (fun _=>[]) (f / 64) [] ⟨rfl,rfl,?_,?_⟩ (.inl rfl) (fun i hi=>?_)
 .exact Vc
 .refine Vb _ ?_;repeat' first|exact tv|apply pr
  rw[e1];exact e2
 (refine Wb _ ?_;(repeat' first|exact tv|apply pr|intro hh));all_goals (try simp only[Z9,aay,aaf,e2]at hh)
 all_goals (try (have bf:(i:Int)<1:=by assumption))
 all_goals first
  | (exact Ob.mk (by decide))
  | (refine Ob.mk ?_;simp only[e3];omega)
  | (refine Ob.mk ?_;simp only[Z9,aay];omega)
  | skip
 all_goals first
  | (exfalso;have h1:=‹¬(i:Int)=IntKind.i64.wrap ((f:Int).tdiv 64)›;rw[e2]at h1;omega)
  | skip
 .have h1:=‹(i:Int)=IntKind.i64.wrap ((f:Int).tdiv 64)›
  rw[e2]at h1;have yz:i=0:=by omega
  subst yz;have Up:f<64:=by omega
  have JD:IntKind.u64.wrap (Int.fdiv ([(x:Int)].getD (((0:Nat):Int)).toNat (Ty.int .u64).bA) (2 ^ min ((f:Int).tmod 64).toNat IntKind.u64.bits)*2 ^ min ((f:Int).tmod 64).toNat IntKind.u64.bits)=(lX x f:Int):=by
   rw[e3,show f % 64=f by omega];exact(congrArg (fun z:Int=>IntKind.u64.wrap (z*2 ^ min f IntKind.u64.bits)) (yB x f (by omega))).trans (yA _ f (by omega))
  rw[JD]at hh;refine⟨1,[],⟨rfl,rfl,?_,?_⟩,.inr ⟨rfl,fun j h2 h3=>?_⟩,by omega⟩
  .exact Vc
  .exact Vc
  .have:=(vq (n:=lX x f) (abm _ (by decide))).1 (by omega) j h3
   rw[oe]at this;simpa [h2,h3]using this
 .have h1:=‹(i:Int)=IntKind.i64.wrap ((f:Int).tdiv 64)›
  rw[e2]at h1;have yz:i=0:=by omega
  subst yz;have Up:f<64:=by omega
  have JD:IntKind.u64.wrap (Int.fdiv ([(x:Int)].getD (((0:Nat):Int)).toNat (Ty.int .u64).bA) (2 ^ min ((f:Int).tmod 64).toNat IntKind.u64.bits)*2 ^ min ((f:Int).tmod 64).toNat IntKind.u64.bits)=(lX x f:Int):=by
   rw[e3,show f % 64=f by omega];exact(congrArg (fun z:Int=>IntKind.u64.wrap (z*2 ^ min f IntKind.u64.bits)) (yB x f (by omega))).trans (yA _ f (by omega))
  rw[JD]at hh;refine aM.intro hm (X:=Nat×Nat×Nat) (fun y=>ib (lX x f) y.1 y.2.1 y.2.2) (fun y=>y.1)
   (fun y=>[(9,.I (GF y.1:Int)),(8,.I (y.2.2:Int)),(7,.int .u64 fun _=>(y.2.1:Int)),(6,.I 0)]) (fun _=>[]) (6,lX x f,0) [] ⟨rfl,rfl,?_,?_⟩ (.begin (abm _ (by decide)) (by omega)) (fun y hy=>?_)
  .exact Vc
  .refine Vb _ ?_;repeat' first|exact tv|apply pr
   exact JD
  obtain⟨e,n,a⟩:=y;have hn:=hy.lt;have IG:=hy.bd;simp only at hn IG;cases e with
  | zero =>
   have d12:(lX x f).testBit a=true/\a<64:=hy.done;obtain⟨d1,d2⟩:=d12;refine Wb _ ?_;repeat' first|exact tv|apply pr|intro hh
   .exact absurd hh (by decide)
   .refine ae.q (some a) [] ?_ ?_ ?_ <;> (refine Vb _ ?_;(repeat' first|exact tv|apply pr))
    .show IntKind.i64.wrap (IntKind.i64.wrap (0*64)+(a:Int))=_
     rw[show IntKind.i64.wrap (0*64)=0 by decide,wr (x:=0+(a:Int)) (by clear IG hy;omega),Int.zero_add];rfl
    .rw[oe]at d1
     simp only[aai,decide_eq_true_eq]at d1;refine⟨d1.2.1,d2,d1.2.2,fun j h2 h3=>?_⟩;have:=hy.no j h3;rw[oe]at this;have h4:j<64:=by omega
     simpa [h2,h4]using this
  | succ e =>
   have Wm:2 ^ e<=32:=by rw[acu]at IG;omega
   have ZD:1<=2 ^ e:=aaW;have O2:=lW (n:=2 ^ e) (by omega);have ZE:1<=2 ^ 2 ^ e:=aaW;have hand:IntKind.u64.wrap (BitVec.ofInt IntKind.u64.bits (n:Int) &&& BitVec.ofInt IntKind.u64.bits ((2 ^ (2 ^ e) - 1:Nat):Int)).toNat=((n % 2 ^ (2 ^ e):Nat):Int):=by
    rw[mI _ _ hn (by omega),ab5]
   have Lz:IntKind.i64.wrap (((2 ^ e:Nat):Int).tdiv 2)=(GF e:Int):=by
    rw[aaq (by omega),wr (by omega)];cases e with
    | zero=>rfl
    | succ e =>
     show(((2 ^ (e+1):Nat):Int)) / 2=((2 ^ e:Nat):Int)
     rw[acu];omega
   refine Wb _ ?_;repeat' first|exact tv|apply pr|intro hh
   .refine ab.q (nC (2 ^ e) (by omega)) [] fun _ _=>Wp _ ?_;repeat' first|exact tv|apply pr|intro hh
    all_goals (try (have xF:IntKind.u64.wrap (BitVec.ofInt IntKind.u64.bits (n:Int) &&& BitVec.ofInt IntKind.u64.bits ((2 ^ (2 ^ e) - 1:Nat):Int)).toNat=0:=by assumption))
    .refine Ob.mk ?_
     show(0:Int)<=((2 ^ e:Nat):Int);omega
    .rw[hand]at hh
     refine⟨(e,n / 2 ^ (2 ^ e),a+2 ^ e),[],⟨rfl,rfl,?_,?_⟩,hy.left (Int.ofNat.inj hh),aa3 _⟩
     .exact Vc
     .refine Vb _ ?_;repeat' first|exact tv|apply pr
      .exact Lz
      .show IntKind.i64.wrap ((a:Int)+((2 ^ e:Nat):Int))=_
       rw[wr (by omega)];omega
      .exact yB n (2 ^ e) (by omega)
    .rw[hand]at hh
     refine⟨(e,n,a),[],⟨rfl,rfl,?_,?_⟩,hy.stay (fun h=>hh (congrArg Int.ofNat h)),aa3 _⟩
     .exact Vc
     .refine Vb _ ?_;repeat' first|exact tv|apply pr
      exact Lz
   .exfalso
    apply hh;show(0:Int)<((2 ^ e:Nat):Int);omega
 .refine ae.q none [] ?_ ?_ ?_ <;> (refine Vb _ ?_;(repeat' first|exact tv|apply pr))
  intro j h2 h3;rcases hi with h1|⟨h1,h4⟩
  .omega
  .exact h4 j h2 h3
end Go.Proofs.YthnefnlhcijekaaGreat.Wh
namespace Go.Proofs.YthnefnlhcijekaaGreat.Wh
open Go Go.RowKit Fw
structure QC (w:Wl) (rows:Nat->List Nat):Prop extends Ns w rows where
 vr:∀ id k,aP w.at_ id=some k↔∃ s,s<64/\k∈rows s/\(w.lk k).id=id
 keys:(aR w.at_).Nodup
 m0:0<=w.mask/\w.mask<18446744073709551616
 Uq:∀ s,s<64->w.mask.toNat.testBit s=!(rows s).isEmpty
 ids:∀ s k,s<64->k∈rows s->0<=(w.lk k).id/\(w.lk k).id<=1048575
structure dL (w:Wl) (pos:Int->Option Nat):Prop where
 h:∃ rows,QC w rows/\∀ id s,pos id=some s↔s<64/\∃ k,k∈rows s/\(w.lk k).id=id
def kB (pos:Int->Option Nat) (id:Int) (v:Option Nat):Int->Option Nat:=fun j=>if j=id then v else pos j
structure tu (w:Wl) (s:Nat) (x:Int):Prop where
 h:0<=x/\x<18446744073709551616/\∀ j,j<64->x.toNat.testBit j=if j=s then(w.first s).isSome else w.mask.toNat.testBit j
theorem dL.GH {w:Wl} {pos:Int->Option Nat} (h:dL w pos):0<=w.mask/\w.mask<18446744073709551616:=by obtain⟨r,h,_⟩:=h.h;exact h.m0
theorem dL.B7 {w:Wl} {pos:Int->Option Nat} (h:dL w pos) (id:Int):aP w.at_ id=none↔pos id=none:=by
 obtain⟨rows,h,hp⟩:=h.h;constructor
 .intro hg
  cases hq:pos id with
  | none=>rfl
  | some s =>
   obtain⟨hs,k,hk,hid⟩:=(hp id s).1 hq;rw[(h.vr id k).2 ⟨s,hs,hk,hid⟩]at hg;cases hg
 .intro hq
  cases hg:aP w.at_ id with
  | none=>rfl
  | some k =>
   obtain⟨s,hs,hk,hid⟩:=(h.vr id k).1 hg;rw[(hp id s).2 ⟨hs,k,hk,hid⟩]at hq;cases hq
theorem QC.AL {w:Wl} {rows:Nat->List Nat} (h:QC w rows) {s k:Nat} (hs:s<64) (hk:k∈rows s):k<w.n/\(w.lk k).slot=s:=by
 obtain⟨i,hi⟩:=aaa.1 hk;have:=h.lk s i k hs hi;exact⟨this.2.2.2,this.1⟩
theorem QC.uniq {w:Wl} {rows:Nat->List Nat} (h:QC w rows) {s t k l:Nat} (hs:s<64) (ht:t<64) (hk:k∈rows s) (hl:l∈rows t) (he:(w.lk k).id=(w.lk l).id):k=l:=by
 have h1:=(h.vr (w.lk k).id k).2 ⟨s,hs,hk,rfl⟩;have h2:=(h.vr (w.lk k).id l).2 ⟨t,ht,hl,he.symm⟩;rw[h1]at h2;exact abJ h2
def rp (w:Wl) (k:Nat) (id:Int) (x:Int):Wl:={ dy (cA w (w.lk k).slot.toNat k) (w.lk k).slot.toNat k with at_:=bZ w.at_ id,mask:=x }
theorem mem_erase {L:List Nat} (hn:L.Nodup) {i k:Nat} (hi:L[i]?=some k) (x:Nat):x∈L.eraseIdx i↔x∈L/\x≠k:=by
 constructor
 .intro hx
  refine⟨(List.eraseIdx_sublist L i).subset hx,fun e=>?_⟩;subst e;obtain⟨j,hj⟩:=aaa.1 hx;rw[bT]at hj;split at hj
  .have:=gM hn hj hi;omega
  .have:=gM hn hj hi;omega
 .rintro⟨hx,bC⟩
  obtain⟨j,hj⟩:=aaa.1 hx;refine aaa.2 ?_;rcases abr j i with h|h|h
  .exact⟨j,by rw[bT,Z0 h];exact hj⟩
  .subst h;rw[hi]at hj;cases hj;exact(bC rfl).elim
  .exact⟨j - 1,by rw[bT,ZY (by omega),show j - 1+1=j by omega];exact hj⟩
theorem dL.drop {w:Wl} {pos:Int->Option Nat} (h:dL w pos) {id:Int} {k:Nat} (hk:aP w.at_ id=some k) :
  0<=(w.lk k).slot/\(w.lk k).slot<64/\pos id=some (w.lk k).slot.toNat /\
  ∀ x,tu (dy (cA w (w.lk k).slot.toNat k) (w.lk k).slot.toNat k) (w.lk k).slot.toNat x->dL (rp w k id x) (kB pos id none):=by
 obtain⟨rows,h,hp⟩:=h.h;obtain⟨s,hs,OY,hid⟩:=(h.vr id k).1 hk;obtain⟨i,hi⟩:=aaa.1 OY;have wT:=(h.lk s i k hs hi).1;have fR:(w.lk k).slot.toNat=s:=by rw[wT];simp
 refine⟨by omega,by omega,by rw[fR];exact(hp id s).2 ⟨hs,k,OY,hid⟩,fun x hx=>?_⟩;rw[fR]at hx;have hu:=h.toNs.Yj hs hi;have kW:=ph w s k;have qC:∀ x,((dy (cA w s k) s k).lk x).id=(w.lk x).id:=fun x=>(AF w s k x).1;have bD:∀ t y,t<64->(y∈fo rows s ((rows s).eraseIdx i) t↔y∈rows t/\y≠k):=by
  intro t y ht;by_cases gC:t=s
  .subst gC;rw[bz];exact mem_erase (h.nd t ht) hi y
  .rw[aV _ _ _ gC]
   refine⟨fun hy=>⟨hy,fun e=>?_⟩,And.left⟩;subst e;have h1:=(h.AL ht hy).2;rw[wT]at h1;omega
 unfold rp;rw[fR];refine .mk ⟨fo rows s ((rows s).eraseIdx i),⟨⟨hu.fst,hu.aL,hu.lk,hu.nd⟩,fun xG k'=>?_,cQ h.keys id,⟨hx.h.1,hx.h.2.1⟩,fun t ht=>?_,fun t y ht hy=>?_⟩,fun xG t=>?_⟩
 .show aP (bZ w.at_ id) xG=some k'↔∃ t,t<64/\k'∈fo rows s ((rows s).eraseIdx i) t/\((dy (cA w s k) s k).lk k').id=xG
  rw[dS h.keys,qC];by_cases he:xG=id
  .subst he
   rw[Z0 rfl];refine⟨fun e=>(by cases e),fun⟨t,ht,h1,h2⟩=>?_⟩;have h3:=(bD t k' ht).1 h1;exact(h3.2 (h.uniq ht hs h3.1 OY (h2.trans hid.symm))).elim
  .rw[ZY he,h.vr]
   constructor
   .rintro⟨t,ht,h1,h2⟩
    exact⟨t,ht,(bD t k' ht).2 ⟨h1,fun e=>by subst e;exact he (h2.symm.trans hid)⟩,h2⟩
   .rintro⟨t,ht,h1,h2⟩
    exact⟨t,ht,((bD t k' ht).1 h1).1,h2⟩
 .show x.toNat.testBit t=_
  rw[hx.h.2.2 t ht];by_cases gC:t=s
  .subst gC
   rw[Z0 rfl,hu.fst t ht];cases fo rows t ((rows t).eraseIdx i) t <;> rfl
  .rw[ZY gC,aV _ _ _ gC,kW.2.2.2];exact h.Uq t ht
 .show 0<=((dy (cA w s k) s k).lk y).id/\_
  rw[qC];exact h.ids t y ht ((bD t y ht).1 hy).1
 .show kB pos id none xG=some t↔t<64/\∃ k',k'∈fo rows s ((rows s).eraseIdx i) t/\((dy (cA w s k) s k).lk k').id=xG
  unfold kB;by_cases he:xG=id
  .subst he
   rw[Z0 rfl];refine⟨fun e=>(by cases e),fun⟨ht,k',h1,h2⟩=>?_⟩;rw[qC]at h2;have h3:=(bD t k' ht).1 h1;exact(h3.2 (h.uniq ht hs h3.1 OY (h2.trans hid.symm))).elim
  .rw[ZY he,hp]
   constructor
   .rintro⟨ht,k',h1,h2⟩
    exact⟨ht,k',(bD t k' ht).2 ⟨h1,fun e=>by subst e;exact he (h2.symm.trans hid)⟩,by rw[qC];exact h2⟩
   .rintro⟨ht,k',h1,h2⟩
    exact⟨ht,k',((bD t k' ht).1 h1).1,by rw[qC]at h2;exact h2⟩
def AM (w:Wl) (s:Nat) (id:Int) (x:Int):Wl:={ app w s id with at_:=bV w.at_ w.oH id w.n,oH:=w.oH+1,mask:=x }
theorem dL.add {w:Wl} {pos:Int->Option Nat} (h:dL w pos) {id:Int} {s:Nat} (hs:s<64) (hid:0<=id/\id<=1048575) (cy:pos id=none) :
  aP w.at_ id=none/\∀ x,tu (app w s id) s x->dL (AM w s id x) (kB pos id (some s)):=by
 have hg:=(h.B7 id).2 cy;refine⟨hg,fun x hx=>?_⟩;obtain⟨rows,h,hp⟩:=h.h;have hu:=h.toNs.app hs id;have kW:=lT w s id;have iO:∀ p,w.last s=some p->p≠w.n:=fun p hp=>by
  rw[h.aL s hs]at hp;have:=(h.AL hs (acO hp)).1;omega
 have qC:∀ y,y≠w.n->((app w s id).lk y).id=(w.lk y).id:=fun y hy=>by
  rw[AG w s id y iO,ZY hy];split <;> rfl
 have gH:((app w s id).lk w.n).id=id:=by rw[AG w s id w.n iO,Z0 rfl]
 have bC:∀ t y,t<64->y∈rows t->y≠w.n:=fun t y ht hy=>by have:=(h.AL ht hy).1;omega
 have bD:∀ t y,(y∈fo rows s (rows s++[w.n]) t↔y∈rows t\/(t=s/\y=w.n)):=by
  intro t y;by_cases gC:t=s
  .subst gC;rw[bz];simp
  .rw[aV _ _ _ gC];simp[gC]
 have GI:∀ t y,t<64->y∈rows t->(w.lk y).id≠id:=fun t y ht hy e=>by
  have:=(h.vr id y).2 ⟨t,ht,hy,e⟩;rw[hg]at this;cases this
 refine .mk ⟨fo rows s (rows s++[w.n]),⟨⟨hu.fst,hu.aL,hu.lk,hu.nd⟩,fun xG k'=>?_,cP h.keys _ _ _,⟨hx.h.1,hx.h.2.1⟩,fun t ht=>?_,fun t y ht hy=>?_⟩,fun xG t=>?_⟩
 .show aP (bV w.at_ w.oH id w.n) xG=some k'↔∃ t,t<64/\k'∈fo rows s (rows s++[w.n]) t/\((app w s id).lk k').id=xG
  rw[de];by_cases he:xG=id
  .subst he
   rw[Z0 rfl];constructor
   .intro e;cases e
    exact⟨s,hs,(bD s w.n).2 (.inr ⟨rfl,rfl⟩),gH⟩
   .rintro⟨t,ht,h1,h2⟩
    rcases(bD t k').1 h1 with h3|⟨_,h3⟩
    .rw[qC k' (bC t k' ht h3)]at h2
     exact(GI t k' ht h3 h2).elim
    .rw[h3]
  .rw[ZY he,h.vr]
   constructor
   .rintro⟨t,ht,h1,h2⟩
    exact⟨t,ht,(bD t k').2 (.inl h1),by rw[qC k' (bC t k' ht h1)];exact h2⟩
   .rintro⟨t,ht,h1,h2⟩
    rcases(bD t k').1 h1 with h3|⟨_,h3⟩
    .rw[qC k' (bC t k' ht h3)]at h2
     exact⟨t,ht,h3,h2⟩
    .subst h3;rw[gH]at h2;exact(he h2.symm).elim
 .show x.toNat.testBit t=_
  rw[hx.h.2.2 t ht];by_cases gC:t=s
  .subst gC
   rw[Z0 rfl,hu.fst t ht];cases fo rows t (rows t++[w.n]) t <;> rfl
  .rw[ZY gC,aV _ _ _ gC,kW.2.2.2.1];exact h.Uq t ht
 .show 0<=((app w s id).lk y).id/\((app w s id).lk y).id<=_
  rcases(bD t y).1 hy with h3|⟨_,h3⟩
  .rw[qC y (bC t y ht h3)];exact h.ids t y ht h3
  .subst h3;rw[gH];exact hid
 .show kB pos id (some s) xG=some t↔t<64/\∃ k',k'∈fo rows s (rows s++[w.n]) t/\((app w s id).lk k').id=xG
  unfold kB;by_cases he:xG=id
  .subst he
   rw[Z0 rfl];constructor
   .intro e;cases e
    exact⟨hs,w.n,(bD s w.n).2 (.inr ⟨rfl,rfl⟩),gH⟩
   .rintro⟨ht,k',h1,h2⟩
    rcases(bD t k').1 h1 with h3|⟨h4,h3⟩
    .rw[qC k' (bC t k' ht h3)]at h2
     exact(GI t k' ht h3 h2).elim
    .rw[h4]
  .rw[ZY he,hp]
   constructor
   .rintro⟨ht,k',h1,h2⟩
    exact⟨ht,k',(bD t k').2 (.inl h1),by rw[qC k' (bC t k' ht h1)];exact h2⟩
   .rintro⟨ht,k',h1,h2⟩
    rcases(bD t k').1 h1 with h3|⟨_,h3⟩
    .rw[qC k' (bC t k' ht h3)]at h2
     exact⟨ht,k',h3,h2⟩
    .subst h3;rw[gH]at h2;exact(he h2.symm).elim
theorem mJ:∀ (n:Nat) (l:List Nat),l.Nodup->(∀ x∈l,x<n)->l.length<=n
 | 0,l,_,h=>by
  cases l with
  | nil=>simp
  | cons a r=>have:=h a (Z7 ..);omega
 | n+1,l,hn,h=>by
  by_cases hm:n∈l
  .have h1:=mJ n (l.erase n) (hn.erase n) (fun x hx=>by
    have:=(aaR hn).1 hx;have:=h x this.2;omega)
   rw[aa7 hm]at h1;omega
  .have:=mJ n l hn (fun x hx=>by
    have:=h x hx;have:x≠n:=fun e=>by subst e;exact hm hx
    omega)
   omega
theorem og {n:Nat} {l:List Int} (hn:l.Nodup) (h:∀ x∈l,0<=x/\x<n):l.length<=n:=by
 have:=mJ n (l.map Int.toNat) ?_ ?_
 .simpa using this
 .rw[aaI,abI]
  refine abv ?_ (aaI.1 hn);intro a b ha hb rB e;have:=h a ha;have:=h b hb;omega
 .intro x hx
  obtain⟨y,hy,rfl⟩:=aas.1 hx;have:=h y hy;omega
theorem dL.row {w:Wl} {pos:Int->Option Nat} (h:dL w pos) {s:Nat} (hs:s<64):∃ L:List Nat,w.first s=L[0]?/\(∀ i k,L[i]?=some k->(w.lk k).next=L[i+1]?)/\L.length<=1048576 /\
  (L.map fun k=>(w.lk k).id).Nodup/\(∀ id,id∈(L.map fun k=>(w.lk k).id)↔pos id=some s):=by
 obtain⟨rows,h,hp⟩:=h.h;have eA:((rows s).map fun k=>(w.lk k).id).Nodup:=by
  rw[aaI,abI];refine abv ?_ (aaI.1 (h.nd s hs));intro a b ha hb rB e;exact rB (h.uniq hs hs ha hb e)
 refine⟨rows s,by rw[h.fst s hs,tq],fun i k hi=>(h.lk s i k hs hi).2.2.1,?_,eA,fun id=>?_⟩
 .have:=og (n:=1048576) eA (fun x hx=>by
   obtain⟨k,hk,rfl⟩:=aas.1 hx;have:=h.ids s k hs hk;omega)
  simpa using this
 .rw[hp]
  simp only[aas];exact⟨fun⟨k,h1,h2⟩=>⟨hs,k,h1,h2⟩,fun⟨_,k,h1,h2⟩=>⟨k,h1,h2⟩⟩
theorem dL.bit {w:Wl} {pos:Int->Option Nat} (h:dL w pos) {s:Nat} (hs:s<64):w.mask.toNat.testBit s=true↔∃ id,pos id=some s:=by
 obtain⟨rows,h,hp⟩:=h.h;rw[h.Uq s hs];constructor
 .intro hb
  cases hr:rows s with
  | nil=>rw[hr]at hb;cases hb
  | cons k r=>exact⟨(w.lk k).id,(hp _ s).2 ⟨hs,k,by rw[hr];exact Z7 ..,rfl⟩⟩
 .rintro⟨id,hid⟩
  obtain⟨_,k,hk,_⟩:=(hp id s).1 hid;cases hr:rows s with
  | nil=>rw[hr]at hk;cases hk
  | cons _ _=>rfl
def EY (c:Nat):Wl:=⟨0,fun _=>⟨0,0,none,none⟩,fun _=>none,fun _=>none,[],c,0⟩
theorem QE (c:Nat):dL (EY c) (fun _=>none):=by
 refine .mk ⟨fun _=>[],⟨⟨fun _ _=>rfl,fun _ _=>rfl,fun _ _ _ _ h=>by simp at h,fun _ _=>aaP⟩,fun id k=>?_,aaP,⟨aad 0,show(0:Int)<_ by decide⟩,fun s _=>by simp[EY],fun _ _ _ h=>by simp at h⟩,fun id s=>?_⟩
 .simp[EY,aP]
 .simp
abbrev WP:AV:=.hp 0 fun _=>some (1,0)
def AN (w:Wl):List Chunk:=[.heap fun _=>du w]
theorem B8 (w:Wl) (s b:Nat) (hs:s<64) (hb:b=if(w.first s).isSome then 1 else 0) (h0:0<=w.mask/\w.mask<18446744073709551616):tu w s (iQ w.mask.toNat s b:Int):=by
 have hl:=DV w.mask.toNat s b;refine .mk ⟨by omega,by omega,fun j hj=>?_⟩;rw[Z4,AJ (by rw[hb];split <;> omega) hs j hj,hb];cases (w.first s).isSome <;> rfl
theorem QF (x:Int) (s b:Nat) (hx:0<=x/\x<18446744073709551616) (hs:s<64) (hb:b<=1):MU Tryz.prog 216 [.aL (.int .u64) fun _=>[x],.I (s:Int),.I 1,.int .u64 fun _=>(b:Int)] [] (.bQ [.aL (.int .u64) fun _=>[(iQ x.toNat s b:Int)],.tt]) []:=by
 have h:=AK x.toNat s b (by omega) hs hb;rwa [aaB hx.1]at h
theorem QG (w:Wl) (s:Nat) (hs:s<64) (h0:0<=w.mask/\w.mask<18446744073709551616):aa Tryz.prog 235 [WP,.I (s:Int)] (AN w) (Y:=Int) (fun x=>tu w s x)
  (fun _=>.bQ []) (fun x=>AN { w with mask:=x }):=by
 have u6:w.mask=((w.mask.toNat:Nat):Int):=(aaB h0.1).symm;(refine aa.q Tryz.func235 rfl fun S aw=>Wb _ ?_;(repeat' first|exact tv|apply pr|intro hh));(all_goals first|exact Ob.mk (fun h=>by cases h)|exact Ob.mk ⟨(fun h=>by cases h),by simp only[];omega,by simp only[];omega⟩|skip);refine B5 s hs (by show some (1,0+0+(s:Int).toNat*2+0)=_;simp) rfl ?_;(refine Wb _ ?_;(repeat' first|exact tv|apply pr|intro hh));(all_goals first|exact Ob.mk (fun h=>by cases h)|exact Ob.mk ⟨(fun h=>by cases h),by simp only[];omega,by simp only[];omega⟩|skip)
 .refine AE rfl rfl ?_
  (refine Wb _ ?_;(repeat' first|exact tv|apply pr|intro hh));have hn:(w.first s).isSome=true:=by cases h:w.first s <;> simp[h,pt]at *
  (refine ab.q (QF w.mask s 1 h0 hs (by omega)) [] fun y hy=>Wb _ ?_;(repeat' first|exact tv|apply pr|intro hh));(all_goals first|exact Ob.mk (fun h=>by cases h)|exact Ob.mk ⟨(fun h=>by cases h),by simp only[];omega,by simp only[];omega⟩|skip);refine Gx _ rfl (.eq (.gQ (.list (.int .u64)) [(iQ w.mask.toNat s 1:Int)])) ?_;(refine Wb _ ?_;(repeat' first|exact tv|apply pr|intro hh));(refine ae.w (iQ w.mask.toNat s 1:Int) [0] _ ?_;(repeat' first|exact tv|apply pr));exact B8 w s 1 hs (by rw[hn];rfl) h0
 .refine AE rfl rfl ?_
  (refine Wb _ ?_;(repeat' first|exact tv|apply pr|intro hh));have hn:(w.first s).isSome=false:=by cases h:w.first s <;> simp[h,pt]at *
  (refine ab.q (QF w.mask s 0 h0 hs (by omega)) [] fun y hy=>Wb _ ?_;(repeat' first|exact tv|apply pr|intro hh));(all_goals first|exact Ob.mk (fun h=>by cases h)|exact Ob.mk ⟨(fun h=>by cases h),by simp only[];omega,by simp only[];omega⟩|skip);refine Gx _ rfl (.eq (.gQ (.list (.int .u64)) [(iQ w.mask.toNat s 0:Int)])) ?_;(refine Wb _ ?_;(repeat' first|exact tv|apply pr|intro hh));(refine ae.w (iQ w.mask.toNat s 0:Int) [0] _ ?_;(repeat' first|exact tv|apply pr));exact B8 w s 0 hs (by rw[hn];rfl) h0
theorem QH (w:Wl) (s:Int):MU Tryz.prog 234 [WP,.I s] (AN w) (.bool fun _=>decide (0<=s) && decide (s<64)) (AN w):=by
 refine aa.q Tryz.func234 rfl fun S aw=>Wa _ ?_;repeat' first|exact tv|apply pr|intro hh
 .refine ae.w () [0] _ ?_;repeat' first|exact tv|apply pr
  simp[hh]
 .refine ae.w () [0] _ ?_;repeat' first|exact tv|apply pr
  simp[hh]
section
variable {i:Nat} {w:Wl} {f:Unit->Option (Nat×Nat)} {v:AV} {K:Hp->Prop}
theorem QI (s k:Nat) (h:(w.lk k).prev=none) (hs:s<64) (hf:f ()=some (1,s*2)) (hv:eN i v (.hp (pt (w.lk k).next))) (kk:K (du (cA w s k))):z8 i v (fun _=>du w) f K :=
 B6 s _ hs hf hv (by unfold cA at kk;rw[h]at kk;exact kk)
theorem QJ (s k p:Nat) (h:(w.lk k).prev=some p) (hf:f ()=some (p+2,3)) (hv:eN i v (.hp (pt (w.lk k).next))) (kk:K (du (cA w s k))):z8 i v (fun _=>du w) f K :=
 Gy p _ hf hv (by unfold cA at kk;rw[h]at kk;exact kk)
theorem LA (s k:Nat) (h:(w.lk k).next=none) (hs:s<64) (hf:f ()=some (1,s*2+1)) (hv:eN i v (.hp (pt (w.lk k).prev))) (kk:K (du (dy w s k))):z8 i v (fun _=>du w) f K :=
 Gw s _ hs hf hv (by unfold dy at kk;rw[h]at kk;exact kk)
theorem LB (s k p:Nat) (h:(w.lk k).next=some p) (hf:f ()=some (p+2,2)) (hv:eN i v (.hp (pt (w.lk k).prev))) (kk:K (du (dy w s k))):z8 i v (fun _=>du w) f K :=
 Np p _ hf hv (by unfold dy at kk;rw[h]at kk;exact kk)
end
theorem DW {pos:Int->Option Nat} {id:Int} {v:Option Nat} (h:pos id=v):kB pos id v=pos:=by
 funext j;unfold kB;split
 .rename_i e;rw[e,h]
 .rfl
theorem pz {x:Option Nat}:(pt x).isNone=true↔x=none:=by cases x <;> simp[pt]
theorem pA {x:Option Nat}:(pt x).isNone=false↔∃ p,x=some p:=by cases x <;> simp[pt]
def oh (w:Wl) (id:Int):Wl:={ w with at_:=bZ w.at_ id }
def GJ (w:Wl) (x:Int):Wl:={ w with mask:=x }
theorem B9 {w:Wl} {K:Hp->Prop} {P:Program} {t:Nat} (hz:iC P t=some (.pointer none)) {g:Unit->Nat} {n:Unit->Int} (hg:g ()=0) (k:K (du (oh w (n ())))):Mi P t n (fun _=>du w) g K:=Nq hz hg k
theorem drop_eq (w:Wl) (k s:Nat) (id x:Int) (h:(w.lk k).slot.toNat=s):rp w k id x=GJ (oh (dy (cA w s k) s k) id) x:=by
 subst h;unfold rp GJ oh;rw[(ph w _ k).2.1]
theorem qD (w:Wl) (s:Nat) (hs:s<64) (h0:0<=w.mask/\w.mask<18446744073709551616):aa Tryz.prog 235 [WP,.I (s:Int)] (AN w) (Y:=Int) (fun x=>tu w s x)
  (fun _=>.bQ []) (fun x=>AN (GJ w x)):=QG w s hs h0
theorem nD (w:Wl) (pos:Int->Option Nat) (hw:dL w pos) (id:Int):aa Tryz.prog 186 [WP,.I id] (AN w) (Y:=Wl) (fun w'=>dL w' (kB pos id none))
  (fun _=>.bool fun _=>(pos id).isSome) AN:=by
 (refine aa.q Tryz.func186 rfl fun S aw=>Wa _ ?_;(repeat' first|exact tv|apply pr|intro hh));(all_goals first|exact Ob.mk (fun h=>by cases h)|exact Ob.mk ⟨(fun h=>by cases h),by simp only[];omega,by simp only[];omega⟩|skip);refine AD rfl rfl ?_;(refine Wb _ ?_;(repeat' first|exact tv|apply pr|intro hh));refine JB rfl rfl (fun k hk=>?_) (fun hk=>?_);rotate_left
 .have hp:=(hw.B7 id).1 hk
  (refine Wa _ ?_;(repeat' first|exact tv|apply pr|intro hh));refine ae.w w [0] _ ?_;repeat' first|exact tv|apply pr
  .rw[hp];rfl
  .rw[DW hp];exact hw
 obtain⟨h1,h2,h3,h4⟩:=hw.drop hk;generalize wT:(w.lk k).slot.toNat=s at *;have hs:s<64:=by omega
 have Wn:(w.lk k).slot=(s:Int):=by omega
 have Ca:((dy (cA w s k) s k).lk k).slot=(s:Int):=(AF w s k k).2.1.trans Wn;have kW:=ph w s k;have jR:0<=(dy (cA w s k) s k).mask/\(dy (cA w s k) s k).mask<18446744073709551616:=by rw[kW.2.2.2];exact hw.GH
 (refine Wa _ ?_;(repeat' first|exact tv|apply pr|intro hh));(all_goals first|exact Ob.mk (fun h=>by cases h)|exact Ob.mk ⟨(fun h=>by cases h),by simp only[];omega,by simp only[];omega⟩|skip);refine tk k rfl rfl ?_;rw[Wn];(refine Wa _ ?_;(repeat' first|exact tv|apply pr|intro hh));(all_goals first|exact Ob.mk (fun h=>by cases h)|exact Ob.mk ⟨(fun h=>by cases h),by simp only[];omega,by simp only[];omega⟩|skip);refine qB k rfl rfl ?_;(refine Wa _ ?_;(repeat' first|exact tv|apply pr|intro hh));(all_goals first|exact Ob.mk (fun h=>by cases h)|exact Ob.mk ⟨(fun h=>by cases h),by simp only[];omega,by simp only[];omega⟩|skip)
 .have hp:=pz.1 hh
  refine od k rfl rfl ?_;(refine Wa _ ?_;(repeat' first|exact tv|apply pr|intro hh));(all_goals first|exact Ob.mk (fun h=>by cases h)|exact Ob.mk ⟨(fun h=>by cases h),by simp only[];omega,by simp only[];omega⟩|skip);refine QI s k hp hs (by show some (1,0+0+(s:Int).toNat*2+0)=_;simp) (.eq (.hp _)) ?_;(refine Wa _ ?_;(repeat' first|exact tv|apply pr|intro hh));(all_goals first|exact Ob.mk (fun h=>by cases h)|exact Ob.mk ⟨(fun h=>by cases h),by simp only[];omega,by simp only[];omega⟩|skip);refine od k rfl rfl ?_;(refine Wa _ ?_;(repeat' first|exact tv|apply pr|intro hh));(all_goals first|exact Ob.mk (fun h=>by cases h)|exact Ob.mk ⟨(fun h=>by cases h),by simp only[];omega,by simp only[];omega⟩|skip)
  .refine qB k rfl rfl ?_
   (refine Wa _ ?_;(repeat' first|exact tv|apply pr|intro hh));(all_goals first|exact Ob.mk (fun h=>by cases h)|exact Ob.mk ⟨(fun h=>by cases h),by simp only[];omega,by simp only[];omega⟩|skip);refine LA s k (pz.1 hh) hs (by show some (1,0+0+(s:Int).toNat*2+1)=_;simp) (.eq (.hp _)) ?_;(refine Wa _ ?_;(repeat' first|exact tv|apply pr|intro hh));(all_goals first|exact Ob.mk (fun h=>by cases h)|exact Ob.mk ⟨(fun h=>by cases h),by simp only[];omega,by simp only[];omega⟩|skip);refine AD rfl rfl ?_;(refine Wa _ ?_;(repeat' first|exact tv|apply pr|intro hh));refine B9 rfl rfl ?_;(refine Wa _ ?_;(repeat' first|exact tv|apply pr|intro hh));(all_goals first|exact Ob.mk (fun h=>by cases h)|exact Ob.mk ⟨(fun h=>by cases h),by simp only[];omega,by simp only[];omega⟩|skip);refine tk k rfl rfl ?_;rw[show((oh (dy (cA w s k) s k) id).lk k).slot=(s:Int)from Ca];(refine Wa _ ?_;(repeat' first|exact tv|apply pr|intro hh));(refine ab.q (qD (oh (dy (cA w s k) s k) id) s hs jR) [0] ?_;rintro x hx;refine Wp _ ?_;(repeat' first|exact tv|apply pr|intro hh));refine ae.w (rp w k id x) [0] _ ?_;repeat' first|exact tv|apply pr
   .rw[<-drop_eq w k s id x wT];exact Hp.aG _
   .rw[h3];rfl
   .exact h4 x ⟨hx.h⟩
  .obtain⟨q,hq⟩:=pA.1 hh
   refine od k rfl rfl ?_;(refine Wa _ ?_;(repeat' first|exact tv|apply pr|intro hh));(all_goals first|exact Ob.mk (fun h=>by cases h)|exact Ob.mk ⟨(fun h=>by cases h),by simp only[];omega,by simp only[];omega⟩|skip);refine qB k rfl rfl ?_;(refine Wa _ ?_;(repeat' first|exact tv|apply pr|intro hh));all_goals try exact Ob.mk (fun h=>by rw[hq]at h;cases h)
   refine LB s k q hq (by rw[hq];rfl) (.eq (.hp _)) ?_;(refine Wa _ ?_;(repeat' first|exact tv|apply pr|intro hh));(all_goals first|exact Ob.mk (fun h=>by cases h)|exact Ob.mk ⟨(fun h=>by cases h),by simp only[];omega,by simp only[];omega⟩|skip);refine AD rfl rfl ?_;(refine Wa _ ?_;(repeat' first|exact tv|apply pr|intro hh));refine B9 rfl rfl ?_;(refine Wa _ ?_;(repeat' first|exact tv|apply pr|intro hh));(all_goals first|exact Ob.mk (fun h=>by cases h)|exact Ob.mk ⟨(fun h=>by cases h),by simp only[];omega,by simp only[];omega⟩|skip);refine tk k rfl rfl ?_;rw[show((oh (dy (cA w s k) s k) id).lk k).slot=(s:Int)from Ca];(refine Wa _ ?_;(repeat' first|exact tv|apply pr|intro hh));(refine ab.q (qD (oh (dy (cA w s k) s k) id) s hs jR) [0] ?_;rintro x hx;refine Wp _ ?_;(repeat' first|exact tv|apply pr|intro hh));refine ae.w (rp w k id x) [0] _ ?_;repeat' first|exact tv|apply pr
   .rw[<-drop_eq w k s id x wT];exact Hp.aG _
   .rw[h3];rfl
   .exact h4 x ⟨hx.h⟩
 .obtain⟨p,hp⟩:=pA.1 hh
  refine qB k rfl rfl ?_;(refine Wa _ ?_;(repeat' first|exact tv|apply pr|intro hh));(all_goals first|exact Ob.mk (fun h=>by cases h)|exact Ob.mk ⟨(fun h=>by cases h),by simp only[];omega,by simp only[];omega⟩|skip);refine od k rfl rfl ?_;(refine Wa _ ?_;(repeat' first|exact tv|apply pr|intro hh));all_goals try exact Ob.mk (fun h=>by rw[hp]at h;cases h)
  refine QJ s k p hp (by rw[hp];rfl) (.eq (.hp _)) ?_;(refine Wa _ ?_;(repeat' first|exact tv|apply pr|intro hh));(all_goals first|exact Ob.mk (fun h=>by cases h)|exact Ob.mk ⟨(fun h=>by cases h),by simp only[];omega,by simp only[];omega⟩|skip);refine od k rfl rfl ?_;(refine Wa _ ?_;(repeat' first|exact tv|apply pr|intro hh));(all_goals first|exact Ob.mk (fun h=>by cases h)|exact Ob.mk ⟨(fun h=>by cases h),by simp only[];omega,by simp only[];omega⟩|skip)
  .refine qB k rfl rfl ?_
   (refine Wa _ ?_;(repeat' first|exact tv|apply pr|intro hh));(all_goals first|exact Ob.mk (fun h=>by cases h)|exact Ob.mk ⟨(fun h=>by cases h),by simp only[];omega,by simp only[];omega⟩|skip);refine LA s k (pz.1 hh) hs (by show some (1,0+0+(s:Int).toNat*2+1)=_;simp) (.eq (.hp _)) ?_;(refine Wa _ ?_;(repeat' first|exact tv|apply pr|intro hh));(all_goals first|exact Ob.mk (fun h=>by cases h)|exact Ob.mk ⟨(fun h=>by cases h),by simp only[];omega,by simp only[];omega⟩|skip);refine AD rfl rfl ?_;(refine Wa _ ?_;(repeat' first|exact tv|apply pr|intro hh));refine B9 rfl rfl ?_;(refine Wa _ ?_;(repeat' first|exact tv|apply pr|intro hh));(all_goals first|exact Ob.mk (fun h=>by cases h)|exact Ob.mk ⟨(fun h=>by cases h),by simp only[];omega,by simp only[];omega⟩|skip);refine tk k rfl rfl ?_;rw[show((oh (dy (cA w s k) s k) id).lk k).slot=(s:Int)from Ca];(refine Wa _ ?_;(repeat' first|exact tv|apply pr|intro hh));(refine ab.q (qD (oh (dy (cA w s k) s k) id) s hs jR) [0] ?_;rintro x hx;refine Wp _ ?_;(repeat' first|exact tv|apply pr|intro hh));refine ae.w (rp w k id x) [0] _ ?_;repeat' first|exact tv|apply pr
   .rw[<-drop_eq w k s id x wT];exact Hp.aG _
   .rw[h3];rfl
   .exact h4 x ⟨hx.h⟩
  .obtain⟨q,hq⟩:=pA.1 hh
   refine od k rfl rfl ?_;(refine Wa _ ?_;(repeat' first|exact tv|apply pr|intro hh));(all_goals first|exact Ob.mk (fun h=>by cases h)|exact Ob.mk ⟨(fun h=>by cases h),by simp only[];omega,by simp only[];omega⟩|skip);refine qB k rfl rfl ?_;(refine Wa _ ?_;(repeat' first|exact tv|apply pr|intro hh));all_goals try exact Ob.mk (fun h=>by rw[hq]at h;cases h)
   refine LB s k q hq (by rw[hq];rfl) (.eq (.hp _)) ?_;(refine Wa _ ?_;(repeat' first|exact tv|apply pr|intro hh));(all_goals first|exact Ob.mk (fun h=>by cases h)|exact Ob.mk ⟨(fun h=>by cases h),by simp only[];omega,by simp only[];omega⟩|skip);refine AD rfl rfl ?_;(refine Wa _ ?_;(repeat' first|exact tv|apply pr|intro hh));refine B9 rfl rfl ?_;(refine Wa _ ?_;(repeat' first|exact tv|apply pr|intro hh));(all_goals first|exact Ob.mk (fun h=>by cases h)|exact Ob.mk ⟨(fun h=>by cases h),by simp only[];omega,by simp only[];omega⟩|skip);refine tk k rfl rfl ?_;rw[show((oh (dy (cA w s k) s k) id).lk k).slot=(s:Int)from Ca];(refine Wa _ ?_;(repeat' first|exact tv|apply pr|intro hh));(refine ab.q (qD (oh (dy (cA w s k) s k) id) s hs jR) [0] ?_;rintro x hx;refine Wp _ ?_;(repeat' first|exact tv|apply pr|intro hh));refine ae.w (rp w k id x) [0] _ ?_;repeat' first|exact tv|apply pr
   .rw[<-drop_eq w k s id x wT];exact Hp.aG _
   .rw[h3];rfl
   .exact h4 x ⟨hx.h⟩
theorem DX (w:Wl) (s:Nat) (id:Int):(du (kA w s id)).dN ((du w).add (.cells fG 4 (ep ⟨id,s,w.last s,none⟩))):=by
 refine⟨rfl,fun j hj=>?_⟩;match j with
 | 0=>exact aK (by simp[du,Hp.add,wM,kA])
 | 1=>exact aK (by simp[du,Hp.add];rfl)
 | k+2 =>
  by_cases h:k=w.n
  .subst h;exact aK (by simp[du,Hp.add,wM,kA,bz])
  .refine aK ?_
   simp only[du,Hp.add,wM,kA];rw[aV _ _ _ h];exact(ZY (show¬(k+2=w.n+2) by omega)).symm
def tw (w:Wl) (id:Int) (k:Nat):Wl:={ w with at_:=bV w.at_ w.oH id k,oH:=w.oH+1 }
theorem add_eq (w:Wl) (s:Nat) (id x:Int):GJ (tw (app w s id) id w.n) x=AM w s id x:=by
 obtain⟨h1,h2,h3,h4,h5⟩:=lT w s id;unfold GJ tw AM;simp only[h2,h3]
section
variable {i:Nat} {f:Unit->Option (Nat×Nat)} {v:AV} {K:Hp->Prop}
theorem QK (w:Wl) (s:Nat) (id:Int) (h:w.last s=none) (hs:s<64) (hf:f ()=some (1,s*2)) (hv:eN i v (.hp (pt (some w.n)))) (kk:K (du (rM (kA w s id) s w.n))):z8 i v (fun _=>du (kA w s id)) f K :=
 B6 s _ hs hf hv (by unfold rM at kk;rw[show(kA w s id).last s=none from h]at kk;exact kk)
theorem QL (w:Wl) (s p:Nat) (id:Int) (h:w.last s=some p) (hf:f ()=some (p+2,3)) (hv:eN i v (.hp (pt (some w.n)))) (kk:K (du (rM (kA w s id) s w.n))):z8 i v (fun _=>du (kA w s id)) f K :=
 Gy p _ hf hv (by unfold rM at kk;rw[show(kA w s id).last s=some p from h]at kk;exact kk)
theorem QM (w:Wl) (s:Nat) (id:Int) (hs:s<64) (hf:f ()=some (1,s*2+1)) (hv:eN i v (.hp (pt (some w.n)))) (kk:K (du (app w s id))):z8 i v (fun _=>du (rM (kA w s id) s w.n)) f K :=
 Gw s _ hs hf hv kk
theorem LC {P:Program} {t:Nat} {w:Wl} (hz:iC P t=some (.pointer none)) {g:Unit->Nat} {n:Unit->Int} (x:Nat) (hg:g ()=0) (hv:eN i v (.hp (pt (some x)))) (cy:aP w.at_ (n ())=none) (k:K (du (tw w (n ()) x))):Mh P t i n v (fun _=>du w) g K:=Nr hz x hg hv cy k
end
theorem tx (pos:Int->Option Nat) (id:Int) (u v:Option Nat):kB (kB pos id u) id v=kB pos id v:=by
 funext j;unfold kB;split <;> rfl
theorem DY (w:Wl) (pos:Int->Option Nat) (hw:dL w pos) (s:Nat) (hs:s<64) (id:Int) (h0:0<=id) (h1:id<=1048575):aa Tryz.prog 187 [WP,.I (s:Int),.I id] (AN w) (Y:=Wl) (fun w'=>dL w' (kB pos id (some s)))
  (fun _=>.int .i64 fun _=>0) AN:=by
 (refine aa.q Tryz.func187 rfl fun S aw=>Wa _ ?_;(repeat' first|exact tv|apply pr|intro hh));(refine ab.q (QH w s) [0] fun _ _=>Wp _ ?_;(repeat' first|exact tv|apply pr|intro hh));all_goals first|(exfalso;omega)|(exfalso;simp at hh;omega)|skip
 (refine ab.q (nD w pos hw id) [0] ?_;rintro w1 Dw;refine Wp _ ?_;(repeat' first|exact tv|apply pr|intro hh));(all_goals first|exact Ob.mk (fun h=>by cases h)|exact Ob.mk ⟨(fun h=>by cases h),by simp only[];omega,by simp only[];omega⟩|skip);obtain⟨Ur,DZ⟩:=Dw.add (id:=id) (s:=s) hs ⟨h0,h1⟩ (by simp[kB]);obtain⟨e1,e2,e3,e4,e5⟩:=lT w1 s id;have cy:aP (app w1 s id).at_ id=none:=by rw[e2];exact Ur
 have jR:0<=(tw (app w1 s id) id w1.n).mask/\(tw (app w1 s id) id w1.n).mask<18446744073709551616:=by
  show 0<=(app w1 s id).mask/\(app w1 s id).mask<_;rw[e4];exact Dw.GH
 (all_goals first|exact Ob.mk (fun h=>by cases h)|exact Ob.mk ⟨(fun h=>by cases h),by simp only[];omega,by simp only[];omega⟩|skip);refine AB s hs (by show some (1,0+0+(s:Int).toNat*2+1)=_;simp) rfl ?_;(refine Wc _ ?_;(repeat' first|exact tv|apply pr|intro hh));refine aB.gL 0 1 rfl (du (kA w1 s id)) (ep ⟨id,s,w1.last s,none⟩) rfl rfl (fun p v h=>?_) ?_ ?_
 .match p with
  | 0=>cases h;exact .eq (.gQ (.int .i64) id)
  | 1=>cases h;exact .eq (.gQ (.int .i64) (s:Int))
  | 2=>cases h;exact .eq (.hp _)
  | 3=>cases h;exact .bW
 .exact DX w1 s id
 (conv=>whnf);(refine Wb _ ?_;(repeat' first|exact tv|apply pr|intro hh));(all_goals first|exact Ob.mk (fun h=>by cases h)|exact Ob.mk ⟨(fun h=>by cases h),by simp only[];omega,by simp only[];omega⟩|skip);refine AB s hs (by show some (1,0+0+(s:Int).toNat*2+1)=_;simp) rfl ?_;(refine Wa _ ?_;(repeat' first|exact tv|apply pr|intro hh));(all_goals first|exact Ob.mk (fun h=>by cases h)|exact Ob.mk ⟨(fun h=>by cases h),by simp only[];omega,by simp only[];omega⟩|skip)
 .have hl:=pz.1 hh
  refine QK w1 s id hl hs (by show some (1,0+0+(s:Int).toNat*2+0)=_;simp) (.eq (.hp (pt (some w1.n)))) ?_;(refine Wa _ ?_;(repeat' first|exact tv|apply pr|intro hh));(all_goals first|exact Ob.mk (fun h=>by cases h)|exact Ob.mk ⟨(fun h=>by cases h),by simp only[];omega,by simp only[];omega⟩|skip);refine QM w1 s id hs (by show some (1,0+0+(s:Int).toNat*2+1)=_;simp) (.eq (.hp (pt (some w1.n)))) ?_;(refine Wa _ ?_;(repeat' first|exact tv|apply pr|intro hh));(all_goals first|exact Ob.mk (fun h=>by cases h)|exact Ob.mk ⟨(fun h=>by cases h),by simp only[];omega,by simp only[];omega⟩|skip);refine AD rfl rfl ?_;(refine Wa _ ?_;(repeat' first|exact tv|apply pr|intro hh));refine LC rfl w1.n rfl (.eq (.hp (pt (some w1.n)))) cy ?_;(refine Wa _ ?_;(repeat' first|exact tv|apply pr|intro hh));(refine ab.q (qD (tw (app w1 s id) id w1.n) s hs jR) [0] ?_;rintro x hx;refine Wp _ ?_;(repeat' first|exact tv|apply pr|intro hh));refine ae.w (AM w1 s id x) [0] _ ?_;repeat' first|exact tv|apply pr
  .rw[add_eq];exact Hp.aG _
  .have:=DZ x ⟨hx.h⟩
   exact cast (congrArg (dL (AM w1 s id x)) (tx pos id none (some s))) this
 .obtain⟨p,hl⟩:=pA.1 hh
  refine AB s hs (by show some (1,0+0+(s:Int).toNat*2+1)=_;simp) rfl ?_;(refine Wa _ ?_;(repeat' first|exact tv|apply pr|intro hh));all_goals try exact Ob.mk (fun h=>by rw[hl]at h;cases h)
  (all_goals first|exact Ob.mk (fun h=>by cases h)|exact Ob.mk ⟨(fun h=>by cases h),by simp only[];omega,by simp only[];omega⟩|skip);refine QL w1 s p id hl (by rw[hl];rfl) (.eq (.hp (pt (some w1.n)))) ?_;(refine Wa _ ?_;(repeat' first|exact tv|apply pr|intro hh));(all_goals first|exact Ob.mk (fun h=>by cases h)|exact Ob.mk ⟨(fun h=>by cases h),by simp only[];omega,by simp only[];omega⟩|skip);refine QM w1 s id hs (by show some (1,0+0+(s:Int).toNat*2+1)=_;simp) (.eq (.hp (pt (some w1.n)))) ?_;(refine Wa _ ?_;(repeat' first|exact tv|apply pr|intro hh));(all_goals first|exact Ob.mk (fun h=>by cases h)|exact Ob.mk ⟨(fun h=>by cases h),by simp only[];omega,by simp only[];omega⟩|skip);refine AD rfl rfl ?_;(refine Wa _ ?_;(repeat' first|exact tv|apply pr|intro hh));refine LC rfl w1.n rfl (.eq (.hp (pt (some w1.n)))) cy ?_;(refine Wa _ ?_;(repeat' first|exact tv|apply pr|intro hh));(refine ab.q (qD (tw (app w1 s id) id w1.n) s hs jR) [0] ?_;rintro x hx;refine Wp _ ?_;(repeat' first|exact tv|apply pr|intro hh));refine ae.w (AM w1 s id x) [0] _ ?_;repeat' first|exact tv|apply pr
  .rw[add_eq];exact Hp.aG _
  .have:=DZ x ⟨hx.h⟩
   exact cast (congrArg (dL (AM w1 s id x)) (tx pos id none (some s))) this
structure LD (pos:Int->Option Nat) (s:Nat) (l:List Int):Prop where
 nd:l.Nodup
 mem:∀ id,id∈l↔pos id=some s
 len:l.length<=1048576
theorem take_succ {L:List Nat} {i k:Nat} (h:L[i]?=some k):L.take (i+1)=L.take i++[k]:=by
 rw[aaE,h];rfl
theorem JE (w:Wl) (pos:Int->Option Nat) (hw:dL w pos) (s:Nat) (hs:s<64):aa Tryz.prog 185 [WP,.I (s:Int)] (AN w) (Y:=List Int) (LD pos s)
  (fun l=>.aL (.int .i64) fun _=>l) (fun _=>AN w):=by
 obtain⟨L,Yk,hL,Yl,eA,bD⟩:=hw.row hs;(refine aa.q Tryz.func185 rfl fun S aw=>Wa _ ?_;(repeat' first|exact tv|apply pr|intro hh));(refine ab.q (QH w s) [0] fun _ _=>Wq _ ?_;(repeat' first|exact tv|apply pr|intro hh));refine Wa _ ?_;repeat' first|exact tv|apply pr|intro hh
 .exfalso;simp at hh;omega
 (all_goals first|exact Ob.mk (fun h=>by cases h)|exact Ob.mk ⟨(fun h=>by cases h),by simp only[];omega,by simp only[];omega⟩|skip);refine B5 s hs (by show some (1,0+0+(s:Int).toNat*2+0)=_;simp) rfl ?_;(refine Wc _ ?_;(repeat' first|exact tv|apply pr|intro hh));refine aB.nil 3 (.int .i64) none [5] ?_;(conv=>whnf);apply aB.step hm rfl;(conv=>whnf);refine aM.intro hm (X:=Nat) (fun i=>i<=L.length) (fun i=>L.length+1 - i)
  (fun i=>[(0,WP),(4,.aZ),(5,.vec 1 1 (fun _=>0) fun _=>i),(6,.hp 0 fun _=>pt L[i]?)])
  (fun i=>[.heap fun _=>du w,.aq 3 (.int .i64) fun _=>(L.take i).map fun k=>(w.lk k).id]) 0 [0,1] ⟨rfl,rfl,?_,?_⟩ (aae _) ?_
 .exact Vc
 .refine Vb _ ?_;repeat' first|exact tv|apply pr
  rw[Yk]
 .intro i hi
  refine Wa _ ?_;repeat' first|exact tv|apply pr|intro hh
  rotate_right
  .have dW:L.length<=i:=ab2.1 (pz.1 hh)
   (refine ae.gU 1 ?_;(conv=>whnf));refine ae.w (L.map fun k=>(w.lk k).id) [0] _ ?_;repeat' first|exact tv|apply pr
   .rw[Z6 dW,aah];exact Z6 (by simpa using dW)
   .exact⟨eA,bD,by simpa using Yl⟩
  all_goals obtain⟨k,hk⟩:=pA.1 hh
  all_goals try exact Ob.mk (fun h=>by rw[hk]at h;cases h)
  have dp:i<L.length:=(Z2.1 hk).1;refine JA k (by rw[hk];rfl) rfl ?_;(refine Wa _ ?_;(repeat' first|exact tv|apply pr|intro hh));all_goals try exact Ob.mk (fun h=>by rw[hk]at h;cases h)
  .refine⟨⟨rfl,?_,?_⟩⟩
   .show i+1<=_
    omega
   .show(i+1)*8<=_
    omega
  refine od k (by rw[hk];rfl) rfl ?_;(refine Wa _ ?_;(repeat' first|exact tv|apply pr|intro hh));refine⟨i+1,[0,1],⟨rfl,rfl,?_,?_⟩,by omega,by omega⟩
  .refine Vb _ ?_;repeat' first|exact tv|apply pr
   rw[take_succ hk];simp[Z6,acr]
  .refine Vb _ ?_;repeat' first|exact tv|apply pr
   rw[hL i k hk]
structure tA (pos:Int->Option Nat) (f:Nat) (y:Option Nat):Prop where
 some_:∀ k,y=some k->f<=k/\k<64/\(∃ id,pos id=some k)/\∀ j,f<=j->j<k->∀ id,pos id≠some j
 none_:y=none->∀ j,f<=j->j<64->∀ id,pos id≠some j
theorem wU (w:Wl) (pos:Int->Option Nat) (hw:dL w pos) (f:Nat) (hf:f<=64):aa Tryz.prog 184 [WP,.I (f:Int)] (AN w) (Y:=Option Nat) (tA pos f)
  (fun y=>.bQ [.I ((y.getD 0:Nat):Int),.bool fun _=>y.isSome]) (fun _=>AN w):=by
 have u6:=hw.GH;have rY:w.mask=((w.mask.toNat:Nat):Int):=(aaB u6.1).symm;have hn:=GG w.mask.toNat f (by have:(2:Nat) ^ 64=18446744073709551616:=rfl;omega) hf;rw[<-rY]at hn;have QN:∀ j,j<64->w.mask.toNat.testBit j=false->∀ id,pos id≠some j:=fun j hj hb id e=>by
  have:=(hw.bit hj).2 ⟨id,e⟩;rw[hb]at this;cases this
 (refine aa.q Tryz.func184 rfl fun S aw=>Wa _ ?_;(repeat' first|exact tv|apply pr|intro hh));(all_goals first|exact Ob.mk (fun h=>by cases h)|exact Ob.mk ⟨(fun h=>by cases h),by simp only[];omega,by simp only[];omega⟩|skip);refine AE rfl rfl ?_;(refine Wa _ ?_;(repeat' first|exact tv|apply pr|intro hh));(refine ab.q (hn) [] ?_;rintro y hy;refine Wp _ ?_;(repeat' first|exact tv|apply pr|intro hh));(refine ae.w y [0] _ ?_;(repeat' first|exact tv|apply pr));refine .mk (fun k e=>?_) (fun e=>?_)
 .subst e
  exact⟨hy.ge,hy.lt,(hw.bit hy.lt).1 hy.one,fun j h1 h2=>QN j (by have:=hy.lt;omega) (hy.no j h1 h2)⟩
 .subst e
  exact fun j h1 h2=>QN j h2 (hy j h1 h2)
set_option maxRecDepth 4000 in
theorem nc:aa Tryz.prog 106 [] [] (Y:=Wl) (fun w=>dL w fun _=>none)
  (fun _=>WP) AN:=by
 refine aa.q Tryz.func106 rfl fun S aw=>Wa _ ?_;repeat' first|exact tv|apply pr|intro hh
 .exact⟨by decide⟩
 (refine ae.gU 1 ?_;(conv=>whnf));refine ae.lR (fun _=>.map [] 0) ?_;(conv=>whnf);refine ae.gk 3 0 rfl (fun c=>⟨1,fun _=>.map [] c⟩) rfl rfl (fun c=>⟨rfl,fun j hj=>?_⟩) (fun c=>?_)
 .have:j=0:=by change j<1 at hj;omega
  subst this;exact HO.aG _
 (conv=>whnf);refine ae.gL 3 2 rfl (du (EY c)) (dF (EY c)) rfl rfl (fun p v h=>?_) ?_ ?_
 .have h2:(List.replicate 128 AV.bW++[AV.hm 3 fun _=>0,.aL (.int .u64) fun _=>[0]])[p]?=some v:=h
  by_cases hp:p<128
  .rw[ab1 (by simpa using hp)]at h2
   rw[aaC,Z0 hp]at h2;cases h2;have e:dF (EY c) p=.hp none:=by
    unfold dF EY pt;rw[Z0 hp];simp
   rw[e];exact .bW
  .rw[abZ (by simpa using hp)]at h2
   have hl:=(Z2.1 h2).1;simp only[aaz,Z9,aay]at hl h2;obtain rfl|rfl:p=128\/p=129:=by omega
   .cases h2;exact .eq (.hm 0)
   .cases h2;exact .eq (.gQ (.list (.int .u64)) [0])
 .refine⟨rfl,fun j hj=>?_⟩
  match j,hj with
  | 0,_=>exact HO.aG _
  | 1,_=>exact HO.aG _
  | j+2,hj=>exact absurd hj (by show¬(j+2<0+2);omega)
 (conv=>whnf);(refine ae.w (EY c) [3] _ ?_;(repeat' first|exact tv|apply pr));exact QE c
end Go.Proofs.YthnefnlhcijekaaGreat.Wh
namespace Go.Proofs.YthnefnlhcijekaaGreat.Ti
open Go Go.RowKit Fw Wh
def lY (x y:Int):Int:=if x<y then -1 else if y<x then 1 else 0
theorem GK (x:Int):MU Tryz.prog 103 [.I x] [] (.bool fun _=>false) []:=by
 (refine aa.q Tryz.func103 rfl fun S aw=>Wa _ ?_;(repeat' first|exact tv|apply pr|intro hh));(refine ae.w () [] _ ?_;(repeat' first|exact tv|apply pr));all_goals simp
theorem tB (x y:Int):MU Tryz.prog 51 [.I x,.I y] [] (.I (lY x y)) []:=by
 (refine aa.q Tryz.func51 rfl fun S aw=>Wa _ ?_;(repeat' first|exact tv|apply pr|intro hh));(refine ab.q (GK x) [] fun _ _=>Wp _ ?_;(repeat' first|exact tv|apply pr|intro hh));refine ab.q (GK y) [] fun _ _=>Wp _ ?_;repeat' first|exact tv|apply pr|intro hh
 .refine ae.w () [] _ ?_;repeat' first|exact tv|apply pr
  simp[lY,hh]
 .refine ae.w () [] _ ?_;repeat' first|exact tv|apply pr
  rename_i h1;simp[lY,hh,h1]
 .refine ae.w () [] _ ?_;repeat' first|exact tv|apply pr
  rename_i h1;simp[lY,hh,h1]
theorem orM (x y:Int):MU Tryz.prog 50 [.vec 0 1 (fun _=>0) fun _=>2] [.aq 3 (.int .i64) fun _=>[x,y]] (.int .i64 fun _=>if x=0 then y else x) [.aq 3 (.int .i64) fun _=>[x,y]]:=by
 (refine aa.q Tryz.func50 rfl fun S aw=>Wa _ ?_;(repeat' first|exact tv|apply pr|intro hh));refine aM.intro hm (X:=Nat) (fun i=>i<=2/\(1<=i->x=0)/\(2<=i->y=0)) (fun i=>2 - i)
  (fun i=>[(3,.I 0),(6,.vec 0 1 (fun _=>0) fun _=>2),(7,.I 2),(8,.I (i:Int))])
  (fun i=>[.aq 3 (.int .i64) fun _=>[x,y]]) 0 [0] ⟨rfl,rfl,?_,?_⟩ ⟨by omega,by omega,by omega⟩ ?_
 .exact Vc
 .exact Vc
 .intro i hi
  obtain⟨h1,h2,h3⟩:=hi;have e0:[x,y].getD 0 (Ty.int .i64).bA=x:=rfl;have e1:[x,y].getD 1 (Ty.int .i64).bA=y:=rfl;obtain rfl|rfl|rfl:i=0\/i=1\/i=2:=by omega
  .refine Wa _ ?_;repeat' first|exact tv|apply pr|intro hh
   .exact⟨by simp⟩
   .refine ae.w () [0] _ ?_;repeat' first|exact tv|apply pr
    change x≠0 at hh;simp[hh,e0]
   .change x=0 at hh
    refine⟨1,[0],⟨rfl,rfl,?_,?_⟩,⟨by omega,fun _=>hh,by omega⟩,by omega⟩
    .exact Vc
    .exact Vc
  .have hx:=h2 (by omega)
   refine Wa _ ?_;repeat' first|exact tv|apply pr|intro hh
   .exact⟨by simp⟩
   .refine ae.w () [0] _ ?_;repeat' first|exact tv|apply pr
    simp[hx,e1]
   .change y=0 at hh
    refine⟨2,[0],⟨rfl,rfl,?_,?_⟩,⟨by omega,fun _=>hx,fun _=>hh⟩,by omega⟩
    .exact Vc
    .exact Vc
  .refine Wa _ ?_;repeat' first|exact tv|apply pr|intro hh
   all_goals try exact absurd hh (by decide)
   (refine ae.w () [0] _ ?_;(repeat' first|exact tv|apply pr));simp[h2 (by omega),h3 (by omega)]
def qE (es:List (Nat×Int×Int)):List (Nat×Int×HV):=es.map fun e=>(e.1,e.2.1,.gQ (.int .i64) e.2.2)
def rN (es:List (Nat×Int×Int)) (c:Nat):Hp:=⟨1,fun _=>.map (qE es) c⟩
def bl (es:List (Nat×Int×Int)) (id:Int):Int:=(aP es id).getD 0
def pB (es:List (Nat×Int×Int)) (a b:Int):Int:=if lY (bl es a) (bl es b)=0 then lY a b else lY (bl es a) (bl es b)
theorem lZ (es:List (Nat×Int×Int)) (n:Int):aP (qE es) n=(aP es n).map fun d=>HV.gQ (.int .i64) d:=by
 induction es with
 | nil=>rfl
 | cons e r ih =>
  obtain⟨b,k,x⟩:=e;simp only[qE,aal,aP];split
  .rfl
  .exact ih
theorem yC {P:Program} {t i c:Nat} {es:List (Nat×Int×Int)} {K:AV->Prop} {g:Unit->Nat} {n:Unit->Int} (hz:iC P t=some (.int .i64 0)) (hg:g ()=0)
  (k:K (.I (bl es (n ())))):OS P t false i (fun _=>rN es c) g n K :=
 ⟨qE es,c,_,rfl,hz,fun v hv=>by
  rw[lZ]at hv;cases h:aP es (n ())with
  | none=>rw[h]at hv;cases hv
  | some d =>
   rw[h]at hv;cases hv;have e:bl es (n ())=d:=by simp[bl,h]
   rw[e]at k;exact k,fun hv=>by
  rw[lZ]at hv;cases h:aP es (n ())with
  | none =>
   have e:bl es (n ())=0:=by simp[bl,h]
   rw[e]at k;exact k
  | some d=>rw[h]at hv;cases hv⟩
theorem GL {P:Program} {t i c:Nat} {es:List (Nat×Int×Int)} {K:AV->Prop} {g:Unit->Nat} {n:Unit->Int} (hz:iC P t=some (.int .i64 0)) (hg:g ()=0)
  (k1:∀ d,aP es (n ())=some d->K (.bQ [.I d,.tt])) (k0:aP es (n ())=none->K (.bQ [.I 0,.ff])):OS P t true i (fun _=>rN es c) g n K :=
 ⟨qE es,c,_,rfl,hz,fun v hv=>by
  rw[lZ]at hv;cases h:aP es (n ())with
  | none=>rw[h]at hv;cases hv
  | some d=>rw[h]at hv;cases hv;exact k1 d h,fun hv=>by
  rw[lZ]at hv;cases h:aP es (n ())with
  | none=>exact k0 h
  | some d=>rw[h]at hv;cases hv⟩
abbrev TR:AV:=.cM [.undef,.hm 1 fun _=>0,.undef,.undef,.undef,.undef,.undef,.undef] 0
theorem Nu (es:List (Nat×Int×Int)) (c:Nat) (a b:Int):MU Tryz.prog 130 [.I a,.I b,.cM [TR] 0] [.none,.heap fun _=>rN es c] (.I (pB es a b)) [.none,.heap fun _=>rN es c]:=by
 (refine aa.q Tryz.func130 rfl fun S aw=>Wa _ ?_;(repeat' first|exact tv|apply pr|intro hh));refine yC rfl rfl ?_;(refine Wa _ ?_;(repeat' first|exact tv|apply pr|intro hh));refine yC rfl rfl ?_;(refine Wa _ ?_;(repeat' first|exact tv|apply pr|intro hh));(refine ab.q (tB (bl es a) (bl es b)) [] fun _ _=>Wp _ ?_;(repeat' first|exact tv|apply pr|intro hh));all_goals refine ab.q (tB a b) [] fun _ _=>Wp _ ?_;repeat' first|exact tv|apply pr|intro hh
 (refine ab.q (orM (lY (bl es a) (bl es b)) (lY a b)) [2] fun _ _=>Wp _ ?_;(repeat' first|exact tv|apply pr|intro hh));exact ae.z () [0,1]
end Go.Proofs.YthnefnlhcijekaaGreat.Ti
