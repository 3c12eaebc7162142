/- What the laws of this chapter rest on, for every input; part 6. -/
import Derived.Test.YthnefnlhcijekaaGreatMC4
import Derived.Shelf.SlLaysF0
import Derived.Shelf.Lays
import Derived.Test.YthnefnlhcijekaaGreatProg
import Derived.Shelf.Small.Strs
set_option linter.unusedVariables false
set_option linter.unusedSimpArgs false
namespace Go.Proofs.YthnefnlhcijekaaGreat.Hi
open Go Go.RowKit Fw Po
def ml (l:List bc):Nat->Int
 | 0=>0|i+1=>(l.getD i (0,0)).1
theorem RR {n:Nat} (i:Nat) (h:i<n) (hn:n<=1000000000):IntKind.i64.wrap ((i:Int)+1)=((i+1:Nat):Int):=by rw[wr (by omega)];omega
theorem CV {l:List bc} {i:Nat} (h:i<l.length):l.drop i=l.getD i (0,0)::l.drop (i+1):=by
 rw[aaU h];simp[ZZ,h]
theorem Ov {l:List bc} {i:Nat} (h:i<l.length):kY (ml l i) (l.drop i)=(decide (ml l i<=(l.getD i (0,0)).1) && decide ((l.getD i (0,0)).1<=1099511627776) && aU (l.getD i (0,0)).2 && kY (ml l (i+1)) (l.drop (i+1))):=by
 rw[CV h,kY];rfl
theorem vH (l:List bc) (hl:l.length<=1000000):MU Tryz.prog 200 [.aL dz fun _=>l] [] (.bool fun _=>may l) []:=by
 (refine aa.q Tryz.func200 rfl fun S aw=>Wb _ ?_;(repeat' first|exact tv|apply pr|intro hh));refine aM.intro hm (X:=Nat) (fun i=>i<=l.length/\may l=kY (ml l i) (l.drop i)/\0<=ml l i) (fun i=>l.length - i)
   (fun i=>[(3,.I (i:Int)),(0,.aL dz fun _=>l)]) (fun i=>[]) 0 [] ⟨rfl,rfl,?_,?_⟩ ⟨aae _,rfl,aad _⟩ (fun i hi=>?_)
 .exact Vc
 .exact Vc
 .obtain⟨hi,uA,h0⟩:=hi
  have HR:=fun h=>uA.trans (Ov (l:=l) (i:=i) h);have iO:0<i->(l.getD (i - 1) (0,0)).1=ml l i:=fun h=>by cases i with
   | zero=>omega
   | succ i=>rfl
  generalize hx:l.getD i (0,0)=x at HR;have qg:l.getD (i:Int).toNat dz.bA=x:=hx;(refine Wb _ ?_;(repeat' first|exact tv|apply pr|intro hh));all_goals (try simp only[qg]at *)
  ·(refine Ob.mk ?_;(try simp only[Ty.bA,aaf,aa6,Z4,acs,acz,aak,aar,aab,aaz,Z9,aay,aao,aba,true_and,and_true]);omega)
  ·(refine Ob.mk ?_;(try simp only[Ty.bA,aaf,aa6,Z4,acs,acz,aak,aar,aab,aaz,Z9,aay,aao,aba,true_and,and_true]);omega)
  ·(refine Ob.mk ?_;(try simp only[Ty.bA,aaf,aa6,Z4,acs,acz,aak,aar,aab,aaz,Z9,aay,aao,aba,true_and,and_true]);omega)
  .refine ab.q (y7 x.2) [] fun _ _=>Wp _ ?_;repeat' first|exact tv|apply pr|intro hh
   .refine Ob.mk ?_
    have e:IntKind.i64.wrap ((i:Int) - 1)=(i:Int) - 1:=wr (by omega);simp only[e];omega
   ·(refine Ob.mk ?_;(try simp only[Ty.bA,aaf,aa6,Z4,acs,acz,aak,aar,aab,aaz,Z9,aay,aao,aba,true_and,and_true]);omega)
   .have yz:0<i:=by omega
    rw[show(IntKind.i64.wrap ((i:Int) - 1)).toNat=i - 1 by rw[wr (by omega)];omega]at hh;have hh:(l.getD i (0,0)).1<(l.getD (i - 1) (0,0)).1:=hh;rw[iO yz,hx]at hh;(refine ae.w () [] _ ?_;(repeat' first|exact tv|apply pr));rw[HR (by omega)];simp;omega
   .have yz:0<i:=by omega
    have r8:i<l.length:=by omega
    rw[show(IntKind.i64.wrap ((i:Int) - 1)).toNat=i - 1 by rw[wr (by omega)];omega]at hh;have hh:¬(l.getD i (0,0)).1<(l.getD (i - 1) (0,0)).1:=hh;rw[iO yz,hx]at hh;refine⟨i+1,[],⟨rfl,rfl,?_,?_⟩,⟨r8,?_,by show 0<=(l.getD i (0,0)).1;rw[hx];omega⟩,by omega⟩
    .exact Vc
    .refine Vb _ ?_;repeat' first|exact tv|apply pr
     exact RR i r8 (by omega)
    .rw[HR r8]
     simp only[*];simp;omega
   .have yz:i=0:=by omega
    have r8:i<l.length:=by omega
    refine⟨i+1,[],⟨rfl,rfl,?_,?_⟩,⟨r8,?_,by show 0<=(l.getD i (0,0)).1;rw[hx];omega⟩,by omega⟩
    .exact Vc
    .refine Vb _ ?_;repeat' first|exact tv|apply pr
     exact RR i r8 (by omega)
    .rw[HR r8]
     subst yz;simp only[*];simp[ml];intro _;exact⟨decide_eq_true (show ml l 0<=x.1 by show(0:Int)<=x.1;omega),by omega⟩
   .refine ae.w () [] _ ?_;repeat' first|exact tv|apply pr
    rw[HR (by omega),hh];simp
  .refine ae.w () [] _ ?_;repeat' first|exact tv|apply pr
   rw[HR (by omega)];simp;omega
  .refine ae.w () [] _ ?_;repeat' first|exact tv|apply pr
   rw[HR (by omega)];simp;omega
  .have e:i=l.length:=by omega
   (refine ae.w () [] _ ?_;(repeat' first|exact tv|apply pr));rw[uA,e,List.drop_length];rfl
theorem oy {a s:Int} (h0:0<=a) (h1:a<=4611686018427387904) (hs:1<=s):0<=a.tdiv s/\a.tdiv s<=4611686018427387904:=by
 refine⟨acE h0 (by omega),?_⟩;rw[aaq h0];exact ab6 (acx _ h0) h1
theorem Eu {l:List bc} {k:Nat} (h:k<l.length):l.drop (l.length - (k+1))=l.getD (l.length - 1 - k) (0,0)::l.drop (l.length - k):=by
 rw[show l.length - (k+1)=l.length - 1 - k by omega,CV (by omega),show l.length - 1 - k+1=l.length - k by omega]
theorem ot.drop {l:List bc} {t:Int} (q:ot l t) (i:Nat):ot (l.drop i) t:=q.sub (fun h hh=>acn hh) (by have:=q.len;rw[aar];omega)
theorem aQ.RS {p:ay} (hp:aQ p):0<=p.2.2.2/\p.2.2.2<=16:=by
 by_cases h:p.1=3
 .have:=hp.ring h;omega
 .have:=hp.plain h;omega
theorem ot.up {l:List bc} {t t':Int} (q:ot l t) (h:t<=t'):ot l t':=q.later h
theorem tY {l:List bc} {i:Nat} (h:i<l.length):l.getD i (0,0)∈l:=by rw[ZZ,Z1 h];exact aax h
theorem zh {l:List bc} {i:Nat} {x:bc} (h:x∈l.take i):∃ j,j<i/\j<l.length/\x=l.getD j (0,0):=by
 obtain⟨j,hj,e⟩:=List.getElem_of_mem h;rw[aak]at hj;refine⟨j,by omega,by omega,?_⟩;rw[<-e,List.getElem_take,ZZ,Z1 (by omega)];rfl
theorem HS {l:List bc} (h:may l=true) {i:Nat} (hi:i<l.length):0<=(l.getD i (0,0)).1/\(l.getD i (0,0)).1<=1099511627776:=by
 have:=(tO l 0 h (aad _)).1 _ (tY hi);omega
theorem zi {l:List bc} (h:may l=true) (hl:l.length<=1000000) {i:Nat} (hi:i<l.length):ot (l.take (i+1)) (l.getD i (0,0)).1:=by
 obtain⟨h1,h2⟩:=tO l 0 h (aad _);refine⟨fun x hx=>?_,fun x hx=>?_,by rw[aak];omega⟩
 .obtain⟨j,hj,lq,rfl⟩:=zh hx
  exact⟨(h1 _ (tY lq)).1,h2 j i (by omega) hi⟩
 .have:=h1 x (aa5 hx);omega
theorem xn {l:List bc} (h:0<l.length) (t:Int):kF l t=decide ((l.getD (l.length - 1) (0,0)).1<=t):=by
 unfold kF;rw[acX,ZZ,Z1 (by omega)];rfl
theorem zj {p:ay} {l:List bc} {i:Nat} (h:eX p l i=false):∀ n,i<=n->eX p l n=false:=by
 intro n hn;induction n with
 | zero=>rw[show i=0 by omega]at h;exact h
 | succ n ih =>
  by_cases e:i=n+1
  .rw[<-e];exact h
  .rw[eX,ih (by omega)];rfl
theorem zk {p:ay} {l:List bc} {t:Int} (h:fits p l t=true) (hl:l.length<=1000000):aQ p/\may l=true/\0<=t/\t<=1099511627776/\ot l t:=by
 simp only[fits,aai,decide_eq_true_eq]at h;obtain⟨⟨⟨⟨⟨h1,h2⟩,h3⟩,h4⟩,h5⟩,h6⟩:=h;refine⟨h1,h2,h3,h4,?_⟩;by_cases h0:0<l.length
 .have:=zi h2 hl (i:=l.length - 1) (by omega)
  rw[show l.length - 1+1=l.length by omega,aac]at this;rw[xn h0]at h5;exact this.up (of_decide_eq_true h5)
 .have:l=[]:=aaY (by omega)
  subst this;exact⟨by simp,by simp,by simp⟩
theorem kO {m c d:Int} (hm:0<=m/\m<=1099511627776) (hc:0<=c/\c<=1152921504606846976) (hd:1<=d) :
  IntKind.i64.wrap ((if IntKind.i64.wrap (m - c)>0 then IntKind.i64.wrap (m - c)else 0).tdiv d)=(max 0 (m - c)).tdiv d:=by
 rw[wr (x:=m - c) (by omega)];have e:(if m - c>0 then m - c else 0)=max 0 (m - c):=by split <;> omega
 rw[e];have:=oy (a:=max 0 (m - c)) (s:=d) (by omega) (by omega) hd;exact wr (by omega)
def rc (p:ay) (t:Int) (l:List bc):Int×Int:=(if p.1=1 then bB (fun _=>true) l else 0,counts p l t)
theorem Km (p:ay) (t:Int) (l:List bc):(nH p t l).1=p.2.2.1*bB (fun _=>true) l:=by
 induction l with
 | nil=>simp[nH,bB]
 | cons x r ih =>
  simp only[nH,bB,ih,if_true,acp];rw[acw x.2,Int.add_comm]
theorem zl (p:ay) (t:Int) (x:bc) (l:List bc) (h:p.1≠1):counts p (x::l) t=if cq p t x.1 then counts p l t+x.2 else counts p l t:=by
 unfold counts;rw[ZY h,bB];rw[ZY h];split <;> omega
theorem Ow {p:ay} (h:p.1=1) (t:Int) (z:bc) (D:List bc):rc p t (z::D)=(bB (fun _=>true) D+z.2,max (counts p D t) (p.2.2.1*(bB (fun _=>true) D+z.2) - p.2.1*(t - z.1))):=by
 have e:=Km p t D;simp only[rc,counts,Z0 h,nH,bB,if_true,e,acp];rw[acw z.2,Int.add_comm]
theorem HT {p:ay} (h:p.1≠1) (t:Int) (z:bc) (D:List bc):rc p t (z::D)=(0,if cq p t z.1 then counts p D t+z.2 else counts p D t):=by
 simp only[rc,ZY h,zl p t z D h]
theorem cB (p:ay) (l:List bc) (t:Int) (hp:aQ p) (hl:ot l t) (ht:0<=t/\t<=2199023255552):MU Tryz.prog 148 [aI p,.aL dz fun _=>l,.I t] [] (.I (counts p l t)) []:=by
 have hs:=c6 hp;have hk:=hp.kind;have hL:=hp.bK;have hW:=hp.aN;have hlen:=hl.len;(refine aa.q Tryz.func148 rfl fun S aw=>Wb _ ?_;(repeat' first|exact tv|apply pr|intro hh));refine aM.intro hm (X:=Nat) (fun k=>k<=l.length) (fun k=>l.length - k)
  (fun k=>[(9,.I ((l.length:Int) - 1 - k)),(8,.I ((rc p t (l.drop (l.length - k))).1)),(7,.I ((rc p t (l.drop (l.length - k))).2)),(3,.ptr 0 0),(1,.aL dz fun _=>l),(2,.I t)])
  (fun i=>[.cells 27 [.I p.1,.I p.2.1,.I p.2.2.1,.I p.2.2.2]]) 0 [0] ⟨rfl,rfl,?_,?_⟩ (aae _) (fun k hk=>?_)
 .exact Vc
 .refine Vb _ ?_;repeat' first|exact tv|apply pr
  .rw[wr (by omega)];simp
  .simp[rc,bB]
  .simp[rc,counts,bB,nH]
 .have hB:=hp.RS
  have hR:=hp.ring;have hD:=hl.drop (l.length - k);have Az:=Eu (l:=l) (k:=k);have EO:((l.drop (l.length - k)).length:Int)<=1000000:=by rw[aar];omega
  have qg:k<l.length->l.getD ((l.length:Int) - 1 - k).toNat dz.bA=l.getD (l.length - 1 - k) (0,0):=fun h=>by
   rw[show((l.length:Int) - 1 - k).toNat=l.length - 1 - k by omega];rfl
  have bD:k<l.length->l.getD (l.length - 1 - k) (0,0)∈l:=fun h=>tY (by omega);by_cases pF:k<l.length
  .have qg:=qg pF
   have bD:=bD pF;have Az:=Az pF;have SL:=hl.tick _ bD;have Lg:=hl.weight _ bD;generalize l.getD (l.length - 1 - k) (0,0)=z at *;generalize l.drop (l.length - k)=D at *;have hS:=js (q:=fun _=>true) D hD;have hC:=kG hp hD;have hT:=js (q:=cq p t) D hD;have eI:IntKind.i64.wrap ((l.length:Int) - 1 - k - 1)=(l.length:Int) - 1 - ((k+1:Nat):Int):=by rw[wr (by omega)];omega
   have eS:p.1=3->IntKind.i64.wrap (p.2.2.1.tdiv p.2.2.2)=ar p:=fun h=>by
    have:ar p=p.2.2.1.tdiv p.2.2.2:=Z0 h;rw[<-this];exact wr (by omega)
   have e2:p.1≠3->ar p=p.2.2.1:=fun h=>ZY h;(refine Wb _ ?_;(repeat' first|exact tv|apply pr|intro hh));all_goals (try simp only[qg,eI]at *)
   all_goals first|(exact Ob.mk (by simp only[];omega))|skip
   all_goals first|(refine Ob.mk ?_;(try simp only[eS hh]);omega)|skip
   all_goals first|(refine Ob.mk ?_;(try simp only[eS ‹p.1=3›]);omega)|skip
   .have b1:0<=p.2.2.1*(bB (fun _=>true) D+z.2):=aaw (by omega) (by omega)
    have b2:p.2.2.1*(bB (fun _=>true) D+z.2)<=1048576*1099511627776:=aaH hW.2 (by omega) (by omega) (by omega);have b3:0<=p.2.1*(t - z.1):=aaw (by omega) (by omega);have b4:p.2.1*(t - z.1)<=1048576*2199023255552:=aaH hL.2 (by omega) (by omega) (by omega);have f1:rc p t D=(bB (fun _=>true) D,counts p D t):=by rw[rc,Z0 hh]
    refine⟨k+1,[0],⟨rfl,rfl,?_,?_⟩,pF,by omega⟩
    .exact Vc
    .rw[Az,Ow hh]
     (refine Vb _ ?_;(repeat' first|exact tv|apply pr));all_goals simp only[f1]
     .exact wr (by omega)
     .simp(disch:=omega) only[wr]
      split <;> omega
   all_goals try (exfalso;omega)
   all_goals have f2:=HT ‹p.1≠1› t z D
   all_goals have f1:rc p t D=(0,counts p D t):=by rw[rc,ZY ‹p.1≠1›]
   all_goals have b1:=oy (a:=t) (s:=ar p) (by omega) (by omega) hs.1
   all_goals have b2:=oy (a:=z.1) (s:=ar p) (by omega) (by omega) hs.1
   .have hc:cq p t z.1=true:=by
     unfold cq;rw[Z0 ‹p.1=2›,e2 (by omega)];exact decide_eq_true (by rw[e2 (by omega)]at b1 b2;rw[wr (by omega),wr (by omega)]at hh;exact hh)
    refine⟨k+1,[0],⟨rfl,rfl,?_,?_⟩,pF,by omega⟩
    .exact Vc
    .rw[Az,f2,hc]
     (refine Vb _ ?_;(repeat' first|exact tv|apply pr));all_goals simp only[f1]
     rw[Z0 trivial];exact wr (by omega)
   .have hc:cq p t z.1=false:=by
     unfold cq;rw[Z0 ‹p.1=2›,e2 (by omega)];exact decide_eq_false (by rw[e2 (by omega)]at b1 b2;rw[wr (by omega),wr (by omega)]at hh;exact hh)
    refine⟨k+1,[0],⟨rfl,rfl,?_,?_⟩,pF,by omega⟩
    .exact Vc
    .rw[Az,f2,hc]
     (refine Vb _ ?_;(repeat' first|exact tv|apply pr));all_goals simp only[f1]
   .have hc:cq p t z.1=true:=by
     unfold cq;rw[ZY (by omega),Z0 ‹p.1=3›];exact decide_eq_true (by have U2:=eS ‹p.1=3›;rw[U2]at hh;rw[wr (x:=t.tdiv (ar p)) (by omega),wr (x:=z.1.tdiv (ar p)) (by omega),wr (by omega)]at hh;omega)
    refine⟨k+1,[0],⟨rfl,rfl,?_,?_⟩,pF,by omega⟩
    .exact Vc
    .rw[Az,f2,hc]
     (refine Vb _ ?_;(repeat' first|exact tv|apply pr));all_goals simp only[f1]
     rw[Z0 trivial];exact wr (by omega)
   .have hc:cq p t z.1=false:=by
     unfold cq;rw[ZY (by omega),Z0 ‹p.1=3›];exact decide_eq_false (by have U2:=eS ‹p.1=3›;rw[U2]at hh;rw[wr (x:=t.tdiv (ar p)) (by omega),wr (x:=z.1.tdiv (ar p)) (by omega),wr (by omega)]at hh;omega)
    refine⟨k+1,[0],⟨rfl,rfl,?_,?_⟩,pF,by omega⟩
    .exact Vc
    .rw[Az,f2,hc]
     (refine Vb _ ?_;(repeat' first|exact tv|apply pr));all_goals simp only[f1]
   .have hc:cq p t z.1=true:=by
     unfold cq;rw[ZY (by omega),ZY (by omega)];exact decide_eq_true (by rw[wr (by omega)]at hh;omega)
    refine⟨k+1,[0],⟨rfl,rfl,?_,?_⟩,pF,by omega⟩
    .exact Vc
    .rw[Az,f2,hc]
     (refine Vb _ ?_;(repeat' first|exact tv|apply pr));all_goals simp only[f1]
     rw[Z0 trivial];exact wr (by omega)
   .have hc:cq p t z.1=false:=by
     unfold cq;rw[ZY (by omega),ZY (by omega)];exact decide_eq_false (by rw[wr (by omega)]at hh;omega)
    refine⟨k+1,[0],⟨rfl,rfl,?_,?_⟩,pF,by omega⟩
    .exact Vc
    .rw[Az,f2,hc]
     (refine Vb _ ?_;(repeat' first|exact tv|apply pr));all_goals simp only[f1]
  .refine Wb _ ?_;repeat' first|exact tv|apply pr|intro hh
   all_goals try (exfalso;omega)
   have e:k=l.length:=by omega
   (refine ae.w () [] _ ?_;(repeat' first|exact tv|apply pr));rw[e,Nat.sub_self,aah];rfl
theorem dG (p:ay) (l:List bc) (t aF:Int) (hp:aQ p) (hl:ot l t) (ht:0<=t/\t<=1099511627776):MU Tryz.prog 247 [aI p,.aL dz fun _=>l,.I t,.I aF] [] (.I (wait p l t aF)) []:=by
 have hW:=hp.aN;(refine aa.q Tryz.func247 rfl fun S aw=>Wb _ ?_;(repeat' first|exact tv|apply pr|intro hh));refine aM.intro hm (X:=Int×Int) (fun x=>-1<=x.1/\x.1<x.2/\x.2<=p.2.2.1/\(x.1=-1\/aF<counts p l (t+x.1))/\(x.2=p.2.2.1\/counts p l (t+x.2)<=aF)) (fun x=>(x.2 - x.1).toNat)
  (fun x=>[(9,.I x.1),(10,.I x.2),(4,.ptr 0 0),(1,.aL dz fun _=>l),(2,.I t),(3,.I aF)])
  (fun i=>[.cells 27 [.I p.1,.I p.2.1,.I p.2.2.1,.I p.2.2.2]]) (-1,p.2.2.1) [0] ⟨rfl,rfl,?_,?_⟩ ⟨by simp,by simp;omega,by simp,.inl rfl,.inl rfl⟩ (fun x hx=>?_)
 .exact Vc
 .exact Vc
 .obtain⟨a,b⟩:=x
  simp only[]at hx;obtain⟨h0,h1,h2,h3,h4⟩:=hx;have e0:IntKind.i64.wrap (b - a)=b - a:=wr (by omega);(refine Wb _ ?_;(repeat' first|exact tv|apply pr|intro hh));all_goals (try simp only[e0]at hh ⊢)
  .exact Ob.mk (by decide)
  .have e1:IntKind.i64.wrap (a+b)=a+b:=wr (by omega)
   have ZU:0<=(a+b).tdiv 2:=acE (by omega) (by omega);have YV:(a+b).tdiv 2=(a+b) / 2:=aaq (by omega);have e2:IntKind.i64.wrap ((a+b).tdiv 2)=(a+b) / 2:=by rw[YV];exact wr (by omega)
   have e3:IntKind.i64.wrap (t+(a+b) / 2)=t+(a+b) / 2:=wr (by omega);simp only[e1,e2,e3];refine ab.q (cB p l (t+(a+b) / 2) hp (hl.up (by omega)) (by omega)) [] fun _ _=>Wp _ ?_;repeat' first|exact tv|apply pr|intro hh
   .refine⟨(a,(a+b) / 2),[0],⟨rfl,rfl,?_,?_⟩,⟨h0,?_,?_,h3,.inr hh⟩,?_⟩
    .exact Vc
    .exact Vc
    .simp only[];omega
    .simp only[];omega
    .simp only[];omega
   .refine⟨((a+b) / 2,b),[0],⟨rfl,rfl,?_,?_⟩,⟨?_,?_,h2,.inr ?_,h4⟩,?_⟩
    .exact Vc
    .exact Vc
    .simp only[];omega
    .simp only[];omega
    .simp only[];omega
    .simp only[];omega
  .have e:a=b - 1:=by omega
   subst e;(refine ae.w () [] _ ?_;(repeat' first|exact tv|apply pr));refine(J3 hp hl (by omega) h2 ?_ h4).symm;rcases h3 with h3|h3
   .left;omega
   .exact .inr h3
theorem HU (p:ay) (l:List bc) (t:Int) (hl:l.length<=1000000):MU Tryz.prog 147 [aI p,.aL dz fun _=>l,.I t] [] (.bool fun _=>fits p l t) []:=by
  by_cases hp:aQ p
  · (refine aa.q Tryz.func147 rfl fun S aw=>Wb _ ?_;(repeat' first|exact tv|apply pr|intro hh))
    refine ab.intro (CJ p) [] rfl rfl ?_ ?_ ?_
    · exact Vc
    · exact Vc
    intro y hy;rw[Z0 hp];clear y hy;(refine Wa _ ?_;(repeat' first|exact tv|apply pr|intro hh));have Ao:0<l.length->(l.getD (IntKind.i64.wrap ((l.length:Int) - 1)).toNat dz.bA)=l.getD (l.length - 1) (0,0):=fun h=>by
      rw[wr (by omega),show((l.length:Int) - 1).toNat=l.length - 1 by omega];rfl
    refine ab.q (vH l (by omega)) [] fun _ _=>Wp _ ?_;repeat' first|exact tv|apply pr|intro hh
    · refine Ob.mk ?_
      have e:IntKind.i64.wrap ((l.length:Int) - 1)=(l.length:Int) - 1:=wr (by omega);simp only[e];omega
    · rw[Ao (by omega)]at hh
      (refine ae.w () [] _ ?_;(repeat' first|exact tv|apply pr));have:=xn (l:=l) (by omega) t;have hh:t<(l.getD (l.length - 1) (0,0)).1:=hh;have hf:kF l t=false:=by rw[this];exact decide_eq_false (by omega)
      simp[fits,hf]
    all_goals first
      | ((refine ae.w () [] _ ?_;(repeat' first|exact tv|apply pr));simp[fits, *];done)
      | ((refine ae.w () [] _ ?_;(repeat' first|exact tv|apply pr));have:¬(0<=t/\t<=1099511627776):=by omega
         simp[fits];omega)
      | skip
    all_goals
      have uE:kF l t=true:=by
        by_cases h0:0<l.length
        · rw[xn h0]
          first
            | exact absurd h0 (by omega)
            | (rw[Ao h0]at hh
               have hh:¬t<(l.getD (l.length - 1) (0,0)).1:=hh;exact decide_eq_true (by omega))
        · have:l=[]:=aaY (by omega)
          rw[this];rfl
      have HR:may l=true:=by assumption
      have Ou:fits p l t=eX p l l.length:=by
        unfold fits;rw[uE,HR,decide_eq_true hp,decide_eq_true (show(0:Int)<=t by omega),decide_eq_true (show t<=1099511627776 by omega)];rfl
      clear uE Ao hh;refine aM.intro hm (X:=Nat) (fun i=>i<=l.length/\eX p l i=true) (fun i=>l.length - i)
        (fun i=>[(7,.I (i:Int)),(3,.ptr 0 0),(1,.aL dz fun _=>l)])
        (fun i=>[.cells 27 [.I p.1,.I p.2.1,.I p.2.2.1,.I p.2.2.2]]) 0 [0] ⟨rfl,rfl,?_,?_⟩ ⟨aae _,rfl⟩ (fun i hi=>?_)
      · exact Vc
      · exact Vc
      · obtain⟨hi,S4⟩:=hi
        have qg:l.getD (i:Int).toNat dz.bA=l.getD i (0,0):=rfl;(refine Wb _ ?_;(repeat' first|exact tv|apply pr|intro hh));all_goals (try simp only[qg]at *)
        · refine Ob.mk ?_
          have e:=RR i (n:=l.length) (by omega) (by omega);simp only[e];omega
        · (refine Ob.mk ?_;(try simp only[Ty.bA,aaf,aa6,Z4,acs,acz,aak,aar,aab,aaz,Z9,aay,aao,aba,true_and,and_true]);omega)
        · have r8:i<l.length:=by omega
          have e:=RR i r8 (by omega);have e0:List.drop (Int.toNat 0) (List.take ((i+1:Nat):Int).toNat l)=l.take (i+1):=rfl;simp only[e,e0];have hH:=zi HR hl r8;have hT:=HS HR r8;have fR:eX p l (i+1)=decide (counts p (l.take (i+1)) (l.getD i (0,0)).1<=ak p p.2.1):=by rw[eX,S4,ack]
          (refine ab.q (cB p (l.take (i+1)) (l.getD i (0,0)).1 hp hH (by omega)) [] fun _ _=>Wp _ ?_;(repeat' first|exact tv|apply pr|intro hh));refine ab.q (dt p hp p.2.1 hp.bK) [] fun _ _=>Wp _ ?_;repeat' first|exact tv|apply pr|intro hh
          · have hs:=zj (i:=i+1) (p:=p) (l:=l) (by rw[fR];exact decide_eq_false (by omega)) l.length r8
            (refine ae.w () [] _ ?_;(repeat' first|exact tv|apply pr));rw[Ou,hs]
          · refine⟨i+1,[0],⟨rfl,rfl,?_,?_⟩,⟨r8,by rw[fR];exact decide_eq_true (by omega)⟩,by omega⟩
            · exact Vc
            · (refine Vb _ ?_;(repeat' first|exact tv|apply pr))
              exact RR i r8 (by omega)
        · have e:i=l.length:=by omega
          (refine ae.w () [] _ ?_;(repeat' first|exact tv|apply pr));rw[Ou,<-e,S4]
  · (refine aa.q Tryz.func147 rfl fun S aw=>Wb _ ?_;(repeat' first|exact tv|apply pr|intro hh))
    refine ab.intro (CJ p) [] rfl rfl ?_ ?_ ?_
    · exact Vc
    · exact Vc
    intro y hy;rw[ZY hp];(refine Wa _ ?_;(repeat' first|exact tv|apply pr|intro hh));(refine ae.w () [] _ ?_;(repeat' first|exact tv|apply pr));simp[fits,hp]
theorem Pg (p:ay) (l:List bc) (t:Int) (hl:l.length<=1000000):MU Tryz.prog 91 [aI p,.aL dz fun _=>l,.I t] [] (.bool fun _=>neutral p l t) []:=by
 (refine aa.q Tryz.func91 rfl fun S aw=>Wb _ ?_;(repeat' first|exact tv|apply pr|intro hh));refine ab.q (HU p l t hl) [] fun _ _=>Wp _ ?_;repeat' first|exact tv|apply pr|intro hh
 .obtain⟨h1,h2,h3,h4,h5⟩:=zk hh hl
  (refine ab.q (cB p l t h1 h5 (by omega)) [] fun _ _=>Wp _ ?_;(repeat' first|exact tv|apply pr|intro hh));(refine ae.w () [] _ ?_;(repeat' first|exact tv|apply pr));rw[neutral,hh,ack];rfl
 .refine ae.w () [] _ ?_;repeat' first|exact tv|apply pr
  simp[neutral,hh]
set_option maxHeartbeats 2000000 in
set_option maxRecDepth 20000 in
theorem LS (p:ay) (l:List bc) (t w:Int) (hl:l.length<=999999):MU Tryz.prog 198 [aI p,.aL dz fun _=>l,.I t,.I w] [] (.bQ [.aL dz fun _=>(ask p l t w).1,mb (ask p l t w).2]) []:=by
 (refine aa.q Tryz.func198 rfl fun S aw=>Wb _ ?_;(repeat' first|exact tv|apply pr|intro hh));refine ab.q (HU p l t (by omega)) [] fun _ _=>Wp _ ?_;repeat' first|exact tv|apply pr|intro hh
 .refine ab.q (y7 w) [] fun _ _=>Wp _ ?_;repeat' first|exact tv|apply pr|intro hh
  .have ha:ask p l t w=(l,false,0,0,0):=by
    unfold ask;rw[hh,Bool.and_false];rfl
   (refine ae.w () [] _ ?_;(repeat' first|exact tv|apply pr));all_goals rw[ha]
  .obtain⟨h1,h2,h3,h4,h5⟩:=zk ‹_› (by omega)
   have hw:1<=w/\w<=1048576:=by simpa [aU]using hh
   have Kn:(fits p l t && aU w)=true:=by rw[‹fits p l t=true›,hh];rfl
   clear hh;have Pf:=jt h1 hw;have qk:=kG h1 h5;have Tn:=jt h1 h1.bK;have Ko:=jt h1 (w:=1) (by omega);have e1:IntKind.i64.wrap (counts p l t+ak p w)=counts p l t+ak p w:=wr (by omega);have e3:IntKind.i64.wrap (ak p p.2.1 - ak p w)=ak p p.2.1 - ak p w:=wr (by omega);have et:16=(Tryz.t156.bytes:Nat):=rfl;have k9:ot (l++[(t,w)]) t:=⟨fun x hx=>by
    rcases aaD.1 hx with hx|hx
    .exact h5.tick x hx
    .simp at hx;subst hx;simp;omega,fun x hx=>by
    rcases aaD.1 hx with hx|hx
    .exact h5.weight x hx
    .simp at hx;subst hx;exact hw,by simp;omega⟩
   have Ox:=kG h1 k9;have e5:List.take (0+l.length+(List.take 1 (List.drop 0 [(t,w)])).length) (List.drop 0 (List.take (0+l.length) (List.take 0 ([]:List bc)++l)++List.take 1 (List.drop 0 [(t,w)])))=l++[(t,w)]:=by
    rw[aah,abR,ab3,aaf,aac,aah];exact Z6 (by simp)
   (refine ab.q (dt p h1 p.2.1 h1.bK) [] fun _ _=>Wp _ ?_;(repeat' first|exact tv|apply pr|intro hh));all_goals refine ab.q (cB p l t h1 h5 (by omega)) [] fun _ _=>Wp _ ?_;repeat' first|exact tv|apply pr|intro hh
   all_goals refine ab.q (dt p h1 w hw) [] fun _ _=>Wp _ ?_;repeat' first|exact tv|apply pr|intro hh
   all_goals (try simp only[e1]at hh ⊢)
   all_goals first|(refine Ob.mk ?_;simp only[<-et];simp;omega)|skip
   .refine ab.gU 3 ?_ (cB p l t h1 h5 (by omega)).aA
    (conv=>whnf);simp only[e5];have ha:ask p l t w=(l++[(t,w)],true,(max 0 (ak p p.2.1 - counts p (l++[(t,w)]) t)).tdiv (ak p 1),0,wait p (l++[(t,w)]) t 0):=by
     unfold ask;rw[Z0 Kn];simp only[Z0 hh,decide_eq_true hh]
    (refine ab.q (cB p (l++[(t,w)]) t h1 k9 (by omega)) [] fun _ _=>Wp _ ?_;(repeat' first|exact tv|apply pr|intro hh));(refine ab.q (dt p h1 1 (by omega)) [] fun _ _=>Wp _ ?_;(repeat' first|exact tv|apply pr|intro hh));all_goals first|(exact Ob.mk (by simp only[];omega))|skip
    (refine ab.q (dG p (l++[(t,w)]) t 0 h1 k9 (by omega)) [] fun _ _=>Wp _ ?_;(repeat' first|exact tv|apply pr|intro hh));(refine ae.w () [] _ ?_;(repeat' first|exact tv|apply pr));all_goals rw[ha]
    .exact decide_eq_true hh
    .exact kO (by omega) Ox Ko.1
   .have hn:¬counts p l t+ak p w<=ak p p.2.1:=by rw[<-e1];assumption
    have ha:ask p l t w=(l,false,(max 0 (ak p p.2.1 - counts p l t)).tdiv (ak p 1),2199023255552,wait p l t 0):=by
     unfold ask;rw[Z0 Kn];simp only[ZY hn,decide_eq_false hn,Z0 hh]
    (refine ab.q (cB p l t h1 h5 (by omega)) [] fun _ _=>Wp _ ?_;(repeat' first|exact tv|apply pr|intro hh));(refine ab.q (dt p h1 1 (by omega)) [] fun _ _=>Wp _ ?_;(repeat' first|exact tv|apply pr|intro hh));all_goals first|(exact Ob.mk (by simp only[];omega))|skip
    (refine ab.q (dG p l t 0 h1 h5 (by omega)) [] fun _ _=>Wp _ ?_;(repeat' first|exact tv|apply pr|intro hh));(refine ae.w () [] _ ?_;(repeat' first|exact tv|apply pr));all_goals rw[ha]
    .exact decide_eq_false hn
    .exact kO (by omega) qk Ko.1
   .have hn:¬counts p l t+ak p w<=ak p p.2.1:=by rw[<-e1];assumption
    have ha:ask p l t w=(l,false,(max 0 (ak p p.2.1 - counts p l t)).tdiv (ak p 1),wait p l t (ak p p.2.1 - ak p w),wait p l t 0):=by
     unfold ask;rw[Z0 Kn];simp only[ZY hn,decide_eq_false hn,ZY hh]
    (refine ab.q (dt p h1 w hw) [] fun _ _=>Wp _ ?_;(repeat' first|exact tv|apply pr|intro hh));simp only[e3];(refine ab.q (dG p l t (ak p p.2.1 - ak p w) h1 h5 (by omega)) [] fun _ _=>Wp _ ?_;(repeat' first|exact tv|apply pr|intro hh));(refine ab.q (cB p l t h1 h5 (by omega)) [] fun _ _=>Wp _ ?_;(repeat' first|exact tv|apply pr|intro hh));(refine ab.q (dt p h1 1 (by omega)) [] fun _ _=>Wp _ ?_;(repeat' first|exact tv|apply pr|intro hh));all_goals first|(exact Ob.mk (by simp only[];omega))|skip
    (refine ab.q (dG p l t 0 h1 h5 (by omega)) [] fun _ _=>Wp _ ?_;(repeat' first|exact tv|apply pr|intro hh));(refine ae.w () [] _ ?_;(repeat' first|exact tv|apply pr));all_goals rw[ha]
    .exact decide_eq_false hn
    .exact kO (by omega) qk Ko.1
   .refine ab.gU 3 ?_ (cB p l t h1 h5 (by omega)).aA
    (conv=>whnf);simp only[e5];have ha:ask p l t w=(l++[(t,w)],true,(max 0 (ak p p.2.1 - counts p (l++[(t,w)]) t)).tdiv (ak p 1),0,wait p (l++[(t,w)]) t 0):=by
     unfold ask;rw[Z0 Kn];simp only[Z0 hh,decide_eq_true hh]
    (refine ab.q (cB p (l++[(t,w)]) t h1 k9 (by omega)) [] fun _ _=>Wp _ ?_;(repeat' first|exact tv|apply pr|intro hh));(refine ab.q (dt p h1 1 (by omega)) [] fun _ _=>Wp _ ?_;(repeat' first|exact tv|apply pr|intro hh));all_goals first|(exact Ob.mk (by simp only[];omega))|skip
    (refine ab.q (dG p (l++[(t,w)]) t 0 h1 k9 (by omega)) [] fun _ _=>Wp _ ?_;(repeat' first|exact tv|apply pr|intro hh));(refine ae.w () [] _ ?_;(repeat' first|exact tv|apply pr));all_goals rw[ha]
    .exact decide_eq_true hh
    .exact kO (by omega) Ox Ko.1
   .have hn:¬counts p l t+ak p w<=ak p p.2.1:=by rw[<-e1];assumption
    have ha:ask p l t w=(l,false,(max 0 (ak p p.2.1 - counts p l t)).tdiv (ak p 1),2199023255552,wait p l t 0):=by
     unfold ask;rw[Z0 Kn];simp only[ZY hn,decide_eq_false hn,Z0 hh]
    (refine ab.q (cB p l t h1 h5 (by omega)) [] fun _ _=>Wp _ ?_;(repeat' first|exact tv|apply pr|intro hh));(refine ab.q (dt p h1 1 (by omega)) [] fun _ _=>Wp _ ?_;(repeat' first|exact tv|apply pr|intro hh));all_goals first|(exact Ob.mk (by simp only[];omega))|skip
    (refine ab.q (dG p l t 0 h1 h5 (by omega)) [] fun _ _=>Wp _ ?_;(repeat' first|exact tv|apply pr|intro hh));(refine ae.w () [] _ ?_;(repeat' first|exact tv|apply pr));all_goals rw[ha]
    .exact decide_eq_false hn
    .exact kO (by omega) qk Ko.1
   .have hn:¬counts p l t+ak p w<=ak p p.2.1:=by rw[<-e1];assumption
    have ha:ask p l t w=(l,false,(max 0 (ak p p.2.1 - counts p l t)).tdiv (ak p 1),wait p l t (ak p p.2.1 - ak p w),wait p l t 0):=by
     unfold ask;rw[Z0 Kn];simp only[ZY hn,decide_eq_false hn,ZY hh]
    (refine ab.q (dt p h1 w hw) [] fun _ _=>Wp _ ?_;(repeat' first|exact tv|apply pr|intro hh));simp only[e3];(refine ab.q (dG p l t (ak p p.2.1 - ak p w) h1 h5 (by omega)) [] fun _ _=>Wp _ ?_;(repeat' first|exact tv|apply pr|intro hh));(refine ab.q (cB p l t h1 h5 (by omega)) [] fun _ _=>Wp _ ?_;(repeat' first|exact tv|apply pr|intro hh));(refine ab.q (dt p h1 1 (by omega)) [] fun _ _=>Wp _ ?_;(repeat' first|exact tv|apply pr|intro hh));all_goals first|(exact Ob.mk (by simp only[];omega))|skip
    (refine ab.q (dG p l t 0 h1 h5 (by omega)) [] fun _ _=>Wp _ ?_;(repeat' first|exact tv|apply pr|intro hh));(refine ae.w () [] _ ?_;(repeat' first|exact tv|apply pr));all_goals rw[ha]
    .exact decide_eq_false hn
    .exact kO (by omega) qk Ko.1
   .refine ab.gU 3 ?_ (cB p l t h1 h5 (by omega)).aA
    (conv=>whnf);simp only[e5];have ha:ask p l t w=(l++[(t,w)],true,(max 0 (ak p p.2.1 - counts p (l++[(t,w)]) t)).tdiv (ak p 1),0,wait p (l++[(t,w)]) t 0):=by
     unfold ask;rw[Z0 Kn];simp only[Z0 hh,decide_eq_true hh]
    (refine ab.q (cB p (l++[(t,w)]) t h1 k9 (by omega)) [] fun _ _=>Wp _ ?_;(repeat' first|exact tv|apply pr|intro hh));(refine ab.q (dt p h1 1 (by omega)) [] fun _ _=>Wp _ ?_;(repeat' first|exact tv|apply pr|intro hh));all_goals first|(exact Ob.mk (by simp only[];omega))|skip
    (refine ab.q (dG p (l++[(t,w)]) t 0 h1 k9 (by omega)) [] fun _ _=>Wp _ ?_;(repeat' first|exact tv|apply pr|intro hh));(refine ae.w () [] _ ?_;(repeat' first|exact tv|apply pr));all_goals rw[ha]
    .exact decide_eq_true hh
    .exact kO (by omega) Ox Ko.1
   .have hn:¬counts p l t+ak p w<=ak p p.2.1:=by rw[<-e1];assumption
    have ha:ask p l t w=(l,false,(max 0 (ak p p.2.1 - counts p l t)).tdiv (ak p 1),2199023255552,wait p l t 0):=by
     unfold ask;rw[Z0 Kn];simp only[ZY hn,decide_eq_false hn,Z0 hh]
    (refine ab.q (cB p l t h1 h5 (by omega)) [] fun _ _=>Wp _ ?_;(repeat' first|exact tv|apply pr|intro hh));(refine ab.q (dt p h1 1 (by omega)) [] fun _ _=>Wp _ ?_;(repeat' first|exact tv|apply pr|intro hh));all_goals first|(exact Ob.mk (by simp only[];omega))|skip
    (refine ab.q (dG p l t 0 h1 h5 (by omega)) [] fun _ _=>Wp _ ?_;(repeat' first|exact tv|apply pr|intro hh));(refine ae.w () [] _ ?_;(repeat' first|exact tv|apply pr));all_goals rw[ha]
    .exact decide_eq_false hn
    .exact kO (by omega) qk Ko.1
   .have hn:¬counts p l t+ak p w<=ak p p.2.1:=by rw[<-e1];assumption
    have ha:ask p l t w=(l,false,(max 0 (ak p p.2.1 - counts p l t)).tdiv (ak p 1),wait p l t (ak p p.2.1 - ak p w),wait p l t 0):=by
     unfold ask;rw[Z0 Kn];simp only[ZY hn,decide_eq_false hn,ZY hh]
    (refine ab.q (dt p h1 w hw) [] fun _ _=>Wp _ ?_;(repeat' first|exact tv|apply pr|intro hh));simp only[e3];(refine ab.q (dG p l t (ak p p.2.1 - ak p w) h1 h5 (by omega)) [] fun _ _=>Wp _ ?_;(repeat' first|exact tv|apply pr|intro hh));(refine ab.q (cB p l t h1 h5 (by omega)) [] fun _ _=>Wp _ ?_;(repeat' first|exact tv|apply pr|intro hh));(refine ab.q (dt p h1 1 (by omega)) [] fun _ _=>Wp _ ?_;(repeat' first|exact tv|apply pr|intro hh));all_goals first|(exact Ob.mk (by simp only[];omega))|skip
    (refine ab.q (dG p l t 0 h1 h5 (by omega)) [] fun _ _=>Wp _ ?_;(repeat' first|exact tv|apply pr|intro hh));(refine ae.w () [] _ ?_;(repeat' first|exact tv|apply pr));all_goals rw[ha]
    .exact decide_eq_false hn
    .exact kO (by omega) qk Ko.1
 .have ha:ask p l t w=(l,false,0,0,0):=by
   unfold ask;rw[hh,Bool.false_and];rfl
  (refine ae.w () [] _ ?_;(repeat' first|exact tv|apply pr));all_goals rw[ha]
theorem Kp (p:ay) (l:List bc) (t w:Int):(ask p l t w).1.length<=l.length+1:=by
 unfold ask;split
 .simp only[];split <;> simp
 .simp
end Go.Proofs.YthnefnlhcijekaaGreat.Hi
namespace Go.Proofs.YthnefnlhcijekaaGreat.Ce
open Go Go.RowKit Fw Hi Po
theorem mS {p:ay} {c:Cell} (h:aD p c=true):-9223372036854775808<=c.2.1/\c.2.1<=9223372036854775807:=by
 obtain⟨hp,_⟩:=bp h;have hL:=hp.bK;have hW:=hp.aN;have N8:p.2.1*p.2.2.1<=1048576*1048576:=aaH hL.2 hW.2 (by omega) (by omega);rcases cX hp with k|k|k|k
 .have:=(ou k).1 h;omega
 .have:=(qL k).1 h;omega
 .have:=((iT k).1 h).level;omega
 .have:=((iU k).1 h).level;omega
end Go.Proofs.YthnefnlhcijekaaGreat.Ce
namespace Go.Proofs.YthnefnlhcijekaaGreat.Ce
open Go Go.RowKit Fw Hi Bt
def iX:List bc->List Int
 | []=>[]
 | h::r=>h.1::h.2::iX r
def pT (l:List Int):List Int:=l++List.replicate (16 - l.length) 0
def nh (l:List bc):List bc:=l++List.replicate (16 - l.length) (0,0)
def aC (c:Cell):List Int:=[c.1,c.2.1]++pT c.2.2.1++[(c.2.2.2.length:Int)]++iX (nh c.2.2.2)++[0]
structure rz (c:Cell):Prop where
 at_:0<=c.1/\c.1<=1099511627776
 level:0<=c.2.1/\c.2.1<=1099511627776
 Bg:c.2.2.1.length<=16
 y0:∀ x∈c.2.2.1,0<=x/\x<=1048576
 hlen:c.2.2.2.length<=16
 fM:∀ h∈c.2.2.2,(0<=h.1/\h.1<=1099511627776)/\0<=h.2/\h.2<=16
theorem tZ (l:List Int) (n:Nat):times l (n+1)=l++times l n:=by simp[times,acT]
theorem zm:∀ {l:List Int},(∀ x∈l,0<=x/\x<=1048576)->Fit (times [21] l.length) l
 | [],_=>Fit.nil
 | x::r,h=>by
  have h1:=h x (Z7 ..);rw[Z9,tZ];exact Fit.mk (by decide) ⟨h1.1,by show x.toNat<2097152;omega⟩ (zm fun y hy=>h y (Z5 _ hy))
theorem zn:∀ {l:List bc},(∀ h∈l,(0<=h.1/\h.1<=1099511627776)/\0<=h.2/\h.2<=16)->Fit (times [41,5] l.length) (iX l)
 | [],_=>Fit.nil
 | x::r,h=>by
  have h1:=h x (Z7 ..);rw[Z9,tZ];exact Fit.mk (by decide) ⟨h1.1.1,by show x.1.toNat<2199023255552;omega⟩ (Fit.mk (by decide) ⟨h1.2.1,by show x.2.toNat<32;omega⟩ (zn fun y hy=>h y (Z5 _ hy)))
theorem kb {l:List Int} (h:l.length<=16):(pT l).length=16:=by
 rw[pT,aab,aaz];omega
theorem pU {l:List bc} (h:l.length<=16):(nh l).length=16:=by
 rw[nh,aab,aaz];omega
theorem mT:∀ l:List bc,(iX l).length=2*l.length
 | []=>rfl
 | h::r=>by rw[iX,Z9,Z9,Z9,mT r];omega
theorem zo {c:Cell} (h:rz c):(aC c).length=52:=by
 have h1:=kb h.Bg;have h2:=mT (nh c.2.2.2);have h3:=pU h.hlen;simp only[aC,aab,Z9,aay];omega
theorem pV {c:Cell} (h:rz c):Fit bL (aC c):=by
 have h1:Fit (times [21] 16) (pT c.2.2.1):=by
  have:=zm (l:=pT c.2.2.1) fun x hx=>by
   rcases aaD.1 hx with hx|hx
   .exact h.y0 x hx
   .rw[abP hx];omega
  rwa [kb h.Bg]at this
 have h2:Fit (times [41,5] 16) (iX (nh c.2.2.2)):=by
  have:=zn (l:=nh c.2.2.2) fun x hx=>by
   rcases aaD.1 hx with hx|hx
   .exact h.fM x hx
   .rw[abP hx];decide
  rwa [pU h.hlen]at this
 have ha:=h.at_;have hl:=h.level;have hh:=h.hlen;exact(((Fit.mk (w:=41) (by decide) ⟨ha.1,by show c.1.toNat<2199023255552;omega⟩ (Fit.mk (w:=41) (by decide) ⟨hl.1,by show c.2.1.toNat<2199023255552;omega⟩ Fit.nil)).append h1).append (Fit.mk (w:=5) (by decide) ⟨Int.natCast_nonneg _,by show((c.2.2.2.length:Int)).toNat<32;omega⟩ Fit.nil) |>.append h2).append (Fit.mk (w:=57) (v:=0) (by decide) (by decide) Fit.nil)
def dB (c:Cell):Nat:=jx bL (aC c)
theorem qO {c:Cell} (h:rz c) {i:Nat} (hi:i<16):(aC c).getD (2+i) 0=c.2.2.1.getD i 0:=by
 have hl:=kb h.Bg;have e:aC c=[c.1,c.2.1]++(pT c.2.2.1++([(c.2.2.2.length:Int)]++iX (nh c.2.2.2)++[0])):=by simp[aC]
 rw[e,dU,ZY (by simp),dU,Z0 (by simp;omega)];rw[show 2+i - [c.1,c.2.1].length=i by simp,pT,dU];split
 .rfl
 .rename_i hq
  rw[ZZ,aaC,ZZ,aat (by omega)];split <;> rfl
theorem HW {c:Cell} (h:rz c):(aC c).getD 18 0=c.2.2.2.length:=by
 have hl:=kb h.Bg;have e:aC c=([c.1,c.2.1]++pT c.2.2.1)++((c.2.2.2.length:Int)::(iX (nh c.2.2.2)++[0])):=by simp[aC]
 rw[e,dU,ZY (by simp;omega),show 18 - ([c.1,c.2.1]++pT c.2.2.1).length=0 by simp;omega];rfl
theorem zp:∀ {l:List bc} {i:Nat},(iX l).getD (2*i) 0=(l.getD i (0,0)).1/\(iX l).getD (2*i+1) 0=(l.getD i (0,0)).2
 | [],i=>by simp[iX]
 | h::r,0=>⟨rfl,rfl⟩
 | h::r,i+1=>by
  have ih:=zp (l:=r) (i:=i);rw[iX,show 2*(i+1)=2*i+1+1 by omega,aaK,aaK,aaK,aaK,aaK];exact ih
theorem Kq {l:List bc} {i:Nat}:(nh l).getD i (0,0)=l.getD i (0,0):=by
 rw[nh,ZZ,aau];split
 .rfl
 .rw[aaC,ZZ,aat (by omega)]
  split <;> rfl
theorem mU {c:Cell} (h:rz c) {i:Nat} (hi:i<16):(aC c).getD (19+2*i) 0=(c.2.2.2.getD i (0,0)).1/\(aC c).getD (20+2*i) 0=(c.2.2.2.getD i (0,0)).2:=by
 have hl:=kb h.Bg;have zZ:=pU h.hlen;have Qm:=mT (nh c.2.2.2);have e:aC c=([c.1,c.2.1]++pT c.2.2.1++[(c.2.2.2.length:Int)])++(iX (nh c.2.2.2)++[0]):=by simp[aC]
 have el:([c.1,c.2.1]++pT c.2.2.1++[(c.2.2.2.length:Int)]).length=19:=by simp;omega
 have hv:=zp (l:=nh c.2.2.2) (i:=i);rw[Kq]at hv;constructor
 .rw[e,dU,ZY (by omega),el,show 19+2*i - 19=2*i by omega,dU,Z0 (by omega)];exact hv.1
 .rw[e,dU,ZY (by omega),el,show 20+2*i - 19=2*i+1 by omega,dU,Z0 (by omega)];exact hv.2
theorem zq {a L:Int}:∀ (l:List bc) (last:Int),a6 a L last l=true->(l.length:Int)<=bJ l
 | [],_,_=>aad _
 | h::r,last,hm=>by
  simp only[a6,aai,decide_eq_true_eq]at hm;have:=zq r h.1 hm.2;rw[j4,Z9];omega
theorem qP {p:ay} {c:Cell} (h:aD p c=true):rz c:=by
 obtain⟨hp,h0,h1⟩:=bp h;have hL:=hp.bK;have hW:=hp.aN;have N8:p.2.1*p.2.2.1<=1048576*1048576:=aaH hL.2 hW.2 (by omega) (by omega);rcases cX hp with k|k|k|k
 .have g:=(ou k).1 h
  refine⟨⟨h0,h1⟩,⟨by omega,by omega⟩,?_,?_,?_,?_⟩
  .rw[g.2.2.2.2.1];decide
  .rw[g.2.2.2.2.1];simp
  .rw[g.2.2.2.2.2];decide
  .rw[g.2.2.2.2.2];simp
 .have g:=(qL k).1 h
  refine⟨⟨h0,h1⟩,⟨by omega,by omega⟩,?_,?_,?_,?_⟩
  .rw[g.2.2.2.2.1];decide
  .rw[g.2.2.2.2.1];simp
  .rw[g.2.2.2.2.2];decide
  .rw[g.2.2.2.2.2];simp
 .have g:=(iT k).1 h
  have hB:=cm hp k;have hv:=g.val;refine⟨⟨h0,h1⟩,⟨by rw[g.level];omega,by rw[g.level];omega⟩,?_,fun x hx=>?_,?_,?_⟩
  .rcases g.len with e|e
   .rw[e];decide
   .omega
  .have:=hv x hx
   omega
  .rw[g.fM];decide
  .rw[g.fM];simp
 .have g:=(iU k).1 h
  have hl:=zq _ _ g.go;have hs:=g.sum;have hx:=hp.N5 k;refine⟨⟨h0,h1⟩,⟨by rw[g.level];omega,by rw[g.level];omega⟩,?_,?_,by omega,fun x hx=>?_⟩
  .rw[g.y0];decide
  .rw[g.y0];simp
  .have:=cd _ _ g.go x hx
   omega
def cellOf (p:ay) (v:List Int):Cell:=(v.getD 0 0,v.getD 1 0,(if p.1=3 then(List.range (min (max p.2.2.2 0) 16).toNat).map (fun i=>v.getD (2+i) 0)else[]),(List.range (min (v.getD 18 0) 16).toNat).map fun i=>(v.getD (19+2*i) 0,v.getD (20+2*i) 0))
def ed (p:ay) (w:List Int):Cell×Bool:=if w.length=19/\aD p (cellOf p (gO bL (numOf w)))=true/\ax 19 (dB (cellOf p (gO bL (numOf w))))=w then(cellOf p (gO bL (numOf w)),true)else((0,0,[],[]),false)
def norm (p:ay) (c:Cell):Cell:=(c.1,c.2.1,(if p.1=3 then(List.range p.2.2.2.toNat).map (fun i=>c.2.2.1.getD i 0)else[]),c.2.2.2)
theorem zr {p:ay} {c:Cell} (h:aD p c=true):cellOf p (aC c)=norm p c:=by
 have hk:=qP h;obtain⟨hp,_⟩:=bp h;have hh:(List.range (min ((aC c).getD 18 0) 16).toNat).map (fun i=>((aC c).getD (19+2*i) 0,(aC c).getD (20+2*i) 0))=c.2.2.2:=by
  rw[HW hk];have hl:=hk.hlen;rw[show(min (c.2.2.2.length:Int) 16).toNat=c.2.2.2.length by omega];apply ada (by simp);intro i h1 h2;have hv:=mU hk (i:=i) (by omega);rw[List.getElem_map,List.getElem_range,hv.1,hv.2,ZZ,Z1 h2];rfl
 suffices hs:(if p.1=3 then(List.range (min (max p.2.2.2 0) 16).toNat).map (fun i=>(aC c).getD (2+i) 0)else[])=if p.1=3 then(List.range p.2.2.2.toNat).map (fun i=>c.2.2.1.getD i 0)else[] by
  unfold cellOf norm;rw[hh,hs];rfl
 by_cases k:p.1=3
 .rw[Z0 k,Z0 k]
  have hB:=cm hp k;rw[show(min (max p.2.2.2 0) 16).toNat=p.2.2.2.toNat by omega];refine abe fun i hi=>?_;rw[qO hk (by have:=abu.1 hi;omega)]
 .rw[ZY k,ZY k]
theorem norm_eq {p:ay} {c:Cell} (h:aD p c=true):norm p c=c\/(p.1=3/\c.2.2.1=[]/\norm p c=(c.1,c.2.1,List.replicate p.2.2.2.toNat 0,c.2.2.2)):=by
 obtain⟨hp,_⟩:=bp h;obtain⟨a,l,s,hs⟩:=c;rcases cX hp with k|k|k|k
 .have g:=((ou k).1 h).2.2.2.2.1
  simp only[]at g;left;unfold norm;rw[ZY (by omega),g]
 .have g:=((qL k).1 h).2.2.2.2.1
  simp only[]at g;left;unfold norm;rw[ZY (by omega),g]
 .have g:=((iT k).1 h).len
  simp only[]at g;unfold norm;rw[Z0 k];rcases g with e|e
  .right
   refine⟨k,e,?_⟩;simp only[e];congr 3;apply ada (by simp);intro i h1 h2;simp
  .left
   simp only[];rw[show p.2.2.2.toNat=s.length by omega,<-tR s]
 .have g:=((iU k).1 h).y0
  simp only[]at g;left;unfold norm;rw[ZY (by omega),g]
theorem Ev {p:ay} {c:Cell} (h:aD p c=true):aC (norm p c)=aC c:=by
 obtain⟨hp,_⟩:=bp h;rcases norm_eq h with e|⟨k,e,e2⟩
 .rw[e]
 .rw[e2]
  have hB:=cm hp k;unfold aC;simp only[e];congr 4;unfold pT;rw[aaz,List.replicate_append_replicate,aay,ab3];congr 1;omega
theorem kc {p:ay} {c:Cell} (h:aD p c=true):aD p (norm p c)=true:=by
 obtain⟨hp,h0,h1⟩:=bp h;rcases norm_eq h with e|⟨k,e,e2⟩
 .rw[e];exact h
 .rw[e2]
  have g:=(iT k).1 h;have hB:=cm hp k;have hL:=hp.bK;refine(iT k).2 ⟨hp,g.time,g.level,g.fM,.inr ?_,?_,?_,fun j _=>?_⟩
  .simp only[aaz];omega
  .intro x hx
   rw[abP hx];omega
  .simp;omega
  .simp[ZZ,aaC]
   split <;> rfl
theorem Bh {p:ay} {c:Cell} (h:aD p c=true) (t:Int):aJ p (norm p c) t=aJ p c t/\bF p (norm p c) t=bF p c t:=by
 rcases norm_eq h with e|⟨k,e,e2⟩
 .rw[e];exact⟨rfl,rfl⟩
 .have ea:atR p (norm p c) t=atR p c t:=by
   unfold atR;refine abe fun j hj=>?_;rw[e2];simp only[e];congr 1;simp[ZZ,aaC];split <;> rfl
  unfold aJ bF;simp only[ZY (show¬p.1=1 by omega),ZY (show¬p.1=2 by omega),ZY (show¬(p.1=1\/p.1=2) by omega),Z0 k,ea];exact⟨trivial,trivial⟩
theorem Ew {p:ay} {c:Cell} (h:aD p c=true):bm p (norm p c)=bm p c:=by
 unfold bm;rw[kc h,h,show(norm p c).1=c.1 from rfl,(Bh h _).1]
theorem jL:∀ w∈bL,0<=w/\w<=64:=by decide
theorem Bi:bL.sum=1216:=by decide
set_option exponentiation.threshold 2000 in
theorem Ku {c:Cell} (h:rz c):dB c<2 ^ (64*19):=by
 have:=zg (pV h) bL.length (Z8 _);rw[aac,(pV h).1,aac,Bi]at this;exact this
theorem zt {p:ay} {c:Cell} (h:aD p c=true):ed p (ax 19 (dB c))=(norm p c,true):=by
 have hk:=qP h;have e:gO bL (numOf (ax 19 (dB c)))=aC c:=by
  rw[vo (Ku hk)];exact vL (pV hk)
 unfold ed;rw[e,zr h,Z0];refine⟨br _ _,kc h,?_⟩;unfold dB;rw[Ev h]
end Go.Proofs.YthnefnlhcijekaaGreat.Ce
namespace Go.Proofs.YthnefnlhcijekaaGreat.En
open Go Go.RowKit Fw Hi Ce
theorem xo {p:ay} {h0 h:List bc} {t w:Int} (hp:aQ p) (hw:0<=w) (hc:∀ t',t<=t'->counts p h0 t'=counts p h t'):∀ t',t<=t'->counts p (h0++[(t,w)]) t'=counts p (h++[(t,w)]) t':=by
 intro t' ht;have h1:=hc t' ht;have h2:=hc t (aad _);unfold counts at h1 h2 ⊢;have hL:=hp.bK;by_cases k:p.1=1
 .simp only[Z0 k]at h1 h2 ⊢
  have hD:0<=p.2.1*(t' - t):=aaw (by omega) (by omega);have hW:=hp.aN;have WN:0<=w*p.2.2.1:=aaw hw (by omega);rw[(j8 p hD (h0++[(t,w)])).2.1,(j8 p hD (h++[(t,w)])).2.1,(pL p t w WN h0).2,(pL p t w WN h).2,h2]
 .simp only[ZY k]at h1 h2 ⊢
  rw[iu,iu,h1]
theorem Ey {p:ay} {h0 h:List bc} {t w:Int} (f0:Fit p h0 t) (f:Fit p h t) (hw:aU w=true) (hc:∀ t',t<=t'->counts p h0 t'=counts p h t') :
  (Hi.ask p h0 t w).2=(Hi.ask p h t w).2/\(∀ t',t<=t'->counts p (Hi.ask p h0 t w).1 t'=counts p (Hi.ask p h t w).1 t'):=by
 have O7:1<=w/\w<=1048576:=by simpa [aU]using hw
 have HX:∀ {a b:List bc},(∀ t',t<=t'->counts p a t'=counts p b t')->∀ m,Hi.wait p a t m=Hi.wait p b t m:=fun {a b} rB m=>by
  unfold Hi.wait;rw[kJ,kJ];exact me (fun k=>rB (t+(k:Int)) (by omega)) _ _
 have hs:=xo f.jK (by omega:0<=w) hc;unfold Hi.ask;rw[f0.fits,f.fits,hw];simp only[acS,if_true];rw[hc t (aad _)];by_cases hq:counts p h t+ak p w<=ak p p.2.1
 .simp only[Z0 hq]
  exact⟨by rw[hs t (aad _),HX hs],hs⟩
 .simp only[ZY hq]
  exact⟨by rw[hc t (aad _),HX hc,HX hc],hc⟩
theorem HY {p:ay} {c:Cell} {h:List bc} (r:Rel p c h):Rel p (norm p c) h:=by
 rcases norm_eq r.may with e|⟨k,e1,e⟩
 .rw[e];exact r
 .have hm:=kc r.may
  rw[e]at hm ⊢;refine⟨hm,r.fit,fun k2=>(by omega),fun _ j hj=>?_,fun k4=>(by omega)⟩;have:=r.k3 k j hj;rw[e1]at this;show(List.replicate p.2.2.2.toNat (0:Int)).getD j 0=_;rw[<-(this:([]:List Int).getD j 0=_)];rw[ZZ,aaC,Z0 hj];rfl
structure ct (p:ay) (c:Cell) (h:List bc) (now:Int) (n:Nat):Prop where
 ex:∃ h0,Rel p c h0/\h0.length<=n/\∀ t,now<=t->counts p h0 t=counts p h t
 fit:Fit p h now
 at_:c.1<=now
 len:h.length<=n
section
variable {p:ay} {c:Cell} {h:List bc} {now t w:Int} {n m:Nat}
theorem ct.may (T:ct p c h now n):aD p c=true:=by obtain⟨h0,r,_⟩:=T.ex;exact r.may
theorem ct.later (T:ct p c h now n) (h1:now<=t) (h2:t<=1099511627776):ct p c h t n:=by
 obtain⟨h0,r,hl,hc⟩:=T.ex;exact⟨⟨h0,r,hl,fun t' ht=>hc t' (by omega)⟩,T.fit.later h1 h2,by have:=T.at_;omega,T.len⟩
theorem ct.up (T:ct p c h now n) (hn:n<=m):ct p c h now m:=by
 obtain⟨h0,r,hl,hc⟩:=T.ex;exact⟨⟨h0,r,by omega,hc⟩,T.fit,T.at_,by have:=T.len;omega⟩
theorem ct.norm (T:ct p c h now n):ct p (norm p c) h now n:=by
 obtain⟨h0,r,hl,hc⟩:=T.ex;refine⟨⟨h0,HY r,hl,hc⟩,T.fit,?_,T.len⟩;have ha:=T.at_;rcases norm_eq r.may with e|⟨k,e1,e⟩
 .rw[e];exact ha
 .rw[e];exact ha
theorem ct.bF (T:ct p c h now n) (ht:now<=t):Ce.bF p c t=counts p h t:=by
 obtain⟨h0,r,hl,hc⟩:=T.ex;rw[r.bF (by have:=T.at_;omega),hc t ht]
theorem ct.neutral (T:ct p c h now n):dA p c now=Hi.neutral p h now:=by
 rw[abX,mg T.may T.at_,T.bF (aad _)];unfold Hi.neutral;rw[T.fit.fits];simp
theorem ct.zero (f:Fit p h now) (h0:counts p h now=0) (hl:h.length<=n):ct p (0,0,[],[]) h now n:=by
 refine⟨⟨[],Rel.nil f.jK,by simp,fun t ht=>?_⟩,f,f.pos,hl⟩;have h1:counts p [] t=0:=by unfold counts;split <;> rfl
 rw[h1];unfold counts at h0 ⊢;have hL:=f.jK.bK;have hD:0<=p.2.1*(t - now):=aaw (by omega) (by omega);by_cases k:p.1=1
 .simp only[Z0 k]at h0 ⊢
  rw[(j8 p hD h).2.1,h0];omega
 .simp only[ZY k]at h0 ⊢
  refine(kH h fun x hx=>?_).symm;have WO:=f.fM.tick x hx;have Rp:=f.fM.weight x hx;have hq:cq p now x.1=false:=by
   cases hc:cq p now x.1 with
   | false=>rfl
   | true =>
    exfalso;have:∀ l:List bc,(∀ y∈l,1<=y.2)->x∈l->1<=bB (cq p now) l:=by
     intro l;induction l with
     | nil=>intro _ h;cases h
     | cons y r ih =>
      intro hw hm;have hr:0<=bB (cq p now) r:=by
       clear ih hm;induction r with
       | nil=>exact aad _
       | cons z s YW =>
        have:=YW (fun y hy=>hw y (by rcases aaj.1 hy with e|e <;> simp[e]));have hz:=hw z (by simp);simp only[bB];split <;> omega
      simp only[bB];rcases aaj.1 hm with e|e
      .subst e;rw[Z0 hc];have:=hw x (Z7 ..);omega
      .have:=ih (fun y hy=>hw y (Z5 _ hy)) e
       have hy:=hw y (Z7 ..);split <;> omega
    have:=this h (fun y hy=>(f.fM.weight y hy).1) hx;omega
  unfold cq at hq ⊢;have hs:=c6 f.jK;have WQ:=cR (s:=ar p) (by omega:0<=now) ht hs.1;split
  .rename_i k2
   rw[Z0 k2]at hq;have h3:=cR (s:=ar p) WO.1 WO.2 hs.1;simp only[decide_eq_false_iff_not]at hq ⊢;omega
  .rename_i k2
   rw[ZY k2]at hq;split
   .rename_i k3
    rw[Z0 k3]at hq;simp only[decide_eq_false_iff_not]at hq ⊢;omega
   .rename_i k3
    rw[ZY k3]at hq;simp only[decide_eq_false_iff_not]at hq ⊢;omega
theorem ct.ask (T:ct p c h now n) (hw:aU w=true) (hn:n<=999999) :
  (cW p c now w).2=(Hi.ask p h now w).2/\ct p (cW p c now w).1 (Hi.ask p h now w).1 now (n+1):=by
 obtain⟨h0,r,hl,hc⟩:=T.ex;have hb:=T.fit.below;have h1:=HA r T.at_ hb hw (by omega);have f0:Fit p h0 now:=r.fit.later T.at_ hb;have h2:=Ey f0 T.fit hw hc;have O7:1<=w/\w<=1048576:=by simpa [aU]using hw
 have hlen:∀ l:List bc,(Hi.ask p l now w).1.length<=l.length+1:=fun l=>by
  unfold Hi.ask;split
  .simp only[];split <;> simp
  .simp
 have nT:Fit p (Hi.ask p h now w).1 now:=by
  cases hv:(Hi.ask p h now w).2.1
  .rw[N6 hv];exact T.fit
  .obtain⟨_,_,h5,h6⟩:=J5 hv
   rw[h6];exact T.fit.snoc O7 (by have:=T.len;omega) h5
 refine⟨h1.1.trans h2.1,⟨⟨_,h1.2.1,?_,h2.2⟩,nT,by rw[h1.2.2];exact aad _,?_⟩⟩
 .have:=hlen h0;omega
 .have:=hlen h;have:=T.len;omega
end
abbrev Nm:=Int×List UInt8
abbrev bM:=Bool×ay×Int
def fy (n:Nm):Bool:=decide (0<=n.1) && decide (n.1<8) && !decide (n.2=[]) && decide (n.2.length<=32)
def aX (bk:List bM) (id:Int):bM:=bk.getD id.toNat (false,(0,0,0,0),0)
def cC (bk:List bM) (id:Int):Option (ay×Int):=if 0<=id/\id<8/\(aX bk id).1=true then some (aX bk id).2 else none
def zu (b:bM):Bool :=
 if b.2.2<0\/1073741824<b.2.2 then true else if b.1=true then decide (b.2.2=0) || !decide (aQ b.2.1)else !decide (b.2.1=(0,0,0,0))
structure ni (bk:List bM):Prop where
 len:bk.length=8
 one:∀ b∈bk,zu b=false
structure E1 where
 nm:Nm
 v:Int
 c:Cell
structure Ab where
 n:Nat
 now:Int
 bk:List bM
 ord:List Int
 bU:List Int
 cp:Int->Option E1
 due:Int->Option Int
def fO {α:Type} (f:Int->Option α) (h:Int) (v:Option α):Int->Option α:=fun j=>if j=h then v else f j
def cY (bk:List bM) (e:E1):Option ay:=match cC bk e.nm.1 with
 | some (p,v)=>if v=e.v then some p else none
 | none=>none
theorem cJ {bk:List bM} {e:E1} {p:ay}:cY bk e=some p↔cC bk e.nm.1=some (p,e.v):=by
 unfold cY;cases h:cC bk e.nm.1 with
 | none=>simp
 | some x =>
  obtain⟨q,v⟩:=x;simp only[];by_cases hv:v=e.v
  .rw[Z0 hv];simp[hv]
  .rw[ZY hv];simp[hv]
def ke:Int:=1099511627776
structure Inv (a:Ab):Prop where
 n:1<=a.n/\a.n<=64
 now:0<=a.now/\a.now<=ke
 bk:ni a.bk
 kg:a.ord.Nodup
 mem:∀ h,h∈a.ord↔(a.cp h).isSome=true
 pos:∀ h∈a.ord,0<=h/\h.tmod 64<a.n
 xI:∀ h∈a.ord,∀ h'∈a.ord,h.tmod 64=h'.tmod 64->h=h'
 E6:∀ h h' e e',a.cp h=some e->a.cp h'=some e'->e.nm=e'.nm->h=h'
 ok:∀ h e,a.cp h=some e->fy e.nm=true/\e.v<=(aX a.bk e.nm.1).2.2/\∀ p,cY a.bk e=some p->aD p e.c=true/\e.c.1<=a.now
 kP:a.bU.Nodup
 jy:∀ h∈a.bU,h∈a.ord
 nt:∀ h e,a.cp h=some e->cY a.bk e=none->h∈a.bU
 cur:∀ h e p,a.cp h=some e->cY a.bk e=some p->a.due (h.tmod 64)=some (min (bm p e.c) ke)\/(min (bm p e.c) ke<=a.now/\(bm p e.c<=a.now->h∈a.bU))
def cZ (a:Ab) (h:Int):Bool:=match a.cp h with
 | some e=>(match cY a.bk e with|some p=>!dA p (norm p e.c) a.now|none=>false)
 | none=>false
theorem pW {p:ay} {c:Cell} (h:aD p c=true) (t:Int):dA p (norm p c) t=dA p c t:=by
 unfold dA;rw[kc h,h,Ew h]
theorem pX {a:Ab} (I:Inv a) {h:Int}:cZ a h=true↔∃ e p,a.cp h=some e/\cY a.bk e=some p/\a.now<bm p e.c:=by
 unfold cZ;cases he:a.cp h with
 | none=>simp
 | some e =>
  simp only[];cases hp:cY a.bk e with
  | none =>
   constructor
   .intro h;cases h
   .rintro⟨e',p,h1,h2,_⟩;cases h1;rw[hp]at h2;cases h2
  | some p =>
   have hm:=((I.ok h e he).2.2 p hp).1;simp only[pW hm];unfold dA;rw[hm,ack];constructor
   .intro h;exact⟨e,p,rfl,hp,by simpa using h⟩
   .rintro⟨e',p',h1,h2,h3⟩;cases h1;rw[hp]at h2;cases h2;simpa using h3
structure Kt where
 n:Int
 now:Int
 bk:List bM
 L:List (Nm×List bc)
def kQ (x y:Nm):Prop:=x.1<y.1\/(x.1=y.1/\x.2<y.2)
instance (x y:Nm):Decidable (kQ x y):=inferInstanceAs (Decidable (_\/_))
def aY (L:List (Nm×List bc)) (nm:Nm):List bc:=match L with
 | []=>[]
 | x::r=>if kQ x.1 nm then aY r nm else if x.1=nm then x.2 else[]
structure WR (K:Kt):Prop where
 ord:K.L.Pairwise fun x y=>kQ x.1 y.1
 nm:∀ x∈K.L,fy x.1=true/\(cC K.bk x.1.1).isSome=true
structure Rel (a:Ab) (K:Kt) (N:Nat):Prop where
 n:K.n=a.n
 now:K.now=a.now
 bk:K.bk=a.bk
 zT:WR K
 tell:∀ h e p,a.cp h=some e->cY a.bk e=some p->ct p e.c (aY K.L e.nm) a.now N
 rQ:∀ nm p v,fy nm=true->cC a.bk nm.1=some (p,v)->(∀ h e,a.cp h=some e->e.nm=nm->e.v≠v)->ct p (0,0,[],[]) (aY K.L nm) a.now N
theorem ct.gone {p:ay} {c:Cell} {h:List bc} {now:Int} {n:Nat} (T:ct p c h now n) (he:bm p c<=now):ct p (0,0,[],[]) h now n:=by
 refine ct.zero T.fit ?_ T.len;rw[<-T.bF (aad _)];refine(mg T.may T.at_).1 ?_;unfold dA;rw[T.may];simpa using he
theorem ee {α:Type} (f:Int->Option α) (h:Int) (v:Option α):fO f h v h=v:=by unfold fO;rw[Z0 rfl]
theorem dK {α:Type} (f:Int->Option α) {h j:Int} (v:Option α) (e:j≠h):fO f h v j=f j:=by unfold fO;rw[ZY e]
def jz (a:Ab) (h:Int):Ab:={ a with ord:=a.ord.erase h,bU:=a.bU.erase h,cp:=fO a.cp h none,due:=fO a.due (h.tmod 64) none }
theorem fK {a:Ab} {h j:Int} {e:E1} (he:(jz a h).cp j=some e):j≠h/\a.cp j=some e:=by
 by_cases hj:j=h
 .subst hj;change fO a.cp j none j=_ at he;rw[ee]at he;cases he
 .exact⟨hj,by change fO a.cp h none j=_ at he;rwa [dK _ _ hj]at he⟩
theorem Inv.drop {a:Ab} (I:Inv a) {h:Int} (hh:h∈a.ord):Inv (jz a h):=by
 have bD:∀ j,j∈a.ord.erase h↔j∈a.ord/\j≠h:=fun j=>by rw[aaR I.kg];exact And.comm
 have HZ:∀ j,j∈a.bU.erase h↔j∈a.bU/\j≠h:=fun j=>by rw[aaR I.kP];exact And.comm
 refine⟨I.n,I.now,I.bk,I.kg.erase h,fun j=>?_,fun j hj=>I.pos j ((bD j).1 hj).1,fun j hj j' lg=>I.xI j ((bD j).1 hj).1 j' ((bD j').1 lg).1,fun j j' e e' h1 h2=>I.E6 j j' e e' (fK h1).2 (fK h2).2,
  fun j e he=>I.ok j e (fK he).2,I.kP.erase h,fun j hj=>?_,fun j e he hc=>?_,fun j e p he hc=>?_⟩
 .show j∈a.ord.erase h↔(fO a.cp h none j).isSome=true
  rw[bD,I.mem];by_cases hj:j=h
  .subst hj;rw[ee];simp
  .rw[dK _ _ hj];simp[hj]
 .have:=(HZ j).1 hj
  exact(bD j).2 ⟨I.jy j this.1,this.2⟩
 .obtain⟨h1,h2⟩:=fK he
  exact(HZ j).2 ⟨I.nt j e h2 hc,h1⟩
 .obtain⟨h1,h2⟩:=fK he
  have Py:j∈a.ord:=(I.mem j).2 (by rw[h2];rfl);have hd:(jz a h).due (j.tmod 64)=a.due (j.tmod 64):=dK _ _ fun e2=>h1 (I.xI j Py h hh e2);rw[hd];rcases I.cur j e p h2 hc with h3|⟨h3,h4⟩
  .exact .inl h3
  .exact .inr ⟨h3,fun h5=>(HZ j).2 ⟨h4 h5,h1⟩⟩
theorem Rel.drop {a:Ab} {K:Kt} {N:Nat} (R:Rel a K N) (I:Inv a) {h:Int} (hc:cZ a h=false):Rel (jz a h) K N:=by
 refine⟨R.n,R.now,R.bk,R.zT,fun j e p he hp=>R.tell j e p (fK he).2 hp,fun nm p v hn hb cy=>?_⟩;cases he:a.cp h with
 | none=>exact R.rQ nm p v hn hb fun j e h1=>cy j e (by show fO a.cp h none j=_;rw[dK _ _ (fun e2=>by subst e2;rw[he]at h1;cases h1)];exact h1)
 | some e =>
  by_cases RT:e.nm=nm
  .subst RT
   by_cases hv:e.v=v
   .subst hv
    have rR:=cJ.2 hb;have T:=R.tell h e p he rR;refine T.gone ?_;have h5:¬a.now<bm p e.c:=fun h6=>by
     rw[(pX I).2 ⟨e,p,he,rR,h6⟩]at hc;cases hc
    show bm p e.c<=a.now;omega
   .refine R.rQ _ p v hn hb fun j e2 h1 h2=>?_
    by_cases hj:j=h
    .subst hj;rw[he]at h1;cases h1;exact hv
    .exact cy j e2 (by show fO a.cp h none j=_;rw[dK _ _ hj];exact h1) h2
  .refine R.rQ nm p v hn hb fun j e2 h1 h2=>?_
   by_cases hj:j=h
   .subst hj;rw[he]at h1;cases h1;exact(RT h2).elim
   .exact cy j e2 (by show fO a.cp h none j=_;rw[dK _ _ hj];exact h1) h2
theorem Inv.tick {a:Ab} (I:Inv a) {t:Int} (h1:a.now<=t) (h2:t<=ke):Inv { a with now:=t }:=by
 have hn:=I.now;refine⟨I.n,⟨by show 0<=t;omega,h2⟩,I.bk,I.kg,I.mem,I.pos,I.xI,I.E6,fun h e he=>?_,I.kP,I.jy,I.nt,fun h e p he hp=>?_⟩
 .obtain⟨k1,k2,k3⟩:=I.ok h e he
  exact⟨k1,k2,fun p hp=>⟨(k3 p hp).1,by have:=(k3 p hp).2;show e.c.1<=t;omega⟩⟩
 .rcases I.cur h e p he hp with h3|⟨h3,h4⟩
  .exact .inl h3
  .refine .inr ⟨by show _<=t;omega,fun h5=>h4 ?_⟩
   have h5:bm p e.c<=t:=h5;unfold ke at *;omega
theorem Rel.tick {a:Ab} {K:Kt} {N:Nat} (R:Rel a K N) {t:Int} (h1:a.now<=t) (h2:t<=ke):Rel { a with now:=t } { K with now:=t } N :=
 ⟨R.n,rfl,R.bk,⟨R.zT.ord,R.zT.nm⟩,fun h e p he hp=>(R.tell h e p he hp).later h1 h2,fun nm p v hn hb cy=>(R.rQ nm p v hn hb cy).later h1 h2⟩
theorem Rel.up {a:Ab} {K:Kt} {N M:Nat} (R:Rel a K N) (h:N<=M):Rel a K M :=
 ⟨R.n,R.now,R.bk,R.zT,fun h' e p he hp=>(R.tell h' e p he hp).up h,fun nm p v hn hb cy=>(R.rQ nm p v hn hb cy).up h⟩
theorem Rel.only {a b:Ab} {K:Kt} {N:Nat} (R:Rel a K N) (hn:b.n=a.n) (hw:b.now=a.now) (hb:b.bk=a.bk) (he:b.cp=a.cp):Rel b K N:=by
 obtain⟨n1,w1,b1,o1,p1,e1,d1⟩:=a;obtain⟨n2,w2,b2,o2,p2,e2,d2⟩:=b;simp only at hn hw hb he;subst hn;subst hw;subst hb;subst he;exact⟨R.n,R.now,R.bk,R.zT,R.tell,R.rQ⟩
def tD (D:Int->Option Int) (now:Int):Int->Option Int:=fun id=>match D id with|some d=>if d<=now then none else some d|none=>none
theorem Inv.advance {a:Ab} (I:Inv a) {l:List Int} (eA:l.Nodup) (hs:∀ h∈l,h∈a.ord) (ho:∀ h∈a.bU,h∈l) (hf:∀ h∈a.ord,∀ d,a.due (h.tmod 64)=some d->d<=a.now->h∈l) :
  Inv { a with bU:=l,due:=tD a.due a.now }:=by
 refine⟨I.n,I.now,I.bk,I.kg,I.mem,I.pos,I.xI,I.E6,I.ok,eA,hs,fun h e he hc=>ho h (I.nt h e he hc),fun h e p he hc=>?_⟩;have hm:h∈a.ord:=(I.mem h).2 (by rw[he];rfl);rcases I.cur h e p he hc with h3|⟨h3,h4⟩
 .show tD a.due a.now (h.tmod 64)=_\/_
  unfold tD;rw[h3];simp only[];by_cases hd:min (bm p e.c) ke<=a.now
  .right;exact⟨hd,fun _=>hf h hm _ h3 hd⟩
  .rw[ZY hd];exact .inl rfl
 .exact .inr ⟨h3,fun h5=>ho h (h4 h5)⟩
theorem Inv.looked {a:Ab} (I:Inv a) {h:Int} (hc:cZ a h=true):Inv { a with bU:=a.bU.erase h }:=by
 obtain⟨e0,p0,k1,k2,k3⟩:=(pX I).1 hc;have HZ:∀ j,j∈a.bU.erase h↔j∈a.bU/\j≠h:=fun j=>by rw[aaR I.kP];exact And.comm
 refine⟨I.n,I.now,I.bk,I.kg,I.mem,I.pos,I.xI,I.E6,I.ok,I.kP.erase h,fun j hj=>I.jy j ((HZ j).1 hj).1,fun j e he Bj=>?_,fun j e p he Bj=>?_⟩
 .refine(HZ j).2 ⟨I.nt j e he Bj,fun e2=>?_⟩
  subst e2;rw[k1]at he;cases he;rw[k2]at Bj;cases Bj
 .refine(I.cur j e p he Bj).imp id fun k=>⟨k.1,fun h5=>(HZ j).2 ⟨k.2 h5,fun e2=>?_⟩⟩
  subst e2;rw[k1]at he;cases he;rw[k2]at Bj;cases Bj;have h5:bm p0 e0.c<=a.now:=h5;omega
theorem Inv.clean {a:Ab} (I:Inv a) (hp:a.bU=[]) (hd:∀ id d,a.due id=some d->a.now<d):∀ h∈a.ord,cZ a h=true:=by
 intro h hm;have hs:=(I.mem h).1 hm;cases he:a.cp h with
 | none=>rw[he]at hs;cases hs
 | some e =>
  cases hc:cY a.bk e with
  | none=>have:=I.nt h e he hc;rw[hp]at this;cases this
  | some p =>
   refine(pX I).2 ⟨e,p,he,hc,?_⟩;rcases I.cur h e p he hc with h3|⟨h3,h4⟩
   .have:=hd _ _ h3;omega
   .by_cases h5:bm p e.c<=a.now
    .have:=h4 h5;rw[hp]at this;cases this
    .omega
theorem hm:Tryz.prog.follows .mixedOrders=true:=by kernel_rfl
abbrev c7:Ty:=.pair .bool (.pair UI (.int .i64))
abbrev CW:TypeId:=188
def Oy (b:bM):AV:=.agg [.bool fun _=>b.1,.I b.2.1.1,.I b.2.1.2.1,.I b.2.1.2.2.1,.I b.2.1.2.2.2,.I b.2.2]
theorem oz (on:Bool) (p:ay) (v:Int):zu (on,p,v)=if v<0\/1073741824<v then true else if on=true then decide (v=0) || !decide (aQ p)else !decide (p=(0,0,0,0)):=rfl
theorem U3 (b:bM):MU Tryz.prog 204 [Oy b] [] (.bool fun _=>zu b) []:=by
 obtain⟨on,p,v⟩:=b;(refine aa.q Tryz.func204 rfl fun S aw=>Wa _ ?_;(repeat' first|exact tv|apply pr|intro hh));all_goals try ((refine ab.q (Po.iW p) [] fun _ _=>Wp _ ?_;(repeat' first|exact tv|apply pr|intro hh)))
 .have e:=oz on p v
  rw[Z0 (by omega)]at e;(refine ae.w () [] _ ?_;(repeat' first|exact tv|apply pr));exact e
 .have e:=oz on p v
  rw[ZY (by omega),Z0 ‹on=true›]at e;(refine ae.w () [] _ ?_;(repeat' first|exact tv|apply pr));rw[e];by_cases hp:aQ p
  .rw[Z0 hp];simp[hp,hh]
  .rw[ZY hp];simp[hp]
 .have e:=oz on p v
  rw[ZY (by omega),Z0 ‹on=true›]at e;(refine ae.w () [] _ ?_;(repeat' first|exact tv|apply pr));rw[e];simp[hh]
 .have e:=oz on p v
  rw[ZY (by omega),ZY (by rw[hh];simp)]at e;(refine ae.w () [] _ ?_;(repeat' first|exact tv|apply pr));rw[e];congr 1;rw[abX,mF _ rfl];simp[Prod.ext_iff]
 .have e:=oz on p v
  rw[Z0 (by omega)]at e;(refine ae.w () [] _ ?_;(repeat' first|exact tv|apply pr));exact e
theorem H0 (l:List bM) (hl:l.length<=1000) (ho:∀ b∈l,zu b=false):MU Tryz.prog 249 [.aL c7 fun _=>l,.fn (.func 204) [] []] [] (.I (-1)) []:=by
 (refine aa.q Tryz.func249 rfl fun S aw=>Wa _ ?_;(repeat' first|exact tv|apply pr|intro hh));refine aM.intro hm (X:=Nat) (fun i=>i<=l.length) (fun i=>l.length - i)
  (fun i=>[(8,.I (i:Int)),(7,.I (l.length:Int)),(6,.aL c7 fun _=>l),(0,.aL c7 fun _=>l),(1,.fn (.func 204) [] [])])
  (fun i=>[]) 0 [] ⟨rfl,rfl,?_,?_⟩ (aae _) ?_
 .exact Vc
 .exact Vc
 intro i hi;(refine Wa _ ?_;(repeat' first|exact tv|apply pr|intro hh));all_goals try exact Ob.mk ⟨by simp only[];omega,by simp only[];omega⟩
 .refine ab.q (U3 (l.getD i c7.bA)) [] fun _ _=>Wp _ ?_;repeat' first|exact tv|apply pr|intro hh
  .have hg:l.getD i c7.bA∈l:=by rw[ZZ,Z1 (by omega)];exact aax _
   rw[ho _ hg]at hh;cases hh
  .refine⟨i+1,[],⟨rfl,rfl,?_,?_⟩,by omega,by omega⟩
   .exact Vc
   .refine Vb _ ?_;repeat' first|exact tv|apply pr
    rw[wr (by omega)];omega
 .exact ae.z () []
theorem zv (l:List bM) (hl:l.length<=1000) (ho:∀ b∈l,zu b=false):MU Tryz.prog 203 [.aL c7 fun _=>l,.fn (.func 204) [] []] [] .ff []:=by
 (refine aa.q Tryz.func203 rfl fun S aw=>Wa _ ?_;(repeat' first|exact tv|apply pr|intro hh));(refine ab.q (H0 l hl ho) [] fun _ _=>Wp _ ?_;(repeat' first|exact tv|apply pr|intro hh));exact ae.z () []
theorem RU (bk:List bM) (h:ni bk):MU Tryz.prog 160 [.aL c7 fun _=>bk] [] .tt []:=by
 have hl:=h.len;(refine aa.q Tryz.func160 rfl fun S aw=>Wa _ ?_;(repeat' first|exact tv|apply pr|intro hh));all_goals try (exfalso;omega)
 (refine ab.q (zv bk (by omega) h.one) [] fun _ _=>Wp _ ?_;(repeat' first|exact tv|apply pr|intro hh));exact ae.z () []
theorem xp (bk:List bM) (h:ni bk) (id:Int):MU Tryz.prog 107 [.aL c7 fun _=>bk,.I id] [] (.bool fun _=>decide (0<=id/\id<8)) []:=by
 have hl:=h.len;(refine aa.q Tryz.func107 rfl fun S aw=>Wa _ ?_;(repeat' first|exact tv|apply pr|intro hh));(refine ab.q (RU bk h) [] fun _ _=>Wp _ ?_;(repeat' first|exact tv|apply pr|intro hh));all_goals refine ae.w () [] _ ?_;repeat' first|exact tv|apply pr
 .rw[decide_eq_decide];omega
 .simp;omega
theorem Kv (xs:List bM) (hl:xs.length<=100000):MU Tryz.prog 162 [.aL c7 fun _=>xs] [] (.vec 0 6 (fun _=>0) (fun _=>xs.length)) [.aq CW c7 fun _=>xs]:=by
 refine aa.q Tryz.func162 rfl fun S aw=>?_;(conv=>whnf)
 ((refine Wb _ ?_;(repeat' first|exact tv|apply pr|intro hh));all_goals(refine Wb _ ?_;(repeat' first|exact tv|apply pr|intro hh)))
 .have hx:xs=[]:=‹_=true->xs=[]› hh
  refine ae.nil CW c7 0 ?_;(conv=>whnf);(refine ae.w () [0] _ ?_;(repeat' first|exact tv|apply pr));all_goals simp[hx]
 .have hb:Tryz.t188.bytes<=1000:=by decide
  refine⟨⟨rfl,?_,?_⟩⟩
  .show 0+xs.length<=_
   omega
  .show(0+xs.length)*Tryz.t188.bytes<=_
   have:=Nat.mul_le_mul (show 0+xs.length<=100000 by omega) hb;omega
 .refine ae.w () [0] _ ?_;repeat' first|exact tv|apply pr
  all_goals simp
def CX (p:ay):Chunk:=.cells 27 [.I p.1,.I p.2.1,.I p.2.2.1,.I p.2.2.2]
theorem RV (xs:List bM) (i:Nat) (hi:i<xs.length) (p:ay):MU Tryz.prog 110 [.bg 0 6 (fun _=>i) 0,.ptr 1 0] [.row CW c7 fun _=>xs,CX p] (.bQ []) [.row CW c7 fun _=>xs.set i (true,p,IntKind.i64.wrap ((xs.getD i (false,(0,0,0,0),0)).2.2+1)),CX p]:=by
 (refine aa.q Tryz.func110 rfl fun S aw=>Wa _ ?_;(repeat' first|exact tv|apply pr|intro hh));all_goals refine ae.w () [0,1] _ ?_;repeat' first|exact tv|apply pr
 all_goals simp[hi,List.set_set,ZZ,Ty.bA]
def ie (bk:List bM) (id:Int) (p:ay):List bM×Int×Int :=
 if(0<=id/\id<8)/\aQ p then(if(aX bk id).2.2=1073741824 then(bk,0,4)else(bk.set id.toNat (true,p,(aX bk id).2.2+1),(aX bk id).2.2+1,0))else(bk,0,1)
def nj (bk:List bM) (id:Int):ay×Int×Int :=
 if 0<=id/\id<8 then(if(aX bk id).1=true then((aX bk id).2.1,(aX bk id).2.2,0)else((0,0,0,0),0,5))else((0,0,0,0),0,1)
theorem Kw {bk:List bM} (h:ni bk) {id:Int} (hi:0<=id/\id<8):zu (aX bk id)=false:=by
 have hl:=h.len;unfold aX;rw[ZZ,Z1 (by omega)];exact h.one _ (aax _)
theorem H2 {bk:List bM} (h:ni bk) {id:Int} (hi:0<=id/\id<8):0<=(aX bk id).2.2/\(aX bk id).2.2<=1073741824:=by
 have h1:=Kw h hi;cases hb:aX bk id with
 | mk on r =>
  obtain⟨p,v⟩:=r;rw[hb,oz]at h1;split at h1
  .cases h1
  .simp only[];omega
theorem Ez (bk:List bM) (id:Int) (hi:0<=id/\id<bk.length) (hl:bk.length<=1000) (p:ay):MU Tryz.prog 109 [.aL c7 fun _=>bk,.I id,.fn (.func 110) [] [.ptr 0 0]] [CX p] (.aL c7 fun _=>bk.set id.toNat (true,p,IntKind.i64.wrap ((aX bk id).2.2+1))) [CX p]:=by
 (refine aa.q Tryz.func109 rfl fun S aw=>Wa _ ?_;(repeat' first|exact tv|apply pr|intro hh));refine ab.q (Kv bk (by omega)) [] fun _ _=>Wp _ ?_;repeat' first|exact tv|apply pr|intro hh
 .exact Ob.mk (by simp only[];omega)
 (refine ab.q (RV bk id.toNat (by omega) p) [1,0] fun _ _=>Wp _ ?_;(repeat' first|exact tv|apply pr|intro hh));refine ae.jo 1 rfl ?_;(conv=>whnf);(refine ae.gU 1 ?_;(conv=>whnf));(refine ae.w () [0] _ ?_;(repeat' first|exact tv|apply pr));rw[aah,Z6 (by simp)];rfl
theorem CY (bk:List bM) (h:ni bk) (id:Int):MU Tryz.prog 80 [.aL c7 fun _=>bk,.I id] [] (.bQ [aI (nj bk id).1,.I ((nj bk id).2.1),.I ((nj bk id).2.2)]) []:=by
 have hl:=h.len;(refine aa.q Tryz.func80 rfl fun S aw=>Wa _ ?_;(repeat' first|exact tv|apply pr|intro hh));(refine ab.q (xp bk h id) [] fun _ _=>Wp _ ?_;(repeat' first|exact tv|apply pr|intro hh));all_goals first|(exact Ob.mk (by simp only[];omega))|skip
 .have e:nj bk id=((0,0,0,0),0,1):=by unfold nj;rw[ZY hh]
  rw[e];exact ae.z () []
 .have e:nj bk id=((0,0,0,0),0,5):=by unfold nj;rw[Z0 ‹0<=id/\id<8›,ZY (by intro h2;change (aX bk id).1=false at hh;rw[h2]at hh;cases hh)]
  rw[e];exact ae.z () []
 .have e:nj bk id=((aX bk id).2.1,(aX bk id).2.2,0):=by unfold nj;rw[Z0 ‹0<=id/\id<8›,Z0 (show(aX bk id).1=true from hh)]
  rw[e];exact ae.z () []
theorem RW (bk:List bM) (h:ni bk) (id:Int) (p:ay):MU Tryz.prog 59 [.aL c7 fun _=>bk,.I id,aI p] [] (.bQ [.aL c7 fun _=>(ie bk id p).1,.I ((ie bk id p).2.1),.I ((ie bk id p).2.2)]) []:=by
 have hl:=h.len;by_cases hi:0<=id/\id<8
 .have hv:=H2 h hi
  (refine aa.q Tryz.func59 rfl fun S aw=>Wa _ ?_;(repeat' first|exact tv|apply pr|intro hh));(refine ab.q (xp bk h id) [] fun _ _=>Wp _ ?_;(repeat' first|exact tv|apply pr|intro hh));all_goals first|(exact absurd hi hh)|skip
  refine ab.q (Po.iW p) [] fun _ _=>Wp _ ?_;repeat' first|exact tv|apply pr|intro hh
  .have hp:¬aQ p:=fun h=>by rw[Z0 h]at hh;exact hh rfl
   have e:ie bk id p=(bk,0,1):=by unfold ie;rw[ZY (fun h=>hp h.2)]
   rw[e];exact ae.z () []
  all_goals have hp:aQ p:=aaG fun h=>by rw[ZY h]at *;omega
  all_goals first|(exact Ob.mk (by simp only[];omega))|skip
  .have e:ie bk id p=(bk,0,4):=by unfold ie;rw[Z0 ⟨hi,hp⟩,Z0 (show(aX bk id).2.2=_ from hh)]
   rw[e];exact ae.z () []
  .have e:ie bk id p=(bk.set id.toNat (true,p,(aX bk id).2.2+1),(aX bk id).2.2+1,0):=by unfold ie;rw[Z0 ⟨hi,hp⟩,ZY (show¬(aX bk id).2.2=_ from hh)]
   rw[e];have uW:=Ez bk id (by omega) (by omega) p;rw[wr (by omega)]at uW;refine ab.q uW [0] fun _ _=>Wp _ ?_;repeat' first|exact tv|apply pr|intro hh
   .exact Ob.mk (by simp only[aao];omega)
   .exact Ob.mk (by simp only[aao];omega)
   (refine ae.w () [] _ ?_;(repeat' first|exact tv|apply pr));have bf:id.toNat<bk.length:=by omega
   simp[bf,ZZ]
 .refine aa.q Tryz.func59 rfl fun S aw=>Wa _ ?_;repeat' first|exact tv|apply pr|intro hh
  (refine ab.q (xp bk h id) [] fun _ _=>Wp _ ?_;(repeat' first|exact tv|apply pr|intro hh));all_goals first|(exact absurd ‹_› hi)|skip
  have e:ie bk id p=(bk,0,1):=by unfold ie;rw[ZY (fun h=>hi h.1)]
  rw[e];exact ae.z () []
theorem RX:MU Tryz.prog 54 [] [] (.aL c7 fun _=>List.replicate 8 (false,(0,0,0,0),0)) []:=by
 refine aa.q Tryz.func54 rfl fun S aw=>Wa _ ?_;repeat' first|exact tv|apply pr|intro hh
 .exact Ob.mk (by decide)
 (refine ae.gU 0 ?_;(conv=>whnf));exact ae.z () []
theorem ig (x:Nm):¬kQ x x:=by
 rintro(h|⟨_,h⟩)
 .omega
 .exact List.lt_irrefl _ h
theorem gj {x y z:Nm} (h1:kQ x y) (h2:kQ y z):kQ x z:=by
 rcases h1 with h1|⟨h1,k1⟩ <;> rcases h2 with h2|⟨h2,k2⟩
 .exact .inl (by omega)
 .exact .inl (by omega)
 .exact .inl (by omega)
 .exact .inr ⟨by omega,List.lt_trans k1 k2⟩
theorem jA {x y:Nm} (h1:¬kQ x y) (h2:¬kQ y x):x=y:=by
 unfold kQ at h1 h2;have e:x.1=y.1:=by omega
 refine Prod.ext e (List.le_antisymm (List.not_lt.1 fun h=>h2 (.inr ⟨e.symm,h⟩)) (List.not_lt.1 fun h=>h1 (.inr ⟨e,h⟩)))
theorem pY {x y:Nm} (h1:kQ x y):¬kQ y x:=fun h2=>ig x (gj h1 h2)
abbrev Hs:=List (Nm×List bc)
abbrev RY (L:Hs):Prop:=L.Pairwise fun x y=>kQ x.1 y.1
def ua (L:Hs) (nm:Nm):Nat:=match L with
 | []=>0
 | x::r=>if kQ x.1 nm then ua r nm+1 else 0
def Ph (L:Hs) (nm:Nm):Bool:=match L with
 | []=>false
 | x::r=>if kQ x.1 nm then Ph r nm else decide (x.1=nm)
def jM (L:Hs) (nm:Nm) (l:List bc):Hs:=match L with
 | []=>[(nm,l)]
 | x::r=>if kQ x.1 nm then x::jM r nm l else if x.1=nm then(nm,l)::r else(nm,l)::x::r
def Ky (L:Hs) (book:Int):Hs:=L.filter fun x=>decide (x.1.1≠book)
theorem ub {nm:Nm}:∀ {L:Hs},(∀ x∈L,kQ nm x.1)->aY L nm=[]
 | [],_=>rfl
 | x::r,h=>by
  have hx:=h x (Z7 ..);rw[aY,ZY (pY hx),ZY (fun e=>by rw[e]at hx;exact ig _ hx)]
theorem uc {nm:Nm}:∀ {L:Hs},(∀ x∈L,x.1≠nm)->aY L nm=[]
 | [],_=>rfl
 | x::r,h=>by
  rw[aY];split
  .exact uc fun y hy=>h y (Z5 _ hy)
  .rw[ZY (h x (Z7 ..))]
theorem ud {nm:Nm} {l:List bc}:∀ {L:Hs},RY L->(nm,l)∈L->aY L nm=l
 | [],_,h=>by cases h
 | x::r,hs,h=>by
  have rG:=abx.1 hs;rw[aY];rcases aaj.1 h with e|h
  .subst e;rw[ZY (ig _),Z0 rfl]
  .rw[Z0 (rG.1 _ h)];exact ud rG.2 h
theorem ue {nm m:Nm} {l:List bc}:∀ {L:Hs},RY L->aY (jM L nm l) m=if m=nm then l else aY L m
 | [],_=>by
  rw[jM];by_cases h:m=nm
  .subst h;rw[Z0 rfl];exact ud (List.pairwise_singleton ..) (abo.2 rfl)
  .rw[ZY h,uc (by simpa using fun e:nm=m=>h e.symm)];rfl
 | x::r,hs=>by
  have rG:=abx.1 hs;rw[jM];by_cases h1:kQ x.1 nm
  .rw[Z0 h1,aY,ue rG.2,aY]
   by_cases h:m=nm
   .subst h;rw[Z0 h1,Z0 rfl,Z0 rfl]
   .rw[ZY h,ZY h]
  .rw[ZY h1]
   by_cases h2:x.1=nm
   .rw[Z0 h2,aY,aY]
    by_cases h:m=nm
    .subst h;rw[ZY (ig _),Z0 rfl,Z0 rfl]
    .rw[ZY h,h2]
     simp only[ZY (fun e:nm=m=>h e.symm)]
   .rw[ZY h2,aY]
    by_cases h:m=nm
    .subst h;rw[ZY (ig _),Z0 rfl,Z0 rfl]
    .rw[ZY h]
     by_cases h3:kQ nm m
     .rw[Z0 h3]
     .rw[ZY h3,ZY (fun e=>h e.symm)]
      refine(ub ?_).symm;have hm:kQ m nm:=acV fun h4=>h (jA h4 h3);have hx:kQ nm x.1:=acV fun h4=>h2 (jA h1 h4);have lG:=gj hm hx;intro y hy;rcases aaj.1 hy with e|hy
      .rw[e];exact lG
      .exact gj lG (rG.1 y hy)
theorem xq {nm:Nm} {l:List bc} {y:Nm×List bc}:∀ {L:Hs},y∈jM L nm l->y=(nm,l)\/y∈L
 | [],h=>by rw[jM]at h;simp at h;exact .inl h
 | x::r,h=>by
  rw[jM]at h;split at h
  .rcases aaj.1 h with e|h
   .exact .inr (by rw[e];exact Z7 ..)
   .exact(xq h).imp id (Z5 _)
  .split at h
   .rcases aaj.1 h with e|h
    .exact .inl e
    .exact .inr (Z5 _ h)
   .rcases aaj.1 h with e|h
    .exact .inl e
    .exact .inr h
theorem CZ {nm:Nm} {l:List bc}:∀ {L:Hs},RY L->RY (jM L nm l)
 | [],_=>by rw[jM];exact List.pairwise_singleton ..
 | x::r,hs=>by
  have rG:=abx.1 hs;rw[jM];by_cases h1:kQ x.1 nm
  .rw[Z0 h1]
   refine abx.2 ⟨fun y hy=>?_,CZ rG.2⟩;rcases xq hy with e|h
   .rw[e];exact h1
   .exact rG.1 y h
  .rw[ZY h1]
   by_cases h2:x.1=nm
   .rw[Z0 h2]
    exact abx.2 ⟨fun y hy=>by have:=rG.1 y hy;rw[h2]at this;exact this,rG.2⟩
   .rw[ZY h2]
    have hx:kQ nm x.1:=acV fun h4=>h2 (jA h1 h4);refine abx.2 ⟨fun y hy=>?_,hs⟩;rcases aaj.1 hy with e|hy
    .rw[e];exact hx
    .exact gj hx (rG.1 y hy)
theorem xr {book:Int} {m:Nm}:∀ {L:Hs},RY L->aY (Ky L book) m=if m.1=book then[]else aY L m
 | [],_=>by show aY [] m=_;split <;> rfl
 | x::r,hs=>by
  by_cases h:m.1=book
  .rw[Z0 h]
   refine uc fun y hy e=>?_;have:=(aa1.1 hy).2;rw[e]at this;simp[h]at this
  .rw[ZY h]
   have rG:=abx.1 hs;have ih:=xr (book:=book) (m:=m) rG.2;rw[ZY h]at ih;unfold Ky at ih ⊢;rw[ade];by_cases hx:x.1.1=book
   .rw[ZY (by simp[hx]),ih,aY]
    by_cases h3:kQ x.1 m
    .rw[Z0 h3]
    .have bC:x.1≠m:=fun e=>h (by rw[<-e];exact hx)
     rw[ZY h3,ZY bC];have hm:kQ m x.1:=acV fun h4=>bC (jA h3 h4);exact ub fun y hy=>gj hm (rG.1 y hy)
   .rw[Z0 (by simp[hx]),aY,aY,ih]
theorem RZ (L:Hs) (nm:Nm):Ph L nm=true↔∃ x,L[ua L nm]?=some x/\x.1=nm:=by
 induction L with
 | nil=>simp[Ph]
 | cons y r ih =>
  rw[Ph,ua];split
  .rw[ih];simp
  .simp
theorem Kz (L:Hs) (nm:Nm):aY L nm=if Ph L nm then(L.getD (ua L nm) ((0,[]),[])).2 else[]:=by
 induction L with
 | nil=>rfl
 | cons y r ih =>
  rw[aY,Ph,ua];by_cases h:kQ y.1 nm
  .rw[Z0 h,Z0 h,Z0 h,ih];rfl
  .rw[ZY h,ZY h,ZY h]
   by_cases h2:y.1=nm
   .rw[Z0 h2,Z0 (by simpa using h2)];rfl
   .rw[ZY h2,ZY (by simpa using h2)]
theorem KA {p:ay} (hp:aQ p):Fit p [] 0:=⟨hp,rfl,aad _,by omega,⟨by simp,by simp,by simp⟩,rfl⟩
def nJ (a:Ab) (h:Int) (nm:Nm) (v:Int) (p:ay) (c:Cell):Ab :=
 { a with ord:=a.ord.erase h++[h],cp:=fO a.cp h (some ⟨nm,v,c⟩),due:=fO a.due (h.tmod 64) (some (min (bm p c) ke)) }
structure zw (a:Ab) (h:Int) (nm:Nm):Prop where
 pos:0<=h/\h.tmod 64<a.n
 xI:∀ h'∈a.ord,h'.tmod 64=h.tmod 64->h'=h
 own:∀ h' e,a.cp h'=some e->(e.nm=nm↔h'=h)
theorem Inv.cz {a:Ab} (I:Inv a) {h:Int} {nm:Nm} {v:Int} {p:ay} {c:Cell} (hh:zw a h nm) (hb:cC a.bk nm.1=some (p,v)) (hn:fy nm=true) (hm:aD p c=true) (hc:c.1<=a.now):Inv (nJ a h nm v p c):=by
 have bD:∀ j,j∈a.ord.erase h++[h]↔j∈a.ord\/j=h:=fun j=>by
  rw[aaD,aaR I.kg,abo];by_cases e:j=h <;> simp[e]
 have fD:∀ j e,(nJ a h nm v p c).cp j=some e->(j=h/\e=⟨nm,v,c⟩)\/(j≠h/\a.cp j=some e):=fun j e he=>by
  change fO a.cp h _ j=_ at he;by_cases hj:j=h
  .subst hj;rw[ee]at he;cases he;exact .inl ⟨rfl,rfl⟩
  .rw[dK _ _ hj]at he;exact .inr ⟨hj,he⟩
 have YX:v<=(aX a.bk nm.1).2.2:=by
  unfold cC at hb;split at hb
  .cases dw:aX a.bk nm.1 with
   | mk x y=>rw[dw]at hb;cases hb;exact aad _
  .cases hb
 have Bj:cY a.bk ⟨nm,v,c⟩=some p:=cJ.2 hb;refine⟨I.n,I.now,I.bk,?_,fun j=>?_,fun j hj=>?_,fun j hj j' lg hp=>?_,fun j j' e e' h1 h2 h3=>?_,fun j e he=>?_,I.kP,fun j hj=>(bD j).2 (.inl (I.jy j hj)),fun j e he WS=>?_,fun j e q he hq=>?_⟩
 .show(a.ord.erase h++[h]).Nodup
  rw[abH];exact⟨I.kg.erase h,by simp,fun x hx y hy=>by simp at hy;subst hy;exact((aaR I.kg).1 hx).1⟩
 .show j∈a.ord.erase h++[h]↔(fO a.cp h _ j).isSome=true
  rw[bD,I.mem];by_cases hj:j=h
  .subst hj;rw[ee];simp
  .rw[dK _ _ hj];simp[hj]
 .rcases(bD j).1 hj with h1|h1
  .exact I.pos j h1
  .subst h1;exact hh.pos
 .rcases(bD j).1 hj with h1|h1 <;> rcases(bD j').1 lg with h2|h2
  .exact I.xI j h1 j' h2 hp
  .rw[h2];rw[h2]at hp;exact hh.xI j h1 hp
  .rw[h1];rw[h1]at hp;exact(hh.xI j' h2 hp.symm).symm
  .rw[h1,h2]
 .rcases fD j e h1 with⟨k1,k2⟩|⟨k1,k2⟩ <;> rcases fD j' e' h2 with⟨l1,l2⟩|⟨l1,l2⟩
  .rw[k1,l1]
  .subst k2;exact(l1 ((hh.own j' e' l2).1 h3.symm)).elim
  .subst l2;exact(k1 ((hh.own j e k2).1 h3)).elim
  .exact I.E6 j j' e e' k2 l2 h3
 .rcases fD j e he with⟨k1,k2⟩|⟨k1,k2⟩
  .subst k2
   refine⟨hn,YX,fun q hq=>?_⟩;have:cY a.bk ⟨nm,v,c⟩=some q:=hq;rw[Bj]at this;cases this;exact⟨hm,hc⟩
  .exact I.ok j e k2
 .rcases fD j e he with⟨k1,k2⟩|⟨k1,k2⟩
  .subst k2
   have:cY a.bk ⟨nm,v,c⟩=none:=WS;rw[Bj]at this;cases this
  .exact I.nt j e k2 WS
 .show fO a.due (h.tmod 64) _ (j.tmod 64)=_\/_
  rcases fD j e he with⟨k1,k2⟩|⟨k1,k2⟩
  .subst k2;subst k1
   have:cY a.bk ⟨nm,v,c⟩=some q:=hq;rw[Bj]at this;cases this;rw[ee];exact .inl rfl
  .have hj:j∈a.ord:=(I.mem j).2 (by rw[k2];rfl)
   rw[dK _ _ fun e2=>k1 (hh.xI j hj e2)];exact I.cur j e q k2 hq
theorem Rel.cz {a:Ab} {K:Kt} {N:Nat} (R:Rel a K N) {h:Int} {nm:Nm} {v:Int} {p:ay} {c:Cell} {l:List bc} (hh:zw a h nm) (hb:cC a.bk nm.1=some (p,v)) (hn:fy nm=true) (T:ct p c l a.now (N+1)) :
  Rel (nJ a h nm v p c) { K with L:=jM K.L nm l } (N+1):=by
 have fD:∀ j e,(nJ a h nm v p c).cp j=some e->(j=h/\e=⟨nm,v,c⟩)\/(j≠h/\a.cp j=some e):=fun j e he=>by
  change fO a.cp h _ j=_ at he;by_cases hj:j=h
  .subst hj;rw[ee]at he;cases he;exact .inl ⟨rfl,rfl⟩
  .rw[dK _ _ hj]at he;exact .inr ⟨hj,he⟩
 refine⟨R.n,R.now,R.bk,⟨CZ R.zT.ord,fun x hx=>?_⟩,fun j e q he hq=>?_,fun m q u hm hq cy=>?_⟩
 .rcases xq hx with e|hx
  .subst e;exact⟨hn,by show(cC K.bk nm.1).isSome=true;rw[R.bk,hb];rfl⟩
  .exact R.zT.nm x hx
 .show ct q e.c (aY (jM K.L nm l) e.nm) a.now (N+1)
  rw[ue R.zT.ord];rcases fD j e he with⟨k1,k2⟩|⟨k1,k2⟩
  .subst k2
   have h2:cC a.bk nm.1=some (q,v):=cJ.1 hq;rw[hb]at h2;cases h2;rw[Z0 rfl];exact T
  .rw[ZY fun e2=>k1 ((hh.own j e k2).1 e2)]
   exact(R.tell j e q k2 hq).up (by omega)
 .show ct q _ (aY (jM K.L nm l) m) a.now (N+1)
  rw[ue R.zT.ord];by_cases e:m=nm
  .subst e
   have h2:cC a.bk m.1=some (q,u):=hq;rw[hb]at h2;cases h2;exact(cy h ⟨m,v,c⟩ (ee ..) rfl rfl).elim
  .rw[ZY e]
   refine(R.rQ m q u hm hq fun j e2 h1 h2=>?_).up (by omega);refine cy j e2 ?_ h2;show fO a.cp h _ j=_;rw[dK _ _ fun e3=>e ?_]
   .exact h1
   .rw[<-h2];exact(hh.own j e2 h1).2 e3
structure xt (bk nk:List bM) (id:Int):Prop where
 ok:ni nk
 ZV:0<=id/\id<8
 same:∀ j,0<=j->j<8->j≠id->aX nk j=aX bk j
 up:(aX bk id).2.2<=(aX nk id).2.2
 off:(aX nk id).1=false\/(aX bk id).2.2<(aX nk id).2.2
theorem rA {nm:Nm} (h:fy nm=true):0<=nm.1/\nm.1<8:=by
 simp only[fy,aai,decide_eq_true_eq]at h;exact h.1.1
theorem xt.cur {bk nk:List bM} {id:Int} (A:xt bk nk id) {j:Int} (h:j≠id):cC nk j=cC bk j:=by
 unfold cC;by_cases hj:0<=j/\j<8
 .rw[A.same j hj.1 hj.2 h]
 .rw[ZY (fun e=>hj ⟨e.1,e.2.1⟩),ZY (fun e=>hj ⟨e.1,e.2.1⟩)]
theorem xt.gone {bk nk:List bM} {id:Int} (A:xt bk nk id) {e:E1} (h:e.nm.1=id) (hv:e.v<=(aX bk id).2.2):cY nk e=none:=by
 cases hc:cY nk e with
 | none=>rfl
 | some p =>
  exfalso;have h1:=cJ.1 hc;rw[h]at h1;unfold cC at h1;split at h1
  .rename_i hk
   cases hb:aX nk id with
   | mk x y =>
    rw[hb]at h1 hk;cases h1;rcases A.off with h2|h2
    .rw[hb]at h2;simp at hk h2;rw[hk.2.2]at h2;cases h2
    .rw[hb]at h2;simp only[]at h2;omega
  .cases h1
theorem Inv.Oz {a:Ab} (I:Inv a) {nk:List bM} {id:Int} (A:xt a.bk nk id) {l:List Int} (eA:l.Nodup) (hs:∀ h∈l,h∈a.ord) (ho:∀ h∈a.bU,h∈l) (hf:∀ h e,a.cp h=some e->e.nm.1=id->h∈l):Inv { a with bk:=nk,bU:=l }:=by
 have rR:∀ h e,a.cp h=some e->e.nm.1≠id->cY nk e=cY a.bk e:=fun h e he bC=>by unfold cY;rw[A.cur bC]
 refine⟨I.n,I.now,A.ok,I.kg,I.mem,I.pos,I.xI,I.E6,fun h e he=>?_,eA,hs,fun h e he hc=>?_,fun h e p he hc=>?_⟩
 .obtain⟨k1,k2,k3⟩:=I.ok h e he
  have hid:=rA k1;by_cases bC:e.nm.1=id
  .refine⟨k1,?_,fun p hp=>?_⟩
   .show e.v<=(aX nk e.nm.1).2.2
    rw[bC]at k2 ⊢;have:=A.up;omega
   .have:=A.gone bC (by rw[bC]at k2;exact k2)
    change cY nk e=some p at hp;rw[this]at hp;cases hp
  .refine⟨k1,by show e.v<=(aX nk e.nm.1).2.2;rw[A.same _ hid.1 hid.2 bC];exact k2,fun p hp=>k3 p ?_⟩
   rw[<-rR h e he bC];exact hp
 .by_cases bC:e.nm.1=id
  .exact hf h e he bC
  .exact ho h (I.nt h e he (by rw[<-rR h e he bC];exact hc))
 .by_cases bC:e.nm.1=id
  .have k2:=(I.ok h e he).2.1
   have:=A.gone bC (by rw[bC]at k2;exact k2);change cY nk e=some p at hc;rw[this]at hc;cases hc
  .refine(I.cur h e p he (by rw[<-rR h e he bC];exact hc)).imp (fun h=>h) fun k=>⟨k.1,fun h5=>ho h (k.2 h5)⟩
theorem KB {bk:List bM} (h:ni bk) {id:Int} {p:ay} {v:Int} (hc:cC bk id=some (p,v)):aQ p/\1<=v/\v<=1073741824:=by
 unfold cC at hc;split at hc
 .rename_i hk
  have bf:id.toNat<bk.length:=by rw[h.len];omega
  have hm:aX bk id∈bk:=by unfold aX;rw[ZZ,Z1 bf];exact aax _
  have ho:=h.one _ hm;cases hb:aX bk id with
  | mk x y =>
   rw[hb]at hc ho hk;cases hc;unfold zu at ho;split at ho
   .cases ho
   .rename_i hr
    rw[Z0 hk.2.2]at ho;simp only[Bool.or_eq_false_iff,decide_eq_false_iff_not,Bool.not_eq_false',decide_eq_true_eq]at ho;have hr:¬(v<0\/1073741824<v):=hr;have h5:¬v=0:=ho.1;exact⟨ho.2,by omega,by omega⟩
 .cases hc
theorem Rel.Oz {a:Ab} {K:Kt} {N:Nat} (R:Rel a K N) (I:Inv a) {nk:List bM} {id:Int} (A:xt a.bk nk id) (l:List Int):Rel { a with bk:=nk,bU:=l } { K with bk:=nk,L:=Ky K.L id } N:=by
 have hw:=R.zT.ord;refine⟨R.n,R.now,rfl,⟨hw.sublist (acy ..),fun x hx=>?_⟩,fun h e p he hc=>?_,fun m p v hm hc cy=>?_⟩
 .obtain⟨h1,h2⟩:=aa1.1 hx
  have h2:x.1.1≠id:=by simpa using h2
  have h3:=R.zT.nm x h1;exact⟨h3.1,by show(cC nk x.1.1).isSome=true;rw[A.cur h2,<-R.bk];exact h3.2⟩
 .by_cases bC:e.nm.1=id
  .have k2:=(I.ok h e he).2.1
   have:=A.gone bC (by rw[bC]at k2;exact k2);change cY nk e=some p at hc;rw[this]at hc;cases hc
  .show ct p e.c (aY (Ky K.L id) e.nm) a.now N
   rw[xr hw,ZY bC];refine R.tell h e p he ?_;rw[<-hc];show cY a.bk e=cY nk e;unfold cY;rw[A.cur bC]
 .show ct p _ (aY (Ky K.L id) m) a.now N
  rw[xr hw];by_cases bC:m.1=id
  .rw[Z0 bC]
   have hp:=(KB A.ok hc).1;have hn:=I.now;refine ct.zero ((KA hp).later hn.1 hn.2) ?_ (aae _);unfold counts;split <;> rfl
  .rw[ZY bC]
   refine R.rQ m p v hm ?_ cy;rw[<-A.cur bC];exact hc
def OA (K:Kt) (x:Nm×List bc):Bool:=match cC K.bk x.1.1 with
 | some (p,_)=>!Hi.neutral p x.2 K.now
 | none=>false
def eD (K:Kt):List Nm:=(K.L.filter (OA K)).map (·.1)
theorem C0 {nm:Nm}:∀ {L:Hs},aY L nm≠[]->(nm,aY L nm)∈L
 | [],h=>(h rfl).elim
 | x::r,h=>by
  rw[aY]at h ⊢;by_cases h1:kQ x.1 nm
  .rw[Z0 h1]at h ⊢;exact Z5 _ (C0 h)
  .rw[ZY h1]at h ⊢
   by_cases h2:x.1=nm
   .rw[Z0 h2];subst h2;exact Z7 ..
   .rw[ZY h2]at h;exact(h rfl).elim
theorem pZ {p:ay} {h:List bc} {now:Int} {n:Nat} (T:ct p (0,0,[],[]) h now n):Hi.neutral p h now=true:=by
 rw[<-T.neutral];have h0:=T.at_;rw[mg T.may h0];obtain⟨h1,r,hl,hc⟩:=T.ex;have hz:Ce.Rel p (0,0,[],[]) []:=Ce.Rel.nil r.fit.jK;rw[hz.bF h0];unfold counts;split <;> rfl
theorem uf {a:Ab} {K:Kt} {N:Nat} (R:Rel a K N) (I:Inv a) {h:Int} {e:E1} {p:ay} (he:a.cp h=some e) (hp:cY a.bk e=some p):cZ a h=!Hi.neutral p (aY K.L e.nm) a.now:=by
 have T:=R.tell h e p he hp;unfold cZ;rw[he];simp only[hp];rw[pW T.may,T.neutral]
theorem EA {a:Ab} {K:Kt} {N:Nat} (R:Rel a K N) (I:Inv a) (nm:Nm):nm∈eD K↔∃ h e,a.cp h=some e/\cZ a h=true/\e.nm=nm:=by
 unfold eD;simp only[aas,aa1];constructor
 .rintro⟨x,⟨hx,hc⟩,rfl⟩
  obtain⟨k1,k2⟩:=R.zT.nm x hx;have hh:aY K.L x.1=x.2:=ud R.zT.ord hx;unfold OA at hc;cases hb:cC K.bk x.1.1 with
  | none=>rw[hb]at hc;cases hc
  | some q =>
   obtain⟨p,v⟩:=q;rw[hb]at hc;simp only[aa4]at hc;rw[R.now]at hc;rw[R.bk]at hb;refine aaG fun cy=>?_;have hz:=R.rQ x.1 p v k1 hb (fun h e h1 h2 h3=>cy ⟨h,e,h1,?_,h2⟩)
   .have:=pZ hz
    rw[hh,hc]at this;cases this
   .have rR:cY a.bk e=some p:=cJ.2 (by rw[h2,h3];exact hb)
    rw[uf R I h1 rR,h2,hh,hc];rfl
 .rintro⟨h,e,he,hc,rfl⟩
  obtain⟨e',p,h1,h2,h3⟩:=(pX I).1 hc;rw[he]at h1;cases h1;rw[uf R I he h2]at hc;have bC:aY K.L e.nm≠[]:=fun e0=>by
   rw[e0]at hc;have T:=R.tell h e p he h2;rw[e0]at T;have:Hi.neutral p [] a.now=true:=by
    unfold Hi.neutral;rw[T.fit.fits];have:counts p [] a.now=0:=by unfold counts;split <;> rfl
    rw[this];rfl
   rw[this]at hc;cases hc
  refine⟨(e.nm,aY K.L e.nm),⟨C0 bC,?_⟩,rfl⟩;unfold OA;rw[R.bk,R.now];simp only[cJ.1 h2];exact hc
theorem vM (K:Kt) (h:WR K):(eD K).Pairwise kQ:=by
 unfold eD;rw[abI];exact h.ord.sublist (acy ..)
theorem vN {l:List Nm} (h:l.Pairwise kQ):l.Nodup:=h.imp fun {a b} rB e=>by subst e;exact ig _ rB
theorem C1:∀ {l m:List Nm},l.Pairwise kQ->m.Pairwise kQ->(∀ x,x∈l↔x∈m)->l=m
 | [],[],_,_,_=>rfl
 | [],y::s,_,_,h=>absurd ((h y).2 (Z7 ..)) (by simp)
 | x::r,[],_,_,h=>absurd ((h x).1 (Z7 ..)) (by simp)
 | x::r,y::s,h1,h2,h=>by
  have a1:=abx.1 h1;have a2:=abx.1 h2;have IV:x=y:=by
   rcases aaj.1 ((h x).1 (Z7 ..))with e|hx
   .exact e
   .rcases aaj.1 ((h y).2 (Z7 ..))with e|hy
    .exact e.symm
    .exact(pY (a1.1 y hy) (a2.1 x hx)).elim
  subst IV;rw[C1 a1.2 a2.2 fun z=>?_];constructor
  .intro hz
   rcases aaj.1 ((h z).1 (Z5 _ hz))with e|PM
   .subst e;exact(ig _ (a1.1 _ hz)).elim
   .exact PM
  .intro hz
   rcases aaj.1 ((h z).2 (Z5 _ hz))with e|PM
   .subst e;exact(ig _ (a2.1 _ hz)).elim
   .exact PM
def EB (a:Ab) (h:Int):Nm:=match a.cp h with|some e=>e.nm|none=>(0,[])
theorem jB {a:Ab} {h:Int} {e:E1} (he:a.cp h=some e):EB a h=e.nm:=by unfold EB;rw[he]
theorem ug {a:Ab} {K:Kt} {N:Nat} (R:Rel a K N) (I:Inv a) {l:List Int} (hl:l.Nodup) (hm:∀ h,h∈l↔h∈a.ord):((l.filter (cZ a)).map (EB a)).Perm (eD K):=by
 have kj:∀ h∈l,∃ e,a.cp h=some e:=fun h hh=>by
  have:=(I.mem h).1 ((hm h).1 hh);exact aaF.1 this
 refine(List.perm_ext_iff_of_nodup ?_ (vN (vM K R.zT))).2 fun nm=>?_
 .rw[aaI,abI]
  refine abv ?_ (aaI.1 (hl.sublist (acy ..)));intro x y hx hy IV e;obtain⟨e1,h1⟩:=kj x (aa1.1 hx).1;obtain⟨e2,h2⟩:=kj y (aa1.1 hy).1;rw[jB h1,jB h2]at e;exact IV (I.E6 x y e1 e2 h1 h2 e)
 .rw[EA R I]
  simp only[aas,aa1];constructor
  .rintro⟨h,⟨h1,h2⟩,rfl⟩
   obtain⟨e,he⟩:=kj h h1;exact⟨h,e,he,h2,(jB he).symm⟩
  .rintro⟨h,e,he,hc,rfl⟩
   exact⟨h,⟨(hm h).2 ((I.mem h).2 (by rw[he];rfl)),hc⟩,jB he⟩
theorem mV {a:Ab} {K:Kt} {N:Nat} (R:Rel a K N) (I:Inv a):(eD K).length=(a.ord.filter (cZ a)).length:=by
 rw[<-(ug R I I.kg fun _=>Iff.rfl).length_eq,aba]
theorem zz {a:Ab} {K:Kt} {N:Nat} (R:Rel a K N) (I:Inv a):(eD K).length<=a.ord.length:=by
 rw[mV R I];exact acf ..
theorem mW {n:Nat}:∀ (l:List Int),(∀ h∈l,0<=h/\h.tmod 64<n)->(∀ h∈l,∀ h'∈l,h.tmod 64=h'.tmod 64->h=h')->l.Nodup->l.length<=n:=by
 intro l h1 h2 h3;have eA:(l.map fun h=>(h.tmod 64).toNat).Nodup:=by
  rw[aaI,abI];refine abv ?_ (aaI.1 h3);intro a b ha hb rB e;have k1:=acC 64 (h1 a ha).1;have k2:=acC 64 (h1 b hb).1;exact rB (h2 a ha b hb (by omega))
 have:=Wh.mJ n _ eA (fun x hx=>by
  obtain⟨h,hh,rfl⟩:=aas.1 hx;have:=h1 h hh;have:=acC 64 this.1;omega)
 simpa using this
def LV:List bM:=List.replicate 8 (false,(0,0,0,0),0)
theorem LW:ni LV:=⟨rfl,fun b hb=>by rw[abP hb];decide⟩
theorem U4 (id:Int):cC LV id=none:=by
 unfold cC aX LV;rw[ZY];rintro⟨_,_,h⟩;rw[ZZ,aaC]at h;split at h <;> cases h
def Bk (n:Nat) (now:Int) (bk:List bM):Ab:=⟨n,now,bk,[],[],fun _=>none,fun _=>none⟩
theorem Inv.new {n:Nat} (hn:1<=n/\n<=64) {now:Int} (h0:0<=now/\now<=ke) {bk:List bM} (hb:ni bk):Inv (Bk n now bk) :=
 ⟨hn,h0,hb,aaP,fun h=>by simp[Bk],fun h hh=>by simp[Bk]at hh,fun h hh=>by simp[Bk]at hh,fun h h' e e' h1=>by simp[Bk]at h1,fun h e h1=>by simp[Bk]at h1,aaP,fun h hh=>by simp[Bk]at hh,
  fun h e h1=>by simp[Bk]at h1,fun h e p h1=>by simp[Bk]at h1⟩
theorem Rel.new (n:Nat):Rel (Bk n 0 LV) ⟨n,0,LV,[]⟩ 0 :=
 ⟨rfl,rfl,rfl,⟨List.Pairwise.nil,fun x hx=>by simp at hx⟩,fun h e p h1=>by simp[Bk]at h1,fun nm p v h1 h2=>by
  change cC LV nm.1=_ at h2;rw[U4]at h2;cases h2⟩
structure ib (a b:Ab) (l:List Int):Prop where
 n:b.n=a.n
 now:b.now=a.now
 bk:b.bk=a.bk
 has:∀ h∈l,∀ e p,a.cp h=some e->cY a.bk e=some p->cZ a h=true->∃ h',b.cp h'=some ⟨e.nm,e.v,norm p e.c⟩
 from_:∀ h' e',b.cp h'=some e'->∃ h∈l,∃ e p,a.cp h=some e/\cY a.bk e=some p/\cZ a h=true/\e'=⟨e.nm,e.v,norm p e.c⟩
theorem ib.rel {a b:Ab} {K:Kt} {N:Nat} (H:ib a b a.ord) (R:Rel a K N) (I:Inv a):Rel b K N:=by
 have ha:∀ h e,a.cp h=some e->h∈a.ord:=fun h e he=>(I.mem h).2 (by rw[he];rfl);refine⟨by rw[H.n];exact R.n,by rw[H.now];exact R.now,by rw[H.bk];exact R.bk,R.zT,fun h' e' p he hp=>?_,fun nm p v hn hb cy=>?_⟩
 .obtain⟨h,hh,e,q,k1,k2,k3,k4⟩:=H.from_ h' e' he
  subst k4;rw[H.bk]at hp;have hq:cY a.bk e=some p:=hp;rw[k2]at hq;cases hq;rw[H.now];exact(R.tell h e p k1 k2).norm
 .rw[H.bk]at hb
  rw[H.now];refine aaG fun hc=>?_;refine hc (R.rQ nm p v hn hb fun h e he h2 h3=>?_);subst h2;subst h3;have rR:cY a.bk e=some p:=cJ.2 hb;cases wm:cZ a h with
  | true =>
   obtain⟨h',EC⟩:=H.has h (ha h e he) e p he rR wm;exact cy h' _ EC rfl rfl
  | false =>
   refine hc ((R.tell h e p he rR).gone ?_);have:¬a.now<bm p e.c:=fun h6=>by rw[(pX I).2 ⟨e,p,he,rR,h6⟩]at wm;cases wm
   omega
theorem ib.nil (a:Ab):ib a (Bk a.n a.now a.bk) []:=⟨rfl,rfl,rfl,fun h hh=>by simp at hh,fun h' e' he=>by simp[Bk]at he⟩
theorem ib.skip {a b:Ab} {l:List Int} (H:ib a b l) {h:Int} (hc:cZ a h=false):ib a b (l++[h]) :=
 ⟨H.n,H.now,H.bk,(fun j hj e p k1 k2 k3=>by
  rcases aaD.1 hj with hj|hj
  .exact H.has j hj e p k1 k2 k3
  .simp at hj;subst hj;rw[hc]at k3;cases k3),(fun h' e' he=>by
  obtain⟨j,hj,r⟩:=H.from_ h' e' he;exact⟨j,abS _ hj,r⟩)⟩
theorem ib.add {a b:Ab} {l:List Int} (H:ib a b l) (I:Inv a) {h i:Int} {e:E1} {p:ay} (he:a.cp h=some e) (hp:cY a.bk e=some p) (hc:cZ a h=true) (hi:b.cp i=none) (u7:h∉l) :
  ib a (nJ b i e.nm e.v p (norm p e.c)) (l++[h])/\∀ h' e',b.cp h'=some e'->e'.nm≠e.nm:=by
 have bC:∀ h' e',b.cp h'=some e'->e'.nm≠e.nm:=fun h' e' xu e2=>by
  obtain⟨j,hj,ej,q,k1,k2,k3,k4⟩:=H.from_ h' e' xu;subst k4;have:=I.E6 j h ej e k1 he e2;subst this;exact u7 hj
 refine⟨⟨H.n,H.now,H.bk,fun j hj ej q k1 k2 k3=>?_,fun h' e' xu=>?_⟩,bC⟩
 .rcases aaD.1 hj with hj|hj
  .obtain⟨h',EC⟩:=H.has j hj ej q k1 k2 k3
   refine⟨h',?_⟩;show fO b.cp i _ h'=_;rw[dK _ _ fun e2=>by subst e2;rw[hi]at EC;cases EC];exact EC
  .simp at hj;subst hj
   rw[he]at k1;cases k1;rw[hp]at k2;cases k2;exact⟨i,ee ..⟩
 .change fO b.cp i _ h'=_ at xu
  by_cases h2:h'=i
  .subst h2;rw[ee]at xu;cases xu
   exact⟨h,by simp,e,p,he,hp,hc,rfl⟩
  .rw[dK _ _ h2]at xu
   obtain⟨j,hj,r⟩:=H.from_ h' e' xu;exact⟨j,abS _ hj,r⟩
def gB (K:Kt) (nm:Nm) (w:Int):List bc×(Int×N4)×Bool :=
 if fy nm && aU w then
  match cC K.bk nm.1 with
  | some (p,_)=>((Hi.ask p (aY K.L nm) K.now w).1,(0,(Hi.ask p (aY K.L nm) K.now w).2),!Hi.neutral p (aY K.L nm) K.now)
  | none=>([],(5,zeroV),false)
 else([],(1,zeroV),false)
def dV (K:Kt) (nm:Nm) (w:Int):Kt×(Int×N4) :=
 if(gB K nm w).2.1.1=0/\(gB K nm w).2.1.2.1=true then
  if(gB K nm w).2.2=false/\K.n<=(eD K).length then(K,(7,zeroV))else({ K with L:=jM K.L nm (gB K nm w).1 },(gB K nm w).2.1)
 else(K,(gB K nm w).2.1)
end Go.Proofs.YthnefnlhcijekaaGreat.En
namespace Go.Proofs.YthnefnlhcijekaaGreat.Ce
open Go Go.RowKit Fw Hi Po Bt
theorem iv (p:ay) (c:Cell) (hc:-9223372036854775808<=c.2.1/\c.2.1<=9223372036854775807) (h:aD p c=false):MU Tryz.prog 116 [aI p,aO c] [] (.bQ [.aZ,.ff]) []:=by
 have MM:=HM p c hc;rw[h]at MM;(refine aa.q Tryz.func116 rfl fun S aw=>Wb _ ?_;(repeat' first|exact tv|apply pr|intro hh));(refine ab.q MM [] fun _ _=>Wp _ ?_;(repeat' first|exact tv|apply pr|intro hh));exact ae.z () []
theorem ED {c:Cell} (h:rz c):(aC c).getD 51 0=0:=by
 have hl:=kb h.Bg;have zZ:=pU h.hlen;have Qm:=mT (nh c.2.2.2);have el:([c.1,c.2.1]++pT c.2.2.1++[(c.2.2.2.length:Int)]++iX (nh c.2.2.2)).length=51:=by simp;omega
 show([c.1,c.2.1]++pT c.2.2.1++[(c.2.2.2.length:Int)]++iX (nh c.2.2.2)++[0]).getD 51 0=0;rw[dU,ZY (by omega),el];rfl
theorem uh:bL.length=52:=by decide
theorem oA (p:ay) (c:Cell) (h:aD p c=true):MU Tryz.prog 116 [aI p,aO c] [] (.bQ [.aL (.int .u64) fun _=>ax 19 (dB c),.tt]) []:=by
 have MM:=HM p c (mS h);rw[h]at MM;have hk:=qP h;(refine aa.q Tryz.func116 rfl fun S aw=>Wb _ ?_;(repeat' first|exact tv|apply pr|intro hh));(refine ab.q MM [] fun _ _=>Wp _ ?_;(repeat' first|exact tv|apply pr|intro hh));(refine ab.q xm [] fun _ _=>Wp _ ?_;(repeat' first|exact tv|apply pr|intro hh));have ql:=hk.at_;have Cm:=hk.level;have YY:IntKind.u64.wrap c.1=c.1:=by rw[IntKind.wrap_u64];omega
 have YZ:IntKind.u64.wrap c.2.1=c.2.1:=by rw[IntKind.wrap_u64];omega
 have wT:=hk.Bg;have WG:=hk.hlen;refine aM.intro hm (X:=Nat×List Int) (fun x=>x.1<=c.2.2.1.length/\x.2.length=52/\∀ j,x.2.getD j 0=if j<2+x.1 then(aC c).getD j 0 else 0) (fun x=>c.2.2.1.length - x.1)
  (fun x=>[(36,.I (x.1:Int)),(35,.I (c.2.2.1.length:Int)),(34,.aL (.int .i64) fun _=>c.2.2.1),(8,.vec 1 1 (fun _=>2) fun _=>50),(7,.vec 1 1 (fun _=>0) fun _=>52),(6,.aL (.int .i64) fun _=>bL),(3,.ptr 0 0)])
  (fun x=>[.cells 125 [.I c.1,.I c.2.1,.aL (.int .i64) fun _=>c.2.2.1,.aL dz fun _=>c.2.2.2],.aq 41 (.int .u64) fun _=>x.2]) (0,c.1::c.2.1::List.replicate 50 0) [1,2] ⟨rfl,rfl,?_,?_⟩ ⟨aae _,rfl,fun j=>?_⟩ (fun x hx=>?_)
 .refine Vb _ ?_;repeat' first|exact tv|apply pr
  rw[YY,YZ];rfl
 .exact Vc
 .match j with
  | 0=>rfl
  | 1=>rfl
  | j+2 =>
   rw[ZY (by simp),aaK,aaK,ZZ,aaC];split <;> rfl
 obtain⟨i,V⟩:=x;obtain⟨hi,LX,hV⟩:=hx;simp only[]at hi LX hV;have uy:=fun cD:i<c.2.2.1.length=>hk.y0 (c.2.2.1.getD i 0) (by rw[ZZ,Z1 cD];exact aax cD);have en:IntKind.u64.wrap (c.2.2.2.length:Int)=(c.2.2.2.length:Int):=by rw[IntKind.wrap_u64];omega
 refine Wb _ ?_;repeat' first|exact tv|apply pr|intro hh
 .refine Ob.mk ?_
  simp only[];omega
 .refine Ob.mk ?_
  simp only[];omega
 .have cD:i<c.2.2.1.length:=by omega
  have es:IntKind.u64.wrap (c.2.2.1.getD i 0)=c.2.2.1.getD i 0:=by have:=uy cD;rw[IntKind.wrap_u64];omega
  refine⟨(i+1,V.set (2+i) (c.2.2.1.getD i 0)),[0,1],⟨rfl,rfl,?_,?_⟩,⟨cD,by rw[aao];exact LX,fun j=>?_⟩,abf cD (aa3 _)⟩
  .refine Vb _ ?_;repeat' first|exact tv|apply pr
   exact congrArg _ es
  .refine Vb _ ?_;repeat' first|exact tv|apply pr
   exact wr (by omega)
  .show(V.set (2+i) (c.2.2.1.getD i 0)).getD j 0=if j<2+(i+1)then(aC c).getD j 0 else 0
   rw[bj,hV];by_cases hj:2+i=j
   .rw[Z0 ⟨hj,by omega⟩,Z0 (by omega),<-hj,qO hk (by omega)]
   .rw[ZY (by omega)]
    by_cases lq:j<2+i
    .rw[Z0 lq,Z0 (by omega)]
    .rw[ZY lq,ZY (by omega)]
 .exact Ob.mk (by decide)
 .exact Ob.mk (by decide)
 have IL:i=c.2.2.1.length:=by omega
 subst IL;refine aM.intro hm (X:=Nat×List Int) (fun x=>x.1<=c.2.2.2.length/\x.2.length=52/\∀ j,x.2.getD j 0=if j<19+2*x.1 then(aC c).getD j 0 else 0) (fun x=>c.2.2.2.length - x.1)
  (fun x=>[(58,.I (x.1:Int)),(57,.I (c.2.2.2.length:Int)),(56,.aL dz fun _=>c.2.2.2),(8,.vec 0 1 (fun _=>18) fun _=>34),(7,.vec 0 1 (fun _=>0) fun _=>52),(6,.aL (.int .i64) fun _=>bL)])
  (fun x=>[.aq 41 (.int .u64) fun _=>x.2]) (0,V.set 18 (c.2.2.2.length:Int)) [1] ⟨rfl,rfl,?_,?_⟩ ⟨aae _,by rw[aao];exact LX,fun j=>?_⟩ (fun x hx=>?_)
 .refine Vb _ ?_;repeat' first|exact tv|apply pr
  exact congrArg _ en
 .exact Vc
 .show(V.set 18 (c.2.2.2.length:Int)).getD j 0=if j<19+2*0 then(aC c).getD j 0 else 0
  rw[bj,hV];by_cases hj:18=j
  .rw[Z0 ⟨hj,by omega⟩,Z0 (by omega),<-hj,HW hk]
  .rw[ZY (by omega)]
   by_cases lq:j<2+c.2.2.1.length
   .rw[Z0 lq,Z0 (by omega)]
   .rw[ZY lq]
    by_cases Y0:j<19
    .have:=qO hk (i:=j - 2) (by omega)
     rw[show 2+(j - 2)=j by omega,ZZ (l:=c.2.2.1),aat (by omega)]at this;rw[Z0 (by omega),this];rfl
    .rw[ZY (by omega)]
 clear LX hV V;obtain⟨i,V⟩:=x;obtain⟨hi,LX,hV⟩:=hx;simp only[]at hi LX hV;have uy:=fun cD:i<c.2.2.2.length=>hk.fM (c.2.2.2.getD i (0,0)) (by rw[ZZ,Z1 cD];exact aax cD);have w2:IntKind.i64.wrap (2*(i:Int))=2*i:=wr (by omega);have w3:IntKind.i64.wrap (1+2*(i:Int))=1+2*i:=wr (by omega);have w4:IntKind.i64.wrap (2+2*(i:Int))=2+2*i:=wr (by omega);have M:=RQ bL (aC c) (pV hk) (by decide);rw[show(bL.sum.toNat+63) / 64=19 by decide]at M;refine Wb _ ?_;repeat' first|exact tv|apply pr|intro hh
 .refine Ob.mk ?_
  simp only[];omega
 .refine Ob.mk ?_
  simp only[w2,w3];omega
 .refine Ob.mk ?_
  simp only[w2,w4];omega
 .have cD:i<c.2.2.2.length:=by omega
  have hb:=uy cD;have hv:=mU hk (i:=i) (by omega);have Wf:IntKind.u64.wrap (c.2.2.2.getD (i:Int).toNat dz.bA).1=(c.2.2.2.getD i (0,0)).1:=by
   show IntKind.u64.wrap (c.2.2.2.getD i (0,0)).1=_;rw[IntKind.wrap_u64];omega
  have Y1:IntKind.u64.wrap (c.2.2.2.getD (i:Int).toNat dz.bA).2=(c.2.2.2.getD i (0,0)).2:=by
   show IntKind.u64.wrap (c.2.2.2.getD i (0,0)).2=_;rw[IntKind.wrap_u64];omega
  have i1:18+(1+2*(i:Int)).toNat=19+2*i:=by omega
  have i2:18+(2+2*(i:Int)).toNat=20+2*i:=by omega
  refine⟨(i+1,(V.set (19+2*i) (c.2.2.2.getD i (0,0)).1).set (20+2*i) (c.2.2.2.getD i (0,0)).2),[0],⟨rfl,rfl,?_,?_⟩,⟨cD,by rw[aao,aao];exact LX,fun j=>?_⟩,abf cD (aa3 _)⟩
  .refine Vb _ ?_;repeat' first|exact tv|apply pr
   simp only[w2,w3,w4,Wf,Y1,i1,i2]
  .refine Vb _ ?_;repeat' first|exact tv|apply pr
   exact wr (by omega)
  .show((V.set (19+2*i) (c.2.2.2.getD i (0,0)).1).set (20+2*i) (c.2.2.2.getD i (0,0)).2).getD j 0=if j<19+2*(i+1)then(aC c).getD j 0 else 0
   rw[bj,bj,hV,aao];by_cases hj:20+2*i=j
   .rw[Z0 ⟨hj,by omega⟩,Z0 (by omega),<-hj,hv.2]
   .rw[ZY (by omega)]
    by_cases SX:19+2*i=j
    .rw[Z0 ⟨SX,by omega⟩,Z0 (by omega),<-SX,hv.1]
    .rw[ZY (by omega)]
     by_cases lq:j<19+2*i
     .rw[Z0 lq,Z0 (by omega)]
     .rw[ZY lq,ZY (by omega)]
 .have IL:i=c.2.2.2.length:=by omega
  have Y2:V=aC c:=pn (by rw[LX,zo hk]) fun j hj=>by
   rw[hV];split
   .rfl
   .rename_i lq
    by_cases Y0:j<51
    .by_cases ho:j % 2=1
     .have:=(mU hk (i:=(j - 19) / 2) (by omega)).1
      rw[show 19+2*((j - 19) / 2)=j by omega,ZZ (l:=c.2.2.2),aat (by omega)]at this;rw[this];rfl
     .have:=(mU hk (i:=(j - 20) / 2) (by omega)).2
      rw[show 20+2*((j - 20) / 2)=j by omega,ZZ (l:=c.2.2.2),aat (by omega)]at this;rw[this];rfl
    .rw[show j=51 by omega,ED hk]
  rw[Y2];refine ab.gU 0 ?_ M.aA;(conv=>whnf);have ev:List.take 52 (List.drop 0 (aC c))=aC c:=by
   rw[aah];exact Z6 (by rw[zo hk];decide)
  simp only[ev];(refine ab.q M [] fun _ _=>Wp _ ?_;(repeat' first|exact tv|apply pr|intro hh));exact ae.z () []
def fq (d:List Int) (k:Nat):List Int:=(List.range k).map fun i=>d.getD (2+i) 0
def bE (d:List Int) (k:Nat):List bc:=(List.range k).map fun i=>(d.getD (19+2*i) 0,d.getD (20+2*i) 0)
theorem Bl (d:List Int) (k:Nat):fq d (k+1)=fq d k++[d.getD (2+k) 0]:=by simp[fq,List.range_succ]
theorem oC (d:List Int) (k:Nat):bE d (k+1)=bE d k++[(d.getD (19+2*k) 0,d.getD (20+2*k) 0)]:=by simp[bE,List.range_succ]
theorem vO (d:List Int) (k:Nat):(fq d k).length=k:=by simp[fq]
theorem iw (d:List Int) (k:Nat):(bE d k).length=k:=by simp[bE]
theorem EE {a b:List Int} {i:Nat} (h1:i<a.length) (h2:i<b.length) (h:a.take i=b.take i) (hx:a.getD i 0=b.getD i 0):a.take (i+1)=b.take (i+1):=by
 rw[ZZ,ZZ,Z1 h1,Z1 h2]at hx;rw[aaE,aaE,h,Z1 h1,Z1 h2];simp only[aby]at hx;rw[hx]
theorem mX (a b:List Int) (ha:a.length<=1000) (hb:b.length<=1000):MU Tryz.prog 167 [.aL (.int .u64) fun _=>a,.aL (.int .u64) fun _=>b] [] (.bool fun _=>decide (a=b)) []:=by
 refine aa.q Tryz.func167 rfl fun S aw=>Wb _ ?_;repeat' first|exact tv|apply pr|intro hh
 .refine ae.w () [] _ ?_;repeat' first|exact tv|apply pr
  refine decide_eq_false ?_;intro e;exact hh (by rw[e])
 .have hl:a.length=b.length:=by omega
  refine aM.intro hm (X:=Nat) (fun i=>i<=a.length/\a.take i=b.take i) (fun i=>a.length - i)
   (fun i=>[(13,.I (i:Int)),(12,.I (a.length:Int)),(11,.aL (.int .u64) fun _=>a),(0,.aL (.int .u64) fun _=>a),(1,.aL (.int .u64) fun _=>b)]) (fun _=>[]) 0 [] ⟨rfl,rfl,?_,?_⟩ ⟨aae _,rfl⟩ (fun i hi=>?_)
  .exact Vc
  .exact Vc
  obtain⟨r8,cD⟩:=hi;refine Wb _ ?_;repeat' first|exact tv|apply pr|intro hh
  .exact Ob.mk (by simp only[];omega)
  .exact Ob.mk (by simp only[];omega)
  .have hx:¬a.getD i 0=b.getD i 0:=hh
   (refine ae.w () [] _ ?_;(repeat' first|exact tv|apply pr));refine decide_eq_false ?_;intro e;exact hx (by rw[e])
  .have hx:a.getD i 0=b.getD i 0:=hh
   refine⟨i+1,[],⟨rfl,rfl,?_,?_⟩,⟨by omega,EE (by omega) (by omega) cD hx⟩,by omega⟩
   .exact Vc
   .refine Vb _ ?_;repeat' first|exact tv|apply pr
    exact wr (by omega)
  .have e:i=a.length:=by omega
   (refine ae.w () [] _ ?_;(repeat' first|exact tv|apply pr));refine decide_eq_true ?_;rw[e,aac,hl,aac]at cD;exact cD
theorem H3 (p:ay) (w:List Int) (hw:Wd w) (hl:w.length<=1000):MU Tryz.prog 112 [aI p,.aL (.int .u64) fun _=>w] [] (.bQ [aO (ed p w).1,.bool fun _=>(ed p w).2]) []:=by
 by_cases S5:w.length=19;rotate_left
 .have MN:=Bf bL w 19 jL (by decide) (by decide) S5 hl
  have eU:ed p w=((0,0,[],[]),false):=ZY fun h=>S5 h.1;rw[eU];(refine aa.q Tryz.func112 rfl fun S aw=>Wb _ ?_;(repeat' first|exact tv|apply pr|intro hh));(refine ab.q xm [] fun _ _=>Wp _ ?_;(repeat' first|exact tv|apply pr|intro hh));(refine ab.q MN [] fun _ _=>Wp _ ?_;(repeat' first|exact tv|apply pr|intro hh));exact ae.z () []
 .have MN:=Kl bL w 19 jL (by decide) (by decide) (by decide) hw S5
  have EO:(gO bL (numOf w)).length=52:=by rw[mj];decide
  have nT:=HQ (N:=numOf w) jL;have hU:ed p w=if aD p (cellOf p (gO bL (numOf w)))=true/\ax 19 (dB (cellOf p (gO bL (numOf w))))=w then(cellOf p (gO bL (numOf w)),true)else((0,0,[],[]),false):=by
   unfold ed;simp only[S5,true_and]
  generalize gO bL (numOf w)=d at *;have h2:List.drop (2:Int).toNat (List.take (d.length:Int).toNat d)=d.drop 2:=by
   rw[Z4,aac];rfl
  have JS:∀ i,0<=d.getD i 0/\d.getD i 0<144115188075855872:=fun i=>by
   by_cases hi:i<52
   .have h1:=nT.2.2 i (by rw[uh];exact hi)
    have h2:bL.getD i 0<=57:=by
     have:∀ x∈bL,x<=57:=by decide
     exact this _ (by rw[ZZ,Z1 (by rw[uh];exact hi)];exact aax _)
    have h3:2 ^ (bL.getD i 0).toNat<=2 ^ 57:=abT (by decide) (by omega);omega
   .rw[ZZ,aat (by omega)];decide
  have kh:∀ i,IntKind.i64.wrap (d.getD i 0)=d.getD i 0:=fun i=>wr (by have:=JS i;omega);have g0:IntKind.i64.wrap (d.getD (0:Int).toNat (Ty.int .u64).bA)=d.getD 0 0:=kh 0;have g1:IntKind.i64.wrap (d.getD (1:Int).toNat (Ty.int .u64).bA)=d.getD 1 0:=kh 1;have h3:List.drop (16:Int).toNat (List.take ((d.drop 2).length:Int).toNat (d.drop 2))=d.drop 18:=by
   rw[Z4,aac,acq];rfl
  have U5:(d.drop 18).getD (0:Int).toNat (Ty.int .u64).bA=d.getD 18 0:=by
   show(d.drop 18).getD 0 0=_;rw[ZZ,aam,<-ZZ]
  (refine aa.q Tryz.func112 rfl fun S aw=>Wb _ ?_;(repeat' first|exact tv|apply pr|intro hh));(refine ab.q xm [] fun _ _=>Wp _ ?_;(repeat' first|exact tv|apply pr|intro hh));(refine ab.q MN [] fun _ _=>Wp _ ?_;(repeat' first|exact tv|apply pr|intro hh));all_goals (try simp only[h2,h3,U5,kh,g0,g1])
  all_goals first|(refine Ob.mk ?_;(try simp only[aar]);(try split) <;> (try split) <;> omega)|(refine Ob.mk ?_;simp only[];omega)|skip
  .have k:p.1=3:=by assumption
   generalize Av:(min (max p.2.2.2 0) 16).toNat=n1;have Y3:(if 16<(if 0>p.2.2.2 then 0 else p.2.2.2)then 16 else(if 0>p.2.2.2 then 0 else p.2.2.2))=(n1:Int):=by
    rw[<-Av];split <;> (try split) <;> omega
   have ET:List.drop (0:Int).toNat (List.take (n1:Int).toNat (d.drop 2))=(d.drop 2).take n1:=by
    rw[Z4];rfl
   have Rv:((d.drop 2).take n1).length=n1:=by rw[aak,aar];omega
   simp only[Y3,ET,Rv];refine aM.intro hm (X:=Nat) (fun i=>i<=n1) (fun i=>n1 - i)
    (fun i=>[(45,.I (i:Int)),(44,.I (n1:Int)),(43,.aL (.int .u64) fun _=>(d.drop 2).take n1),(9,.aL (.int .u64) fun _=>d.drop 2),(8,.ptr 2 0),(4,.ptr 1 0),(2,.ptr 0 0),(1,.aL (.int .u64) fun _=>w)])
    (fun i=>match i with
     | 0=>[.cells 27 [.I p.1,.I p.2.1,.I p.2.2.1,.I p.2.2.2],.cells 125 [.I 0,.I 0,.aZ,.aZ],.cells 125 [.I (d.getD 0 0),.I (d.getD 1 0),.aZ,.aZ]]
     | k+1=>[.cells 27 [.I p.1,.I p.2.1,.I p.2.2.1,.I p.2.2.2],.cells 125 [.I 0,.I 0,.aZ,.aZ],.cells 125 [.I (d.getD 0 0),.I (d.getD 1 0),.vec 3 1 (fun _=>0) fun _=>k+1,.aZ],.aq 3 (.int .i64) fun _=>fq d (k+1)]) 0 [0,1,2] ⟨rfl,rfl,?_,?_⟩ (aae _) (fun i hi=>?_)
   .exact Vc
   .exact Vc
   have g5:i<n1->((d.drop 2).take n1).getD (i:Int).toNat (Ty.int .u64).bA=d.getD (2+i) 0:=fun cD=>by
    show((d.drop 2).take n1).getD i 0=_;rw[ZZ,aap,Z0 cD,aam,<-ZZ]
   have ui:=Bl d i;cases i with
   | zero =>
    (refine Wb _ ?_;(repeat' first|exact tv|apply pr|intro hh));all_goals (try simp only[h2,h3,U5,kh,g0,g1])
    all_goals first|(refine Ob.mk ?_;(try simp only[aar,aak]);omega)|(refine Ob.mk ?_;simp only[];omega)|skip
    .refine Ob.mk ?_
     show(1:Nat)*8<=_;decide
    .have cD:0<n1:=by omega
     have g6:=g5 cD;refine⟨1,[0,1,2,4],⟨rfl,rfl,?_,?_⟩,cD,by omega⟩
     .simp only[g6,kh]
      exact Vc
     .exact Vc
    have e0:n1=0:=by omega
    subst e0;generalize xH:(min (d.getD 18 0) 16).toNat=n2;have WT:=JS 18;have R0:(if 16<d.getD 18 0 then 16 else d.getD 18 0)=(n2:Int):=by split <;> omega
    simp only[R0];have dh:cellOf p d=(d.getD 0 0,d.getD 1 0,[],bE d n2):=by
     unfold cellOf bE;rw[Z0 k,Av,xH];try rfl
    rw[dh]at hU;have LY:aD p (d.getD 0 0,d.getD 1 0,[],bE d n2)=true->ax 19 (dB (d.getD 0 0,d.getD 1 0,[],bE d n2))=w->ed p w=((d.getD 0 0,d.getD 1 0,[],bE d n2),true):=fun h1 h2=>hU.trans (Z0 ⟨h1,h2⟩);have r6:¬(aD p (d.getD 0 0,d.getD 1 0,[],bE d n2)=true/\ax 19 (dB (d.getD 0 0,d.getD 1 0,[],bE d n2))=w)->ed p w=((0,0,[],[]),false):=fun h=>hU.trans (ZY h);have zA:-9223372036854775808<=d.getD 1 0/\d.getD 1 0<=9223372036854775807:=by have:=JS 1;omega
    refine aM.intro hm (X:=Nat) (fun i=>i<=n2) (fun i=>n2 - i)
     (fun i=>[(64,.I (i:Int)),(63,.I (n2:Int)),(9,.aL (.int .u64) fun _=>d.drop 18),(8,.ptr 2 0),(4,.ptr 1 0),(2,.ptr 0 0),(1,.aL (.int .u64) fun _=>w)])
     (fun i=>match i with
      | 0=>[.cells 27 [.I p.1,.I p.2.1,.I p.2.2.1,.I p.2.2.2],.cells 125 [.I 0,.I 0,.aZ,.aZ],.cells 125 [.I (d.getD 0 0),.I (d.getD 1 0),.aZ,.aZ]]
      | k+1=>[.cells 27 [.I p.1,.I p.2.1,.I p.2.2.1,.I p.2.2.2],.cells 125 [.I 0,.I 0,.aZ,.aZ],.cells 125 [.I (d.getD 0 0),.I (d.getD 1 0),.aZ,.vec 3 2 (fun _=>0) fun _=>k+1],.aq 156 dz fun _=>bE d (k+1)]) 0 [0,1,2] ⟨rfl,rfl,?_,?_⟩ (aae _) (fun i hi=>?_)
    .refine Vb _ ?_;repeat' first|exact tv|apply pr
     all_goals exact rfl
    .refine Vb _ ?_;repeat' first|exact tv|apply pr
     all_goals (first|rfl|(split <;> omega)|omega|exact rfl)
    have w2:IntKind.i64.wrap (2*(i:Int))=2*i:=wr (by omega);have w3:IntKind.i64.wrap (1+2*(i:Int))=1+2*i:=wr (by omega);have w4:IntKind.i64.wrap (2+2*(i:Int))=2+2*i:=wr (by omega);have g3:(d.drop 18).getD (1+2*(i:Int)).toNat (Ty.int .u64).bA=d.getD (19+2*i) 0:=by
     rw[show(1+2*(i:Int)).toNat=1+2*i by omega];show(d.drop 18).getD (1+2*i) 0=_;rw[ZZ,aam,<-ZZ];congr 1;omega
    have g4:(d.drop 18).getD (2+2*(i:Int)).toNat (Ty.int .u64).bA=d.getD (20+2*i) 0:=by
     rw[show(2+2*(i:Int)).toNat=2+2*i by omega];show(d.drop 18).getD (2+2*i) 0=_;rw[ZZ,aam,<-ZZ];congr 1;omega
    have ui:=oC d i;have p5:(d.drop 18).length=34:=by rw[aar];omega
    cases i with
    | zero =>
     (refine Wb _ ?_;(repeat' first|exact tv|apply pr|intro hh));all_goals (try simp only[w2,w3,w4,g3,g4,kh])
     .exact Ob.mk (by rw[p5];decide)
     .exact Ob.mk (by rw[p5];decide)
     .refine Ob.mk ?_
      show(1:Nat)*16<=_;decide
     .refine⟨1,[0,1,2,4],⟨rfl,rfl,?_,?_⟩,by omega,by omega⟩
      .exact Vc
      .exact Vc
     .have e0:n2=0:=by omega
      subst e0;by_cases dJ:aD p (d.getD 0 0,d.getD 1 0,[],bE d 0)=true
      .have MP:=oA p _ dJ
       have MQ:=mX (ax 19 (dB (d.getD 0 0,d.getD 1 0,[],bE d 0))) w (by rw[br];decide) hl;(refine ab.q MP [] fun _ _=>Wp _ ?_;(repeat' first|exact tv|apply pr|intro hh));refine ab.q MQ [] fun _ _=>Wp _ ?_;repeat' first|exact tv|apply pr|intro hh
       .rw[r6 (fun h=>hh h.2)]
        exact ae.z () []
       .rw[LY dJ hh]
        exact ae.z () []
      .have MP:=iv p _ zA (abi.2 dJ)
       (refine ab.q MP [] fun _ _=>Wp _ ?_;(repeat' first|exact tv|apply pr|intro hh));rw[r6 (fun h=>dJ h.1)];exact ae.z () []
    | succ i =>
     (refine Wb _ ?_;(repeat' first|exact tv|apply pr|intro hh));all_goals (try simp only[w2,w3,w4,g3,g4,kh])
     .refine Ob.mk ?_
      simp only[p5];omega
     .refine Ob.mk ?_
      simp only[p5];omega
     .refine Ob.mk ⟨trivial,?_,?_⟩
      .show i+1+1<=_
       omega
      .show(i+1+1)*16<=_
       omega
     .refine⟨i+2,[0,1,2,3],⟨rfl,rfl,?_,?_⟩,by omega,by omega⟩
      .refine Vb _ ?_;repeat' first|exact tv|apply pr
       rw[Z6 (by rw[iw];exact Z8 _)];exact ui.symm
      .refine Vb _ ?_;repeat' first|exact tv|apply pr
       exact wr (by omega)
     .have e0:n2=i+1:=by omega
      subst e0;have et:List.take (i+1) (List.drop 0 (bE d (i+1)))=bE d (i+1):=by
       rw[aah];exact Z6 (by rw[iw];exact Z8 _)
      by_cases dJ:aD p (d.getD 0 0,d.getD 1 0,[],bE d (i+1))=true
      .have MP:=oA p _ dJ
       have MQ:=mX (ax 19 (dB (d.getD 0 0,d.getD 1 0,[],bE d (i+1)))) w (by rw[br];decide) hl;refine ab.gU 3 ?_ MP.aA;(conv=>whnf);refine ab.intro MP [] rfl rfl ?_ ?_ (fun _ _=>?_)
       .refine Vb _ ?_;repeat' first|exact tv|apply pr
        exact et
       .exact Vc
       (refine Wa _ ?_;(repeat' first|exact tv|apply pr|intro hh));refine ab.q MQ [] fun _ _=>Wp _ ?_;repeat' first|exact tv|apply pr|intro hh
       .rw[r6 (fun h=>hh h.2)]
        exact ae.z () []
       .rw[LY dJ hh]
        (refine ae.w () [] _ ?_;(repeat' first|exact tv|apply pr));all_goals exact et
      .have MP:=iv p _ zA (abi.2 dJ)
       refine ab.gU 3 ?_ MP.aA;(conv=>whnf);refine ab.intro MP [] rfl rfl ?_ ?_ (fun _ _=>?_)
       .refine Vb _ ?_;repeat' first|exact tv|apply pr
        exact et
       .exact Vc
       (refine Wa _ ?_;(repeat' first|exact tv|apply pr|intro hh));rw[r6 (fun h=>dJ h.1)];exact ae.z () []
   | succ i =>
    (refine Wb _ ?_;(repeat' first|exact tv|apply pr|intro hh));all_goals (try simp only[h2,h3,U5,kh,g0,g1])
    all_goals first|(refine Ob.mk ?_;(try simp only[aar,aak]);omega)|(refine Ob.mk ?_;simp only[];omega)|skip
    .refine Ob.mk ⟨trivial,?_,?_⟩
     .show i+1+1<=_
      omega
     .show(i+1+1)*8<=_
      omega
    .have cD:i+1<n1:=by omega
     have g6:=g5 cD;refine⟨i+2,[0,1,2,3],⟨rfl,rfl,?_,?_⟩,cD,by omega⟩
     .simp only[g6,kh]
      (refine Vb _ ?_;(repeat' first|exact tv|apply pr));rw[Z6 (by rw[vO];exact Z8 _)];exact ui.symm
     .refine Vb _ ?_;repeat' first|exact tv|apply pr
      exact wr (by omega)
    have e0:n1=i+1:=by omega
    subst e0;have het:List.take (i+1) (List.drop 0 (fq d (i+1)))=fq d (i+1):=by
     rw[aah];exact Z6 (by rw[vO];exact Z8 _)
    refine zf 3 ?_;(conv=>whnf);generalize i+1=n3 at *;generalize xH:(min (d.getD 18 0) 16).toNat=n2;have WT:=JS 18;have R0:(if 16<d.getD 18 0 then 16 else d.getD 18 0)=(n2:Int):=by split <;> omega
    simp only[R0];have dh:cellOf p d=(d.getD 0 0,d.getD 1 0,fq d n3,bE d n2):=by
     unfold cellOf bE;rw[Z0 k,Av,xH];try rfl
    rw[dh]at hU;have LY:aD p (d.getD 0 0,d.getD 1 0,fq d n3,bE d n2)=true->ax 19 (dB (d.getD 0 0,d.getD 1 0,fq d n3,bE d n2))=w->ed p w=((d.getD 0 0,d.getD 1 0,fq d n3,bE d n2),true):=fun h1 h2=>hU.trans (Z0 ⟨h1,h2⟩);have r6:¬(aD p (d.getD 0 0,d.getD 1 0,fq d n3,bE d n2)=true/\ax 19 (dB (d.getD 0 0,d.getD 1 0,fq d n3,bE d n2))=w)->ed p w=((0,0,[],[]),false):=fun h=>hU.trans (ZY h);have zA:-9223372036854775808<=d.getD 1 0/\d.getD 1 0<=9223372036854775807:=by have:=JS 1;omega
    refine aM.intro hm (X:=Nat) (fun i=>i<=n2) (fun i=>n2 - i)
     (fun i=>[(64,.I (i:Int)),(63,.I (n2:Int)),(9,.aL (.int .u64) fun _=>d.drop 18),(8,.ptr 2 0),(4,.ptr 1 0),(2,.ptr 0 0),(1,.aL (.int .u64) fun _=>w)])
     (fun i=>match i with
      | 0=>[.cells 27 [.I p.1,.I p.2.1,.I p.2.2.1,.I p.2.2.2],.cells 125 [.I 0,.I 0,.aZ,.aZ],.cells 125 [.I (d.getD 0 0),.I (d.getD 1 0),.aL (.int .i64) fun _=>fq d n3,.aZ]]
      | k+1=>[.cells 27 [.I p.1,.I p.2.1,.I p.2.2.1,.I p.2.2.2],.cells 125 [.I 0,.I 0,.aZ,.aZ],.cells 125 [.I (d.getD 0 0),.I (d.getD 1 0),.aL (.int .i64) fun _=>fq d n3,.vec 3 2 (fun _=>0) fun _=>k+1],.aq 156 dz fun _=>bE d (k+1)]) 0 [0,1,2] ⟨rfl,rfl,?_,?_⟩ (aae _) (fun i hi=>?_)
    .refine Vb _ ?_;repeat' first|exact tv|apply pr
     all_goals exact het
    .refine Vb _ ?_;repeat' first|exact tv|apply pr
     all_goals (first|rfl|(split <;> omega)|omega|exact het)
    have w2:IntKind.i64.wrap (2*(i:Int))=2*i:=wr (by omega);have w3:IntKind.i64.wrap (1+2*(i:Int))=1+2*i:=wr (by omega);have w4:IntKind.i64.wrap (2+2*(i:Int))=2+2*i:=wr (by omega);have g3:(d.drop 18).getD (1+2*(i:Int)).toNat (Ty.int .u64).bA=d.getD (19+2*i) 0:=by
     rw[show(1+2*(i:Int)).toNat=1+2*i by omega];show(d.drop 18).getD (1+2*i) 0=_;rw[ZZ,aam,<-ZZ];congr 1;omega
    have g4:(d.drop 18).getD (2+2*(i:Int)).toNat (Ty.int .u64).bA=d.getD (20+2*i) 0:=by
     rw[show(2+2*(i:Int)).toNat=2+2*i by omega];show(d.drop 18).getD (2+2*i) 0=_;rw[ZZ,aam,<-ZZ];congr 1;omega
    have ui:=oC d i;have p5:(d.drop 18).length=34:=by rw[aar];omega
    cases i with
    | zero =>
     (refine Wb _ ?_;(repeat' first|exact tv|apply pr|intro hh));all_goals (try simp only[w2,w3,w4,g3,g4,kh])
     .exact Ob.mk (by rw[p5];decide)
     .exact Ob.mk (by rw[p5];decide)
     .refine Ob.mk ?_
      show(1:Nat)*16<=_;decide
     .refine⟨1,[0,1,2,4],⟨rfl,rfl,?_,?_⟩,by omega,by omega⟩
      .exact Vc
      .exact Vc
     .have e0:n2=0:=by omega
      subst e0;by_cases dJ:aD p (d.getD 0 0,d.getD 1 0,fq d n3,bE d 0)=true
      .have MP:=oA p _ dJ
       have MQ:=mX (ax 19 (dB (d.getD 0 0,d.getD 1 0,fq d n3,bE d 0))) w (by rw[br];decide) hl;(refine ab.q MP [] fun _ _=>Wp _ ?_;(repeat' first|exact tv|apply pr|intro hh));refine ab.q MQ [] fun _ _=>Wp _ ?_;repeat' first|exact tv|apply pr|intro hh
       .rw[r6 (fun h=>hh h.2)]
        exact ae.z () []
       .rw[LY dJ hh]
        exact ae.z () []
      .have MP:=iv p _ zA (abi.2 dJ)
       (refine ab.q MP [] fun _ _=>Wp _ ?_;(repeat' first|exact tv|apply pr|intro hh));rw[r6 (fun h=>dJ h.1)];exact ae.z () []
    | succ i =>
     (refine Wb _ ?_;(repeat' first|exact tv|apply pr|intro hh));all_goals (try simp only[w2,w3,w4,g3,g4,kh])
     .refine Ob.mk ?_
      simp only[p5];omega
     .refine Ob.mk ?_
      simp only[p5];omega
     .refine Ob.mk ⟨trivial,?_,?_⟩
      .show i+1+1<=_
       omega
      .show(i+1+1)*16<=_
       omega
     .refine⟨i+2,[0,1,2,3],⟨rfl,rfl,?_,?_⟩,by omega,by omega⟩
      .refine Vb _ ?_;repeat' first|exact tv|apply pr
       rw[Z6 (by rw[iw];exact Z8 _)];exact ui.symm
      .refine Vb _ ?_;repeat' first|exact tv|apply pr
       exact wr (by omega)
     .have e0:n2=i+1:=by omega
      subst e0;have et:List.take (i+1) (List.drop 0 (bE d (i+1)))=bE d (i+1):=by
       rw[aah];exact Z6 (by rw[iw];exact Z8 _)
      by_cases dJ:aD p (d.getD 0 0,d.getD 1 0,fq d n3,bE d (i+1))=true
      .have MP:=oA p _ dJ
       have MQ:=mX (ax 19 (dB (d.getD 0 0,d.getD 1 0,fq d n3,bE d (i+1)))) w (by rw[br];decide) hl;refine ab.gU 3 ?_ MP.aA;(conv=>whnf);refine ab.intro MP [] rfl rfl ?_ ?_ (fun _ _=>?_)
       .refine Vb _ ?_;repeat' first|exact tv|apply pr
        exact et
       .exact Vc
       (refine Wa _ ?_;(repeat' first|exact tv|apply pr|intro hh));refine ab.q MQ [] fun _ _=>Wp _ ?_;repeat' first|exact tv|apply pr|intro hh
       .rw[r6 (fun h=>hh h.2)]
        exact ae.z () []
       .rw[LY dJ hh]
        (refine ae.w () [] _ ?_;(repeat' first|exact tv|apply pr));all_goals exact et
      .have MP:=iv p _ zA (abi.2 dJ)
       refine ab.gU 3 ?_ MP.aA;(conv=>whnf);refine ab.intro MP [] rfl rfl ?_ ?_ (fun _ _=>?_)
       .refine Vb _ ?_;repeat' first|exact tv|apply pr
        exact et
       .exact Vc
       (refine Wa _ ?_;(repeat' first|exact tv|apply pr|intro hh));rw[r6 (fun h=>dJ h.1)];exact ae.z () []
  .have k:¬p.1=3:=by assumption
   generalize xH:(min (d.getD 18 0) 16).toNat=n2;have WT:=JS 18;have R0:(if 16<d.getD 18 0 then 16 else d.getD 18 0)=(n2:Int):=by split <;> omega
   simp only[R0];have dh:cellOf p d=(d.getD 0 0,d.getD 1 0,[],bE d n2):=by
    unfold cellOf bE;rw[ZY k,xH];try rfl
   rw[dh]at hU;have LY:aD p (d.getD 0 0,d.getD 1 0,[],bE d n2)=true->ax 19 (dB (d.getD 0 0,d.getD 1 0,[],bE d n2))=w->ed p w=((d.getD 0 0,d.getD 1 0,[],bE d n2),true):=fun h1 h2=>hU.trans (Z0 ⟨h1,h2⟩);have r6:¬(aD p (d.getD 0 0,d.getD 1 0,[],bE d n2)=true/\ax 19 (dB (d.getD 0 0,d.getD 1 0,[],bE d n2))=w)->ed p w=((0,0,[],[]),false):=fun h=>hU.trans (ZY h);have zA:-9223372036854775808<=d.getD 1 0/\d.getD 1 0<=9223372036854775807:=by have:=JS 1;omega
   refine aM.intro hm (X:=Nat) (fun i=>i<=n2) (fun i=>n2 - i)
    (fun i=>[(64,.I (i:Int)),(63,.I (n2:Int)),(9,.aL (.int .u64) fun _=>d.drop 18),(8,.ptr 2 0),(4,.ptr 1 0),(2,.ptr 0 0),(1,.aL (.int .u64) fun _=>w)])
    (fun i=>match i with
     | 0=>[.cells 27 [.I p.1,.I p.2.1,.I p.2.2.1,.I p.2.2.2],.cells 125 [.I 0,.I 0,.aZ,.aZ],.cells 125 [.I (d.getD 0 0),.I (d.getD 1 0),.aZ,.aZ]]
     | k+1=>[.cells 27 [.I p.1,.I p.2.1,.I p.2.2.1,.I p.2.2.2],.cells 125 [.I 0,.I 0,.aZ,.aZ],.cells 125 [.I (d.getD 0 0),.I (d.getD 1 0),.aZ,.vec 3 2 (fun _=>0) fun _=>k+1],.aq 156 dz fun _=>bE d (k+1)]) 0 [0,1,2] ⟨rfl,rfl,?_,?_⟩ (aae _) (fun i hi=>?_)
   .refine Vb _ ?_;repeat' first|exact tv|apply pr
    all_goals exact rfl
   .refine Vb _ ?_;repeat' first|exact tv|apply pr
    all_goals (first|rfl|(split <;> omega)|omega|exact rfl)
   have w2:IntKind.i64.wrap (2*(i:Int))=2*i:=wr (by omega);have w3:IntKind.i64.wrap (1+2*(i:Int))=1+2*i:=wr (by omega);have w4:IntKind.i64.wrap (2+2*(i:Int))=2+2*i:=wr (by omega);have g3:(d.drop 18).getD (1+2*(i:Int)).toNat (Ty.int .u64).bA=d.getD (19+2*i) 0:=by
    rw[show(1+2*(i:Int)).toNat=1+2*i by omega];show(d.drop 18).getD (1+2*i) 0=_;rw[ZZ,aam,<-ZZ];congr 1;omega
   have g4:(d.drop 18).getD (2+2*(i:Int)).toNat (Ty.int .u64).bA=d.getD (20+2*i) 0:=by
    rw[show(2+2*(i:Int)).toNat=2+2*i by omega];show(d.drop 18).getD (2+2*i) 0=_;rw[ZZ,aam,<-ZZ];congr 1;omega
   have ui:=oC d i;have p5:(d.drop 18).length=34:=by rw[aar];omega
   cases i with
   | zero =>
    (refine Wb _ ?_;(repeat' first|exact tv|apply pr|intro hh));all_goals (try simp only[w2,w3,w4,g3,g4,kh])
    .exact Ob.mk (by rw[p5];decide)
    .exact Ob.mk (by rw[p5];decide)
    .refine Ob.mk ?_
     show(1:Nat)*16<=_;decide
    .refine⟨1,[0,1,2,4],⟨rfl,rfl,?_,?_⟩,by omega,by omega⟩
     .exact Vc
     .exact Vc
    .have e0:n2=0:=by omega
     subst e0;by_cases dJ:aD p (d.getD 0 0,d.getD 1 0,[],bE d 0)=true
     .have MP:=oA p _ dJ
      have MQ:=mX (ax 19 (dB (d.getD 0 0,d.getD 1 0,[],bE d 0))) w (by rw[br];decide) hl;(refine ab.q MP [] fun _ _=>Wp _ ?_;(repeat' first|exact tv|apply pr|intro hh));refine ab.q MQ [] fun _ _=>Wp _ ?_;repeat' first|exact tv|apply pr|intro hh
      .rw[r6 (fun h=>hh h.2)]
       exact ae.z () []
      .rw[LY dJ hh]
       exact ae.z () []
     .have MP:=iv p _ zA (abi.2 dJ)
      (refine ab.q MP [] fun _ _=>Wp _ ?_;(repeat' first|exact tv|apply pr|intro hh));rw[r6 (fun h=>dJ h.1)];exact ae.z () []
   | succ i =>
    (refine Wb _ ?_;(repeat' first|exact tv|apply pr|intro hh));all_goals (try simp only[w2,w3,w4,g3,g4,kh])
    .refine Ob.mk ?_
     simp only[p5];omega
    .refine Ob.mk ?_
     simp only[p5];omega
    .refine Ob.mk ⟨trivial,?_,?_⟩
     .show i+1+1<=_
      omega
     .show(i+1+1)*16<=_
      omega
    .refine⟨i+2,[0,1,2,3],⟨rfl,rfl,?_,?_⟩,by omega,by omega⟩
     .refine Vb _ ?_;repeat' first|exact tv|apply pr
      rw[Z6 (by rw[iw];exact Z8 _)];exact ui.symm
     .refine Vb _ ?_;repeat' first|exact tv|apply pr
      exact wr (by omega)
    .have e0:n2=i+1:=by omega
     subst e0;have et:List.take (i+1) (List.drop 0 (bE d (i+1)))=bE d (i+1):=by
      rw[aah];exact Z6 (by rw[iw];exact Z8 _)
     by_cases dJ:aD p (d.getD 0 0,d.getD 1 0,[],bE d (i+1))=true
     .have MP:=oA p _ dJ
      have MQ:=mX (ax 19 (dB (d.getD 0 0,d.getD 1 0,[],bE d (i+1)))) w (by rw[br];decide) hl;refine ab.gU 3 ?_ MP.aA;(conv=>whnf);refine ab.intro MP [] rfl rfl ?_ ?_ (fun _ _=>?_)
      .refine Vb _ ?_;repeat' first|exact tv|apply pr
       exact et
      .exact Vc
      (refine Wa _ ?_;(repeat' first|exact tv|apply pr|intro hh));refine ab.q MQ [] fun _ _=>Wp _ ?_;repeat' first|exact tv|apply pr|intro hh
      .rw[r6 (fun h=>hh h.2)]
       exact ae.z () []
      .rw[LY dJ hh]
       (refine ae.w () [] _ ?_;(repeat' first|exact tv|apply pr));all_goals exact et
     .have MP:=iv p _ zA (abi.2 dJ)
      refine ab.gU 3 ?_ MP.aA;(conv=>whnf);refine ab.intro MP [] rfl rfl ?_ ?_ (fun _ _=>?_)
      .refine Vb _ ?_;repeat' first|exact tv|apply pr
       exact et
      .exact Vc
      (refine Wa _ ?_;(repeat' first|exact tv|apply pr|intro hh));rw[r6 (fun h=>dJ h.1)];exact ae.z () []
end Go.Proofs.YthnefnlhcijekaaGreat.Ce
set_option maxRecDepth 8000
namespace Go.Proofs.YthnefnlhcijekaaGreat.En
open Go Go.RowKit Fw Hi Ce Bt Eb
open Wh (aR de dS cP cQ)
abbrev uR:Ty:=.pair (.int .i64) .str
abbrev H4:Ty:=.pair (.pair (.int .i64) .str) (.int .i64)
abbrev H5:=(Int×List UInt8)×Int
abbrev uS:=List (Nat×Int×H5)
def rS (es:uS):List (Nat×Int×HV):=es.map fun e=>(e.1,e.2.1,.gQ H4 e.2.2)
def yv (es:uS) (c:Nat):Hp:=⟨1,fun _=>.map (rS es) c⟩
theorem uj (es:uS) (n:Int):aP (rS es) n=(aP es n).map fun d=>HV.gQ H4 d:=by
 induction es with
 | nil=>rfl
 | cons e r ih =>
  obtain⟨b,k,x⟩:=e;simp only[rS,aal,aP];split
  .rfl
  .exact ih
theorem H6 (es:uS) (n:Int):bZ (rS es) n=rS (bZ es n):=by
 induction es with
 | nil=>rfl
 | cons e r ih =>
  obtain⟨b,k,x⟩:=e;simp only[rS,aal,bZ];split
  .rfl
  .rw[aal];exact congrArg _ ih
theorem H7 (es:uS) (c:Nat) (n:Int) (v:H5):bV (rS es) c n (.gQ H4 v)=rS (bV es c n v):=by
 induction es with
 | nil=>rfl
 | cons e r ih =>
  obtain⟨b,k,x⟩:=e;simp only[rS,aal,bV];split
  .rfl
  .rw[aal];exact congrArg _ ih
def KC (es:uS) (c:Nat) (n:Int):Nat:=match aP es n with|some _=>c|none=>c+1
def LZ (v:H5):AV:=.agg [.I v.1.1,.str fun _=>v.1.2,.I v.2]
theorem vP {P:Program} {t i c:Nat} {es:uS} {K:AV->Prop} {g:Unit->Nat} {n:Unit->Int} {z:Value} (v:H5) (hz:iC P t=some z) (hg:g ()=0) (hv:aP es (n ())=some v)
  (k:K (LZ v)):OS P t false i (fun _=>yv es c) g n K :=
 ⟨rS es,c,z,rfl,hz,fun u hu=>(by rw[uj,hv]at hu;cases hu;exact k),fun hn=>(by rw[uj,hv]at hn;cases hn)⟩
theorem R1 {P:Program} {t c:Nat} {es:uS} {K:Hp->Prop} {g:Unit->Nat} {n:Unit->Int} {z:Value} (hz:iC P t=some z) (hg:g ()=0) (k:K (yv (bZ es (n ())) c)):Mi P t n (fun _=>yv es c) g K:=by
 refine⟨rS es,c,z,yv (bZ es (n ())) c,rfl,hz,⟨rfl,fun j hj=>?_⟩,k⟩;have:j=0:=by change j<1 at hj;omega
 subst this;rw[hg];simp only[yv,Hp.set,if_true,H6];exact HO.aG _
theorem R2 {P:Program} {t i c:Nat} {es:uS} {K:Hp->Prop} {g:Unit->Nat} {n:Unit->Int} {z:Value} {w:AV} (v:H5) (hz:iC P t=some z) (hg:g ()=0) (hw:w=LZ v) (k:K (yv (bV es c (n ()) v) (KC es c (n ())))):Mh P t i n w (fun _=>yv es c) g K:=by
 refine⟨rS es,c,z,.gQ H4 v,yv (bV es c (n ()) v) (KC es c (n ())),rfl,hz,by rw[hw];exact .eq (.gQ H4 v),⟨rfl,fun j hj=>?_⟩,k⟩;have:j=0:=by change j<1 at hj;omega
 subst this;rw[hg];simp only[yv,Hp.set,if_true,uB,H7,uj,KC];cases aP es (n ()) <;> exact HO.aG _
structure Es where
 ao:Int
 tn:Int
 es:uS
 ec:Nat
 G:Nat
 a:Ab
def fb (nm:Nm):List UInt8:=UInt8.ofNat (48+nm.1.toNat)::nm.2
def sh (a:Ab):Gs:=fun h=>(a.cp h).map fun e=>ax 19 (dB e.c)
def um (a:Ab):Ro.c5:=fun k=>a.ord.find? fun h=>decide (fb (EB a h)=k)
abbrev xv:TypeId:=112
def R3 (x:Es):List AV:=[.I (x.a.n:Int),.int .u64 fun _=>x.ao,.I x.a.now,.aL c7 fun _=>x.a.bk,.ptr 1 0,.ptr 2 0,.ptr 3 0,.ptr 4 0,.ptr 5 0,.hm 6 fun _=>0]
def iy (x:Es):List Chunk:=[.cells xv (R3 x),.bq (fS x.a.n x.G (sh x.a) (x.a.n - x.a.ord.length)),.bq (jr x.ao (um x.a) x.a.ord.length),.bq (uN x.tn x.a.due),.bq (l8 x.a.ord),.bq (l8 x.a.bU),.heap fun _=>yv x.es x.ec]
structure kR (x:Es):Prop where
 inv:Inv x.a
 tn:x.tn<=x.a.now
 nd:(aR x.es).Nodup
 get:∀ h,aP x.es h=(x.a.cp h).map fun e=>(e.nm,e.v)
 G:x.G<=900000000
theorem qH (h:Int):MU Tryz.prog 72 [.I h] [] (.I (h.tmod 64)) []:=by
 refine aa.q Tryz.func72 rfl fun S aw=>Wa _ ?_;repeat' first|exact tv|apply pr|intro hh
 .exact Ob.mk (by decide)
 exact ae.z () []
def zB (nm:Nm):AV:=.agg [.I nm.1,.str fun _=>nm.2]
theorem KD (nm:Nm) (hb:0<=nm.1/\nm.1<8) (hl:nm.2.length<=1000):MU Tryz.prog 82 [zB nm] [] (.str fun _=>fb nm) []:=by
 have e1:IntKind.u8.wrap (IntKind.i64.wrap (48+nm.1))=48+nm.1:=by
  rw[wr (by omega)];have:0<=48+nm.1/\48+nm.1<256:=by omega
  simp[IntKind.wrap,IntKind.bits,IntKind.signed];omega
 have e2:(48+nm.1).toNat=48+nm.1.toNat:=by omega
 refine aa.q Tryz.func82 rfl fun S aw=>Wa _ ?_;repeat' first|exact tv|apply pr|intro hh
 .exact Ob.mk (by simp only[aah,abg,abR,aal,List.map_nil,Z9,aay];omega)
 (refine ae.w () [] _ ?_;(repeat' first|exact tv|apply pr));rw[e1];show[UInt8.ofNat (48+nm.1).toNat]++nm.2=_;rw[e2];rfl
theorem C2 (nm:Nm):MU Tryz.prog 79 [zB nm] [] (.bool fun _=>fy nm) []:=by
 (refine aa.q Tryz.func79 rfl fun S aw=>Wa _ ?_;(repeat' first|exact tv|apply pr|intro hh));all_goals refine ae.w () [] _ ?_;repeat' first|exact tv|apply pr
 all_goals simp_all [fy]
 all_goals omega
end Go.Proofs.YthnefnlhcijekaaGreat.En
set_option maxRecDepth 8000
namespace Go.Proofs.YthnefnlhcijekaaGreat.En
open Go Go.RowKit Fw Hi Ce Bt Eb
open Wh (aR de dS cP cQ)
def ft (bk:List bM) (e:E1):ay×Cell×Bool:=match cY bk e with|some p=>(p,norm p e.c,true)|none=>((0,0,0,0),(0,0,[],[]),false)
theorem p6 {a:Ab} {h:Int} {e:E1} (he:a.cp h=some e):sh a h=some (ax 19 (dB e.c)):=by unfold sh;rw[he];rfl
theorem si {bk:List bM} {id:Int} {p:ay} {v:Int} (h:cC bk id=some (p,v)):nj bk id=(p,v,0):=by
 unfold cC at h;split at h
 .rename_i hk
  unfold nj;rw[Z0 ⟨hk.1,hk.2.1⟩,Z0 hk.2.2];cases hb:aX bk id with
  | mk x y=>rw[hb]at h;cases h;rfl
 .cases h
theorem get_none {bk:List bM} {id:Int} (h:cC bk id=none):nj bk id=((0,0,0,0),0,if 0<=id/\id<8 then 5 else 1):=by
 unfold cC at h;split at h
 .cases h
 .rename_i hk
  unfold nj;by_cases hi:0<=id/\id<8
  .rw[Z0 hi,Z0 hi,ZY (fun h2=>hk ⟨hi.1,hi.2,h2⟩)]
  .rw[ZY hi,ZY hi]
theorem sj {nm:Nm} (h:fy nm=true):1<=(fb nm).length/\(fb nm).length<=33:=by
 simp only[fy,aai,decide_eq_true_eq]at h;unfold fb;rw[Z9];omega
theorem key_inj {nm U6:Nm} (h:fy nm=true) (h':fy U6=true) (e:fb nm=fb U6):nm=U6:=by
 have h1:=rA h;have h2:=rA h';unfold fb at e;obtain⟨e1,e2⟩:=List.cons.inj e;have e3:=congrArg UInt8.toNat e1;simp only[UInt8.toNat_ofNat']at e3;exact Prod.ext (by omega) e2
theorem kS {a:Ab} (I:Inv a) (k:List UInt8) (h:Int):um a k=some h↔∃ e,a.cp h=some e/\fb e.nm=k:=by
 have fD:∀ j∈a.ord,∃ e,a.cp j=some e:=fun j hj=>aaF.1 ((I.mem j).1 hj);constructor
 .intro hk
  have h1:=List.find?_some hk;have h2:=List.mem_of_find?_eq_some hk;obtain⟨e,he⟩:=fD h h2;rw[jB he]at h1;exact⟨e,he,by simpa using h1⟩
 .rintro⟨e,he,hk⟩
  have dJ:h∈a.ord:=(I.mem h).2 (by rw[he];rfl);cases hf:um a k with
  | none =>
   have:=List.find?_eq_none.1 hf h dJ;rw[jB he,hk]at this;simp at this
  | some j =>
   have h1:=List.find?_some hf;have h2:=List.mem_of_find?_eq_some hf;obtain⟨e',xu⟩:=fD j h2;rw[jB xu]at h1;have h3:fb e'.nm=fb e.nm:=by rw[hk];simpa using h1
   rw[I.E6 j h e' e xu he (key_inj (I.ok j e' xu).1 (I.ok h e he).1 h3)]
theorem H8 {A B:Ro.c5} (h:∀ k v,A k=some v↔B k=some v):A=B:=by
 funext k;exact Option.ext fun v=>h k v
theorem KE {a:Ab} (I:Inv a) {h:Int} {e:E1} (he:a.cp h=some e):Ro.bO (um a) (fb e.nm) none=um (jz a h):=by
 have dJ:h∈a.ord:=(I.mem h).2 (by rw[he];rfl);refine H8 fun k v=>?_;rw[kS (I.drop dJ)];unfold Ro.bO;by_cases hk:k=fb e.nm
 .rw[Z0 hk]
  constructor
  .intro h1;cases h1
  .rintro⟨e',h1,h2⟩
   obtain⟨h3,h4⟩:=fK h1;exact(h3 (I.E6 v h e' e h4 he (key_inj (I.ok v e' h4).1 (I.ok h e he).1 (by rw[h2,hk])))).elim
 .rw[ZY hk,kS I]
  constructor
  .rintro⟨e',h1,h2⟩
   refine⟨e',?_,h2⟩;have:v≠h:=fun e2=>by subst e2;rw[he]at h1;cases h1;exact hk h2.symm
   show fO a.cp h none v=_;rw[dK _ _ this];exact h1
  .rintro⟨e',h1,h2⟩
   exact⟨e',(fK h1).2,h2⟩
theorem KF (a:Ab) (h:Int):hZ (sh a) h none=sh (jz a h):=by
 funext j;show(if j=h then none else(a.cp j).map _)=((if j=h then none else a.cp j).map _)
 split <;> rfl
theorem oD {a:Ab} (I:Inv a):a.ord.length<=a.n:=mW a.ord I.pos I.xI I.kg
def eu (x:Es) (h:Int):Es:={ x with a:=jz x.a h,es:=bZ x.es h,G:=x.G+1 }
theorem kR.drop {x:Es} (ok:kR x) {h:Int} (hh:h∈x.a.ord) (hG:x.G<900000000):kR (eu x h):=by
 refine⟨ok.inv.drop hh,ok.tn,cQ ok.nd h,fun j=>?_,by show x.G+1<=_;omega⟩;show aP (bZ x.es h) j=(fO x.a.cp h none j).map _;rw[dS ok.nd,ok.get];unfold fO;split <;> rfl
theorem H9 (x:Es) (yl:ni x.a.bk) (hG:x.G<=900000000) (h:Int) (e:E1) (he:x.a.cp h=some e) (vm:aP x.es h=some (e.nm,e.v)) (IL:∀ p,cY x.a.bk e=some p->aD p e.c=true):MU Tryz.prog 62 [.ptr 0 0,.I h] (iy x) (.bQ [aI (ft x.a.bk e).1,aO (ft x.a.bk e).2.1,.bool fun _=>(ft x.a.bk e).2.2]) (iy x):=by
 have Ia:x.G<=1000000000:=by omega
 have cL:=CY x.a.bk yl e.nm.1;cases hc:cY x.a.bk e with
 | some p =>
  have p7:=IL p hc;have er:ft x.a.bk e=(p,norm p e.c,true):=by unfold ft;rw[hc]
  rw[si (cJ.1 hc)]at cL;have r6:=H3 p (ax 19 (dB e.c)) (GA _ _) (by simp[ax]);rw[zt p7]at r6;rw[er];(refine aa.q Tryz.func62 rfl fun S aw=>Wa _ ?_;(repeat' first|exact tv|apply pr|intro hh));refine vP (e.nm,e.v) rfl rfl vm ?_;(refine Wa _ ?_;(repeat' first|exact tv|apply pr|intro hh));all_goals refine ab.q cL [] fun _ _=>Wp _ ?_;repeat' first|exact tv|apply pr|intro hh
  all_goals first|(exact absurd rfl ‹_›)|skip
  all_goals refine ab.q (NM Ia (p6 he)) [1] fun _ _=>Wp _ ?_;repeat' first|exact tv|apply pr|intro hh
  all_goals refine ab.q r6 [] fun _ _=>Wp _ ?_;repeat' first|exact tv|apply pr|intro hh
  all_goals exact ae.z () [0,1,2,3,4,5,6]
 | none =>
  have er:ft x.a.bk e=((0,0,0,0),(0,0,[],[]),false):=by unfold ft;rw[hc]
  rw[er];have hv:(nj x.a.bk e.nm.1).2.2=0->(nj x.a.bk e.nm.1).2.1≠e.v:=fun h0 hv=>by
   cases qk:cC x.a.bk e.nm.1 with
   | none=>rw[get_none qk]at h0;simp only[]at h0;split at h0 <;> cases h0
   | some y =>
    obtain⟨p,v⟩:=y;rw[si qk]at hv;have:=cJ.2 (show cC x.a.bk e.nm.1=some (p,e.v) by rw[qk];exact congrArg (fun z=>some (p,z)) hv);rw[hc]at this;cases this
  (refine aa.q Tryz.func62 rfl fun S aw=>Wa _ ?_;(repeat' first|exact tv|apply pr|intro hh));refine vP (e.nm,e.v) rfl rfl vm ?_;(refine Wa _ ?_;(repeat' first|exact tv|apply pr|intro hh));all_goals refine ab.q cL [] fun _ _=>Wp _ ?_;repeat' first|exact tv|apply pr|intro hh
  all_goals first|(exact absurd ‹(nj x.a.bk e.nm.1).2.1=e.v› (hv ‹_›))|skip
  all_goals exact ae.z () [0,1,2,3,4,5,6]
theorem BY (x:Es) (ok:kR x) (h:Int) (e:E1) (he:x.a.cp h=some e):MU Tryz.prog 62 [.ptr 0 0,.I h] (iy x) (.bQ [aI (ft x.a.bk e).1,aO (ft x.a.bk e).2.1,.bool fun _=>(ft x.a.bk e).2.2]) (iy x) :=
 H9 x ok.inv.bk ok.G h e he (by rw[ok.get,he];rfl) fun p hc=>((ok.inv.ok h e he).2.2 p hc).1
theorem zC (x:Es) (yl:ni x.a.bk) (hG:x.G<=900000000) (h:Int) (e:E1) (he:x.a.cp h=some e) (vm:aP x.es h=some (e.nm,e.v)) (IL:∀ p,cY x.a.bk e=some p->aD p e.c=true):MU Tryz.prog 63 [.ptr 0 0,.I h] (iy x) (.bool fun _=>cZ x.a h) (iy x):=by
 have hr:=H9 x yl hG h e he vm IL;cases hc:cY x.a.bk e with
 | none =>
  have er:ft x.a.bk e=((0,0,0,0),(0,0,[],[]),false):=by unfold ft;rw[hc]
  have ec:cZ x.a h=false:=by unfold cZ;rw[he];simp only[hc]
  rw[er]at hr;rw[ec];(refine aa.q Tryz.func63 rfl fun S aw=>Wa _ ?_;(repeat' first|exact tv|apply pr|intro hh));(refine ab.q hr [0,1,2,3,4,5,6] fun _ _=>Wp _ ?_;(repeat' first|exact tv|apply pr|intro hh));exact ae.z () [0,1,2,3,4,5,6]
 | some p =>
  have p7:=IL p hc;have er:ft x.a.bk e=(p,norm p e.c,true):=by unfold ft;rw[hc]
  have ec:cZ x.a h=!dA p (norm p e.c) x.a.now:=by unfold cZ;rw[he];simp only[hc]
  have Cm:=mS (kc p7);rw[er]at hr;rw[ec];(refine aa.q Tryz.func63 rfl fun S aw=>Wa _ ?_;(repeat' first|exact tv|apply pr|intro hh));(refine ab.q hr [0,1,2,3,4,5,6] fun _ _=>Wp _ ?_;(repeat' first|exact tv|apply pr|intro hh));(refine ab.q (Et p (norm p e.c) x.a.now Cm) [] fun _ _=>Wp _ ?_;(repeat' first|exact tv|apply pr|intro hh));exact ae.z () [0,1,2,3,4,5,6]
theorem xw (x:Es) (ok:kR x) (h:Int) (e:E1) (he:x.a.cp h=some e):MU Tryz.prog 63 [.ptr 0 0,.I h] (iy x) (.bool fun _=>cZ x.a h) (iy x) :=
 zC x ok.inv.bk ok.G h e he (by rw[ok.get,he];rfl) fun p hc=>((ok.inv.ok h e he).2.2 p hc).1
def mo (x:Es) (l:List Int):Es:={ x with a:={ x.a with bU:=l } }
theorem Ib (x:Es) (ok:kR x) (h:Int) (hh:h∈x.a.ord) (l:List Int):MU Tryz.prog 77 [.ptr 0 0,.I h] (iy (mo x l)) (.bQ []) (iy (eu (mo x l) h)):=by
 obtain⟨e,he⟩:=aaF.1 ((ok.inv.mem h).1 hh);have vm:=ok.get h;rw[he]at vm;have hG:=ok.G;have Ia:x.G<=1000000000:=by omega
 have IL:=ok.inv.ok h e he;have hid:=rA IL.1;have pF:=sj IL.1;have D8:=oD ok.inv;have sq:0<x.a.ord.length:=abE hh;have EM:(x.a.ord.erase h).length=x.a.ord.length - 1:=aa7 hh;have Fx:um x.a (fb e.nm)≠none:=by rw[(kS ok.inv _ h).2 ⟨e,he,rfl⟩];simp
 have u7:e.nm.2.length<=1000:=by have:=pF.2;unfold fb at this;rw[Z9]at this;omega
 (refine aa.q Tryz.func77 rfl fun S aw=>Wa _ ?_;(repeat' first|exact tv|apply pr|intro hh));refine vP (e.nm,e.v) rfl rfl vm ?_;(refine Wa _ ?_;(repeat' first|exact tv|apply pr|intro hh));(refine ab.q (KD e.nm hid u7) [] fun _ _=>Wp _ ?_;(repeat' first|exact tv|apply pr|intro hh));(refine ab.q (Rl (fb e.nm) pF Fx) [2] fun _ _=>Wp _ ?_;(repeat' first|exact tv|apply pr|intro hh));(refine ab.q (qH h) [] fun _ _=>Wp _ ?_;(repeat' first|exact tv|apply pr|intro hh));(refine ab.q (Ha x.tn x.a.due (h.tmod 64)) [3] fun _ _=>Wp _ ?_;(repeat' first|exact tv|apply pr|intro hh));(refine ab.q (AX x.a.ord h) [4] fun _ _=>Wp _ ?_;(repeat' first|exact tv|apply pr|intro hh));(refine ab.q (AX l h) [5] fun _ _=>Wp _ ?_;(repeat' first|exact tv|apply pr|intro hh));refine R1 rfl rfl ?_;(refine Wa _ ?_;(repeat' first|exact tv|apply pr|intro hh));(refine ab.q (NL Ia (p6 he)) [1] fun _ _=>Wp _ ?_;(repeat' first|exact tv|apply pr|intro hh));refine ae.w () [0,1,2,3,4,5,6] _ ?_;repeat' first|exact tv|apply pr
 .rw[KF]
  show fS x.a.n (x.G+1) (sh (jz x.a h)) (x.a.n - x.a.ord.length+1)=fS x.a.n (x.G+1) (sh (jz x.a h)) (x.a.n - (x.a.ord.erase h).length);rw[EM,show x.a.n - x.a.ord.length+1=x.a.n - (x.a.ord.length - 1) by omega]
 .rw[KE ok.inv he]
  show jr x.ao (um (jz x.a h)) (x.a.ord.length - 1)=jr x.ao (um (jz x.a h)) (x.a.ord.erase h).length;rw[EM]
theorem nD (x:Es) (ok:kR x) (h:Int) (hh:h∈x.a.ord):MU Tryz.prog 77 [.ptr 0 0,.I h] (iy x) (.bQ []) (iy (eu x h)):=Ib x ok h hh x.a.bU
end Go.Proofs.YthnefnlhcijekaaGreat.En
set_option maxRecDepth 8000
namespace Go.Proofs.YthnefnlhcijekaaGreat.En
open Go Go.RowKit Fw Hi Ce Bt Eb
open Wh (aR de dS cP cQ)
structure KG (x:Es) (y:Bool×Es):Prop where
 h:(y=(false,x)/\∀ h∈x.a.ord,cZ x.a h=true)\/∃ h∈x.a.ord,cZ x.a h=false/\y=(true,eu x h)
theorem Ic (x:Es) (ok:kR x):aa Tryz.prog 71 [.ptr 0 0] (iy x) (Y:=Bool×Es) (KG x)
  (fun y=>.bool fun _=>y.1) (fun y=>iy y.2):=by
 have D8:=oD ok.inv;have hn:=ok.inv.n;(refine aa.q Tryz.func71 rfl fun S aw=>Wa _ ?_;(repeat' first|exact tv|apply pr|intro hh));(refine ab.q (yO x.a.ord) [4] fun _ _=>Wp _ ?_;(repeat' first|exact tv|apply pr|intro hh));refine aM.intro hm (X:=Nat) (fun i=>i<=x.a.ord.length/\∀ j,j<i->cZ x.a (x.a.ord.getD j 0)=true) (fun i=>x.a.ord.length+1 - i)
  (fun i=>[(4,.bool fun _=>decide (i<x.a.ord.length)),(3,.I (x.a.ord.getD i 0)),(0,.ptr 0 0)]) (fun _=>iy x) 0 [0,1,2,3,4,5,6] ⟨rfl,rfl,?_,?_⟩ ⟨aae _,fun j hj=>absurd hj (abW j)⟩ ?_
 .exact Vc
 .exact Vc
 rintro i ⟨hi,jG⟩;refine Wa _ ?_;repeat' first|exact tv|apply pr|intro hh
 .have hg:x.a.ord[i]?=some (x.a.ord.getD i 0):=by rw[ZZ,Z1 hh];rfl
  have C3:x.a.ord.getD i 0∈x.a.ord:=aaa.2 ⟨i,hg⟩;obtain⟨e,he⟩:=aaF.1 ((ok.inv.mem _).1 C3);refine ab.q (xw x ok _ e he) [0,1,2,3,4,5,6] fun _ _=>Wp _ ?_;repeat' first|exact tv|apply pr|intro hh
  .refine ab.q (nD x ok _ C3) [0,1,2,3,4,5,6] fun _ _=>Wp _ ?_;repeat' first|exact tv|apply pr|intro hh
   (refine ae.w ((true,eu x (x.a.ord.getD i 0)):Bool×Es) [0,1,2,3,4,5,6] _ ?_;(repeat' first|exact tv|apply pr));exact⟨.inr ⟨_,C3,hh,rfl⟩⟩
  .refine ab.q (JN x.a.ord _ i hg) [4] fun _ _=>Wp _ ?_;repeat' first|exact tv|apply pr|intro hh
   refine⟨i+1,[0,1,2,3,4,5,6],⟨rfl,rfl,?_,?_⟩,⟨by omega,fun j hj=>?_⟩,by omega⟩
   .exact Vc
   .exact Vc
   .by_cases e:j=i
    .subst e;exact hh
    .exact jG j (by omega)
 .have e:i=x.a.ord.length:=by omega
  (refine ae.w ((false,x):Bool×Es) [0,1,2,3,4,5,6] _ ?_;(repeat' first|exact tv|apply pr));refine⟨.inl ⟨rfl,fun h dJ=>?_⟩⟩;obtain⟨j,hj⟩:=aaa.1 dJ;have q8:=(Z2.1 hj).1;have:=jG j (by omega);rw[ZZ,hj]at this;exact this
theorem KH {a:Ab} (I:Inv a) {h:Int} {nm:Nm} {v:Int} {p:ay} {c:Cell} (hh:zw a h nm) (hb:cC a.bk nm.1=some (p,v)) (hn:fy nm=true) (p7:aD p c=true) (hc:c.1<=a.now) :
  Ro.bO (um a) (fb nm) (some h)=um (nJ a h nm v p c):=by
 refine H8 fun k u=>?_;rw[kS (I.cz hh hb hn p7 hc)];unfold Ro.bO;have fD:∀ j,(nJ a h nm v p c).cp j=if j=h then some ⟨nm,v,c⟩else a.cp j:=fun j=>rfl;by_cases hk:k=fb nm
 .rw[Z0 hk]
  constructor
  .intro h1;cases h1
   exact⟨⟨nm,v,c⟩,by rw[fD,Z0 rfl],hk.symm⟩
  .rintro⟨e',h1,h2⟩
   rw[fD]at h1;split at h1
   .rename_i e;rw[e]
   .have:=(hh.own u e' h1).1 (key_inj (I.ok u e' h1).1 hn (by rw[h2,hk]))
    rw[this]
 .rw[ZY hk,kS I]
  constructor
  .rintro⟨e',h1,h2⟩
   refine⟨e',?_,h2⟩;rw[fD,ZY];exact h1;intro e;exact hk (by rw[<-h2,(hh.own u e' h1).2 e])
  .rintro⟨e',h1,h2⟩
   rw[fD]at h1;split at h1
   .cases h1;exact(hk h2.symm).elim
   .exact⟨e',h1,h2⟩
theorem KI (a:Ab) (h:Int) (nm:Nm) (v:Int) (p:ay) (c:Cell):hZ (sh a) h (some (ax 19 (dB c)))=sh (nJ a h nm v p c):=by
 funext j;show(if j=h then some _ else(a.cp j).map _)=((if j=h then some (⟨nm,v,c⟩:E1)else a.cp j).map _)
 split <;> rfl
def uo (x:Es) (h:Int) (nm:Nm) (v:Int) (p:ay) (c:Cell):Es:={ x with a:=nJ x.a h nm v p c,es:=bV x.es x.ec h (nm,v),ec:=KC x.es x.ec h }
theorem kR.cz {x:Es} (ok:kR x) {h:Int} {nm:Nm} {v:Int} {p:ay} {c:Cell} (hh:zw x.a h nm) (hb:cC x.a.bk nm.1=some (p,v)) (hn:fy nm=true) (p7:aD p c=true) (hc:c.1<=x.a.now) :
  kR (uo x h nm v p c):=by
 refine⟨ok.inv.cz hh hb hn p7 hc,ok.tn,cP ok.nd _ _ _,fun j=>?_,ok.G⟩;show aP (bV x.es x.ec h (nm,v)) j=(fO x.a.cp h _ j).map _;rw[de,ok.get];unfold fO;split <;> rfl
def Y4 (x:Es) (wd:Gs) (k:Nat):List Chunk:=[.cells xv (R3 x),.bq (fS x.a.n x.G wd k),.bq (jr x.ao (um x.a) x.a.ord.length),.bq (uN x.tn x.a.due),.bq (l8 x.a.ord),.bq (l8 x.a.bU),.heap fun _=>yv x.es x.ec]
theorem C4 (x:Es) (ok:kR x) (h:Int) (nm:Nm) (v:Int) (p:ay) (c:Cell) (wd:Gs) (k:Nat) (w0:List Int) (Y5:wd h=some w0) (Y6:∀ j,j≠h->wd j=sh x.a j)
  (hk:k=x.a.n - (x.a.ord.erase h++[h]).length) (FK:x.a.cp h≠none\/x.a.ord.length<x.a.n)
  (hh:zw x.a h nm) (hb:cC x.a.bk nm.1=some (p,v)) (hn:fy nm=true) (p7:aD p c=true) (hc:c.1<=x.a.now) :
  MU Tryz.prog 65 [.ptr 0 0,.I h,.agg [.I nm.1,.str fun _=>nm.2,.I v],aI p,aO c] (Y4 x wd k) (.bQ []) (iy (uo x h nm v p c)):=by
 have hG:=ok.G;have Ia:x.G<=1000000000:=by omega
 have hid:=rA hn;have pF:=sj hn;have D8:=oD ok.inv;have Hv:=ok.inv.n;have Cm:=mS p7;have u7:nm.2.length<=1000:=by have:=pF.2;unfold fb at this;rw[Z9]at this;omega
 have cO:x.a.cp h=none->h∉x.a.ord/\um x.a (fb nm)=none:=fun h0=>by
  refine⟨fun h1=>?_,?_⟩
  .have:=(ok.inv.mem h).1 h1;rw[h0]at this;cases this
  .cases Fx:um x.a (fb nm)with
   | none=>rfl
   | some j =>
    obtain⟨e,h1,h2⟩:=(kS ok.inv _ j).1 Fx;have:=(hh.own j e h1).1 (key_inj (ok.inv.ok j e h1).1 hn h2);rw[this,h0]at h1;cases h1
 have L0:∀ e,x.a.cp h=some e->h∈x.a.ord/\um x.a (fb nm)≠none:=fun e he=>by
  refine⟨(ok.inv.mem h).2 (by rw[he];rfl),?_⟩;rw[(kS ok.inv _ h).2 ⟨e,he,by rw[(hh.own h e he).2 rfl]⟩];simp
 have hlen:(x.a.ord.erase h++[h]).length=if um x.a (fb nm)=none then x.a.ord.length+1 else x.a.ord.length:=by
  rw[aab,abt];cases he:x.a.cp h with
  | none=>rw[Z0 (cO he).2,abL (cO he).1]
  | some e =>
   have h1:=L0 e he;rw[ZY h1.2,aa7 h1.1];have:=abE h1.1;omega
 have qe:um x.a (fb nm)≠none\/x.a.ord.length<64:=by
  rcases FK with h1|h1
  .cases he:x.a.cp h with
   | none=>exact(h1 he).elim
   | some e=>exact .inl (L0 e he).2
  .exact .inr (by omega)
 have vX:0<=h.tmod 64/\h.tmod 64<=1048575:=by
  have h1:=hh.pos;have h2:=acC 64 h1.1;omega
 have hE:0<=bm p c:=by
  unfold bm;rw[p7,Z0 rfl];have h1:=(mf (p:=p) (d:=aJ p c c.1) (bp p7).1 0).1;have h2:=(bp p7).2.1;omega
 have D5:(if 1099511627776<bm p c then 1099511627776 else bm p c)=min (bm p c) ke:=by unfold ke;omega
 have Y7:0<=(if 1099511627776<bm p c then 1099511627776 else bm p c)/\(if 1099511627776<bm p c then 1099511627776 else bm p c)<=1099511627776:=by split <;> omega
 (refine aa.q Tryz.func65 rfl fun S aw=>Wa _ ?_;(repeat' first|exact tv|apply pr|intro hh));(refine ab.q (oA p c p7) [] fun _ _=>Wp _ ?_;(repeat' first|exact tv|apply pr|intro hh));(refine ab.q (JM Ia Y5 (ax 19 (dB c)) (by simp[ax])) [1] fun _ _=>Wp _ ?_;(repeat' first|exact tv|apply pr|intro hh));refine R2 (nm,v) rfl rfl rfl ?_;(refine Wa _ ?_;(repeat' first|exact tv|apply pr|intro hh));(refine ab.q (KD nm hid u7) [] fun _ _=>Wp _ ?_;(repeat' first|exact tv|apply pr|intro hh));(refine ab.q (Rk (fb nm) h pF qe (by omega)) [2] fun _ _=>Wp _ ?_;(repeat' first|exact tv|apply pr|intro hh));(refine ab.q (qH h) [] fun _ _=>Wp _ ?_;(repeat' first|exact tv|apply pr|intro hh));(refine ab.q (HN p c Cm) [] fun _ _=>Wp _ ?_;(repeat' first|exact tv|apply pr|intro hh));(refine ab.q (Q3 x.tn x.a.due (h.tmod 64) (if 1099511627776<bm p c then 1099511627776 else bm p c) vX Y7) [3] fun _ _=>Wp _ ?_;(repeat' first|exact tv|apply pr|intro hh));(refine ab.q (w8 x.a.ord h hh.pos.1) [4] fun _ _=>Wp _ ?_;(repeat' first|exact tv|apply pr|intro hh));refine ae.w () [0,1,2,3,4,5,6] _ ?_;repeat' first|exact tv|apply pr
 .have e1:hZ wd h (some (ax 19 (dB c)))=sh (nJ x.a h nm v p c):=by
   rw[<-KI];funext j;unfold hZ;by_cases hj:j=h
   .rw[Z0 hj,Z0 hj]
   .rw[ZY hj,ZY hj];exact Y6 j hj
  rw[e1,hk];rfl
 .rw[<-hlen,KH ok.inv hh hb hn p7 hc];rfl
 .rw[D5];rfl
end Go.Proofs.YthnefnlhcijekaaGreat.En
namespace Go.Proofs.YthnefnlhcijekaaGreat.En
open Go Go.RowKit Fw Hi Ce
abbrev L1:=Int×N4
def mq (K:Kt) (t:Int):Kt:=if K.now<t/\t<=ke then { K with now:=t } else K
def Full (K:Kt) (p:ay) (nm:Nm):Prop:=Hi.neutral p (aY K.L nm) K.now=true/\K.n<=(eD K).length
structure Has (a:Ab) (nm:Nm) (h:Int) (e:E1):Prop where
 cp:a.cp h=some e
 nm:e.nm=nm
def kZ (bk:List bM) (e:E1):Cell:=match cY bk e with|some p=>norm p e.c|none=>(0,0,[],[])
section
variable {a:Ab} {K:Kt} {N:Nat} {nm:Nm} {p:ay} {v:Int}
theorem EF (R:Rel a K N) (I:Inv a) (hn:fy nm=true) (hb:cC a.bk nm.1=some (p,v)) {h:Int} {e:E1} (H:Has a nm h e):ct p (kZ a.bk e) (aY K.L nm) a.now N:=by
 unfold kZ;cases hc:cY a.bk e with
 | some q =>
  have h1:=cJ.1 hc;rw[H.nm,hb]at h1;cases h1;have:=(R.tell h e p H.cp hc).norm;rw[H.nm]at this;exact this
 | none =>
  refine R.rQ nm p v hn hb fun h' e' h1 h2 h3=>?_;have:=I.E6 h' h e' e h1 H.cp (h2.trans H.nm.symm);subst this;rw[H.cp]at h1;cases h1;have:=cJ.2 (show cC a.bk e.nm.1=some (p,e.v) by rw[H.nm,hb,h3]);rw[hc]at this;cases this
theorem zD (R:Rel a K N) (hn:fy nm=true) (hb:cC a.bk nm.1=some (p,v)) (cy:∀ h e,a.cp h=some e->e.nm≠nm):ct p (0,0,[],[]) (aY K.L nm) a.now N :=
 R.rQ nm p v hn hb fun h e h1 h2=>(cy h e h1 h2).elim
theorem filter_lt {l:List Int} {f:Int->Bool} {h:Int} (hm:h∈l) (hf:f h=false):(l.filter f).length<l.length:=by
 induction l with
 | nil=>cases hm
 | cons x r ih =>
  rw[ade,Z9];rcases aaj.1 hm with e|hm
  .subst e;rw[ZY (by rw[hf];simp)]
   exact Nat.lt_succ_of_le (acf ..)
  .have:=ih hm
   split
   .rw[Z9];omega
   .omega
theorem C5 (R:Rel a K N) (I:Inv a) {h:Int} (hm:h∈a.ord) (hc:cZ a h=false):(eD K).length<a.n:=by
 rw[mV R I];have h1:=filter_lt hm hc;have h2:=mW a.ord I.pos I.xI I.kg;omega
theorem Ie (R:Rel a K N) (I:Inv a) (hn:fy nm=true) (hb:cC a.bk nm.1=some (p,v)) {h:Int} {e:E1} (H:Has a nm h e):¬Full K p nm:=by
 have hm:h∈a.ord:=(I.mem h).2 (by rw[H.cp];rfl);rintro⟨OW,CI⟩;have hc:cZ a h=false:=by
  cases Bj:cY a.bk e with
  | none=>unfold cZ;rw[H.cp];simp only[Bj]
  | some q =>
   have h1:=cJ.1 Bj;rw[H.nm,hb]at h1;cases h1;rw[uf R I H.cp Bj,H.nm,<-R.now,OW];rfl
 have:=C5 R I hm hc;have WU:=R.n;omega
theorem KJ (R:Rel a K N) (I:Inv a) (hn:fy nm=true) (hb:cC a.bk nm.1=some (p,v)) (cy:∀ h e,a.cp h=some e->e.nm≠nm) (hf:a.ord.length=a.n) (jG:∀ h∈a.ord,cZ a h=true):Full K p nm:=by
 have h1:=pZ (zD R hn hb cy);refine⟨by rw[R.now];exact h1,?_⟩;have h2:=mV R I;rw[List.filter_eq_self.2 jG]at h2;have WU:=R.n;omega
theorem vQ (R:Rel a K N) (h:(eD K).length<a.n):¬Full K p nm:=by
 rintro⟨_,h1⟩;have WU:=R.n;omega
end
theorem look_ok {K:Kt} {nm:Nm} {w:Int} {p:ay} {v:Int} (hn:fy nm=true) (hw:aU w=true) (hb:cC K.bk nm.1=some (p,v)) :
  gB K nm w=((Hi.ask p (aY K.L nm) K.now w).1,(0,(Hi.ask p (aY K.L nm) K.now w).2),!Hi.neutral p (aY K.L nm) K.now):=by unfold gB;rw[hn,hw,hb];rfl
theorem j9 {K:Kt} {nm:Nm} {w:Int} {p:ay} {v:Int} (hn:fy nm=true) (hw:aU w=true) (hb:cC K.bk nm.1=some (p,v)) :
  ((Hi.ask p (aY K.L nm) K.now w).2.1=false->dV K nm w=(K,(0,(Hi.ask p (aY K.L nm) K.now w).2))) /\
  ((Hi.ask p (aY K.L nm) K.now w).2.1=true->Full K p nm->dV K nm w=(K,(7,zeroV))) /\
  ((Hi.ask p (aY K.L nm) K.now w).2.1=true->¬Full K p nm->dV K nm w=({ K with L:=jM K.L nm (Hi.ask p (aY K.L nm) K.now w).1 },(0,(Hi.ask p (aY K.L nm) K.now w).2))):=by
 refine⟨fun h=>?_,fun h hf=>?_,fun h hf=>?_⟩
 .unfold dV;rw[look_ok hn hw hb]
  rw[ZY (by simp only[h];simp)]
 .unfold dV;rw[look_ok hn hw hb]
  rw[Z0 ⟨rfl,h⟩,Z0 (by simp only[hf.1];exact⟨rfl,hf.2⟩)]
 .unfold dV;rw[look_ok hn hw hb]
  rw[Z0 ⟨rfl,h⟩,ZY];rintro⟨h1,h2⟩;exact hf ⟨by simpa using h1,h2⟩
theorem Ig {K:Kt} {nm:Nm} {w:Int} (h:(fy nm && aU w)=false):gB K nm w=([],(1,zeroV),false)/\dV K nm w=(K,(1,zeroV)):=by
 have e:gB K nm w=([],(1,zeroV),false):=by unfold gB;rw[h];rfl
 refine⟨e,?_⟩;unfold dV;rw[e,ZY (by simp)]
theorem EG {K:Kt} {nm:Nm} {w:Int} (hn:fy nm=true) (hw:aU w=true) (hb:cC K.bk nm.1=none):gB K nm w=([],(5,zeroV),false)/\dV K nm w=(K,(5,zeroV)):=by
 have e:gB K nm w=([],(5,zeroV),false):=by unfold gB;rw[hn,hw,hb];rfl
 refine⟨e,?_⟩;unfold dV;rw[e,ZY (by simp)]
end Go.Proofs.YthnefnlhcijekaaGreat.En
set_option maxRecDepth 8000
namespace Go.Proofs.YthnefnlhcijekaaGreat.En
open Go Go.RowKit Fw Hi Ce Bt Eb
open Wh (aR de dS cP cQ)
def vR (nm:Nm) (w:Int):AV:=.agg [.I nm.1,.str fun _=>nm.2,.I w]
def Ih (t:L1):AV:=.agg [.I t.1,.bool fun _=>t.2.1,.I t.2.2.1,.I t.2.2.2.1,.I t.2.2.2.2]
def xx (p:ay) (v h:Int) (has:Bool) (c:Cell) (t:L1):AV:=.agg [.I p.1,.I p.2.1,.I p.2.2.1,.I p.2.2.2,.I v,.I h,.bool fun _=>has,
 .I c.1,.I c.2.1,.aL (.int .i64) fun _=>c.2.2.1,.aL dz fun _=>c.2.2.2,.I t.1,.bool fun _=>t.2.1,.I t.2.2.1,.I t.2.2.2.1,.I t.2.2.2.2]
theorem KK (x:Es) (nm:Nm) (w:Int) (Y8:(fy nm && aU w)=false):MU Tryz.prog 69 [.ptr 0 0,vR nm w] (iy x) (xx (0,0,0,0) 0 0 false (0,0,[],[]) (1,zeroV)) (iy x):=by
 (refine aa.q Tryz.func69 rfl fun S aw=>Wa _ ?_;(repeat' first|exact tv|apply pr|intro hh));refine ab.q (C2 nm) [] fun _ _=>Wp _ ?_;repeat' first|exact tv|apply pr|intro hh
 .refine ab.q (Po.eK w) [] fun _ _=>Wp _ ?_;repeat' first|exact tv|apply pr|intro hh
  all_goals first|(exfalso;simp_all;done)|skip
  all_goals exact ae.z () [0,1,2,3,4,5,6]
 .exact ae.z () [0,1,2,3,4,5,6]
theorem Ii (x:Es) (ok:kR x) (nm:Nm) (w:Int) (hn:fy nm=true) (hw:aU w=true) (hb:cC x.a.bk nm.1=none):MU Tryz.prog 69 [.ptr 0 0,vR nm w] (iy x) (xx (0,0,0,0) 0 0 false (0,0,[],[]) (5,zeroV)) (iy x):=by
 have hid:=rA hn;have cL:=CY x.a.bk ok.inv.bk nm.1;rw[get_none hb,Z0 hid]at cL;have uA:=C2 nm;rw[hn]at uA;have L2:=Po.eK w;rw[hw]at L2;(refine aa.q Tryz.func69 rfl fun S aw=>Wa _ ?_;(repeat' first|exact tv|apply pr|intro hh));(refine ab.q uA [] fun _ _=>Wp _ ?_;(repeat' first|exact tv|apply pr|intro hh));(refine ab.q L2 [] fun _ _=>Wp _ ?_;(repeat' first|exact tv|apply pr|intro hh));all_goals refine ab.q cL [] fun _ _=>Wp _ ?_;repeat' first|exact tv|apply pr|intro hh
 all_goals exact ae.z () [0,1,2,3,4,5,6]
theorem Bm {x:Es} (ok:kR x) {h:Int} {e:E1} (he:x.a.cp h=some e):-9223372036854775808<=(kZ x.a.bk e).2.1/\(kZ x.a.bk e).2.1<=9223372036854775807:=by
 unfold kZ;cases hc:cY x.a.bk e with
 | none=>exact⟨by simp only[];omega,by simp only[];omega⟩
 | some p=>exact mS (kc ((ok.inv.ok h e he).2.2 p hc).1)
theorem EH (bk:List bM) (e:E1):(ft bk e).2.1=kZ bk e:=by unfold ft kZ;cases cY bk e <;> rfl
theorem KL (x:Es) (ok:kR x) (nm:Nm) (w:Int) (hn:fy nm=true) (hw:aU w=true) {p:ay} {v:Int} (hb:cC x.a.bk nm.1=some (p,v)) {h:Int} {e:E1} (H:Has x.a nm h e) :
  MU Tryz.prog 69 [.ptr 0 0,vR nm w] (iy x) (xx p v h true (cW p (kZ x.a.bk e) x.a.now w).1 (0,(cW p (kZ x.a.bk e) x.a.now w).2)) (iy x):=by
 have hid:=rA hn;have pF:=sj hn;have u7:nm.2.length<=1000:=by have:=pF.2;unfold fb at this;rw[Z9]at this;omega
 have cL:=CY x.a.bk ok.inv.bk nm.1;rw[si hb]at cL;have uA:=C2 nm;rw[hn]at uA;have L2:=Po.eK w;rw[hw]at L2;have mZ:=LN (sd:=x.ao) (M:=um x.a) (c:=x.a.ord.length) (fb nm) (by omega);rw[(kS ok.inv _ h).2 ⟨e,H.cp,by rw[H.nm]⟩]at mZ;have WV:=BY x ok h e H.cp;rw[EH]at WV;have U7:=LU p (kZ x.a.bk e) x.a.now w (Bm ok H.cp);(refine aa.q Tryz.func69 rfl fun S aw=>Wa _ ?_;(repeat' first|exact tv|apply pr|intro hh));(refine ab.q uA [] fun _ _=>Wp _ ?_;(repeat' first|exact tv|apply pr|intro hh));(refine ab.q L2 [] fun _ _=>Wp _ ?_;(repeat' first|exact tv|apply pr|intro hh));all_goals refine ab.q cL [] fun _ _=>Wp _ ?_;repeat' first|exact tv|apply pr|intro hh
 all_goals refine ab.q (KD nm hid u7) [] fun _ _=>Wp _ ?_;repeat' first|exact tv|apply pr|intro hh
 all_goals refine ab.q mZ [2] fun _ _=>Wp _ ?_;repeat' first|exact tv|apply pr|intro hh
 all_goals first|(exact absurd ‹(some h).isSome=false› (by simp))|skip
 all_goals refine ab.q WV [0,1,2,3,4,5,6] fun _ _=>Wp _ ?_;repeat' first|exact tv|apply pr|intro hh
 all_goals refine ab.q U7 [] fun _ _=>Wp _ ?_;repeat' first|exact tv|apply pr|intro hh
 all_goals exact ae.z () [0,1,2,3,4,5,6]
theorem OB (x:Es) (ok:kR x) (nm:Nm) (w:Int) (hn:fy nm=true) (hw:aU w=true) {p:ay} {v:Int} (hb:cC x.a.bk nm.1=some (p,v)) (cy:∀ h e,x.a.cp h=some e->e.nm≠nm) :
  MU Tryz.prog 69 [.ptr 0 0,vR nm w] (iy x) (xx p v 0 false (cW p (0,0,[],[]) x.a.now w).1 (0,(cW p (0,0,[],[]) x.a.now w).2)) (iy x):=by
 have hid:=rA hn;have pF:=sj hn;have u7:nm.2.length<=1000:=by have:=pF.2;unfold fb at this;rw[Z9]at this;omega
 have cL:=CY x.a.bk ok.inv.bk nm.1;rw[si hb]at cL;have uA:=C2 nm;rw[hn]at uA;have L2:=Po.eK w;rw[hw]at L2;have mZ:=LN (sd:=x.ao) (M:=um x.a) (c:=x.a.ord.length) (fb nm) (by omega);have Y9:um x.a (fb nm)=none:=by
  cases Fx:um x.a (fb nm)with
  | none=>rfl
  | some j =>
   obtain⟨e,h1,h2⟩:=(kS ok.inv _ j).1 Fx;exact(cy j e h1 (key_inj (ok.inv.ok j e h1).1 hn h2)).elim
 rw[Y9]at mZ;have U7:=LU p (0,0,[],[]) x.a.now w ⟨by simp only[];omega,by simp only[];omega⟩;(refine aa.q Tryz.func69 rfl fun S aw=>Wa _ ?_;(repeat' first|exact tv|apply pr|intro hh));(refine ab.q uA [] fun _ _=>Wp _ ?_;(repeat' first|exact tv|apply pr|intro hh));(refine ab.q L2 [] fun _ _=>Wp _ ?_;(repeat' first|exact tv|apply pr|intro hh));all_goals refine ab.q cL [] fun _ _=>Wp _ ?_;repeat' first|exact tv|apply pr|intro hh
 all_goals refine ab.q (KD nm hid u7) [] fun _ _=>Wp _ ?_;repeat' first|exact tv|apply pr|intro hh
 all_goals refine ab.q mZ [2] fun _ _=>Wp _ ?_;repeat' first|exact tv|apply pr|intro hh
 all_goals first|(exact absurd ‹(none:Option Int).isSome=true› (by simp))|skip
 all_goals refine ab.q U7 [] fun _ _=>Wp _ ?_;repeat' first|exact tv|apply pr|intro hh
 all_goals exact ae.z () [0,1,2,3,4,5,6]
end Go.Proofs.YthnefnlhcijekaaGreat.En
set_option maxRecDepth 8000
namespace Go.Proofs.YthnefnlhcijekaaGreat.En
open Go Go.RowKit Fw Hi Ce Bt Eb
open Wh (aR de dS cP cQ)
structure uq (x:Es) (K:Kt) (N:Nat) (y:Es):Prop where
 ok:kR y
 rel:Rel y.a K N
 G:y.G<=x.G+1
 ao:y.ao=x.ao
theorem Ij {a:Ab} (I:Inv a) {nm:Nm} {h:Int} {e:E1} (H:Has a nm h e):zw a h nm:=by
 have dJ:h∈a.ord:=(I.mem h).2 (by rw[H.cp];rfl);refine⟨I.pos h dJ,fun h' EC e2=>I.xI h' EC h dJ e2,fun h' e' xu=>⟨fun e2=>I.E6 h' h e' e xu H.cp (e2.trans H.nm.symm),fun e2=>?_⟩⟩;subst e2;rw[H.cp]at xu;cases xu;exact H.nm
theorem oE {a:Ab} (I:Inv a) {nm:Nm} {i:Int} (F:G8 a.n (sh a) i) (cy:∀ h e,a.cp h=some e->e.nm≠nm):zw a i nm/\a.cp i=none:=by
 have h0:a.cp i=none:=by
  cases he:a.cp i with
  | none=>rfl
  | some e=>have:=F.no;unfold sh at this;rw[he]at this;cases this
 refine⟨⟨⟨F.pos.1,F.pos.2.2⟩,fun h' EC e2=>?_,fun h' e' xu=>⟨fun e2=>(cy h' e' xu e2).elim,fun e2=>by subst e2;rw[h0]at xu;cases xu⟩⟩,h0⟩;obtain⟨e,he⟩:=aaF.1 ((I.mem h').1 EC);exact(F.other h' _ (p6 he) e2).elim
theorem iW (x:Es) (ok:kR x) {K:Kt} {N:Nat} (R:Rel x.a K N) (hN:N<=999998) (R4:x.G<900000000) (nm:Nm) (w:Int):aa Tryz.prog 29 [.ptr 0 0,vR nm w] (iy x) (Y:=Es) (uq x (dV K nm w).1 (N+1))
  (fun _=>Ih (dV K nm w).2) iy:=by
 obtain⟨kn,U8,L3,kL⟩:=K;obtain rfl:U8=x.a.now:=R.now;have q9:uq x ⟨kn,x.a.now,L3,kL⟩ (N+1) x:=⟨ok,R.up (by omega),by omega,rfl⟩
 have Ia:x.G<=1000000000:=by omega
 cases KM:(fy nm && aU w)with
 | false =>
  rw[(Ig KM).2];(refine aa.q Tryz.func29 rfl fun S aw=>Wa _ ?_;(repeat' first|exact tv|apply pr|intro hh));(refine ab.q (KK x nm w KM) [0,1,2,3,4,5,6] fun _ _=>Wp _ ?_;(repeat' first|exact tv|apply pr|intro hh));all_goals refine ae.w x [0,1,2,3,4,5,6] _ ?_;repeat' first|exact tv|apply pr
  all_goals exact q9
 | true =>
  rw[aai]at KM;obtain⟨hn,hw⟩:=KM;cases hb:cC x.a.bk nm.1 with
  | none =>
   rw[(EG hn hw (show cC L3 nm.1=_ by rw[show L3=x.a.bk from R.bk];exact hb)).2];(refine aa.q Tryz.func29 rfl fun S aw=>Wa _ ?_;(repeat' first|exact tv|apply pr|intro hh));(refine ab.q (Ii x ok nm w hn hw hb) [0,1,2,3,4,5,6] fun _ _=>Wp _ ?_;(repeat' first|exact tv|apply pr|intro hh));all_goals refine ae.w x [0,1,2,3,4,5,6] _ ?_;repeat' first|exact tv|apply pr
   all_goals exact q9
  | some pv =>
   obtain⟨p,v⟩:=pv;have qU:=j9 (K:=⟨kn,x.a.now,L3,kL⟩) hn hw (show cC L3 nm.1=_ by rw[show L3=x.a.bk from R.bk];exact hb);simp only[]at qU;by_cases hex:∃ h e,Has x.a nm h e
   .obtain⟨h,e,H⟩:=hex
    have T:=(EF R ok.inv hn hb H).ask hw (by omega);have hl:=KL x ok nm w hn hw hb H;have R5:=Ie R ok.inv hn hb H;have rY:=Ij ok.inv H;have dJ:h∈x.a.ord:=(ok.inv.mem h).2 (by rw[H.cp];rfl);have hlen:(x.a.ord.erase h++[h]).length=x.a.ord.length:=by
     rw[aab,abt,aa7 dJ];have:=abE dJ;omega
    have OC:=C4 x ok h nm v p (cW p (kZ x.a.bk e) x.a.now w).1 (sh x.a) (x.a.n - x.a.ord.length) _ (p6 H.cp) (fun _ _=>rfl) (by rw[hlen]) (.inl (by rw[H.cp];simp)) rY hb hn T.2.may T.2.at_;rw[T.1]at hl;cases Aj:(Hi.ask p (aY kL nm) x.a.now w).2.1 with
    | false =>
     rw[qU.1 Aj];(refine aa.q Tryz.func29 rfl fun S aw=>Wa _ ?_;(repeat' first|exact tv|apply pr|intro hh));(refine ab.q hl [0,1,2,3,4,5,6] fun _ _=>Wp _ ?_;(repeat' first|exact tv|apply pr|intro hh));all_goals first|(exact absurd Aj (by rw[‹(Hi.ask p (aY kL nm) x.a.now w).2.1=true›];simp))|skip
     all_goals refine ae.w x [0,1,2,3,4,5,6] _ ?_;repeat' first|exact tv|apply pr
     all_goals exact q9
    | true =>
     rw[qU.2.2 Aj R5];(refine aa.q Tryz.func29 rfl fun S aw=>Wa _ ?_;(repeat' first|exact tv|apply pr|intro hh));(refine ab.q hl [0,1,2,3,4,5,6] fun _ _=>Wp _ ?_;(repeat' first|exact tv|apply pr|intro hh));all_goals first|(exact absurd Aj (by rw[‹(Hi.ask p (aY kL nm) x.a.now w).2.1=false›];simp))|skip
     all_goals refine ab.q OC [0,1,2,3,4,5,6] fun _ _=>Wp _ ?_;repeat' first|exact tv|apply pr|intro hh
     all_goals refine ae.w (uo x h nm v p (cW p (kZ x.a.bk e) x.a.now w).1) [0,1,2,3,4,5,6] _ ?_;repeat' first|exact tv|apply pr
     all_goals exact⟨ok.cz rY hb hn T.2.may T.2.at_,R.cz rY hb hn T.2,abQ _,rfl⟩
   .have cy:∀ h e,x.a.cp h=some e->e.nm≠nm:=fun h e h1 h2=>hex ⟨h,e,h1,h2⟩
    have D8:=oD ok.inv;have Hv:=ok.inv.n;have T:=(zD R hn hb cy).ask hw (by omega);have hl:=OB x ok nm w hn hw hb cy;rw[T.1]at hl;cases Aj:(Hi.ask p (aY kL nm) x.a.now w).2.1 with
    | false =>
     rw[qU.1 Aj];(refine aa.q Tryz.func29 rfl fun S aw=>Wa _ ?_;(repeat' first|exact tv|apply pr|intro hh));(refine ab.q hl [0,1,2,3,4,5,6] fun _ _=>Wp _ ?_;(repeat' first|exact tv|apply pr|intro hh));all_goals first|(exact absurd Aj (by rw[‹(Hi.ask p (aY kL nm) x.a.now w).2.1=true›];simp))|skip
     all_goals refine ae.w x [0,1,2,3,4,5,6] _ ?_;repeat' first|exact tv|apply pr
     all_goals exact q9
    | true =>
     by_cases CI:x.a.ord.length=x.a.n
     .by_cases jG:∀ h∈x.a.ord,cZ x.a h=true
      .rw[qU.2.1 Aj (KJ R ok.inv hn hb cy CI jG)]
       (refine aa.q Tryz.func29 rfl fun S aw=>Wa _ ?_;(repeat' first|exact tv|apply pr|intro hh));(refine ab.q hl [0,1,2,3,4,5,6] fun _ _=>Wp _ ?_;(repeat' first|exact tv|apply pr|intro hh));all_goals first|(exact absurd Aj (by rw[‹(Hi.ask p (aY kL nm) x.a.now w).2.1=false›];simp))|skip
       all_goals refine ab.q AU [1] fun _ _=>Wp _ ?_;repeat' first|exact tv|apply pr|intro hh
       all_goals try (exfalso;omega)
       all_goals refine ab.q (Ic x ok) [0,1,2,3,4,5,6] ?_;rintro⟨y1,y2⟩ ⟨hy⟩;refine Wp _ ?_;repeat' first|exact tv|apply pr|intro hh
       all_goals rcases hy with⟨he,-⟩|⟨h,dJ,hc,-⟩
       all_goals first|(exact absurd (jG h dJ) (by rw[hc];simp))|skip
       all_goals have h3:=(Prod.mk.inj he).2.symm
       all_goals have h4:=(Prod.mk.inj he).1.symm
       all_goals subst h3
       all_goals subst h4
       .refine ae.w x [0,1,2,3,4,5,6] _ ?_;repeat' first|exact tv|apply pr
        exact q9
       .exact absurd ‹false=true› (by simp)
      .have R5:¬Full ⟨kn,x.a.now,L3,kL⟩ p nm:=by
        have hx:∃ h∈x.a.ord,cZ x.a h=false:=aaG fun xH=>jG fun h dJ=>by
         cases hc:cZ x.a h with
         | true=>rfl
         | false=>exact(xH ⟨h,dJ,hc⟩).elim
        obtain⟨h,dJ,hc⟩:=hx;exact vQ R (C5 R ok.inv dJ hc)
       rw[qU.2.2 Aj R5];(refine aa.q Tryz.func29 rfl fun S aw=>Wa _ ?_;(repeat' first|exact tv|apply pr|intro hh));(refine ab.q hl [0,1,2,3,4,5,6] fun _ _=>Wp _ ?_;(repeat' first|exact tv|apply pr|intro hh));all_goals first|(exact absurd Aj (by rw[‹(Hi.ask p (aY kL nm) x.a.now w).2.1=false›];simp))|skip
       all_goals refine ab.q AU [1] fun _ _=>Wp _ ?_;repeat' first|exact tv|apply pr|intro hh
       all_goals try (exfalso;omega)
       all_goals refine ab.q (Ic x ok) [0,1,2,3,4,5,6] ?_;rintro⟨y1,y2⟩ ⟨hy⟩;refine Wp _ ?_;repeat' first|exact tv|apply pr|intro hh
       all_goals rcases hy with⟨he,U9⟩|⟨h,dJ,hc,he⟩
       all_goals first|(exact absurd U9 jG)|skip
       all_goals have h3:=(Prod.mk.inj he).2.symm
       all_goals have h4:=(Prod.mk.inj he).1.symm
       all_goals subst h3
       all_goals subst h4
       .exact absurd ‹true=false› (by simp)
       .have EM:(jz x.a h).ord.length=x.a.ord.length - 1:=aa7 dJ
        have Fo:=abE dJ;have bf:(eu x h).a.ord.length<(eu x h).a.n:=by show(jz x.a h).ord.length<x.a.n;omega
        have Vd:(eu x h).G<=1000000000:=by show x.G+1<=_;omega
        have Ve:∀ h' e,(eu x h).a.cp h'=some e->e.nm≠nm:=fun h' e h1=>cy h' e (fK h1).2;(refine ab.q (AT Vd (show 0<(eu x h).a.n - (eu x h).a.ord.length by have:=bf;omega)) [1] ?_;rintro i hF;refine Wp _ ?_;(repeat' first|exact tv|apply pr|intro hh));obtain⟨rY,h0⟩:=oE (ok.drop dJ R4).inv hF Ve;have Jl:i∉(eu x h).a.ord:=fun Rx=>by have:=((ok.drop dJ R4).inv.mem i).1 Rx;rw[h0]at this;cases this
        have OC:=C4 (eu x h) (ok.drop dJ R4) i nm v p (cW p (0,0,[],[]) x.a.now w).1 (hZ (sh (eu x h).a) i (some (List.replicate 19 0))) ((eu x h).a.n - (eu x h).a.ord.length - 1) (List.replicate 19 0) (by unfold hZ;rw[Z0 rfl]) (fun j hj=>by unfold hZ;rw[ZY hj]) (by rw[abL Jl,aab,abt];omega) (.inr bf) rY hb hn T.2.may T.2.at_;(refine ab.q OC [0,1,2,3,4,5,6] fun _ _=>Wp _ ?_;(repeat' first|exact tv|apply pr|intro hh));(refine ae.w (uo (eu x h) i nm v p (cW p (0,0,[],[]) x.a.now w).1) [0,1,2,3,4,5,6] _ ?_;(repeat' first|exact tv|apply pr));exact⟨(ok.drop dJ R4).cz rY hb hn T.2.may T.2.at_,(R.drop ok.inv hc).cz rY hb hn T.2,by first|exact Z8 _|exact abQ _,rfl⟩
     .have bf:x.a.ord.length<x.a.n:=by omega
      have R5:¬Full ⟨kn,x.a.now,L3,kL⟩ p nm:=vQ R (by have:=zz R ok.inv;omega);have Vd:=Ia;rw[qU.2.2 Aj R5];(refine aa.q Tryz.func29 rfl fun S aw=>Wa _ ?_;(repeat' first|exact tv|apply pr|intro hh));(refine ab.q hl [0,1,2,3,4,5,6] fun _ _=>Wp _ ?_;(repeat' first|exact tv|apply pr|intro hh));all_goals first|(exact absurd Aj (by rw[‹(Hi.ask p (aY kL nm) x.a.now w).2.1=false›];simp))|skip
      all_goals refine ab.q AU [1] fun _ _=>Wp _ ?_;repeat' first|exact tv|apply pr|intro hh
      all_goals try (exfalso;omega)
      (refine ab.q (AT Vd (show 0<(x).a.n - (x).a.ord.length by have:=bf;omega)) [1] ?_;rintro i hF;refine Wp _ ?_;(repeat' first|exact tv|apply pr|intro hh));obtain⟨rY,h0⟩:=oE (ok).inv hF cy;have Jl:i∉(x).a.ord:=fun Rx=>by have:=((ok).inv.mem i).1 Rx;rw[h0]at this;cases this
      have OC:=C4 (x) (ok) i nm v p (cW p (0,0,[],[]) x.a.now w).1 (hZ (sh (x).a) i (some (List.replicate 19 0))) ((x).a.n - (x).a.ord.length - 1) (List.replicate 19 0) (by unfold hZ;rw[Z0 rfl]) (fun j hj=>by unfold hZ;rw[ZY hj]) (by rw[abL Jl,aab,abt];omega) (.inr bf) rY hb hn T.2.may T.2.at_;(refine ab.q OC [0,1,2,3,4,5,6] fun _ _=>Wp _ ?_;(repeat' first|exact tv|apply pr|intro hh));(refine ae.w (uo (x) i nm v p (cW p (0,0,[],[]) x.a.now w).1) [0,1,2,3,4,5,6] _ ?_;(repeat' first|exact tv|apply pr));exact⟨(ok).cz rY hb hn T.2.may T.2.at_,(R).cz rY hb hn T.2,by first|exact Z8 _|exact abQ _,rfl⟩
end Go.Proofs.YthnefnlhcijekaaGreat.En
set_option maxRecDepth 8000
namespace Go.Proofs.YthnefnlhcijekaaGreat.En
open Go Go.RowKit Fw Hi Ce Bt Eb
open Wh (aR de dS cP cQ)
theorem R6 (x:Es) (ok:kR x) {K:Kt} {N:Nat} (R:Rel x.a K N) (t:Int):aa Tryz.prog 23 [.ptr 0 0,.I t] (iy x) (Y:=Es) (uq x (mq K t) N)
  (fun _=>.int .i64 fun _=>(mq K t).now) iy:=by
 by_cases ht:x.a.now<t/\t<=ke
 .have e:mq K t={ K with now:=t }:=by unfold mq;rw[R.now,Z0 ht]
  rw[e];have Pe:ke=1099511627776:=rfl;(refine aa.q Tryz.func23 rfl fun S aw=>Wa _ ?_;(repeat' first|exact tv|apply pr|intro hh));all_goals try (exfalso;omega)
  all_goals refine ae.w ({ x with a:={ x.a with now:=t } }:Es) [0,1,2,3,4,5,6] _ ?_;repeat' first|exact tv|apply pr
  all_goals exact⟨⟨ok.inv.tick (by omega) ht.2,by have:=ok.tn;show x.tn<=t;omega,ok.nd,ok.get,ok.G⟩,R.tick (by omega) ht.2,by show x.G<=_;omega,rfl⟩
 .have e:mq K t=K:=by unfold mq;rw[R.now,ZY ht]
  rw[e,R.now];have Pe:ke=1099511627776:=rfl;(refine aa.q Tryz.func23 rfl fun S aw=>Wa _ ?_;(repeat' first|exact tv|apply pr|intro hh));all_goals try (exfalso;omega)
  all_goals refine ae.w x [0,1,2,3,4,5,6] _ ?_;repeat' first|exact tv|apply pr
  all_goals exact⟨ok,R,by omega,rfl⟩
structure Ik (x:Es) (book:Int) (l:List Int):Prop where
 nd:l.Nodup
 sub:∀ h∈l,h∈x.a.ord
 nt:∀ h∈x.a.bU,h∈l
 all:∀ h∈x.a.ord,∀ v,aP x.es h=some v->v.1.1=book->h∈l
structure OD (x:Es) (book:Int) (i:Nat) (l:List Int):Prop where
 le:i<=x.a.ord.length
 nd:l.Nodup
 sub:∀ h∈l,h∈x.a.ord
 nt:∀ h∈x.a.bU,h∈l
 all:∀ j,j<i->∀ v,aP x.es (x.a.ord.getD j 0)=some v->v.1.1=book->x.a.ord.getD j 0∈l
theorem iz {l:List Int} (hn:l.Nodup) (h j:Int):j∈l.erase h++[h]↔j∈l\/j=h:=by
 rw[aaD,aaR hn,abo];by_cases e:j=h <;> simp[e]
theorem zF {l:List Int} (hn:l.Nodup) (h:Int):(l.erase h++[h]).Nodup:=by
 rw[abH];exact⟨hn.erase h,by simp,fun x hx y hy=>by simp at hy;subst hy;exact((aaR hn).1 hx).1⟩
theorem OE (x:Es) (fD:∀ h∈x.a.ord,∃ v,aP x.es h=some v) (sq:∀ h∈x.a.ord,0<=h) (hlen:x.a.ord.length<=64) (Nt:x.a.bU.Nodup) (Fo:∀ h∈x.a.bU,h∈x.a.ord) (book:Int) :
  aa Tryz.prog 60 [.ptr 0 0,.I book] (iy x) (Y:=List Int) (Ik x book) (fun _=>.bQ []) (fun l=>iy (mo x l)):=by
 (refine aa.q Tryz.func60 rfl fun S aw=>Wa _ ?_;(repeat' first|exact tv|apply pr|intro hh));(refine ab.q (Cx x.a.ord (by omega)) [4] fun _ _=>Wp _ ?_;(repeat' first|exact tv|apply pr|intro hh));refine aM.intro hm (X:=Nat×List Int) (fun y=>OD x book y.1 y.2) (fun y=>x.a.ord.length - y.1)
  (fun y=>[(12,.I (y.1:Int)),(11,.I (x.a.ord.length:Int)),(10,.aL (.int .i64) fun _=>x.a.ord),(0,.ptr 0 0),(1,.I book)]) (fun y=>iy (mo x y.2)) (0,x.a.bU) [0,1,2,3,4,5,6] ⟨rfl,rfl,?_,?_⟩
  ⟨aae _,Nt,Fo,fun h hh=>hh,fun j hj=>absurd hj (abW j)⟩ ?_
 .exact Vc
 .exact Vc
 rintro⟨i,l⟩ hI;have hi:=hI.le;simp only[]at hi;refine Wa _ ?_;repeat' first|exact tv|apply pr|intro hh
 .exact Ob.mk ⟨by simp only[];omega,by simp only[];omega⟩
 .have dp:i<x.a.ord.length:=by omega
  have No:x.a.ord.getD ((i:Int)).toNat (Ty.int .i64).bA=x.a.ord.getD i 0:=by rw[Z4];rfl
  have C3:x.a.ord.getD i 0∈x.a.ord:=by rw[ZZ,Z1 dp];exact aax _
  obtain⟨v,hv⟩:=fD _ C3;refine vP v rfl rfl (by simp only[No];exact hv) ?_;refine Wa _ ?_;repeat' first|exact tv|apply pr|intro hh
  .refine ab.q (w8 l (x.a.ord.getD i 0) (sq _ C3)) [5] fun _ _=>Wp _ ?_;repeat' first|exact tv|apply pr|intro hh
   refine⟨(i+1,l.erase (x.a.ord.getD i 0)++[x.a.ord.getD i 0]),[0,1,2,3,4,5,6],⟨rfl,rfl,?_,?_⟩,⟨by show i+1<=_;omega,zF hI.nd _,fun h hh=>?_,fun h hh=>(iz hI.nd _ _).2 (.inl (hI.nt h hh)),fun j hj u hu hb=>?_⟩,by show _ - (i+1)<_ - i;omega⟩
   .exact Vc
   .refine Vb _ ?_;repeat' first|exact tv|apply pr
    rw[wr (by omega)];omega
   .rcases(iz hI.nd _ _).1 hh with h1|h1
    .exact hI.sub h h1
    .rw[h1];exact C3
   .refine(iz hI.nd _ _).2 ?_
    by_cases e:j=i
    .subst e;exact .inr rfl
    .exact .inl (hI.all j (by simp only[]at hj ⊢;omega) u hu hb)
  .refine⟨(i+1,l),[0,1,2,3,4,5,6],⟨rfl,rfl,?_,?_⟩,⟨by show i+1<=_;omega,hI.nd,hI.sub,hI.nt,fun j hj u hu hb=>?_⟩,by show _ - (i+1)<_ - i;omega⟩
   .exact Vc
   .refine Vb _ ?_;repeat' first|exact tv|apply pr
    rw[wr (by omega)];omega
   .by_cases e:j=i
    .subst e
     rw[hv]at hu;cases hu;exact absurd hb ‹_›
    .exact hI.all j (by simp only[]at hj ⊢;omega) u hu hb
 .have e:i=x.a.ord.length:=by omega
  (refine ae.w l [0,1,2,3,4,5,6] _ ?_;(repeat' first|exact tv|apply pr));refine⟨hI.nd,hI.sub,hI.nt,fun h hh u hu hb=>?_⟩;obtain⟨j,hj⟩:=aaa.1 hh;have q8:=(Z2.1 hj).1;have Ot:x.a.ord.getD j 0=h:=by rw[ZZ,hj];rfl
  have:=hI.all j (by simp only[];omega) u (by rw[Ot];exact hu) hb;rw[Ot]at this;exact this
def qQ (K:Kt) (id:Int) (p:ay):Kt×Int×Int:=if(ie K.bk id p).2.2=0 then({ K with bk:=(ie K.bk id p).1,L:=Ky K.L id },(ie K.bk id p).2.1,0)else(K,0,(ie K.bk id p).2.2)
theorem KN {bk:List bM} (h:ni bk) {id:Int} (hi:0<=id/\id<8) {b:bM} (ho:zu b=false) (hu:(aX bk id).2.2<=b.2.2) (OF:b.1=false\/(aX bk id).2.2<b.2.2):xt bk (bk.set id.toNat b) id:=by
 have hl:=h.len;have hg:∀ j:Int,0<=j->aX (bk.set id.toNat b) j=if id.toNat=j.toNat then b else aX bk j:=fun j _=>Sl.bj _ _ _ _ _ (by omega);refine⟨⟨by rw[aao];exact hl,fun c hc=>?_⟩,hi,fun j h0 h8 bC=>by rw[hg j h0,ZY (by omega)],by rw[hg id hi.1,Z0 rfl];exact hu,by rw[hg id hi.1,Z0 rfl];exact OF⟩;rcases acm hc with h1|h1
 .exact h.one c h1
 .rw[h1];exact ho
theorem zG {bk:List bM} (h:ni bk) {id:Int} {p:ay} (he:(ie bk id p).2.2=0):xt bk (ie bk id p).1 id:=by
 unfold ie at he ⊢;split at he
 .rename_i hk
  rw[Z0 hk];split at he
  .cases he
  .rename_i hv
   rw[ZY hv];have hb:=H2 h hk.1;refine KN h hk.1 ?_ (by simp only[];omega) (.inr (by simp only[];omega));rw[oz,ZY (by omega),Z0 rfl];simp only[Bool.or_eq_false_iff,decide_eq_false_iff_not,Bool.not_eq_false',decide_eq_true_eq];exact⟨by omega,hk.2⟩
 .cases he
def xy (x:Es) (bk:List bM):Es:={ x with a:={ x.a with bk:=bk } }
theorem OG {x:Es} (ok:kR x):∀ h∈x.a.ord,∃ v,aP x.es h=some v:=fun h hh=>by
 obtain⟨e,he⟩:=aaF.1 ((ok.inv.mem h).1 hh);exact⟨_,by rw[ok.get,he];rfl⟩
theorem Bn {x:Es} (ok:kR x) {K:Kt} {N:Nat} (R:Rel x.a K N) {nk:List bM} {id:Int} (A:xt x.a.bk nk id) {l:List Int} (hq:Ik (xy x nk) id l):uq x { K with bk:=nk,L:=Ky K.L id } N (mo (xy x nk) l):=by
 refine⟨⟨ok.inv.Oz A hq.nd hq.sub hq.nt fun h e he hid=>?_,ok.tn,ok.nd,ok.get,ok.G⟩,R.Oz ok.inv A l,abQ _,rfl⟩;exact hq.all h ((ok.inv.mem h).2 (by rw[he];rfl)) (e.nm,e.v) (by show aP x.es h=_;rw[ok.get,he];rfl) hid
theorem AK (x:Es) (ok:kR x) {K:Kt} {N:Nat} (R:Rel x.a K N) (id:Int) (p:ay):aa Tryz.prog 24 [.ptr 0 0,.I id,aI p] (iy x) (Y:=Es) (uq x (qQ K id p).1 N)
  (fun _=>.bQ [.I ((qQ K id p).2.1),.I ((qQ K id p).2.2)]) iy:=by
 have D8:=oD ok.inv;have Hv:=ok.inv.n;have fR:=RW x.a.bk ok.inv.bk id p;by_cases he:(ie x.a.bk id p).2.2=0
 .have e:qQ K id p=({ K with bk:=(ie K.bk id p).1,L:=Ky K.L id },(ie K.bk id p).2.1,0):=by unfold qQ;rw[R.bk,Z0 he]
  rw[e,R.bk];(refine aa.q Tryz.func24 rfl fun S aw=>Wa _ ?_;(repeat' first|exact tv|apply pr|intro hh));(refine ab.q fR [] fun _ _=>Wp _ ?_;(repeat' first|exact tv|apply pr|intro hh));all_goals first|(exact absurd he ‹_›)|skip
  all_goals refine ab.q (OE (xy x (ie x.a.bk id p).1) (show ∀ h∈x.a.ord,∃ v,aP x.es h=some v from OG ok) (fun h hh=>(ok.inv.pos h hh).1) (show x.a.ord.length<=64 by omega) ok.inv.kP ok.inv.jy id) [0,1,2,3,4,5,6] ?_;rintro l hq;refine Wp _ ?_;repeat' first|exact tv|apply pr|intro hh
  all_goals refine ae.w (mo (xy x (ie x.a.bk id p).1) l) [0,1,2,3,4,5,6] _ ?_;repeat' first|exact tv|apply pr
  all_goals exact Bn ok R (zG ok.inv.bk he) hq
 .have e:qQ K id p=(K,0,(ie K.bk id p).2.2):=by unfold qQ;rw[R.bk,ZY he]
  rw[e,R.bk];(refine aa.q Tryz.func24 rfl fun S aw=>Wa _ ?_;(repeat' first|exact tv|apply pr|intro hh));(refine ab.q fR [] fun _ _=>Wp _ ?_;(repeat' first|exact tv|apply pr|intro hh));all_goals first|(exact absurd ‹_› he)|skip
  all_goals refine ae.w x [0,1,2,3,4,5,6] _ ?_;repeat' first|exact tv|apply pr
  all_goals exact⟨ok,R,by omega,rfl⟩
end Go.Proofs.YthnefnlhcijekaaGreat.En
namespace Go.Proofs.YthnefnlhcijekaaGreat.Lay
open Go Go.Shelf
def ij:Go.Shelf.Ren:=⟨fun|6=>67|15=>123|14=>122|28=>182|29=>183|20=>174|21=>175|22=>176|23=>177|24=>178|25=>179|26=>180|27=>181|46=>229|47=>230|48=>231|49=>232|50=>233|57=>272|n=>n,fun|22=>38|24=>24|25=>101|3=>3|39=>159|0=>0|53=>262|55=>41|4=>4|46=>256|45=>255|50=>102|5=>5|9=>9|66=>291|70=>295|76=>329|77=>330|n=>n,fun|n=>n⟩
theorem Il:Go.Proofs.SlLaysF0.n6 Tryz.prog ij:={
 mixed:=by kernel_rfl
 f6:=⟨Tryz.f67.name,by decide,Tryz.func67.trans (congrArg some (by kernel_rfl))⟩
 f14:=⟨Tryz.f122.name,by decide,Tryz.func122.trans (congrArg some (by kernel_rfl))⟩
 f15:=Tryz.func123.trans (congrArg some (by kernel_rfl))
 f20:=⟨Tryz.f174.name,by decide,Tryz.func174.trans (congrArg some (by kernel_rfl))⟩
 f21:=⟨Tryz.f175.name,by decide,Tryz.func175.trans (congrArg some (by kernel_rfl))⟩
 f22:=⟨Tryz.f176.name,by decide,Tryz.func176.trans (congrArg some (by kernel_rfl))⟩
 f23:=⟨Tryz.f177.name,by decide,Tryz.func177.trans (congrArg some (by kernel_rfl))⟩
 f24:=⟨Tryz.f178.name,by decide,Tryz.func178.trans (congrArg some (by kernel_rfl))⟩
 f25:=⟨Tryz.f179.name,by decide,Tryz.func179.trans (congrArg some (by kernel_rfl))⟩
 f26:=⟨Tryz.f180.name,by decide,Tryz.func180.trans (congrArg some (by kernel_rfl))⟩
 f27:=⟨Tryz.f181.name,by decide,Tryz.func181.trans (congrArg some (by kernel_rfl))⟩
 f28:=Tryz.func182.trans (congrArg some (by kernel_rfl))
 f29:=Tryz.func183.trans (congrArg some (by kernel_rfl))
 f46:=⟨Tryz.f229.name,by decide,Tryz.func229.trans (congrArg some (by kernel_rfl))⟩
 f47:=Tryz.func230.trans (congrArg some (by kernel_rfl))
 f48:=Tryz.func231.trans (congrArg some (by kernel_rfl))
 f49:=⟨Tryz.f232.name,by decide,Tryz.func232.trans (congrArg some (by kernel_rfl))⟩
 f50:=⟨Tryz.f233.name,by decide,Tryz.func233.trans (congrArg some (by kernel_rfl))⟩
 f57:=⟨Tryz.f272.name,by decide,Tryz.func272.trans (congrArg some (by kernel_rfl))⟩
 t0:=Tryz.underlying0
 a0:=Tryz.isAgg0
 z0:=Tryz.sizeOf0
 v0:=Tryz.zeroValue0
 t3:=Tryz.underlying3
 a3:=Tryz.isAgg3
 z3:=Tryz.sizeOf3
 v3:=Tryz.zeroValue3
 t4:=Tryz.underlying4
 a4:=Tryz.isAgg4
 z4:=Tryz.sizeOf4
 v4:=Tryz.zeroValue4
 t5:=Tryz.underlying5
 a5:=Tryz.isAgg5
 z5:=Tryz.sizeOf5
 v5:=Tryz.zeroValue5
 t9:=Tryz.underlying9
 a9:=Tryz.isAgg9
 z9:=Tryz.sizeOf9
 v9:=Tryz.zeroValue9
 t22:=Tryz.underlying38
 a22:=Tryz.isAgg38
 z22:=Tryz.sizeOf38
 v22:=Tryz.zeroValue38
 t25:=Tryz.underlying101
 a25:=Tryz.isAgg101
 z25:=Tryz.sizeOf101
 v25:=Tryz.zeroValue101
 t39:=Tryz.underlying159
 a39:=Tryz.isAgg159
 z39:=Tryz.sizeOf159
 v39:=Tryz.zeroValue159
 t45:=Tryz.underlying255
 a45:=Tryz.isAgg255
 z45:=Tryz.sizeOf255
 v45:=Tryz.zeroValue255
 t46:=Tryz.underlying256
 a46:=Tryz.isAgg256
 z46:=Tryz.sizeOf256
 v46:=Tryz.zeroValue256
 t50:=Tryz.underlying102
 a50:=Tryz.isAgg102
 z50:=Tryz.sizeOf102
 v50:=Tryz.zeroValue102
 t53:=Tryz.underlying262
 a53:=Tryz.isAgg262
 z53:=Tryz.sizeOf262
 v53:=Tryz.zeroValue262
 t55:=Tryz.underlying41
 a55:=Tryz.isAgg41
 z55:=Tryz.sizeOf41
 v55:=Tryz.zeroValue41
 t66:=Tryz.underlying291
 a66:=Tryz.isAgg291
 z66:=Tryz.sizeOf291
 v66:=Tryz.zeroValue291
 t70:=Tryz.underlying295
 a70:=Tryz.isAgg295
 z70:=Tryz.sizeOf295
 v70:=Tryz.zeroValue295
 t76:=Tryz.underlying329
 a76:=Tryz.isAgg329
 z76:=Tryz.sizeOf329
 v76:=Tryz.zeroValue329
 t77:=Tryz.underlying330
 a77:=Tryz.isAgg330
 z77:=Tryz.sizeOf330
 v77:=Tryz.zeroValue330 }
theorem KO:∀ w,(isAgg (ij.t 24)).run Tryz.prog w=.ok true w:=Tryz.isAgg24
theorem Io:∀ w,(Go.sizeOf (ij.t 24)).run Tryz.prog w=.ok 2 w:=Tryz.sizeOf24
def Bo:Go.Shelf.Ren:=⟨fun|106=>52|213=>104|265=>159|n=>n,fun|3=>3|9=>9|n=>n,fun|n=>n⟩
theorem OH:Go.Proofs.Lays.n106 Tryz.prog Bo:={
 mixed:=by kernel_rfl
 f106:=Tryz.func52.trans (congrArg some (by kernel_rfl))
 f213:=Tryz.func104.trans (congrArg some (by kernel_rfl))
 f265:=Tryz.func159.trans (congrArg some (by kernel_rfl))
 t3:=Tryz.underlying3
 a3:=Tryz.isAgg3
 z3:=Tryz.sizeOf3
 v3:=Tryz.zeroValue3
 t9:=Tryz.underlying9
 a9:=Tryz.isAgg9
 z9:=Tryz.sizeOf9
 v9:=Tryz.zeroValue9 }
end Go.Proofs.YthnefnlhcijekaaGreat.Lay
set_option maxRecDepth 8000
namespace Go.Proofs.YthnefnlhcijekaaGreat.En
open Go Go.RowKit Fw Go.Sort Go.Shelf
def kT (x:Nm):List Value:=[.int .i64 x.1,.string ⟨x.2.toArray⟩]
theorem R7 {g:Gh} {x:Nm} {us:List Value} (h:RL g (enc uR (fun _=>x) []) us):us=kT x:=by
 match us,h with
 | [a,b],⟨h1,h2,_⟩=>cases h1;cases h2;rfl
theorem Ip {g:Gh} {x:Nm}:RL g (enc uR (fun _=>x) []) (kT x):=⟨.int .i64 (fun _=>x.1),.str (fun _=>x.2),trivial⟩
theorem L4 (xs:List Nm) (k:Nat) (x:Nm) (hk:xs[k]?=some x):(flatK kT 2 xs.toArray)[k*2]! = .int .i64 x.1/\(flatK kT 2 xs.toArray)[k*2+1]! = .string ⟨x.2.toArray⟩:=by
 obtain⟨xD,rfl⟩:=Z2.1 hk;refine⟨?_,?_⟩
 .rw[get_flatK _ _ _ _ (by simp;omega),show k*2 / 2=k by omega,show k*2 % 2=0 by omega]
  simp[kT,xD]
 .rw[get_flatK _ _ _ _ (by simp;omega),show(k*2+1) / 2=k by omega,show(k*2+1) % 2=1 by omega]
  simp[kT,xD]
theorem Bp {α:Type} {l:List α} {k:Nat} {v u:α} (h:l[k]?=some v) (h2:l[k+1]?=some u):(l.drop k).take 2=[v,u]:=by
 obtain⟨hk,rfl⟩:=Z2.1 h;obtain⟨yh,rfl⟩:=Z2.1 h2;rw[aaU hk,aaU yh];rfl
theorem EI {α:Type} {l:List α} {k:Nat} {v u:α} (h:(l.drop k).take 2=[v,u]):l[k]?=some v/\l[k+1]?=some u:=by
 have e0:((l.drop k).take 2)[0]?=some v:=by rw[h];rfl
 have e1:((l.drop k).take 2)[1]?=some u:=by rw[h];rfl
 rw[List.getElem?_take_of_lt (by omega),aam]at e0 e1;exact⟨e0,e1⟩
theorem zH (xs:List Nm) (vs:Array Value) (k:Nat):(putCells id 0 (flatK kT 2 xs.toArray) vs)[k]?=if k<xs.length*2 then(vs[k]?.map fun _=>(flatK kT 2 xs.toArray)[k]!)else vs[k]?:=by
 unfold putCells;rw[Array.getElem?_mapIdx];by_cases hk:k<xs.length*2
 .rw[Z0 hk]
  cases vs[k]? with
  | none=>rfl
  | some v =>
   simp only[aaO];rw[Z0 ⟨aae _,by simpa using hk⟩];simp
 .rw[ZY hk]
  cases vs[k]? with
  | none=>rfl
  | some v=>simp only[aaO];rw[ZY (by simp;omega)]
theorem EJ {g:Gh} {i:Nat} {w w':World} {T:TypeId} {xs ys:List Nm} {vs:Array Value} {cap:Nat} (h:(Chunk.row T uR fun _=>xs).sat g i w) (hV:g.V i=some cap) (hb:w.heap[g.B i]?=some (.cells vs T (0,0)))
  (hl:ys.length=xs.length) (hw:w'.heap[g.B i]?=some (.cells (putCells id 0 (flatK kT 2 ys.toArray) vs) T (0,0))):(Chunk.row T uR fun _=>ys).sat g i w':=by
 obtain⟨h1,h2,h3⟩:=h;refine⟨hl.trans h1,fun e=>(by rw[hV]at e;cases e),fun c hc=>?_⟩;rw[hV]at hc;cases hc;obtain⟨Te,e1,e2,e3,e4⟩:=h3 cap hV;have e3:xs.length<=cap:=e3;rw[hb]at e1;cases e1;have hs:Ty.size uR=2:=rfl;rw[hs]at e2;refine⟨_,hw,?_,by rw[hl];exact e3,fun k x hk=>?_⟩
 .rw[hs];unfold putCells;simp;omega
 .have xD:k<ys.length:=(Z2.1 hk).1
  have e2:vs.size=cap*2:=e2;have yh:k*2+1<vs.size:=by omega
  obtain⟨f0,f1⟩:=L4 ys k x hk;have hg:=zH ys vs (k*2);have Lm:=zH ys vs (k*2+1);have Za:k*2+1<ys.length*2:=by omega
  have Jk:k*2<vs.size:=by omega
  rw[Z0 (by omega),aaN Jk,aaO,f0]at hg;rw[Z0 Za,aaN yh,aaO,f1]at Lm;rw[hs,Bp (by rw[abK];exact hg) (by rw[abK];exact Lm)];exact Ip
theorem qj.Vf {w:World} {zP:Nat} {vs:Array Value} {T:TypeId} (n:Nat) (d:Array Nm) (h:w.heap[zP]?=some (.cells vs T (0,0))) :
  qj w (putRowK kT 2 (Sort.ahead w n) zP 0 d) zP (.cells (putCells id 0 (flatK kT 2 d) vs) T (0,0)) :=
 ⟨rfl,rfl,⟨rfl,Nat.le_add_right _ _⟩,nE _ _ _,gA (w:=Sort.ahead w n) _ h,fun k hk=>l4 (w:=Sort.ahead w n) _ hk⟩
def S6:Gh:=⟨0,fun _=>none,fun _=>0,fun _=>none,fun _=>0,0,fun _ _=>0,fun _=>0⟩
theorem R8 (W:World):eE S6 [] W:=⟨rfl,(fun b o h=>by cases h),(fun i=>trivial),(fun i j b h _=>h.elim),(fun i b h=>h.elim)⟩
theorem KP {P:Program} {f:FuncId} {args:List AV} {n:Int} (hM:MU P f args [] (.I n) []) {aC:List Value} (hr:RL S6 args aC) (W:World) :
  Calls P f aC.toArray W fun e w'=>e=.returned (.int .i64 n)/\∃ q QP,w'=grow (W.drewN q) QP:=by
 refine(hM.h S6 W aC (R8 W) hr).mono ?_;rintro e w' ⟨_,v,g',_,rfl,hv,Wr,hx⟩;cases hv;exact⟨rfl,Cb hx.os hx.tape hx.output hx.size fun b hb=>hx.cz b hb fun⟨i,hi⟩=>hi.elim⟩
section
variable {P:Program} {ρ:Go.Shelf.Ren}
theorem KQ (L:SlLaysF0.n6 P ρ) (aE:∀ w,(isAgg (ρ.t 24)).run P w=.ok true w) (zE:∀ w,(Go.sizeOf (ρ.t 24)).run P w=.ok 2 w) (T:TypeId) {gf:FuncId} {cf:Nm->Nm->Int} (hO:SWO (ltOf cf)) (hT:∀ x y,ltOf cf x y=false->ltOf cf y x=false->x=y)
  (ES:∀ x y:Nm,MU P gf [zB x,zB y] [] (.I (cf x y)) [])
  (eg:∀ args w,(callFunc gf args).run P w=.ok (.enter gf args) w) (GM:fE P (ρ.f 6)) (xs:List Nm) (hn:xs.length<4611686018427387904) :
  MU P (ρ.f 6) [.vec 0 2 (fun _=>0) fun _=>xs.length,.fn (.func gf) [] []] [.row T uR (fun _=>xs)] (.bQ []) [.row T uR (fun _=>xs.mergeSort fun x y=>!(ltOf cf) y x)] where
 aA:=GM
 h:=by
  intro g w aC hS hr;match aC,hr with
  | [v0,v1],hr =>
  obtain⟨h0,h1,_⟩:=hr;cases h1 with
  | fn f az bs vs ws hl k9 nX sI =>
  obtain rfl:vs=#[]:=by apply aa8;simpa using hl.symm
  obtain rfl:ws=#[]:=by apply aa8;simpa using k9.symm
  have Jw:af [.row T uR (fun _=>xs)] 0=.row T uR fun _=>xs:=rfl;have Nw:=hS.sat 0;rw[Jw]at Nw;have hlen:(xs.mergeSort fun x y=>!(ltOf cf) y x).length=xs.length:=List.length_mergeSort _;cases h0 with
  | vec i sz off n A c hi hL GN GO =>
  have QQ:ER g [] #[]:=fun t=>by
   have:Fw.look [] t=AV.undef:=rfl;rw[this];exact R.undef _
  have hI:=Inv.start hS QQ;cases hV:g.V 0 with
  | none =>
   obtain⟨rfl,qY,rfl,_⟩:=GN hV;have hx:xs=[]:=aaL.1 qY;subst hx;refine(Go.Proofs.AnyF.slices_SortFunc_none (P:=P) (ρ:=ρ) L none 0 (.func (.func gf) #[] #[]) w).mono ?_;rintro e w' ⟨rfl,rfl⟩;have rY:([]:List Nm).mergeSort (fun x y=>!(ltOf cf) y x)=[]:=List.mergeSort_nil;exact⟨(),_,g,trivial,rfl,.bQ _ _ rfl (by simp),by rw[rY];exact hS,by rw[rY];exact hI.ext⟩
  | some cap =>
   obtain⟨h4,h5,h6,h7,h8⟩:=GO cap hV;have hA:=h7 (.inr rfl);subst hA;obtain⟨s1,s2,s3⟩:=Nw;obtain⟨vs,e1,e2,e3,e4⟩:=s3 cap hV;have hblk:(af [.row T uR (fun _=>xs)] 0).own g 0 (g.B 0):=by rw[Jw];exact⟨by rw[hV];simp,rfl⟩
   have e3:xs.length<=cap:=e3;have e2:vs.size=cap*2:=e2;have cL:∀ (k:Nat) (x:Nm),xs[k]?=some x->vs[k*2]?=some (Value.int .i64 x.1)/\vs[k*2+1]?=some (Value.string ⟨x.2.toArray⟩):=fun k x hk=>by
    have hh:=EI (l:=vs.toList) (k:=k*2) (R7 (e4 k x hk));simpa only[abK]using hh
   have bf:=bo e1;have hH:HoldsK kT 2 w (g.B 0) 0 xs.toArray:=fun j hj=>by
    have lg:j<xs.length*2:=by simpa using hj
    have lq:j<vs.size:=by omega
    refine⟨?_,?_⟩
    .obtain⟨h9,fu⟩:=cL (j / 2) (xs[j / 2]'(by omega)) (Z1 (by omega))
     obtain⟨f0,f1⟩:=L4 xs (j / 2) (xs[j / 2]'(by omega)) (Z1 (by omega));unfold World.cell?;rw[e1];have hv:vs[j]?=some ((flatK kT 2 xs.toArray)[j]!):=by
      rcases Nat.mod_two_eq_zero_or_one j with hm|hm
      .rw[show j / 2*2=j by omega]at h9 f0
       rw[h9,f0]
      .rw[show j / 2*2+1=j by omega]at fu f1
       rw[fu,f1]
     simpa using hv
    .unfold World.frozen?
     rw[e1];simp
   have Nx:Go.Proofs.CmpLays P gf #[] kT 2 cf (g.B 0) 0 xs.toArray.size w:=fun m os dk Wo x y=>by
    have sI:RL S6 [zB x,zB y] [.agg (kT x).toArray,.agg (kT y).toArray]:=⟨R.jf Ip,R.jf Ip,trivial⟩
    have:=KP (ES x y) sI (Go.Proofs.sortWorldK kT 2 w (g.B 0) 0 m dk os);simpa using this
   refine(Go.Proofs.AnyQ.slices_SortFunc_total L 2 aE zE kT (fun _=>rfl) (fun x v hv=>by simp[kT]at hv;rcases hv with rfl|rfl <;> rfl) cf hO gf #[] (g.B 0) 0 c xs.toArray w eg Nx hH bf (by simpa using hn) hT).mono ?_;rintro e w' ⟨rfl,n,os,rfl⟩;have Jv:=hI.set (c:=.row T uR fun _=>xs.mergeSort fun x y=>!(ltOf cf) y x) hblk (qj.Vf n (xs.mergeSort fun x y=>!(ltOf cf) y x).toArray e1) (EJ (hS.sat 0) hV e1 hlen (gA (w:=Sort.ahead w n) _ e1)) ⟨by rw[hV];simp,rfl⟩ (fun T' t' Iz hc=>by cases hc);exact⟨(),_,g,trivial,rfl,.bQ _ _ rfl (by simp),Jv.aW.grown (Grown.grow _ os),Jv.ext.grow (Grown.grow _ os)⟩
end
end Go.Proofs.YthnefnlhcijekaaGreat.En
set_option maxRecDepth 8000
namespace Go.Proofs.YthnefnlhcijekaaGreat.En
open Go Go.RowKit Fw Go.Sort Go.Shelf
def p8 (a b:List UInt8):Int:=Go.Lib.compareBytes a b
theorem C6:∀ (a b:List UInt8),(p8 a b<0↔a<b)/\(p8 a b=0↔a=b)
 | [],[]=>⟨by simp[p8,Go.Lib.compareBytes],by simp[p8,Go.Lib.compareBytes]⟩
 | [],y::s=>⟨by simp[p8,Go.Lib.compareBytes],by simp[p8,Go.Lib.compareBytes]⟩
 | x::r,[]=>⟨by simp[p8,Go.Lib.compareBytes],by simp[p8,Go.Lib.compareBytes]⟩
 | x::r,y::s=>by
  obtain⟨h1,h2⟩:=C6 r s;have e:p8 (x::r) (y::s)=if x<y then -1 else if y<x then 1 else p8 r s:=rfl;rw[e,List.cons_lt_cons_iff];by_cases ha:x<y
  .have bC:x≠y:=fun e=>by subst e;exact absurd ha (UInt8.lt_irrefl x)
   rw[Z0 ha];exact⟨by simp[ha],by simp[bC]⟩
  .rw[ZY ha]
   by_cases hb:y<x
   .have bC:x≠y:=fun e=>by subst e;exact absurd hb (UInt8.lt_irrefl x)
    rw[Z0 hb];exact⟨by simp[ha,bC],by simp[bC]⟩
   .rw[ZY hb]
    have IV:x=y:=by
     rw[UInt8.lt_iff_toNat_lt]at ha hb;exact UInt8.toNat_inj.1 (by omega)
    subst IV;exact⟨by simp[h1,UInt8.lt_irrefl],by simp[h2]⟩
def rT (x y:Nm):Int:=if Ti.lY x.1 y.1=0 then p8 x.2 y.2 else Ti.lY x.1 y.1
theorem sk (x y:Nm):ltOf rT x y=true↔kQ x y:=by
 have h1:ltOf rT x y=true↔rT x y<0:=by simp[ltOf]
 rw[h1];unfold rT kQ Ti.lY;have:=(C6 x.2 y.2).1;by_cases ha:x.1<y.1
 .simp[ha]
 .by_cases hb:y.1<x.1
  .have:x.1≠y.1:=by omega
   simp[ha,hb,this]
  .have e:x.1=y.1:=by omega
   simp[ha,hb,e,this]
theorem qR {x y:Nm}:ltOf rT x y=false↔¬kQ x y:=by rw[<-sk];simp
theorem R9:SWO (ltOf rT) where
 irrefl x:=qR.2 (ig x)
 trans x y z h1 h2:=(sk _ _).2 (gj ((sk _ _).1 h1) ((sk _ _).1 h2))
 ntrans x y z h1 h2:=by
  rw[qR]at h1 h2 ⊢;intro h;by_cases hb:kQ y x
  .exact h2 (by
    by_cases hc:kQ y z
    .exact hc
    .by_cases hd:kQ z y
     .exact(pY (gj hb h) hd).elim
     .obtain rfl:=jA hc hd
      exact(h1 h).elim)
  .obtain rfl:=jA h1 hb
   exact h2 h
theorem Vg (x y:Nm) (h1:ltOf rT x y=false) (h2:ltOf rT y x=false):x=y:=jA (qR.1 h1) (qR.1 h2)
def zI (xs:List Nm):List Nm:=xs.mergeSort fun x y=>!(ltOf rT) y x
theorem oF (xs:List Nm):(zI xs).Perm xs:=List.mergeSort_perm xs _
theorem Iq {xs m:List Nm} (hp:xs.Perm m) (hm:m.Pairwise kQ):zI xs=m:=by
 have hO:=R9;refine C1 ?_ hm fun x=>((oF xs).trans hp).mem_iff;have eA:(zI xs).Nodup:=((oF xs).trans hp).nodup_iff.2 (vN hm);have O2:(zI xs).Pairwise fun a b=>(!(ltOf rT) b a)=true:=List.pairwise_mergeSort (le:=fun x y=>!(ltOf rT) y x) (fun a b c h1 h2=>by
  simp only[aa4]at h1 h2 ⊢;exact hO.ntrans _ _ _ h2 h1) (fun a b=>by
  simp only[abV,aa4,qR];by_cases h:kQ b a
  .exact .inr (pY h)
  .exact .inl h) xs
 refine(O2.and eA).imp ?_;rintro a b ⟨h1,h2⟩;simp only[aa4,qR]at h1;exact aaG fun h=>h2 (jA h h1)
theorem KR (a b:List UInt8):MU Tryz.prog 52 [.str fun _=>a,.str fun _=>b] [] (.I (p8 a b)) [] where
 aA:=⟨_,Tryz.func52,rfl,by decide⟩
 h:=by
  intro g w aC hS hr;match aC,hr with
  | [v0,v1],⟨h0,h1,_⟩ =>
  cases h0;cases h1;refine(Go.Proofs.Any.strings_Compare (P:=Tryz.prog) Lay.OH ⟨a.toArray⟩ ⟨b.toArray⟩ w).mono ?_;rintro e w' ⟨rfl,rfl⟩;have QQ:ER g [] #[]:=fun t=>by
   have:Fw.look [] t=AV.undef:=rfl;rw[this];exact R.undef _
  exact⟨(),_,g,trivial,rfl,.int .i64 (fun _=>p8 a b),hS,(Inv.start hS QQ).ext⟩
theorem Bq (x y:Nm):MU Tryz.prog 68 [zB x,zB y] [] (.I (rT x y)) []:=by
 (refine aa.q Tryz.func68 rfl fun S aw=>Wa _ ?_;(repeat' first|exact tv|apply pr|intro hh));(refine ab.q (Ti.tB x.1 y.1) [] fun _ _=>Wp _ ?_;(repeat' first|exact tv|apply pr|intro hh));all_goals refine ab.q (KR x.2 y.2) [] fun _ _=>Wp _ ?_;repeat' first|exact tv|apply pr|intro hh
 all_goals refine ab.q (Ti.orM (Ti.lY x.1 y.1) (p8 x.2 y.2)) [2] fun _ _=>Wp _ ?_;repeat' first|exact tv|apply pr|intro hh
 all_goals exact ae.z () []
theorem G3 (xs:List Nm) (hn:xs.length<4611686018427387904):MU Tryz.prog 67
  [.vec 0 2 (fun _=>0) fun _=>xs.length,.fn (.func 68) [] []] [.row 24 uR (fun _=>xs)] (.bQ []) [.row 24 uR (fun _=>zI xs)] :=
 KQ (P:=Tryz.prog) (ρ:=Lay.ij) Lay.Il Lay.KO Lay.Io 24 R9 Vg Bq
  (Go.Proofs.enters_of Tryz.func68 (by kernel_rfl) rfl) ⟨_,Tryz.func67,rfl,by decide⟩ xs hn
end Go.Proofs.YthnefnlhcijekaaGreat.En
set_option maxRecDepth 8000
namespace Go.Proofs.YthnefnlhcijekaaGreat.En
open Go Go.RowKit Fw Hi Ce Bt Eb
def ki (a:Ab) (l:List Int) (i:Nat):List Nm:=((l.take i).filter (cZ a)).map (EB a)
theorem Br (a:Ab) (l:List Int) (i:Nat) (h:Int) (hi:l[i]?=some h):ki a l (i+1)=if cZ a h then ki a l i++[EB a h]else ki a l i:=by
 unfold ki;rw[aaE,hi,ac4,List.filter_append];by_cases hc:cZ a h=true
 .rw[Z0 hc,ade,Z0 hc,ace];rfl
 .rw[ZY hc,ade,ZY hc,List.filter_nil,List.append_nil]
theorem EK (a:Ab) (l:List Int) (i:Nat):(ki a l i).length<=i:=by
 unfold ki;rw[aba];exact aaA (acf ..) (by rw[aak];omega)
theorem zJ {x:Es} (ok:kR x) {l:List Int} (hl:AW (sh x.a) l):l.length<=64:=by
 have Jo:∀ h∈l,h∈x.a.ord:=fun h hh=>(ok.inv.mem h).2 (by
  have:=(hl.2 h).1 hh;unfold sh at this;simpa using this)
 have h1:=mW (n:=x.a.n) l (fun h hh=>ok.inv.pos h (Jo h hh)) (fun h hh h' EC=>ok.inv.xI h (Jo h hh) h' (Jo h' EC)) hl.nd;have:=ok.inv.n;omega
theorem ur {x:Es} (ok:kR x) {l:List Int} (hl:AW (sh x.a) l) (h:Int):h∈l↔h∈x.a.ord:=by
 rw[hl.2,ok.inv.mem];unfold sh;simp
theorem OI (x:Es) (ok:kR x) {K:Kt} {N:Nat} (R:Rel x.a K N):MU Tryz.prog 28 [.ptr 0 0] (iy x) (.aL uR fun _=>eD K) (iy x):=by
 have hG:=ok.G;have Ia:x.G<=1000000000:=by omega
 (refine aa.q Tryz.func28 rfl fun S aw=>Wa _ ?_;(repeat' first|exact tv|apply pr|intro hh));(refine ab.q (G9 (G:=x.G) Ia) [1] ?_;rintro l hl;refine Wp _ ?_;(repeat' first|exact tv|apply pr|intro hh));have La:=zJ ok hl;refine aM.nil 24 uR none [3] ?_;refine aM.intro hm (X:=Nat) (fun i=>i<=l.length) (fun i=>l.length - i)
  (fun i=>[(0,.ptr 0 0),(3,.vec 7 2 (fun _=>0) fun _=>(ki x.a l i).length),(12,.aL (.int .i64) fun _=>l),(13,.I (l.length:Int)),(14,.I (i:Int))])
  (fun i=>iy x++[.aq 24 uR fun _=>ki x.a l i]) 0 [0,1,2,3,4,5,6,7] ⟨rfl,rfl,?_,?_⟩ (aae _) ?_
 .exact Vc
 .exact Vc
 intro i hi;have u7:=EK x.a l i;refine Wa _ ?_;repeat' first|exact tv|apply pr|intro hh
 .exact Ob.mk ⟨by simp only[];omega,by simp only[];omega⟩
 .have dp:i<l.length:=by omega
  have No:l.getD ((i:Int)).toNat (Ty.int .i64).bA=l.getD i 0:=by rw[Z4];rfl
  have xV:l[i]?=some (l.getD i 0):=by rw[ZZ,Z1 dp];rfl
  have C3:l.getD i 0∈x.a.ord:=(ur ok hl _).1 (by rw[ZZ,Z1 dp];exact aax _);obtain⟨e,he⟩:=aaF.1 ((ok.inv.mem _).1 C3);have vm:=ok.get (l.getD i 0);rw[he]at vm;have uu:=Br x.a l i _ xV;rw[jB he]at uu;refine ab.q (xw x ok (l.getD i 0) e he) [0,1,2,3,4,5,6] fun _ _=>Wp _ ?_;repeat' first|exact tv|apply pr|intro hh
  .rw[Z0 ‹_›]at uu
   refine vP (e.nm,e.v) rfl rfl vm ?_;refine Wa _ ?_;repeat' first|exact tv|apply pr|intro hh
   .refine⟨⟨rfl,?_,?_⟩⟩
    .show(ki x.a l i).length+1<=_
     omega
    .show((ki x.a l i).length+1)*24<=_
     omega
   refine⟨i+1,[0,1,2,3,4,5,6,7],⟨rfl,rfl,?_,?_⟩,by show i+1<=_;omega,by show _ - (i+1)<_ - i;omega⟩
   .refine Vb _ ?_;repeat' first|exact tv|apply pr
    all_goals first|(rw[uu,Z6 (Z8 _)];rfl)|(rw[uu,Z6 (Z8 _),aab];rfl)|(rw[wr (by omega)];omega)|exact uu.symm|(rw[uu,aab];rfl)|(rw[uu];done)|skip
   .refine Vb _ ?_;repeat' first|exact tv|apply pr
    all_goals first|(rw[uu,Z6 (Z8 _)];rfl)|(rw[uu,Z6 (Z8 _),aab];rfl)|(rw[wr (by omega)];omega)|exact uu.symm|(rw[uu,aab];rfl)|(rw[uu];done)|skip
  .rw[hh,ZY (by decide)]at uu
   refine⟨i+1,[0,1,2,3,4,5,6,7],⟨rfl,rfl,?_,?_⟩,by show i+1<=_;omega,by show _ - (i+1)<_ - i;omega⟩
   .refine Vb _ ?_;repeat' first|exact tv|apply pr
    all_goals first|(rw[uu,Z6 (Z8 _)];rfl)|(rw[uu,Z6 (Z8 _),aab];rfl)|(rw[wr (by omega)];omega)|exact uu.symm|(rw[uu,aab];rfl)|(rw[uu];done)|skip
   .refine Vb _ ?_;repeat' first|exact tv|apply pr
    all_goals first|(rw[uu,Z6 (Z8 _)];rfl)|(rw[uu,Z6 (Z8 _),aab];rfl)|(rw[wr (by omega)];omega)|exact uu.symm|(rw[uu,aab];rfl)|(rw[uu];done)|skip
 .have dp:i=l.length:=by omega
  have hp:(ki x.a l i).Perm (eD K):=by
   unfold ki;rw[dp,aac];exact ug R ok.inv hl.1 (ur ok hl)
  (refine ab.q (G3 (ki x.a l i) (by omega)) [7] fun _ _=>Wp _ ?_;(repeat' first|exact tv|apply pr|intro hh));refine ae.jo 7 rfl ?_;(conv=>whnf);(refine ae.gU 7 ?_;(conv=>whnf));(refine ae.w () [0,1,2,3,4,5,6] _ ?_;(repeat' first|exact tv|apply pr));rw[aah,Z6 (by rw[(oF _).length_eq];exact Z8 _)];exact Iq hp (vM K R.zT)
end Go.Proofs.YthnefnlhcijekaaGreat.En
set_option maxRecDepth 8000
namespace Go.Proofs.YthnefnlhcijekaaGreat.En
open Go Go.RowKit Fw Hi Ce Bt Eb
open Wh (aR de dS cP cQ)
abbrev Vh:=List (Nat×Int×Int)
structure KS (l:List Int) (i:Nat) (es:Vh):Prop where
 le:i<=l.length
 WW:∀ h∈l.take i,aP es (h.tmod 64)=some h
 out:∀ k h,aP es k=some h->h∈l/\h.tmod 64=k
theorem KS.add {l:List Int} {i:Nat} {es:Vh} (p:KS l i es) {h:Int} (hi:l[i]?=some h) (hu:∀ a∈l,∀ b∈l,a.tmod 64=b.tmod 64->a=b) (c:Nat):KS l (i+1) (bV es c (h.tmod 64) h):=by
 have dp:=(Z2.1 hi).1;have hm:h∈l:=abU hi;refine⟨dp,fun j hj=>?_,fun k j hk=>?_⟩
 .rw[de]
  by_cases e:j.tmod 64=h.tmod 64
  .rw[Z0 e,hu j (aa5 hj) h hm e]
  .rw[ZY e]
   rw[aaE,hi,aaD]at hj;rcases hj with hj|hj
   .exact p.WW j hj
   .simp at hj;subst hj;exact(e rfl).elim
 .rw[de]at hk
  by_cases e:k=h.tmod 64
  .rw[Z0 e]at hk;cases hk;exact⟨hm,e.symm⟩
  .rw[ZY e]at hk;exact p.out k j hk
structure zK (x:Es) (is:List Int) (j:Nat) (l:List Int):Prop where
 le:j<=is.length
 nd:l.Nodup
 sub:∀ h∈l,h∈x.a.ord
 nt:∀ h∈x.a.bU,h∈l
 all:∀ k,k<j->∀ h∈x.a.ord,h.tmod 64=is.getD k 0->h∈l
theorem zK.skip {x:Es} {is l:List Int} {j:Nat} (t:zK x is j l) (hj:j<is.length) (cy:∀ h∈x.a.ord,h.tmod 64≠is.getD j 0):zK x is (j+1) l :=
 ⟨hj,t.nd,t.sub,t.nt,fun k hk h hh he=>by
  by_cases e:k=j
  .subst e;exact(cy h hh he).elim
  .exact t.all k (by omega) h hh he⟩
theorem zK.yM {x:Es} {is l:List Int} {j:Nat} (t:zK x is j l) (I:Inv x.a) (hj:j<is.length) {h:Int} (hh:h∈x.a.ord) (he:h.tmod 64=is.getD j 0):zK x is (j+1) (l.erase h++[h]) :=
 ⟨hj,zF t.nd h,fun a ha=>(by
  rcases(iz t.nd _ _).1 ha with h1|h1
  .exact t.sub a h1
  .rw[h1];exact hh),fun a ha=>(iz t.nd _ _).2 (.inl (t.nt a ha)),fun k hk a ha WX=>(iz t.nd _ _).2 (by
  by_cases e:k=j
  .subst e;exact .inr (I.xI a ha h hh (WX.trans he.symm))
  .exact .inl (t.all k (by omega) a ha WX))⟩
def KT (x:Es) (l:List Int):Es:={ x with tn:=x.a.now,a:={ x.a with bU:=l,due:=tD x.a.due x.a.now } }
structure nK (x:Es) (K:Kt) (N:Nat) (aF:Int) (m0:Nat) (y:Es) (n:Nat):Prop where
 ok:kR y
 rel:Rel y.a K N
 due:∀ id d,y.a.due id=some d->y.a.now<d
 len:y.a.ord.length<=x.a.ord.length
 G:y.G<=x.G+n
 bF:n+y.a.bU.length=m0
 le:(n:Int)<=max aF 0
 ao:y.ao=x.ao
structure L5 (x:Es) (K:Kt) (N:Nat) (aF:Int) (y:Es×Int):Prop where
 ok:kR y.1
 rel:Rel y.1.a K N
 lo:0<=y.2
 hi:y.2<=max aF 0
 len:y.1.a.ord.length<=x.a.ord.length
 G:y.1.G<=x.G+64
 ao:y.1.ao=x.ao
 all:64<=aF->∀ h∈y.1.a.ord,cZ y.1.a h=true
theorem OJ {x:Es} (ok:kR x) {K:Kt} {N:Nat} (R:Rel x.a K N) {is l:List Int} (T:Ti.Told x.a.due x.a.now is) (t:zK x is is.length l) (aF:Int):nK x K N aF l.length (KT x l) 0:=by
 have hI:Inv (KT x l).a:=ok.inv.advance t.nd t.sub t.nt fun h hh d hd hle=>by
  have hm:=(T.mem (h.tmod 64)).2 ⟨d,hd,hle⟩;obtain⟨k,hk⟩:=aaa.1 hm;have pF:=(Z2.1 hk).1;exact t.all k pF h hh (by rw[ZZ,hk];rfl)
 refine⟨⟨hI,aad _,ok.nd,ok.get,ok.G⟩,R.only rfl rfl rfl rfl,fun id d hd=>?_,Z8 _,Z8 _,by show 0+l.length=_;omega,by omega,rfl⟩;change tD x.a.due x.a.now id=some d at hd;unfold tD at hd;show x.a.now<d;cases hx:x.a.due id with
 | none=>rw[hx]at hd;cases hd
 | some d' =>
  rw[hx]at hd;simp only[]at hd;split at hd
  .cases hd
  .cases hd;omega
theorem nK.KU {x y:Es} {K:Kt} {N:Nat} {aF:Int} {m0 n:Nat} (w:nK x K N aF m0 y n) {h:Int} (hh:h∈y.a.bU) (hc:cZ y.a h=true) (hn:(n:Int)<aF):nK x K N aF m0 (mo y (y.a.bU.erase h)) (n+1):=by
 have hl:=aa7 hh;have hp:=abE hh;have K5:=w.bF;exact⟨⟨w.ok.inv.looked hc,w.ok.tn,w.ok.nd,w.ok.get,w.ok.G⟩,w.rel.only rfl rfl rfl rfl,w.due,w.len,by have:=w.G;show y.G<=_;omega,by show n+1+(y.a.bU.erase h).length=m0;omega,by omega,w.ao⟩
theorem Bs {y:Es} (ok:kR y) (h:Int):eu (mo y (y.a.bU.erase h)) h=eu y h:=by
 have:(y.a.bU.erase h).erase h=y.a.bU.erase h:=abL fun hm=>((aaR ok.inv.kP).1 hm).1 rfl;unfold eu jz mo;simp only[this]
theorem nK.dropped {x y:Es} {K:Kt} {N:Nat} {aF:Int} {m0 n:Nat} (w:nK x K N aF m0 y n) {h:Int} (hh:h∈y.a.bU) (hc:cZ y.a h=false) (hn:(n:Int)<aF) (hG:y.G<900000000):nK x K N aF m0 (eu y h) (n+1):=by
 have hl:=aa7 hh;have hp:=abE hh;have K5:=w.bF;have hm:=w.ok.inv.jy h hh;refine⟨w.ok.drop hm hG,w.rel.drop w.ok.inv hc,fun id d hd=>?_,?_,by have:=w.G;show y.G+1<=_;omega,by show n+1+(y.a.bU.erase h).length=m0;omega,by omega,w.ao⟩
 .change fO y.a.due (h.tmod 64) none id=some d at hd
  unfold fO at hd;split at hd
  .cases hd
  .exact w.due id d hd
 .have:=aa7 hm
  have h2:=w.len;show(y.a.ord.erase h).length<=_;omega
theorem nK.done {x y:Es} {K:Kt} {N:Nat} {aF:Int} {m0 n:Nat} (w:nK x K N aF m0 y n) (u6:m0<=64) (he:y.a.bU=[]\/¬(n:Int)<aF) {m:Nat} (hm:(m:Int)<=max (aF - n) 0):L5 x K N aF (y,(n:Int)+m):=by
 have h1:=w.le;have h2:=w.G;have h3:=w.bF;refine⟨w.ok,w.rel,by show 0<=(n:Int)+m;omega,by show(n:Int)+m<=_;omega,w.len,by show y.G<=_;omega,w.ao,fun WY=>w.ok.inv.clean ?_ w.due⟩;rcases he with h4|h4
 .exact h4
 .exact aaL.1 (by omega)
theorem Sa (x:Es) (ok:kR x) {K:Kt} {N:Nat} (R:Rel x.a K N) (R4:x.G+64<900000000) (aF:Int) (C3:-9223372036854775808<=aF/\aF<=9223372036854775807):aa Tryz.prog 36 [.ptr 0 0,.I aF] (iy x) (Y:=Es×Int) (L5 x K N aF)
  (fun y=>.int .i64 fun _=>y.2) (fun y=>iy y.1):=by
 have hG:=ok.G;have Ia:x.G<=1000000000:=by omega
 have Zb:=ok.inv.now;have Pe:ke=1099511627776:=rfl;have Vi:x.a.now<=1099511627776:=by omega
 refine aa.q Tryz.func36 rfl fun S aw=>?_;(conv=>whnf);(refine aB.step hm rfl (Wc _ ?_);(repeat' first|exact tv|apply pr|intro hh));(refine aB.step hm rfl (Wc _ ?_);(repeat' first|exact tv|apply pr|intro hh));(refine aB.step hm rfl (Wc _ ?_);(repeat' first|exact tv|apply pr|intro hh));refine aB.lR (fun _=>.map [] 0) ?_;(conv=>whnf);refine aB.gk 8 7 rfl (fun c=>Ti.rN [] c) rfl rfl (Ti.iR _) (fun c0=>?_);(conv=>whnf);(refine Wa _ ?_;(repeat' first|exact tv|apply pr|intro hh));(refine ab.q (G9 (G:=x.G) Ia) [1] ?_;rintro l hl;refine Wp _ ?_;(repeat' first|exact tv|apply pr|intro hh));have La:=zJ ok hl;have uE:=ur ok hl;have Vj:∀ a∈l,∀ b∈l,a.tmod 64=b.tmod 64->a=b:=fun a ha b hb=>ok.inv.xI a ((uE a).1 ha) b ((uE b).1 hb);refine aM.intro hm (X:=Nat×Vh×Nat) (fun z=>KS l z.1 z.2.1) (fun z=>l.length - z.1)
  (fun z=>[(0,.ptr 0 0),(1,.I aF),(5,.hm 7 fun _=>0),(22,.aL (.int .i64) fun _=>l),(23,.I (l.length:Int)),(24,.I (z.1:Int))])
  (fun z=>iy x++[.heap fun _=>Ti.rN z.2.1 z.2.2]) (0,[],c0) [0,1,2,3,4,5,6,8] ⟨rfl,rfl,?_,?_⟩ ⟨aae _,fun h hh=>(by simp at hh),fun k h hk=>(by cases hk)⟩ ?_
 .exact Vc
 .exact Vc
 rintro⟨i,es,c⟩ hP;simp only[]at hP;have hi:=hP.le;refine Wa _ ?_;repeat' first|exact tv|apply pr|intro hh
 .exact Ob.mk ⟨by simp only[];omega,by simp only[];omega⟩
 .have dp:i<l.length:=by omega
  have xV:l[i]?=some (l.getD i 0):=by rw[ZZ,Z1 dp];rfl
  (refine ab.q (qH (l.getD i 0)) [] fun _ _=>Wp _ ?_;(repeat' first|exact tv|apply pr|intro hh));refine Ti.LG rfl rfl (.eq (.gQ (.int .i64) (l.getD i 0))) ?_;(refine Wa _ ?_;(repeat' first|exact tv|apply pr|intro hh));refine⟨(i+1,bV es c ((l.getD i 0).tmod 64) (l.getD i 0),Ti.qG es c ((l.getD i 0).tmod 64)),[0,1,2,3,4,5,6,7],⟨rfl,rfl,?_,?_⟩,hP.add xV Vj c,by show _ - (i+1)<_ - i;omega⟩
  .exact Vc
  .refine Vb _ ?_;repeat' first|exact tv|apply pr
   rw[wr (by omega)];omega
 have dp:i=l.length:=by omega
 clear hh;(refine ab.q (Q4 x.tn x.a.due x.a.now ok.tn Vi) [3] ?_;rintro is ⟨hT,Zc⟩;refine Wp _ ?_;(repeat' first|exact tv|apply pr|intro hh));refine aM.intro hm (X:=Nat×List Int) (fun z=>zK x is z.1 z.2) (fun z=>is.length - z.1)
  (fun z=>[(0,.ptr 0 0),(1,.I aF),(5,.hm 7 fun _=>0),(41,.aL (.int .i64) fun _=>is),(42,.I (is.length:Int)),(43,.I (z.1:Int))])
  (fun z=>iy (KT x z.2)++[.heap fun _=>Ti.rN es c]) (0,x.a.bU) [0,1,2,3,4,5,6,7] ⟨rfl,rfl,?_,?_⟩ ⟨aae _,ok.inv.kP,ok.inv.jy,fun h hh=>hh,fun k hk=>absurd hk (abW k)⟩ ?_
 .exact Vc
 .exact Vc
 rintro⟨j,pd⟩ hU;simp only[]at hU;have hj:=hU.le;refine Wa _ ?_;repeat' first|exact tv|apply pr|intro hh
 .exact Ob.mk ⟨by simp only[];omega,by simp only[];omega⟩
 .have q8:j<is.length:=by omega
  have Ot:is.getD ((j:Int)).toNat (Ty.int .i64).bA=is.getD j 0:=by rw[Z4];rfl
  refine Ti.GL rfl rfl (fun h hv=>?_) (fun hv=>?_)
  .simp only[Ot]at hv
   obtain⟨h1,h2⟩:=hP.out _ _ hv;have h3:=(uE h).1 h1;(refine Wa _ ?_;(repeat' first|exact tv|apply pr|intro hh));(refine ab.q (w8 pd h (ok.inv.pos h h3).1) [5] fun _ _=>Wp _ ?_;(repeat' first|exact tv|apply pr|intro hh));refine⟨(j+1,pd.erase h++[h]),[0,1,2,3,4,5,6,7],⟨rfl,rfl,?_,?_⟩,hU.yM ok.inv q8 h3 h2,by show _ - (j+1)<_ - j;omega⟩
   .exact Vc
   .refine Vb _ ?_;repeat' first|exact tv|apply pr
    rw[wr (by omega)];omega
  .simp only[Ot]at hv
   have cy:∀ h∈x.a.ord,h.tmod 64≠is.getD j 0:=fun h hh e=>by
    have:=hP.WW h (by rw[dp,aac];exact(uE h).2 hh);rw[e,hv]at this;cases this
   (refine Wa _ ?_;(repeat' first|exact tv|apply pr|intro hh));refine⟨(j+1,pd),[0,1,2,3,4,5,6,7],⟨rfl,rfl,?_,?_⟩,hU.skip q8 cy,by show _ - (j+1)<_ - j;omega⟩
   .exact Vc
   .refine Vb _ ?_;repeat' first|exact tv|apply pr
    rw[wr (by omega)];omega
 have Zd:j=is.length:=by omega
 subst Zd;have hW:=OJ ok R hT hU aF;have vX:pd.length<=64:=by
  have h1:=mW (n:=x.a.n) pd (fun h hh=>ok.inv.pos h (hU.sub h hh)) (fun h hh h' EC=>ok.inv.xI h (hU.sub h hh) h' (hU.sub h' EC)) hU.nd;have:=ok.inv.n;omega
 refine aM.intro hm (X:=Es×Nat) (fun z=>nK x K N aF pd.length z.1 z.2) (fun z=>z.1.a.bU.length)
  (fun z=>[(0,.ptr 0 0),(1,.I aF),(12,.I (z.2:Int))])
  (fun z=>iy z.1) (KT x pd,0) [0,1,2,3,4,5,6] ⟨rfl,rfl,?_,?_⟩ hW ?_
 .exact Vc
 .exact Vc
 rintro⟨y,n⟩ hY;simp only[]at hY;have K5:=hY.bF;have Ze:=hY.G;refine Wa _ ?_;repeat' first|exact tv|apply pr|intro hh
 .refine ab.q (yO y.a.bU) [5] fun _ _=>Wp _ ?_;repeat' first|exact tv|apply pr|intro hh
  .have Vk:y.a.bU=[]:=by
    rename_i h1;exact aaL.1 (by omega)
   have hle:=hY.le;have ew:IntKind.i64.wrap (aF - (n:Int))=aF - n:=wr (by omega);simp only[ew];(refine ab.q (Hw (sd:=y.ao) (M:=um y.a) (c:=y.a.ord.length) (aF - n)) [2] ?_;rintro m jR;refine Wp _ ?_;(repeat' first|exact tv|apply pr|intro hh));refine ae.w (y,(n:Int)+m) [0,1,2,3,4,5,6] _ ?_;repeat' first|exact tv|apply pr
   .rw[wr (by omega)]
   .exact hY.done vX (.inl Vk) jR
  .have xF:0<y.a.bU.length:=‹0<y.a.bU.length›
   have HZ:y.a.bU.getD 0 0∈y.a.bU:=by rw[ZZ,Z1 xF];exact aax _
   have WZ:=hY.ok.inv.jy _ HZ;obtain⟨e,he⟩:=aaF.1 ((hY.ok.inv.mem _).1 WZ);have RT:(n:Int)<aF:=‹(n:Int)<aF›;(refine ab.q (AX y.a.bU (y.a.bU.getD 0 0)) [5] fun _ _=>Wp _ ?_;(repeat' first|exact tv|apply pr|intro hh));refine ab.q (zC (mo y (y.a.bU.erase (y.a.bU.getD 0 0))) hY.ok.inv.bk hY.ok.G (y.a.bU.getD 0 0) e he (show aP y.es _=_ by rw[hY.ok.get,he];rfl) (fun p hc=>((hY.ok.inv.ok _ e he).2.2 p hc).1)) [0,1,2,3,4,5,6] fun _ _=>Wp _ ?_;repeat' first|exact tv|apply pr|intro hh
   .have AA:cZ y.a (y.a.bU.getD 0 0)=false:=‹_›
    (refine ab.q (Ib y hY.ok (y.a.bU.getD 0 0) WZ (y.a.bU.erase (y.a.bU.getD 0 0))) [0,1,2,3,4,5,6] fun _ _=>Wp _ ?_;(repeat' first|exact tv|apply pr|intro hh));have hD:=hY.dropped HZ AA RT (by omega);rw[Bs hY.ok];refine⟨(eu y (y.a.bU.getD 0 0),n+1),[0,1,2,3,4,5,6],⟨rfl,rfl,?_,?_⟩,hD,by have:=hD.bF;simp only[];omega⟩
    .exact Vc
    .refine Vb _ ?_;repeat' first|exact tv|apply pr
     rw[wr (by omega)];omega
   .have AA:cZ y.a (y.a.bU.getD 0 0)=true:=by simpa using‹_›
    have hD:=hY.KU HZ AA RT;refine⟨(mo y (y.a.bU.erase (y.a.bU.getD 0 0)),n+1),[0,1,2,3,4,5,6],⟨rfl,rfl,?_,?_⟩,hD,by have:=hD.bF;simp only[];omega⟩
    .exact Vc
    .refine Vb _ ?_;repeat' first|exact tv|apply pr
     rw[wr (by omega)];omega
 .have hle:=hY.le
  have ew:IntKind.i64.wrap (aF - (n:Int))=aF - n:=wr (by omega);simp only[ew];(refine ab.q (Hw (sd:=y.ao) (M:=um y.a) (c:=y.a.ord.length) (aF - n)) [2] ?_;rintro m jR;refine Wp _ ?_;(repeat' first|exact tv|apply pr|intro hh));refine ae.w (y,(n:Int)+m) [0,1,2,3,4,5,6] _ ?_;repeat' first|exact tv|apply pr
  .rw[wr (by omega)]
  .exact hY.done vX (.inr hh) jR
end Go.Proofs.YthnefnlhcijekaaGreat.En
set_option maxRecDepth 8000
namespace Go.Proofs.YthnefnlhcijekaaGreat.En
open Go Go.RowKit Fw Hi Ce Bt Eb
def Ir (n sd:Int):AV:=.agg [.I n,.int .u64 fun _=>sd]
theorem S7 (n sd:Int) (hn:¬(1<=n/\n<=64)):MU Tryz.prog 22 [Ir n sd] [] (.bQ [.bW,.I 1]) []:=by
 (refine aa.q Tryz.func22 rfl fun S aw=>Wa _ ?_;(repeat' first|exact tv|apply pr|intro hh));all_goals try (exfalso;omega)
 all_goals exact ae.z () []
def OK (n:Nat) (sd:Int) (c:Nat):Es:=⟨sd,0,[],c,0,Bk n 0 LV⟩
theorem nc (n:Nat) (sd:Int) (hn:1<=n/\n<=64):aa Tryz.prog 22 [Ir n sd] [] (Y:=Nat) (fun _=>True) (fun _=>.bQ [.ptr 0 0,.I 0]) (fun c=>iy (OK n sd c)):=by
 (refine aa.q Tryz.func22 rfl fun S aw=>Wa _ ?_;(repeat' first|exact tv|apply pr|intro hh));all_goals try (exfalso;omega)
 all_goals refine ab.q RX [] fun _ _=>Wq _ ?_;repeat' first|exact tv|apply pr|intro hh
 all_goals refine ab.q LI [] fun _ _=>Wq _ ?_;repeat' first|exact tv|apply pr|intro hh
 all_goals refine ab.q LI [] fun _ _=>Wq _ ?_;repeat' first|exact tv|apply pr|intro hh
 all_goals (refine aB.lR (fun _=>.map [] 0) ?_;(conv=>whnf))
 all_goals first|refine aB.gk 5 1 rfl (fun c=>yv [] c) rfl rfl (Ti.iR _) (fun c0=>?_)|refine aB.gk 5 2 rfl (fun c=>yv [] c) rfl rfl (Ti.iR _) (fun c0=>?_)|refine aB.gk 5 3 rfl (fun c=>yv [] c) rfl rfl (Ti.iR _) (fun c0=>?_)
 all_goals ((conv=>whnf);(refine Wa _ ?_;(repeat' first|exact tv|apply pr|intro hh)))
 all_goals refine ab.q (Q2 (n:=n) hn) [] fun _ _=>Wp _ ?_;repeat' first|exact tv|apply pr|intro hh
 all_goals refine ab.q (Rm sd) [] fun _ _=>Wp _ ?_;repeat' first|exact tv|apply pr|intro hh
 all_goals refine ab.q Q5 [] fun _ _=>Wp _ ?_;repeat' first|exact tv|apply pr|intro hh
 all_goals first|(((refine ae.w c0 [4,6,7,8,1,2,5] _ ?_;(repeat' first|exact tv|apply pr)));done)|(((refine ae.w c0 [4,6,7,8,1,3,5] _ ?_;(repeat' first|exact tv|apply pr)));done)|(((refine ae.w c0 [4,6,7,8,2,3,5] _ ?_;(repeat' first|exact tv|apply pr)));done)
theorem kR.new {n:Nat} (hn:1<=n/\n<=64) (sd:Int) (c:Nat):kR (OK n sd c) :=
 ⟨Inv.new hn ⟨by omega,by unfold ke;omega⟩ LW,aad _,aaP,fun _=>rfl,aae _⟩
end Go.Proofs.YthnefnlhcijekaaGreat.En
set_option maxRecDepth 8000
namespace Go.Proofs.YthnefnlhcijekaaGreat.En
open Go Go.RowKit Fw Hi Ce Bt Eb
def Vl (x:Es):List AV:=[.I (x.a.n:Int),.int .u64 fun _=>x.ao,.I x.a.now,.aL c7 fun _=>x.a.bk,.ptr 8 0,.ptr 9 0,.ptr 10 0,.ptr 11 0,.ptr 12 0,.hm 13 fun _=>0]
def Vm (x:Es):List Chunk:=[.cells xv (Vl x),.bq (fS x.a.n x.G (sh x.a) (x.a.n - x.a.ord.length)),.bq (jr x.ao (um x.a) x.a.ord.length),.bq (uN x.tn x.a.due),.bq (l8 x.a.ord),.bq (l8 x.a.bU),.heap fun _=>yv x.es x.ec]
def L6 (x:Es) (c:Nat):Es:=⟨x.ao,0,[],c,0,Bk x.a.n x.a.now x.a.bk⟩
structure nM (x:Es) (i:Nat) (y:Es):Prop where
 le:i<=x.a.ord.length
 ok:kR y
 half:ib x.a y.a (x.a.ord.take i)
 len:y.a.ord.length<=i
 G:y.G<=0
 ao:y.ao=x.ao
structure OL (x:Es) (K:Kt) (N:Nat) (y:Es):Prop where
 ok:kR y
 rel:Rel y.a K N
 G:y.G<=0
 ao:y.ao=x.ao
theorem nM.new {x:Es} (ok:kR x) (c:Nat):nM x 0 (L6 x c):=by
 refine⟨aae _,⟨Inv.new ok.inv.n ok.inv.now ok.inv.bk,ok.inv.now.1,aaP,fun _=>rfl,aae _⟩,?_,aae _,Z8 _,rfl⟩;rw[abR];exact ib.nil x.a
theorem nM.skip {x y:Es} {i:Nat} (c:nM x i y) {h:Int} (hi:x.a.ord[i]?=some h) (hc:cZ x.a h=false):nM x (i+1) y:=by
 have dp:=(Z2.1 hi).1;refine⟨dp,c.ok,?_,by have:=c.len;omega,c.G,c.ao⟩;rw[aaE,hi];exact c.half.skip hc
theorem nM.add {x y:Es} {i:Nat} (c:nM x i y) (ok:kR x) {K:Kt} {N:Nat} (R:Rel x.a K N) {h j:Int} {e:E1} {p:ay} (hi:x.a.ord[i]?=some h) (he:x.a.cp h=some e) (hp:cY x.a.bk e=some p) (hc:cZ x.a h=true) (F:G8 y.a.n (sh y.a) j) :
  nM x (i+1) (uo y j e.nm e.v p (norm p e.c))/\zw y.a j e.nm/\y.a.cp j=none/\cC y.a.bk e.nm.1=some (p,e.v)/\(norm p e.c).1<=y.a.now/\aD p (norm p e.c)=true:=by
 have dp:=(Z2.1 hi).1;have h0:y.a.cp j=none:=by
  cases hj:y.a.cp j with
  | none=>rfl
  | some e=>have:=F.no;unfold sh at this;rw[hj]at this;cases this
 have u7:h∉x.a.ord.take i:=fun hm=>by
  obtain⟨k,hk⟩:=aaa.1 hm;rw[aap]at hk;split at hk
  .have pF:=(Z2.1 hk)
   have h2:=(Z2.1 hi)
   have eA:=ok.inv.kg;have:=(List.getElem_inj (h₀:=pF.1) (h₁:=h2.1) eA).1 (pF.2.trans h2.2.symm);omega
  .cases hk
 have hA:=c.half.add ok.inv he hp hc h0 u7;have hM:=(oE c.ok.inv F hA.2).1;have hb:cC y.a.bk e.nm.1=some (p,e.v):=by rw[c.half.bk];exact cJ.1 hp
 have T:=(R.tell h e p he hp).norm;have hle:(norm p e.c).1<=y.a.now:=by rw[c.half.now];exact T.at_
 have hn:=(ok.inv.ok h e he).1;refine⟨⟨dp,c.ok.cz hM hb hn T.may hle,?_,?_,c.G,c.ao⟩,hM,h0,hb,hle,T.may⟩
 .rw[aaE,hi]
  exact hA.1
 .have cy:j∉y.a.ord:=fun hm=>by have:=(c.ok.inv.mem j).1 hm;rw[h0]at this;cases this
  show(y.a.ord.erase j++[j]).length<=_;rw[abL cy,aab,abt];have:=c.len;omega
theorem Sb (x:Es) (ok:kR x) {K:Kt} {N:Nat} (R:Rel x.a K N):aa Tryz.prog 25 [.ptr 0 0] (iy x) (Y:=Es) (OL x K N)
  (fun _=>.ptr 7 0) (fun y=>iy x++Vm y):=by
 have hG:=ok.G;have D8:=oD ok.inv;have Hv:=ok.inv.n;(refine aa.q Tryz.func25 rfl fun S aw=>Wa _ ?_;(repeat' first|exact tv|apply pr|intro hh));(refine ab.q (nc x.a.n x.ao ok.inv.n) [] ?_;rintro c _;refine Wp _ ?_;(repeat' first|exact tv|apply pr|intro hh));(refine ab.q (Cx x.a.ord (by omega)) [4] fun _ _=>Wp _ ?_;(repeat' first|exact tv|apply pr|intro hh));refine aM.intro hm (X:=Nat×Es) (fun z=>nM x z.1 z.2) (fun z=>x.a.ord.length - z.1)
  (fun z=>[(0,.ptr 0 0),(3,.ptr 7 0),(40,.aL (.int .i64) fun _=>x.a.ord),(41,.I (x.a.ord.length:Int)),(42,.I (z.1:Int))])
  (fun z=>iy x++Vm z.2) (0,L6 x c) [0,1,2,3,4,5,6,7,8,9,10,11,12,13] ⟨rfl,rfl,?_,?_⟩ (nM.new ok c) ?_
 .exact Vc
 .exact Vc
 rintro⟨i,y⟩ hC;simp only[]at hC;have hi:=hC.le;have Ze:=hC.G;have mw:=hC.len;have UD:=hC.half.n;have Vn:y.G<=1000000000:=by omega
 refine Wa _ ?_;repeat' first|exact tv|apply pr|intro hh
 .exact Ob.mk ⟨by simp only[];omega,by simp only[];omega⟩
 .have dp:i<x.a.ord.length:=by omega
  have xV:x.a.ord[i]?=some (x.a.ord.getD i 0):=by rw[ZZ,Z1 dp];rfl
  have C3:x.a.ord.getD i 0∈x.a.ord:=abU xV;obtain⟨e,he⟩:=aaF.1 ((ok.inv.mem _).1 C3);have vm:=ok.get (x.a.ord.getD i 0);rw[he]at vm;have hr:=BY x ok _ e he;have IB:=xw x ok _ e he;cases S8:cY x.a.bk e with
  | none =>
   have er:ft x.a.bk e=((0,0,0,0),(0,0,[],[]),false):=by unfold ft;rw[S8]
   have ec:cZ x.a (x.a.ord.getD i 0)=false:=by unfold cZ;rw[he];simp only[S8]
   rw[er]at hr;(refine ab.q hr [0,1,2,3,4,5,6] fun _ _=>Wp _ ?_;(repeat' first|exact tv|apply pr|intro hh));refine⟨(i+1,y),[0,1,2,3,4,5,6,7,8,9,10,11,12,13],⟨rfl,rfl,?_,?_⟩,hC.skip xV ec,by show _ - (i+1)<_ - i;omega⟩
   .exact Vc
   .refine Vb _ ?_;repeat' first|exact tv|apply pr
    rw[wr (by omega)];omega
  | some p =>
   have er:ft x.a.bk e=(p,norm p e.c,true):=by unfold ft;rw[S8]
   rw[er]at hr;cases K5:cZ x.a (x.a.ord.getD i 0)with
   | false =>
    rw[K5]at IB;(refine ab.q hr [0,1,2,3,4,5,6] fun _ _=>Wp _ ?_;(repeat' first|exact tv|apply pr|intro hh));(refine ab.q IB [0,1,2,3,4,5,6] fun _ _=>Wp _ ?_;(repeat' first|exact tv|apply pr|intro hh));refine⟨(i+1,y),[0,1,2,3,4,5,6,7,8,9,10,11,12,13],⟨rfl,rfl,?_,?_⟩,hC.skip xV K5,by show _ - (i+1)<_ - i;omega⟩
    .exact Vc
    .refine Vb _ ?_;repeat' first|exact tv|apply pr
     rw[wr (by omega)];omega
   | true =>
    rw[K5]at IB;(refine ab.q hr [0,1,2,3,4,5,6] fun _ _=>Wp _ ?_;(repeat' first|exact tv|apply pr|intro hh));(refine ab.q IB [0,1,2,3,4,5,6] fun _ _=>Wp _ ?_;(repeat' first|exact tv|apply pr|intro hh));(refine ab.q (AT Vn (show 0<y.a.n - y.a.ord.length by omega)) [8] ?_;rintro j hF;refine Wp _ ?_;(repeat' first|exact tv|apply pr|intro hh));obtain⟨Zf,Zg,h0,hb,hle,uA⟩:=hC.add ok R xV he S8 K5 hF;have cy:j∉y.a.ord:=fun dJ=>by have:=(hC.ok.inv.mem j).1 dJ;rw[h0]at this;cases this
    have OC:=C4 y hC.ok j e.nm e.v p (norm p e.c) (hZ (sh y.a) j (some (List.replicate 19 0))) (y.a.n - y.a.ord.length - 1) (List.replicate 19 0) (by unfold hZ;rw[Z0 rfl]) (fun k hk=>by unfold hZ;rw[ZY hk]) (by rw[abL cy,aab,abt];omega) (.inr (by omega)) Zg hb (ok.inv.ok _ e he).1 uA hle;refine vP (e.nm,e.v) rfl rfl (show aP x.es (x.a.ord.getD i 0)=_ from vm) ?_;(refine Wa _ ?_;(repeat' first|exact tv|apply pr|intro hh));all_goals refine ab.q OC [7,8,9,10,11,12,13] fun _ _=>Wp _ ?_;repeat' first|exact tv|apply pr|intro hh
    all_goals refine⟨(i+1,uo y j e.nm e.v p (norm p e.c)),[0,1,2,3,4,5,6,7,8,9,10,11,12,13],⟨rfl,rfl,?_,?_⟩,Zf,by show _ - (i+1)<_ - i;omega⟩
    .exact Vc
    .refine Vb _ ?_;repeat' first|exact tv|apply pr
     rw[wr (by omega)];omega
 .have dp:i=x.a.ord.length:=by omega
  have hH:=hC.half;rw[dp,aac]at hH;(refine ae.w y [0,1,2,3,4,5,6,7,8,9,10,11,12,13] _ ?_;(repeat' first|exact tv|apply pr));exact⟨hC.ok,hH.rel R ok.inv,hC.G,hC.ao⟩
end Go.Proofs.YthnefnlhcijekaaGreat.En
namespace Go.Proofs.YthnefnlhcijekaaGreat.Fw
open Go Go.RowKit
theorem C7 {g:Gh} {π:List Nat} {E E':List Chunk} (hE:o0 π E π E') {j b:Nat} (hj:(af E' j).own (g.dC π) j b):∃ i,π[j]?=some i/\(af E i).own g i b:=by
 obtain⟨i,hi,hc⟩:=(qq π E' hE j).resolve_right (fun hc=>by rw[hc]at hj;cases hj);exact⟨i,hi,mB hi _ _ hc hj⟩
section
variable {P:Program} {f:FuncId} {args:List AV} {Y:Type} {Q:Y->Prop} {res:Y->AV}
theorem aa.KV {E:List Chunk} {out E1 E2:Y->List Chunk} (π1 π2:List Nat) (r:Nat) (hm:aa P f args E Q res out) (ha:eP rt args=args) (h0:c8 (af E 0)=true) (l1:∀ y,Q y->o0 π1 (out y) π1 (E1 y)) (l2:∀ y,Q y->o0 π2 (out y) π2 (E2 y))
  (n1:bH π1=true) (n2:bH π2=true) (hd:∀ i,i∈π1->i∈π2->False) (p1:π1[0]?=some 0) (p2:π2[0]?=some r) (hr:∀ y,Q y->res y=.ptr r 0) :
  aa P f args [.bq (pk E)] Q (fun _=>.ptr 1 0) (fun y=>[.bq (pk (E1 y)),.bq (pk (E2 y))]) where
 aA:=hm.aA
 h:=by
  intro g w aC hS hv;have hs:=hS.sat 0;obtain⟨DN,Qz,gh,hΦ,hn,hB,fU,Nl,cO⟩:=hs;have SF:g.n=1:=hS.len.symm;have Ui:eE gh E w:=⟨hn.symm,fun b o hb=>hS.dn b o (by rw[<-hΦ];exact hb),fun i=>fU i w fun _ _=>rfl,Nl,fun i b hb=>by rw[hΦ];exact hS.dE 0 b (cO i b hb)⟩
  have Jw:0<ah E:=jD h0;have Uj:RL gh args aC:=by
   have:=hv.map (g':=gh) rt (fun b o h=>by rw[hΦ];exact h) (B3 hB fun _=>by rw[hn];exact Jw);rwa [ha]at this
  refine(hm.h gh w aC Ui Uj).mono ?_;rintro e w' ⟨y,c,g1,hq,rfl,h1,h2,h3⟩;have O0:g1.B 0=g.B 0:=(h3.ids 0 h0).1.trans hB;have BU:∀ b,(⟨gh,E,w⟩:bS).owns b->(⟨g,[.bq (pk E)],w⟩:bS).owns b:=fun b ⟨i,hi⟩=>⟨0,cO i b hi⟩
  have s1:=h2.dC (l1 y hq) n1;have s2:=h2.dC (l2 y hq) n2
  let T1:Nat->Prop:=fun b=>∃ i,(af (E1 y) i).own (g1.dC π1) i b
  let T2:Nat->Prop:=fun b=>∃ i,(af (E2 y) i).own (g1.dC π2) i b
  have t1:∀ b,T1 b->∃ i,i∈π1/\(af (out y) i).own g1 i b:=fun b ⟨j,hj⟩=>by
   obtain⟨i,hi,ho⟩:=C7 (l1 y hq) hj;exact⟨i,abU hi,ho⟩
  have t2:∀ b,T2 b->∃ i,i∈π2/\(af (out y) i).own g1 i b:=fun b ⟨j,hj⟩=>by
   obtain⟨i,hi,ho⟩:=C7 (l2 y hq) hj;exact⟨i,abU hi,ho⟩
  have cy:∀ b,T1 b->T2 b->False:=fun b Pc mC=>by
   obtain⟨i,hi,ho⟩:=t1 b Pc;obtain⟨j,hj,OX⟩:=t2 b mC;have:=h2.lf i j b ho OX;subst this;exact hd i hi hj
  let g':Gh:={ g with n:=2,Φ:=g1.Φ,B:=fun i=>if i=0 then g.B 0 else g1.B r,M:=fun _=>0,W:=fun i=>if i=0 then qz T1 else qz T2 }
  have o1:∀ b,(Chunk.bq (pk (E1 y))).own g' 0 b->T1 b:=fun b hb=>(jW T1 b).1 hb;have o2:∀ b,(Chunk.bq (pk (E2 y))).own g' 1 b->T2 b:=fun b hb=>(jW T2 b).1 hb;refine⟨y,c,g',hq,rfl,?_,⟨rfl,h2.dn,fun i=>?_,fun i j b hi hj=>?_,fun i b hi=>?_⟩,
   ⟨h3.os,h3.tape,h3.output,h3.size,fun b k1 k2=>h3.cz b k1 fun ho=>k2 (BU b ho),fun b o hb=>h3.dn b o (by rw[hΦ];exact hb),fun b o hb=>?_,fun i b hi=>?_,by show 1<=2;omega,fun i hi=>?_,rfl,fun i hi=>?_,fun i k hi hk=>?_,fun i hi=>?_⟩⟩
  .rw[hr y hq]at h1
   cases h1 with
   | ptr i off hi=>exact .ptr (g:=g') 1 0 (by show 1<2;omega)
  .match i with
   | 0=>exact wI (g1:=g1.dC π1) s1 rfl (by show g.B 0=g1.B (π1[0]?.getD 0);rw[p1];exact O0.symm) rfl rfl
   | 1=>exact wI (g1:=g1.dC π2) s2 rfl (by show g1.B r=g1.B (π2[0]?.getD 0);rw[p2];rfl) rfl rfl
   | i+2=>trivial
  .match i,j,hi,hj with
   | 0,0,_,_=>rfl
   | 1,1,_,_=>rfl
   | 0,1,hi,hj=>exact(cy b (o1 b hi) (o2 b hj)).elim
   | 1,0,hi,hj=>exact(cy b (o1 b hj) (o2 b hi)).elim
   | i+2,_,hi,_=>exact hi.elim
   | 0,j+2,_,hj=>exact hj.elim
   | 1,j+2,_,hj=>exact hj.elim
  .match i,hi with
   | 0,hi=>obtain⟨j,-,ho⟩:=t1 b (o1 b hi);exact h2.dE j b ho
   | 1,hi=>obtain⟨j,-,ho⟩:=t2 b (o2 b hi);exact h2.dE j b ho
   | i+2,hi=>exact hi.elim
  .rcases h3.fz b o hb with h4|h4|h4
   .exact .inl (by rw[<-hΦ];exact h4)
   .exact .inr (.inl h4)
   .exact .inr (.inr (BU b h4))
  .match i,hi with
   | 0,hi=>obtain⟨j,-,ho⟩:=t1 b (o1 b hi);exact(h3.own j b ho).imp id (BU b)
   | 1,hi=>obtain⟨j,-,ho⟩:=t2 b (o2 b hi);exact(h3.own j b ho).imp id (BU b)
   | i+2,hi=>exact hi.elim
  .match i,hi with
   | 0,hi=>exact⟨rfl,rfl,rfl⟩
   | i+1,hi=>cases hi
  .match i,hi with
   | 0,hi=>rfl
   | i+1,hi=>cases hi
  .match i,hi with
   | 0,hi=>rw[show(⟨g,[.bq (pk E)],w⟩:bS).g.M 0=0 from DN]at hk;exact absurd hk (abW k)
   | i+1,hi=>cases hi
  .match i,hi with
   | 0,hi=>rw[show(⟨g,[.bq (pk E)],w⟩:bS).g.M 0=0 from DN];exact aae _
   | i+1,hi=>cases hi
theorem aa.Is {X Y':Type} {p:X->Prop} {ch:X->List Chunk} {p1 p2:Y'->X->Prop} {Q':Y'->Prop} {out:Y'×X×X->List Chunk} {res:Y'×X×X->AV} (π1 π2:List Nat) (r:Nat) (hc:fE P f)
  (h:∀ x,p x->aa P f args (ch x) (Y:=Y'×X×X) (fun y=>Q' y.1/\p1 y.1 y.2.1/\p2 y.1 y.2.2) res out) (ha:eP rt args=args) (h0:∀ x,p x->c8 (af (ch x) 0)=true)
  (l1:∀ y:Y'×X×X,o0 π1 (out y) π1 (ch y.2.1)) (l2:∀ y:Y'×X×X,o0 π2 (out y) π2 (ch y.2.2))
  (n1:bH π1=true) (n2:bH π2=true) (hd:∀ i,i∈π1->i∈π2->False) (q1:π1[0]?=some 0) (q2:π2[0]?=some r) (hr:∀ y,res y=.ptr r 0) :
  aa P f args [.bq (DO p fun x=>pk (ch x))] Q' (fun _=>.ptr 1 0) (fun y=>[.bq (DO (p1 y) fun x=>pk (ch x)),.bq (DO (p2 y) fun x=>pk (ch x))]) :=
 aa.Wj 0 rfl (fun x hx=>((aa.KV π1 π2 r (h x hx) ha (h0 x hx) (fun y _=>l1 y) (fun y _=>l2 y) n1 n2 hd q1 q2 (fun y _=>hr y)).SM (Y':=Y'×X×X) (Q':=fun y=>Q' y.1/\p2 y.1 y.2.2) (nf:=fun _=>.ptr 1 0) (DM:=fun y=>[.bq (DO (p1 y.1) fun x=>pk (ch x)),.bq (pk (ch y.2.2))]) 0
  fun y hy=>⟨y,_,_,⟨hy.1,hy.2.2⟩,rfl,rfl,rfl,fun Φ b S hp hq=>⟨y.2.1,hy.2.1,hq⟩⟩).SM 1 fun y hy=>⟨y.1,_,_,hy.1,rfl,rfl,rfl,fun Φ b S hp hq=>⟨y.2.2,hy.2,hq⟩⟩) hc
end
end Go.Proofs.YthnefnlhcijekaaGreat.Fw
