/- What the laws of this chapter rest on, for every input; part 7. -/
import Derived.Test.YthnefnlhcijekaaGreatMB5
import Derived.ProofKit
import Derived.OpenShut
import Derived.JoinedCond
import Derived.Test.YthnefnlhcijekaaGreatRows
set_option linter.unusedVariables false
set_option linter.unusedSimpArgs false
set_option maxRecDepth 8000
namespace Go.Proofs.YthnefnlhcijekaaGreat.En
open Go Go.RowKit Fw Go.Sort Go.Shelf
def qD (a b:List UInt8):Int:=Go.Lib.compareBytes a b
theorem DS:∀ (a b:List UInt8),(qD a b<0↔a<b)∧(qD a b=0↔a=b)
 | [],[]=>⟨by simp[qD,Go.Lib.compareBytes],by simp[qD,Go.Lib.compareBytes]⟩
 | [],y::s=>⟨by simp[qD,Go.Lib.compareBytes],by simp[qD,Go.Lib.compareBytes]⟩
 | x::r,[]=>⟨by simp[qD,Go.Lib.compareBytes],by simp[qD,Go.Lib.compareBytes]⟩
 | x::r,y::s=>by
  obtain⟨h1,h2⟩:=DS r s
  have e:qD (x::r) (y::s)=if x<y then -1 else if y<x then 1 else qD r s:=rfl
  rw[e,List.cons_lt_cons_iff]
  by_cases ha:x<y
  ·have bE:x≠y:=fun e=>by subst e;exact absurd ha (UInt8.lt_irrefl x)
   rw[if_pos ha];exact⟨by simp[ha],by simp[bE]⟩
  ·rw[if_neg ha]
   by_cases hb:y<x
   ·have bE:x≠y:=fun e=>by subst e;exact absurd hb (UInt8.lt_irrefl x)
    rw[if_pos hb];exact⟨by simp[ha,bE],by simp[bE]⟩
   ·rw[if_neg hb]
    have JN:x=y:=by
     rw[UInt8.lt_iff_toNat_lt]at ha hb
     exact UInt8.toNat_inj.1 (by omega)
    subst JN
    exact⟨by simp[h1,UInt8.lt_irrefl],by simp[h2]⟩
def su (x y:Nm):Int:=if Ti.mE x.1 y.1=0 then qD x.2 y.2 else Ti.mE x.1 y.1
theorem sO (x y:Nm):ltOf su x y=true↔jR x y:=by
 have h1:ltOf su x y=true↔su x y<0:=by simp[ltOf]
 rw[h1]
 unfold su jR Ti.mE
 have:=(DS x.2 y.2).1
 by_cases ha:x.1<y.1
 ·simp[ha]
 ·by_cases hb:y.1<x.1
  ·have:x.1≠y.1:=by omega
   simp[ha,hb,this]
  ·have e:x.1=y.1:=by omega
   simp[ha,hb,e,this]
theorem rF {x y:Nm}:ltOf su x y=false↔¬jR x y:=by rw[←sO];simp
theorem Tg:SWO (ltOf su) where
 irrefl x:=rF.2 (iH x)
 trans x y z h1 h2:=(sO _ _).2 (eT ((sO _ _).1 h1) ((sO _ _).1 h2))
 ntrans x y z h1 h2:=by
  rw[rF]at h1 h2 ⊢
  intro h
  by_cases hb:jR y x
  ·exact h2 (by
    by_cases hc:jR y z
    ·exact hc
    ·by_cases hd:jR z y
     ·exact(qu (eT hb h) hd).elim
     ·obtain rfl:=gJ hc hd
      exact(h1 h).elim)
  ·obtain rfl:=gJ h1 hb
   exact h2 h
theorem Wr (x y:Nm) (h1:ltOf su x y=false) (h2:ltOf su y x=false):x=y:=gJ (rF.1 h1) (rF.1 h2)
def Av (xs:List Nm):List Nm:=xs.mergeSort fun x y=>!(ltOf su) y x
theorem pa (xs:List Nm):(Av xs).Perm xs:=List.mergeSort_perm xs _
theorem Jg {xs m:List Nm} (hp:xs.Perm m) (hm:m.Pairwise jR):Av xs=m:=by
 have hO:=Tg
 refine DL ?_ hm fun x=>((pa xs).trans hp).mem_iff
 have eZ:(Av xs).Nodup:=((pa xs).trans hp).nodup_iff.2 (wA hm)
 have P2:(Av xs).Pairwise fun a b=>(!(ltOf su) b a)=true:=List.pairwise_mergeSort (le:=fun x y=>!(ltOf su) y x) (fun a b c h1 h2=>by
  simp only[acv]at h1 h2 ⊢
  exact hO.ntrans _ _ _ h2 h1) (fun a b=>by
  simp only[adm,acv,rF]
  by_cases h:jR b a
  ·exact .inr (qu h)
  ·exact .inl h) xs
 refine(P2.and eZ).imp ?_
 rintro a b ⟨h1,h2⟩
 simp only[acv,rF]at h1
 exact abV fun h=>h2 (gJ h h1)
theorem LI (a b:List UInt8):aa Tryz.prog 52 [.str fun _=>a,.str fun _=>b] [] (Y:=Unit) (fun _=>True) (fun _=>.int .i64 fun _=>qD a b) (fun _=>[]) where
 aA:=⟨_,Tryz.func52,rfl,by decide⟩
 h:=by
  intro g w aD hS hr
  match aD,hr with
  | [v0,v1],⟨h0,h1,_⟩ =>
  cases h0
  cases h1
  refine(Go.Proofs.Any.strings_Compare (P:=Tryz.prog) Lay.PD ⟨a.toArray⟩ ⟨b.toArray⟩ w).mono ?_
  rintro e w' ⟨rfl,rfl⟩
  have RS:ER g [] #[]:=fun t=>by
   have:Fw.look [] t=AV.undef:=rfl
   rw[this];exact R.undef _
  exact⟨(),_,g,trivial,rfl,.int .i64 (fun _=>qD a b),hS,(Inv.start hS RS).ext⟩
theorem B9 (x y:Nm):aa Tryz.prog 68 [uR x,uR y] [] (Y:=Unit) (fun _=>True) (fun _=>.int .i64 fun _=>su x y) (fun _=>[]):=by
 (refine aa.q Tryz.func68 rfl fun S ao=>Wa _ ?_;(repeat' first|exact tv|apply pr|intro hh))
 (refine ab.q (Ti.uc x.1 y.1) [] fun _ _=>Wp _ ?_;(repeat' first|exact tv|apply pr|intro hh))
 all_goals ((refine ab.q (LI x.2 y.2) [] fun _ _=>Wp _ ?_;(repeat' first|exact tv|apply pr|intro hh)))
 all_goals ((refine ab.q (Ti.orM (Ti.mE x.1 y.1) (qD x.2 y.2)) [2] fun _ _=>Wp _ ?_;(repeat' first|exact tv|apply pr|intro hh)))
 all_goals exact ae.z () []
theorem HR (xs:List Nm) (hn:xs.length<4611686018427387904):aa Tryz.prog 67
  [.vec 0 2 (fun _=>0) fun _=>xs.length,.fn (.func 68) [] []] [.row 24 vv (fun _=>xs)] (Y:=Unit) (fun _=>True) (fun _=>.bM [])
  (fun _=>[.row 24 vv (fun _=>Av xs)]) :=
 LH (P:=Tryz.prog) (ρ:=Lay.iI) Lay.Jd Lay.LF Lay.Je 24 Tg Wr B9
  (Go.Proofs.enters_of Tryz.func68 (by kernel_rfl) rfl) ⟨_,Tryz.func67,rfl,by decide⟩ xs hn
end Go.Proofs.YthnefnlhcijekaaGreat.En
set_option maxRecDepth 8000
namespace Go.Proofs.YthnefnlhcijekaaGreat.En
open Go Go.RowKit Fw Hi Ce Bt Eb
def kI (a:Ab) (l:List Int) (i:Nat):List Nm:=((l.take i).filter (dg a)).map (Fz a)
theorem Ca (a:Ab) (l:List Int) (i:Nat) (h:Int) (hi:l[i]?=some h):kI a l (i+1)=if dg a h then kI a l i++[Fz a h]else kI a l i:=by
 unfold kI
 rw[abY,hi,aer,List.filter_append]
 by_cases hc:dg a h=true
 ·rw[if_pos hc,aeC,if_pos hc,adH];rfl
 ·rw[if_neg hc,aeC,if_neg hc,List.filter_nil,List.append_nil]
theorem FH (a:Ab) (l:List Int) (i:Nat):(kI a l i).length≤i:=by
 unfold kI
 rw[ab4]
 exact abW (adI ..) (by rw[aby];omega)
theorem Aw {x:Es} (ok:jT x) {l:List Int} (hl:BE (sN x.a) l):l.length≤64:=by
 have Kh:∀ h∈l,h∈x.a.ord:=fun h hh=>(ok.inv.mem h).2 (by
  have:=(hl.2 h).1 hh
  unfold sN at this
  simpa using this)
 have h1:=nH (n:=x.a.n) l (fun h hh=>ok.inv.pos h (Kh h hh)) (fun h hh h' FA=>ok.inv.ym h (Kh h hh) h' (Kh h' FA)) hl.nd
 have:=ok.inv.n
 omega
theorem uW {x:Es} (ok:jT x) {l:List Int} (hl:BE (sN x.a) l) (h:Int):h∈l↔h∈x.a.ord:=by
 rw[hl.2,ok.inv.mem];unfold sN;simp
theorem PE (x:Es) (ok:jT x) {K:Kt} {N:Nat} (R:Rel x.a K N):aa Tryz.prog 28 [.ptr 0 0] (gp x) (Y:=Unit) (fun _=>True)
  (fun _=>.aG vv fun _=>dT K) (fun _=>gp x):=by
 have hG:=ok.G
 have I4:x.G≤1000000000:=by omega
 (refine aa.q Tryz.func28 rfl fun S ao=>Wa _ ?_;(repeat' first|exact tv|apply pr|intro hh))
 (refine ab.q (HY (G:=x.G) I4) [1] ?_;rintro l hl;refine Wp _ ?_;(repeat' first|exact tv|apply pr|intro hh))
 have L4:=Aw ok hl
 refine aH.nil 24 vv none [3] ?_
 refine aH.intro hm (X:=Nat) (fun i=>i≤l.length) (fun i=>l.length - i)
  (fun i=>[(0,.ptr 0 0),(3,.vec 7 2 (fun _=>0) fun _=>(kI x.a l i).length),(12,.aG (.int .i64) fun _=>l),(13,.int .i64 fun _=>(l.length:Int)),(14,.int .i64 fun _=>(i:Int))])
  (fun i=>gp x++[.au 24 vv fun _=>kI x.a l i]) 0 [0,1,2,3,4,5,6,7] ⟨rfl,rfl,?_,?_⟩ (abw _) ?_
 ·exact Vc
 ·exact Vc
 intro i hi
 have tc:=FH x.a l i
 (refine Wa _ ?_;(repeat' first|exact tv|apply pr|intro hh))
 ·exact Ob.mk ⟨by simp only[];omega,by simp only[];omega⟩
 ·have dp:i<l.length:=by omega
  have Of:l.getD ((i:Int)).toNat (Ty.int .i64).a8=l.getD i 0:=by rw[abm];rfl
  have yA:l[i]?=some (l.getD i 0):=by rw[abi,abj dp];rfl
  have AJ:l.getD i 0∈x.a.ord:=(uW ok hl _).1 (by rw[abi,abj dp];exact abO _)
  obtain⟨e,he⟩:=ab2.1 ((ok.inv.mem _).1 AJ)
  have vR:=ok.get (l.getD i 0)
  rw[he]at vR
  have uX:=Ca x.a l i _ yA
  rw[jS he]at uX
  (refine ab.q (sL x ok (l.getD i 0) e he) [0,1,2,3,4,5,6] fun _ _=>Wp _ ?_;(repeat' first|exact tv|apply pr|intro hh))
  ·rw[if_pos ‹_›]at uX
   refine wC (e.nm,e.v) rfl rfl vR ?_
   (refine Wa _ ?_;(repeat' first|exact tv|apply pr|intro hh))
   ·refine⟨⟨rfl,?_,?_⟩⟩
    ·show(kI x.a l i).length+1≤_
     omega
    ·show((kI x.a l i).length+1)*24≤_
     omega
   refine⟨i+1,[0,1,2,3,4,5,6,7],⟨rfl,rfl,?_,?_⟩,by show i+1≤_;omega,by show _ - (i+1)<_ - i;omega⟩
   ·(refine Vb _ ?_;(repeat' first|exact tv|apply pr))
    all_goals first|(rw[uX,abo (abr _)];rfl)|(rw[uX,abo (abr _),abp];rfl)|(rw[wr (by omega)];omega)|exact uX.symm|(rw[uX,abp];rfl)|(rw[uX];done)|skip
   ·(refine Vb _ ?_;(repeat' first|exact tv|apply pr))
    all_goals first|(rw[uX,abo (abr _)];rfl)|(rw[uX,abo (abr _),abp];rfl)|(rw[wr (by omega)];omega)|exact uX.symm|(rw[uX,abp];rfl)|(rw[uX];done)|skip
  ·rw[hh,if_neg (by decide)]at uX
   refine⟨i+1,[0,1,2,3,4,5,6,7],⟨rfl,rfl,?_,?_⟩,by show i+1≤_;omega,by show _ - (i+1)<_ - i;omega⟩
   ·(refine Vb _ ?_;(repeat' first|exact tv|apply pr))
    all_goals first|(rw[uX,abo (abr _)];rfl)|(rw[uX,abo (abr _),abp];rfl)|(rw[wr (by omega)];omega)|exact uX.symm|(rw[uX,abp];rfl)|(rw[uX];done)|skip
   ·(refine Vb _ ?_;(repeat' first|exact tv|apply pr))
    all_goals first|(rw[uX,abo (abr _)];rfl)|(rw[uX,abo (abr _),abp];rfl)|(rw[wr (by omega)];omega)|exact uX.symm|(rw[uX,abp];rfl)|(rw[uX];done)|skip
 ·have dp:i=l.length:=by omega
  have hp:(kI x.a l i).Perm (dT K):=by
   unfold kI
   rw[dp,abv]
   exact uN R ok.inv hl.1 (uW ok hl)
  (refine ab.q (HR (kI x.a l i) (by omega)) [7] fun _ _=>Wp _ ?_;(repeat' first|exact tv|apply pr|intro hh))
  refine ae.jf 7 rfl ?_
  (conv=>whnf)
  (refine ae.im 7 ?_;(conv=>whnf))
  (refine ae.w () [0,1,2,3,4,5,6] _ ?_;(repeat' first|exact tv|apply pr))
  rw[abA,abo (by rw[(pa _).length_eq];exact abr _)]
  exact Jg hp (wz K R.wx)
end Go.Proofs.YthnefnlhcijekaaGreat.En
set_option maxRecDepth 8000
namespace Go.Proofs.YthnefnlhcijekaaGreat.En
open Go Go.RowKit Fw Hi Ce Bt Eb
open Wh (aS dt eA cU cV)
abbrev Ws:=List (Nat×Int×Int)
structure LJ (l:List Int) (i:Nat) (es:Ws):Prop where
 le:i≤l.length
 Yb:∀ h∈l.take i,aO es (h.tmod 64)=some h
 out:∀ k h,aO es k=some h→h∈l∧h.tmod 64=k
theorem LJ.add {l:List Int} {i:Nat} {es:Ws} (p:LJ l i es) {h:Int} (hi:l[i]?=some h) (hu:∀ a∈l,∀ b∈l,a.tmod 64=b.tmod 64→a=b) (c:Nat):LJ l (i+1) (bY es c (h.tmod 64) h):=by
 have dp:=(abk.1 hi).1
 have hm:h∈l:=adl hi
 refine⟨dp,fun j hj=>?_,fun k j hk=>?_⟩
 ·rw[dt]
  by_cases e:j.tmod 64=h.tmod 64
  ·rw[if_pos e,hu j (acm hj) h hm e]
  ·rw[if_neg e]
   rw[abY,hi,ab1]at hj
   rcases hj with hj|hj
   ·exact p.Yb j hj
   ·simp at hj;subst hj;exact(e rfl).elim
 ·rw[dt]at hk
  by_cases e:k=h.tmod 64
  ·rw[if_pos e]at hk;cases hk;exact⟨hm,e.symm⟩
  ·rw[if_neg e]at hk;exact p.out k j hk
structure Ax (x:Es) (is:List Int) (j:Nat) (l:List Int):Prop where
 le:j≤is.length
 nd:l.Nodup
 sub:∀ h∈l,h∈x.a.ord
 nX:∀ h∈x.a.bX,h∈l
 all:∀ k,k<j→∀ h∈x.a.ord,h.tmod 64=is.getD k 0→h∈l
theorem Ax.skip {x:Es} {is l:List Int} {j:Nat} (t:Ax x is j l) (hj:j<is.length) (cu:∀ h∈x.a.ord,h.tmod 64≠is.getD j 0):Ax x is (j+1) l :=
 ⟨hj,t.nd,t.sub,t.nX,fun k hk h hh he=>by
  by_cases e:k=j
  ·subst e;exact(cu h hh he).elim
  ·exact t.all k (by omega) h hh he⟩
theorem Ax.zr {x:Es} {is l:List Int} {j:Nat} (t:Ax x is j l) (I:Inv x.a) (hj:j<is.length) {h:Int} (hh:h∈x.a.ord) (he:h.tmod 64=is.getD j 0):Ax x is (j+1) (l.erase h++[h]) :=
 ⟨hj,Aq t.nd h,fun a ha=>(by
  rcases(iR t.nd _ _).1 ha with h1|h1
  ·exact t.sub a h1
  ·rw[h1];exact hh),fun a ha=>(iR t.nd _ _).2 (.inl (t.nX a ha)),fun k hk a ha Yc=>(iR t.nd _ _).2 (by
  by_cases e:k=j
  ·subst e;exact .inr (I.ym a ha h hh (Yc.trans he.symm))
  ·exact .inl (t.all k (by omega) a ha Yc))⟩
def LK (x:Es) (l:List Int):Es:={ x with tn:=x.a.now,a:={ x.a with bX:=l,due:=ue x.a.due x.a.now } }
structure om (x:Es) (K:Kt) (N:Nat) (aB:Int) (m0:Nat) (y:Es) (n:Nat):Prop where
 ok:jT y
 rel:Rel y.a K N
 due:∀ id d,y.a.due id=some d→y.a.now<d
 len:y.a.ord.length≤x.a.ord.length
 G:y.G≤x.G+n
 bF:n+y.a.bX.length=m0
 le:(n:Int)≤max aB 0
 aq:y.aq=x.aq
structure MW (x:Es) (K:Kt) (N:Nat) (aB:Int) (y:Es×Int):Prop where
 ok:jT y.1
 rel:Rel y.1.a K N
 lo:0≤y.2
 hi:y.2≤max aB 0
 len:y.1.a.ord.length≤x.a.ord.length
 G:y.1.G≤x.G+64
 aq:y.1.aq=x.aq
 all:64≤aB→∀ h∈y.1.a.ord,dg y.1.a h=true
theorem PF {x:Es} (ok:jT x) {K:Kt} {N:Nat} (R:Rel x.a K N) {is l:List Int} (T:Ti.Told x.a.due x.a.now is) (t:Ax x is is.length l) (aB:Int):om x K N aB l.length (LK x l) 0:=by
 have hI:Inv (LK x l).a:=ok.inv.advance t.nd t.sub t.nX fun h hh d hd hle=>by
  have hm:=(T.mem (h.tmod 64)).2 ⟨d,hd,hle⟩
  obtain⟨k,hk⟩:=abu.1 hm
  have oS:=(abk.1 hk).1
  exact t.all k oS h hh (by rw[abi,hk];rfl)
 refine⟨⟨hI,abz _,ok.nd,ok.get,ok.G⟩,R.only rfl rfl rfl rfl,fun id d hd=>?_,abr _,abr _,by show 0+l.length=_;omega,by omega,rfl⟩
 change ue x.a.due x.a.now id=some d at hd
 unfold ue at hd
 show x.a.now<d
 cases hx:x.a.due id with
 | none=>rw[hx]at hd;cases hd
 | some d' =>
  rw[hx]at hd
  simp only[]at hd
  split at hd
  ·cases hd
  ·cases hd;omega
theorem om.LL {x y:Es} {K:Kt} {N:Nat} {aB:Int} {m0 n:Nat} (w:om x K N aB m0 y n) {h:Int} (hh:h∈y.a.bX) (hc:dg y.a h=true) (hn:(n:Int)<aB):om x K N aB m0 (lG y (y.a.bX.erase h)) (n+1):=by
 have hl:=acw hh
 have hp:=ac4 hh
 have LZ:=w.bF
 exact⟨⟨w.ok.inv.looked hc,w.ok.tn,w.ok.nd,w.ok.get,w.ok.G⟩,w.rel.only rfl rfl rfl rfl,w.due,w.len,by have:=w.G;show y.G≤_;omega,by show n+1+(y.a.bX.erase h).length=m0;omega,by omega,w.aq⟩
theorem Cb {y:Es} (ok:jT y) (h:Int):eG (lG y (y.a.bX.erase h)) h=eG y h:=by
 have:(y.a.bX.erase h).erase h=y.a.bX.erase h:=adb fun hm=>((acf ok.inv.j6).1 hm).1 rfl
 unfold eG ju lG
 simp only[this]
theorem om.dropped {x y:Es} {K:Kt} {N:Nat} {aB:Int} {m0 n:Nat} (w:om x K N aB m0 y n) {h:Int} (hh:h∈y.a.bX) (hc:dg y.a h=false) (hn:(n:Int)<aB) (hG:y.G<900000000):om x K N aB m0 (eG y h) (n+1):=by
 have hl:=acw hh
 have hp:=ac4 hh
 have LZ:=w.bF
 have hm:=w.ok.inv.iF h hh
 refine⟨w.ok.drop hm hG,w.rel.drop w.ok.inv hc,fun id d hd=>?_,?_,by have:=w.G;show y.G+1≤_;omega,by show n+1+(y.a.bX.erase h).length=m0;omega,by omega,w.aq⟩
 ·change gn y.a.due (h.tmod 64) none id=some d at hd
  unfold gn at hd
  split at hd
  ·cases hd
  ·exact w.due id d hd
 ·have:=acw hm
  have h2:=w.len
  show(y.a.ord.erase h).length≤_
  omega
theorem om.done {x y:Es} {K:Kt} {N:Nat} {aB:Int} {m0 n:Nat} (w:om x K N aB m0 y n) (vF:m0≤64) (he:y.a.bX=[]∨¬(n:Int)<aB) {m:Nat} (hm:(m:Int)≤max (aB - n) 0):MW x K N aB (y,(n:Int)+m):=by
 have h1:=w.le
 have h2:=w.G
 have h3:=w.bF
 refine⟨w.ok,w.rel,by show 0≤(n:Int)+m;omega,by show(n:Int)+m≤_;omega,w.len,by show y.G≤_;omega,w.aq,fun Yd=>w.ok.inv.clean ?_ w.due⟩
 rcases he with h4|h4
 ·exact h4
 ·exact ab9.1 (by omega)
theorem Th (x:Es) (ok:jT x) {K:Kt} {N:Nat} (R:Rel x.a K N) (Py:x.G+64<900000000) (aB:Int) (AJ:-9223372036854775808≤aB∧aB≤9223372036854775807):aa Tryz.prog 36 [.ptr 0 0,.int .i64 fun _=>aB] (gp x) (Y:=Es×Int) (MW x K N aB)
  (fun y=>.int .i64 fun _=>y.2) (fun y=>gp y.1):=by
 have hG:=ok.G
 have I4:x.G≤1000000000:=by omega
 have Wt:=ok.inv.now
 have O9:j5=1099511627776:=rfl
 have Wu:x.a.now≤1099511627776:=by omega
 refine aa.q Tryz.func36 rfl fun S ao=>?_;(conv=>whnf)
 (refine aC.step hm rfl (Wc _ ?_);(repeat' first|exact tv|apply pr|intro hh))
 (refine aC.step hm rfl (Wc _ ?_);(repeat' first|exact tv|apply pr|intro hh))
 (refine aC.step hm rfl (Wc _ ?_);(repeat' first|exact tv|apply pr|intro hh))
 refine aC.mu (fun _=>.map [] 0) ?_
 (conv=>whnf)
 refine aC.gH 8 7 rfl (fun c=>Ti.sm [] c) rfl rfl (Ti.jl _) (fun c0=>?_)
 (conv=>whnf)
 (refine Wa _ ?_;(repeat' first|exact tv|apply pr|intro hh))
 (refine ab.q (HY (G:=x.G) I4) [1] ?_;rintro l hl;refine Wp _ ?_;(repeat' first|exact tv|apply pr|intro hh))
 have L4:=Aw ok hl
 have u6:=uW ok hl
 have Wv:∀ a∈l,∀ b∈l,a.tmod 64=b.tmod 64→a=b:=fun a ha b hb=>ok.inv.ym a ((u6 a).1 ha) b ((u6 b).1 hb)
 refine aH.intro hm (X:=Nat×Ws×Nat) (fun z=>LJ l z.1 z.2.1) (fun z=>l.length - z.1)
  (fun z=>[(0,.ptr 0 0),(1,.int .i64 fun _=>aB),(5,.hm 7 fun _=>0),(22,.aG (.int .i64) fun _=>l),(23,.int .i64 fun _=>(l.length:Int)),(24,.int .i64 fun _=>(z.1:Int))])
  (fun z=>gp x++[.heap fun _=>Ti.sm z.2.1 z.2.2]) (0,[],c0) [0,1,2,3,4,5,6,8] ⟨rfl,rfl,?_,?_⟩ ⟨abw _,fun h hh=>(by simp at hh),fun k h hk=>(by cases hk)⟩ ?_
 ·exact Vc
 ·exact Vc
 rintro⟨i,es,c⟩ hP
 simp only[]at hP
 have hi:=hP.le
 (refine Wa _ ?_;(repeat' first|exact tv|apply pr|intro hh))
 ·exact Ob.mk ⟨by simp only[];omega,by simp only[];omega⟩
 ·have dp:i<l.length:=by omega
  have yA:l[i]?=some (l.getD i 0):=by rw[abi,abj dp];rfl
  (refine ab.q (rn (l.getD i 0)) [] fun _ _=>Wp _ ?_;(repeat' first|exact tv|apply pr|intro hh))
  refine Ti.Mx rfl rfl (.eq (.iq (.int .i64) (l.getD i 0))) ?_
  (refine Wa _ ?_;(repeat' first|exact tv|apply pr|intro hh))
  refine⟨(i+1,bY es c ((l.getD i 0).tmod 64) (l.getD i 0),Ti.rl es c ((l.getD i 0).tmod 64)),[0,1,2,3,4,5,6,7],⟨rfl,rfl,?_,?_⟩,hP.add yA Wv c,by show _ - (i+1)<_ - i;omega⟩
  ·exact Vc
  ·(refine Vb _ ?_;(repeat' first|exact tv|apply pr))
   rw[wr (by omega)];omega
 have dp:i=l.length:=by omega
 clear hh
 (refine ab.q (R7 x.tn x.a.due x.a.now ok.tn Wu) [3] ?_;rintro is ⟨hT,aan⟩;refine Wp _ ?_;(repeat' first|exact tv|apply pr|intro hh))
 refine aH.intro hm (X:=Nat×List Int) (fun z=>Ax x is z.1 z.2) (fun z=>is.length - z.1)
  (fun z=>[(0,.ptr 0 0),(1,.int .i64 fun _=>aB),(5,.hm 7 fun _=>0),(41,.aG (.int .i64) fun _=>is),(42,.int .i64 fun _=>(is.length:Int)),(43,.int .i64 fun _=>(z.1:Int))])
  (fun z=>gp (LK x z.2)++[.heap fun _=>Ti.sm es c]) (0,x.a.bX) [0,1,2,3,4,5,6,7] ⟨rfl,rfl,?_,?_⟩ ⟨abw _,ok.inv.j6,ok.inv.iF,fun h hh=>hh,fun k hk=>absurd hk (ac8 k)⟩ ?_
 ·exact Vc
 ·exact Vc
 rintro⟨j,pd⟩ hU
 simp only[]at hU
 have hj:=hU.le
 (refine Wa _ ?_;(repeat' first|exact tv|apply pr|intro hh))
 ·exact Ob.mk ⟨by simp only[];omega,by simp only[];omega⟩
 ·have rN:j<is.length:=by omega
  have Pk:is.getD ((j:Int)).toNat (Ty.int .i64).a8=is.getD j 0:=by rw[abm];rfl
  refine Ti.Hz rfl rfl (fun h hv=>?_) (fun hv=>?_)
  ·simp only[Pk]at hv
   obtain⟨h1,h2⟩:=hP.out _ _ hv
   have h3:=(u6 h).1 h1
   (refine Wa _ ?_;(repeat' first|exact tv|apply pr|intro hh))
   (refine ab.q (xI pd h (ok.inv.pos h h3).1) [5] fun _ _=>Wp _ ?_;(repeat' first|exact tv|apply pr|intro hh))
   refine⟨(j+1,pd.erase h++[h]),[0,1,2,3,4,5,6,7],⟨rfl,rfl,?_,?_⟩,hU.zr ok.inv rN h3 h2,by show _ - (j+1)<_ - j;omega⟩
   ·exact Vc
   ·(refine Vb _ ?_;(repeat' first|exact tv|apply pr))
    rw[wr (by omega)];omega
  ·simp only[Pk]at hv
   have cu:∀ h∈x.a.ord,h.tmod 64≠is.getD j 0:=fun h hh e=>by
    have:=hP.Yb h (by rw[dp,abv];exact(u6 h).2 hh)
    rw[e,hv]at this;cases this
   (refine Wa _ ?_;(repeat' first|exact tv|apply pr|intro hh))
   refine⟨(j+1,pd),[0,1,2,3,4,5,6,7],⟨rfl,rfl,?_,?_⟩,hU.skip rN cu,by show _ - (j+1)<_ - j;omega⟩
   ·exact Vc
   ·(refine Vb _ ?_;(repeat' first|exact tv|apply pr))
    rw[wr (by omega)];omega
 have hje:j=is.length:=by omega
 subst hje
 have hW:=PF ok R hT hU aB
 have wM:pd.length≤64:=by
  have h1:=nH (n:=x.a.n) pd (fun h hh=>ok.inv.pos h (hU.sub h hh)) (fun h hh h' FA=>ok.inv.ym h (hU.sub h hh) h' (hU.sub h' FA)) hU.nd
  have:=ok.inv.n
  omega
 refine aH.intro hm (X:=Es×Nat) (fun z=>om x K N aB pd.length z.1 z.2) (fun z=>z.1.a.bX.length)
  (fun z=>[(0,.ptr 0 0),(1,.int .i64 fun _=>aB),(12,.int .i64 fun _=>(z.2:Int))])
  (fun z=>gp z.1) (LK x pd,0) [0,1,2,3,4,5,6] ⟨rfl,rfl,?_,?_⟩ hW ?_
 ·exact Vc
 ·exact Vc
 rintro⟨y,n⟩ hY
 simp only[]at hY
 have LZ:=hY.bF
 have hyG:=hY.G
 (refine Wa _ ?_;(repeat' first|exact tv|apply pr|intro hh))
 ·(refine ab.q (zu y.a.bX) [5] fun _ _=>Wp _ ?_;(repeat' first|exact tv|apply pr|intro hh))
  ·have Ww:y.a.bX=[]:=by
    rename_i h1
    exact ab9.1 (by omega)
   have hle:=hY.le
   have ew:IntKind.i64.wrap (aB - (n:Int))=aB - n:=wr (by omega)
   simp only[ew]
   (refine ab.q (Il (sd:=y.aq) (M:=r7 y.a) (c:=y.a.ord.length) (aB - n)) [2] ?_;rintro m kc;refine Wp _ ?_;(repeat' first|exact tv|apply pr|intro hh))
   (refine ae.w (y,(n:Int)+m) [0,1,2,3,4,5,6] _ ?_;(repeat' first|exact tv|apply pr))
   ·rw[wr (by omega)]
   ·exact hY.done wM (.inl Ww) kc
  ·have yj:0<y.a.bX.length:=‹0<y.a.bX.length›
   have IV:y.a.bX.getD 0 0∈y.a.bX:=by rw[abi,abj yj];exact abO _
   have Ye:=hY.ok.inv.iF _ IV
   obtain⟨e,he⟩:=ab2.1 ((hY.ok.inv.mem _).1 Ye)
   have SX:(n:Int)<aB:=‹(n:Int)<aB›
   (refine ab.q (BF y.a.bX (y.a.bX.getD 0 0)) [5] fun _ _=>Wp _ ?_;(repeat' first|exact tv|apply pr|intro hh))
   (refine ab.q (An (lG y (y.a.bX.erase (y.a.bX.getD 0 0))) hY.ok.inv.bk hY.ok.G (y.a.bX.getD 0 0) e he (show aO y.es _=_ by rw[hY.ok.get,he];rfl) (fun p hc=>((hY.ok.inv.ok _ e he).2.2 p hc).1)) [0,1,2,3,4,5,6] fun _ _=>Wp _ ?_;(repeat' first|exact tv|apply pr|intro hh))
   ·have Bj:dg y.a (y.a.bX.getD 0 0)=false:=‹_›
    (refine ab.q (I5 y hY.ok (y.a.bX.getD 0 0) Ye (y.a.bX.erase (y.a.bX.getD 0 0))) [0,1,2,3,4,5,6] fun _ _=>Wp _ ?_;(repeat' first|exact tv|apply pr|intro hh))
    have hD:=hY.dropped IV Bj SX (by omega)
    rw[Cb hY.ok]
    refine⟨(eG y (y.a.bX.getD 0 0),n+1),[0,1,2,3,4,5,6],⟨rfl,rfl,?_,?_⟩,hD,by have:=hD.bF;simp only[];omega⟩
    ·exact Vc
    ·(refine Vb _ ?_;(repeat' first|exact tv|apply pr))
     rw[wr (by omega)];omega
   ·have Bj:dg y.a (y.a.bX.getD 0 0)=true:=by simpa using‹_›
    have hD:=hY.LL IV Bj SX
    refine⟨(lG y (y.a.bX.erase (y.a.bX.getD 0 0)),n+1),[0,1,2,3,4,5,6],⟨rfl,rfl,?_,?_⟩,hD,by have:=hD.bF;simp only[];omega⟩
    ·exact Vc
    ·(refine Vb _ ?_;(repeat' first|exact tv|apply pr))
     rw[wr (by omega)];omega
 ·have hle:=hY.le
  have ew:IntKind.i64.wrap (aB - (n:Int))=aB - n:=wr (by omega)
  simp only[ew]
  (refine ab.q (Il (sd:=y.aq) (M:=r7 y.a) (c:=y.a.ord.length) (aB - n)) [2] ?_;rintro m kc;refine Wp _ ?_;(repeat' first|exact tv|apply pr|intro hh))
  (refine ae.w (y,(n:Int)+m) [0,1,2,3,4,5,6] _ ?_;(repeat' first|exact tv|apply pr))
  ·rw[wr (by omega)]
  ·exact hY.done wM (.inr hh) kc
end Go.Proofs.YthnefnlhcijekaaGreat.En
set_option maxRecDepth 8000
namespace Go.Proofs.YthnefnlhcijekaaGreat.En
open Go Go.RowKit Fw Hi Ce Bt Eb
def Jh (n sd:Int):AV:=.agg [.int .i64 fun _=>n,.int .u64 fun _=>sd]
theorem LM (n sd:Int) (hn:¬(1≤n∧n≤64)):aa Tryz.prog 22 [Jh n sd] [] (Y:=Unit) (fun _=>True) (fun _=>.bM [.bZ,.int .i64 fun _=>1]) (fun _=>[]):=by
 (refine aa.q Tryz.func22 rfl fun S ao=>Wa _ ?_;(repeat' first|exact tv|apply pr|intro hh))
 all_goals first|(exfalso;omega)|skip
 all_goals exact ae.z () []
def PG (n:Nat) (sd:Int) (c:Nat):Es:=⟨sd,0,[],c,0,B4 n 0 Lt⟩
theorem nK (n:Nat) (sd:Int) (hn:1≤n∧n≤64):aa Tryz.prog 22 [Jh n sd] [] (Y:=Nat) (fun _=>True) (fun _=>.bM [.ptr 0 0,.int .i64 fun _=>0]) (fun c=>gp (PG n sd c)):=by
 (refine aa.q Tryz.func22 rfl fun S ao=>Wa _ ?_;(repeat' first|exact tv|apply pr|intro hh))
 all_goals first|(exfalso;omega)|skip
 all_goals ((refine ab.q S5 [] fun _ _=>Wq _ ?_;(repeat' first|exact tv|apply pr|intro hh)))
 all_goals ((refine ab.q Mz [] fun _ _=>Wq _ ?_;(repeat' first|exact tv|apply pr|intro hh)))
 all_goals ((refine ab.q Mz [] fun _ _=>Wq _ ?_;(repeat' first|exact tv|apply pr|intro hh)))
 all_goals (refine aC.mu (fun _=>.map [] 0) ?_;(conv=>whnf))
 all_goals first|refine aC.gH 5 1 rfl (fun c=>y8 [] c) rfl rfl (Ti.jl _) (fun c0=>?_)|refine aC.gH 5 2 rfl (fun c=>y8 [] c) rfl rfl (Ti.jl _) (fun c0=>?_)|refine aC.gH 5 3 rfl (fun c=>y8 [] c) rfl rfl (Ti.jl _) (fun c0=>?_)
 all_goals ((conv=>whnf);(refine Wa _ ?_;(repeat' first|exact tv|apply pr|intro hh)))
 all_goals ((refine ab.q (R5 (n:=n) hn) [] fun _ _=>Wp _ ?_;(repeat' first|exact tv|apply pr|intro hh)))
 all_goals ((refine ab.q (Sp sd) [] fun _ _=>Wp _ ?_;(repeat' first|exact tv|apply pr|intro hh)))
 all_goals ((refine ab.q R8 [] fun _ _=>Wp _ ?_;(repeat' first|exact tv|apply pr|intro hh)))
 all_goals first|(((refine ae.w c0 [4,6,7,8,1,2,5] _ ?_;(repeat' first|exact tv|apply pr)));done)|(((refine ae.w c0 [4,6,7,8,1,3,5] _ ?_;(repeat' first|exact tv|apply pr)));done)|(((refine ae.w c0 [4,6,7,8,2,3,5] _ ?_;(repeat' first|exact tv|apply pr)));done)
theorem jT.new {n:Nat} (hn:1≤n∧n≤64) (sd:Int) (c:Nat):jT (PG n sd c) :=
 ⟨Inv.new hn ⟨by omega,by unfold j5;omega⟩ MK,abz _,acd,fun _=>rfl,abw _⟩
end Go.Proofs.YthnefnlhcijekaaGreat.En
set_option maxRecDepth 8000
namespace Go.Proofs.YthnefnlhcijekaaGreat.En
open Go Go.RowKit Fw Hi Ce Bt Eb
def Wx (x:Es):List AV:=[.int .i64 fun _=>(x.a.n:Int),.int .u64 fun _=>x.aq,.int .i64 fun _=>x.a.now,.aG ct fun _=>x.a.bk,.ptr 8 0,.ptr 9 0,.ptr 10 0,.ptr 11 0,.ptr 12 0,.hm 13 fun _=>0]
def Wy (x:Es):List Chunk:=[.cells ya (Wx x),.bg (gx x.a.n x.G (sN x.a) (x.a.n - x.a.ord.length)),.bg (jL x.aq (r7 x.a) x.a.ord.length),.bg (vp x.tn x.a.due),.bg (mK x.a.ord),.bg (mK x.a.bX),.heap fun _=>y8 x.es x.ec]
def MX (x:Es) (c:Nat):Es:=⟨x.aq,0,[],c,0,B4 x.a.n x.a.now x.a.bk⟩
structure oo (x:Es) (i:Nat) (y:Es):Prop where
 le:i≤x.a.ord.length
 ok:jT y
 half:iD x.a y.a (x.a.ord.take i)
 len:y.a.ord.length≤i
 G:y.G≤0
 aq:y.aq=x.aq
structure PH (x:Es) (K:Kt) (N:Nat) (y:Es):Prop where
 ok:jT y
 rel:Rel y.a K N
 G:y.G≤0
 aq:y.aq=x.aq
theorem oo.new {x:Es} (ok:jT x) (c:Nat):oo x 0 (MX x c):=by
 refine⟨abw _,⟨Inv.new ok.inv.n ok.inv.now ok.inv.bk,ok.inv.now.1,acd,fun _=>rfl,abw _⟩,?_,abw _,abr _,rfl⟩
 rw[adi]
 exact iD.nil x.a
theorem oo.skip {x y:Es} {i:Nat} (c:oo x i y) {h:Int} (hi:x.a.ord[i]?=some h) (hc:dg x.a h=false):oo x (i+1) y:=by
 have dp:=(abk.1 hi).1
 refine⟨dp,c.ok,?_,by have:=c.len;omega,c.G,c.aq⟩
 rw[abY,hi]
 exact c.half.skip hc
theorem oo.add {x y:Es} {i:Nat} (c:oo x i y) (ok:jT x) {K:Kt} {N:Nat} (R:Rel x.a K N) {h j:Int} {e:E1} {p:ax} (hi:x.a.ord[i]?=some h) (he:x.a.cd h=some e) (hp:df x.a.bk e=some p) (hc:dg x.a h=true) (F:HX y.a.n (sN y.a) j) :
  oo x (i+1) (uS y j e.nm e.v p (norm p e.c))∧Aj y.a j e.nm∧y.a.cd j=none∧cx y.a.bk e.nm.1=some (p,e.v)∧(norm p e.c).1≤y.a.now∧aF p (norm p e.c)=true:=by
 have dp:=(abk.1 hi).1
 have h0:y.a.cd j=none:=by
  cases hj:y.a.cd j with
  | none=>rfl
  | some e=>have:=F.no;unfold sN at this;rw[hj]at this;cases this
 have tc:h∉x.a.ord.take i:=fun hm=>by
  obtain⟨k,hk⟩:=abu.1 hm
  rw[abK]at hk
  split at hk
  ·have oS:=(abk.1 hk)
   have h2:=(abk.1 hi)
   have eZ:=ok.inv.kF
   have:=(List.getElem_inj (h₀:=oS.1) (h₁:=h2.1) eZ).1 (oS.2.trans h2.2.symm)
   omega
  ·cases hk
 have hA:=c.half.add ok.inv he hp hc h0 tc
 have hM:=(o8 c.ok.inv F hA.2).1
 have hb:cx y.a.bk e.nm.1=some (p,e.v):=by rw[c.half.bk];exact cQ.1 hp
 have T:=(R.tell h e p he hp).norm
 have hle:(norm p e.c).1≤y.a.now:=by rw[c.half.now];exact T.at_
 have hn:=(ok.inv.ok h e he).1
 refine⟨⟨dp,c.ok.cE hM hb hn T.may hle,?_,?_,c.G,c.aq⟩,hM,h0,hb,hle,T.may⟩
 ·rw[abY,hi]
  exact hA.1
 ·have cu:j∉y.a.ord:=fun hm=>by have:=(c.ok.inv.mem j).1 hm;rw[h0]at this;cases this
  show(y.a.ord.erase j++[j]).length≤_
  rw[adb cu,abp,acU]
  have:=c.len;omega
theorem Tj (x:Es) (ok:jT x) {K:Kt} {N:Nat} (R:Rel x.a K N):aa Tryz.prog 25 [.ptr 0 0] (gp x) (Y:=Es) (PH x K N)
  (fun _=>.ptr 7 0) (fun y=>gp x++Wy y):=by
 have hG:=ok.G
 have BB:=lz ok.inv
 have Ff:=ok.inv.n
 (refine aa.q Tryz.func25 rfl fun S ao=>Wa _ ?_;(repeat' first|exact tv|apply pr|intro hh))
 (refine ab.q (nK x.a.n x.aq ok.inv.n) [] ?_;rintro c _;refine Wp _ ?_;(repeat' first|exact tv|apply pr|intro hh))
 (refine ab.q (Dd x.a.ord (by omega)) [4] fun _ _=>Wp _ ?_;(repeat' first|exact tv|apply pr|intro hh))
 refine aH.intro hm (X:=Nat×Es) (fun z=>oo x z.1 z.2) (fun z=>x.a.ord.length - z.1)
  (fun z=>[(0,.ptr 0 0),(3,.ptr 7 0),(40,.aG (.int .i64) fun _=>x.a.ord),(41,.int .i64 fun _=>(x.a.ord.length:Int)),(42,.int .i64 fun _=>(z.1:Int))])
  (fun z=>gp x++Wy z.2) (0,MX x c) [0,1,2,3,4,5,6,7,8,9,10,11,12,13] ⟨rfl,rfl,?_,?_⟩ (oo.new ok c) ?_
 ·exact Vc
 ·exact Vc
 rintro⟨i,y⟩ hC
 simp only[]at hC
 have hi:=hC.le
 have hyG:=hC.G
 have mZ:=hC.len
 have VK:=hC.half.n
 have Wz:y.G≤1000000000:=by omega
 (refine Wa _ ?_;(repeat' first|exact tv|apply pr|intro hh))
 ·exact Ob.mk ⟨by simp only[];omega,by simp only[];omega⟩
 ·have dp:i<x.a.ord.length:=by omega
  have yA:x.a.ord[i]?=some (x.a.ord.getD i 0):=by rw[abi,abj dp];rfl
  have AJ:x.a.ord.getD i 0∈x.a.ord:=adl yA
  obtain⟨e,he⟩:=ab2.1 ((ok.inv.mem _).1 AJ)
  have vR:=ok.get (x.a.ord.getD i 0)
  rw[he]at vR
  have hr:=CJ x ok _ e he
  have Js:=sL x ok _ e he
  cases Uj:df x.a.bk e with
  | none =>
   have er:fO x.a.bk e=((0,0,0,0),(0,0,[],[]),false):=by unfold fO;rw[Uj]
   have ec:dg x.a (x.a.ord.getD i 0)=false:=by unfold dg;rw[he];simp only[Uj]
   rw[er]at hr
   (refine ab.q hr [0,1,2,3,4,5,6] fun _ _=>Wp _ ?_;(repeat' first|exact tv|apply pr|intro hh))
   refine⟨(i+1,y),[0,1,2,3,4,5,6,7,8,9,10,11,12,13],⟨rfl,rfl,?_,?_⟩,hC.skip yA ec,by show _ - (i+1)<_ - i;omega⟩
   ·exact Vc
   ·(refine Vb _ ?_;(repeat' first|exact tv|apply pr))
    rw[wr (by omega)];omega
  | some p =>
   have er:fO x.a.bk e=(p,norm p e.c,true):=by unfold fO;rw[Uj]
   rw[er]at hr
   cases LZ:dg x.a (x.a.ord.getD i 0)with
   | false =>
    rw[LZ]at Js
    (refine ab.q hr [0,1,2,3,4,5,6] fun _ _=>Wp _ ?_;(repeat' first|exact tv|apply pr|intro hh))
    (refine ab.q Js [0,1,2,3,4,5,6] fun _ _=>Wp _ ?_;(repeat' first|exact tv|apply pr|intro hh))
    refine⟨(i+1,y),[0,1,2,3,4,5,6,7,8,9,10,11,12,13],⟨rfl,rfl,?_,?_⟩,hC.skip yA LZ,by show _ - (i+1)<_ - i;omega⟩
    ·exact Vc
    ·(refine Vb _ ?_;(repeat' first|exact tv|apply pr))
     rw[wr (by omega)];omega
   | true =>
    rw[LZ]at Js
    (refine ab.q hr [0,1,2,3,4,5,6] fun _ _=>Wp _ ?_;(repeat' first|exact tv|apply pr|intro hh))
    (refine ab.q Js [0,1,2,3,4,5,6] fun _ _=>Wp _ ?_;(repeat' first|exact tv|apply pr|intro hh))
    (refine ab.q (BD Wz (show 0<y.a.n - y.a.ord.length by omega)) [8] ?_;rintro j hF;refine Wp _ ?_;(repeat' first|exact tv|apply pr|intro hh))
    obtain⟨hC2,hMn,h0,hb,hle,oh⟩:=hC.add ok R yA he Uj LZ hF
    have cu:j∉y.a.ord:=fun dH=>by have:=(hC.ok.inv.mem j).1 dH;rw[h0]at this;cases this
    have Pz:=DM y hC.ok j e.nm e.v p (norm p e.c) (iB (sN y.a) j (some (List.replicate 19 0))) (y.a.n - y.a.ord.length - 1) (List.replicate 19 0) (by unfold iB;rw[if_pos rfl]) (fun k hk=>by unfold iB;rw[if_neg hk]) (by rw[adb cu,abp,acU];omega) (.inr (by omega)) hMn hb (ok.inv.ok _ e he).1 oh hle
    refine wC (e.nm,e.v) rfl rfl (show aO x.es (x.a.ord.getD i 0)=_ from vR) ?_
    (refine Wa _ ?_;(repeat' first|exact tv|apply pr|intro hh))
    all_goals ((refine ab.q Pz [7,8,9,10,11,12,13] fun _ _=>Wp _ ?_;(repeat' first|exact tv|apply pr|intro hh)))
    all_goals refine⟨(i+1,uS y j e.nm e.v p (norm p e.c)),[0,1,2,3,4,5,6,7,8,9,10,11,12,13],⟨rfl,rfl,?_,?_⟩,hC2,by show _ - (i+1)<_ - i;omega⟩
    ·exact Vc
    ·(refine Vb _ ?_;(repeat' first|exact tv|apply pr))
     rw[wr (by omega)];omega
 ·have dp:i=x.a.ord.length:=by omega
  have hH:=hC.half
  rw[dp,abv]at hH
  (refine ae.w y [0,1,2,3,4,5,6,7,8,9,10,11,12,13] _ ?_;(repeat' first|exact tv|apply pr))
  exact⟨hC.ok,hH.rel R ok.inv,hC.G,hC.aq⟩
end Go.Proofs.YthnefnlhcijekaaGreat.En
namespace Go.Proofs.YthnefnlhcijekaaGreat.Fw
open Go Go.RowKit
theorem DT {g:Gh} {π:List Nat} {E E':List Chunk} (hE:pG π E π E') {j b:Nat} (hj:(af E' j).own (g.dO π) j b):∃ i,π[j]?=some i∧(af E i).own g i b:=by
 obtain⟨i,hi,hc⟩:=(qW π E' hE j).resolve_right (fun hc=>by rw[hc]at hj;cases hj)
 exact⟨i,hi,nh hi _ _ hc hj⟩
section
variable {P:Program} {f:FuncId} {args:List AV} {Y:Type} {Q:Y→Prop} {res:Y→AV}
theorem aa.LN {E:List Chunk} {out E1 E2:Y→List Chunk} (π1 π2:List Nat) (r:Nat) (hm:aa P f args E Q res out) (ha:fq rt args=args) (h0:dj (af E 0)=true) (l1:∀ y,Q y→pG π1 (out y) π1 (E1 y)) (l2:∀ y,Q y→pG π2 (out y) π2 (E2 y))
  (n1:bI π1=true) (n2:bI π2=true) (hd:∀ i,i∈π1→i∈π2→False) (p1:π1[0]?=some 0) (p2:π2[0]?=some r) (hr:∀ y,Q y→res y=.ptr r 0) :
  aa P f args [.bg (pk E)] Q (fun _=>.ptr 1 0) (fun y=>[.bg (pk (E1 y)),.bg (pk (E2 y))]) where
 aA:=hm.aA
 h:=by
  intro g w aD hS hv
  have hs:=hS.sat 0
  obtain⟨EG,Rz,gh,hΦ,hn,hB,gy,Od,cT⟩:=hs
  have TU:g.n=1:=hS.len.symm
  have Vq:fg gh E w:=⟨hn.symm,fun b o hb=>hS.dA b o (by rw[←hΦ];exact hb),fun i=>gy i w fun _ _=>rfl,Od,fun i b hb=>by rw[hΦ];exact hS.dQ 0 b (cT i b hb)⟩
  have Kp:0<ah E:=jV h0
  have Vr:RL gh args aD:=by
   have:=hv.map (g':=gh) rt (fun b o h=>by rw[hΦ];exact h) (CN hB fun _=>by rw[hn];exact Kp)
   rwa [ha]at this
  refine(hm.h gh w aD Vq Vr).mono ?_
  rintro e w' ⟨y,c,g1,hq,rfl,h1,h2,h3⟩
  have PZ:g1.B 0=g.B 0:=(h3.ids 0 h0).1.trans hB
  have CF:∀ b,(⟨gh,E,w⟩:bU).owns b→(⟨g,[.bg (pk E)],w⟩:bU).owns b:=fun b ⟨i,hi⟩=>⟨0,cT i b hi⟩
  have s1:=h2.dO (l1 y hq) n1
  have s2:=h2.dO (l2 y hq) n2
  let T1:Nat→Prop:=fun b=>∃ i,(af (E1 y) i).own (g1.dO π1) i b
  let T2:Nat→Prop:=fun b=>∃ i,(af (E2 y) i).own (g1.dO π2) i b
  have t1:∀ b,T1 b→∃ i,i∈π1∧(af (out y) i).own g1 i b:=fun b ⟨j,hj⟩=>by
   obtain⟨i,hi,ho⟩:=DT (l1 y hq) hj
   exact⟨i,adl hi,ho⟩
  have t2:∀ b,T2 b→∃ i,i∈π2∧(af (out y) i).own g1 i b:=fun b ⟨j,hj⟩=>by
   obtain⟨i,hi,ho⟩:=DT (l2 y hq) hj
   exact⟨i,adl hi,ho⟩
  have cu:∀ b,T1 b→T2 b→False:=fun b Qc lR=>by
   obtain⟨i,hi,ho⟩:=t1 b Qc
   obtain⟨j,hj,PW⟩:=t2 b lR
   have:=h2.lL i j b ho PW
   subst this;exact hd i hi hj
  let g':Gh:={ g with n:=2,Φ:=g1.Φ,B:=fun i=>if i=0 then g.B 0 else g1.B r,M:=fun _=>0,W:=fun i=>if i=0 then rb T1 else rb T2 }
  have o1:∀ b,(Chunk.bg (pk (E1 y))).own g' 0 b→T1 b:=fun b hb=>(kj T1 b).1 hb
  have o2:∀ b,(Chunk.bg (pk (E2 y))).own g' 1 b→T2 b:=fun b hb=>(kj T2 b).1 hb
  refine⟨y,c,g',hq,rfl,?_,⟨rfl,h2.dA,fun i=>?_,fun i j b hi hj=>?_,fun i b hi=>?_⟩,
   ⟨h3.os,h3.tape,h3.output,h3.size,fun b k1 k2=>h3.cE b k1 fun ho=>k2 (CF b ho),fun b o hb=>h3.dA b o (by rw[hΦ];exact hb),fun b o hb=>?_,fun i b hi=>?_,by show 1≤2;omega,fun i hi=>?_,rfl,fun i hi=>?_,fun i k hi hk=>?_,fun i hi=>?_⟩⟩
  ·rw[hr y hq]at h1
   cases h1 with
   | ptr i off hi=>exact .ptr (g:=g') 1 0 (by show 1<2;omega)
  ·match i with
   | 0=>exact xm (g1:=g1.dO π1) s1 rfl (by show g.B 0=g1.B (π1[0]?.getD 0);rw[p1];exact PZ.symm) rfl rfl
   | 1=>exact xm (g1:=g1.dO π2) s2 rfl (by show g1.B r=g1.B (π2[0]?.getD 0);rw[p2];rfl) rfl rfl
   | i+2=>trivial
  ·match i,j,hi,hj with
   | 0,0,_,_=>rfl
   | 1,1,_,_=>rfl
   | 0,1,hi,hj=>exact(cu b (o1 b hi) (o2 b hj)).elim
   | 1,0,hi,hj=>exact(cu b (o1 b hj) (o2 b hi)).elim
   | i+2,_,hi,_=>exact hi.elim
   | 0,j+2,_,hj=>exact hj.elim
   | 1,j+2,_,hj=>exact hj.elim
  ·match i,hi with
   | 0,hi=>obtain⟨j,-,ho⟩:=t1 b (o1 b hi);exact h2.dQ j b ho
   | 1,hi=>obtain⟨j,-,ho⟩:=t2 b (o2 b hi);exact h2.dQ j b ho
   | i+2,hi=>exact hi.elim
  ·rcases h3.fS b o hb with h4|h4|h4
   ·exact .inl (by rw[←hΦ];exact h4)
   ·exact .inr (.inl h4)
   ·exact .inr (.inr (CF b h4))
  ·match i,hi with
   | 0,hi=>obtain⟨j,-,ho⟩:=t1 b (o1 b hi);exact(h3.own j b ho).imp id (CF b)
   | 1,hi=>obtain⟨j,-,ho⟩:=t2 b (o2 b hi);exact(h3.own j b ho).imp id (CF b)
   | i+2,hi=>exact hi.elim
  ·match i,hi with
   | 0,hi=>exact⟨rfl,rfl,rfl⟩
   | i+1,hi=>cases hi
  ·match i,hi with
   | 0,hi=>rfl
   | i+1,hi=>cases hi
  ·match i,hi with
   | 0,hi=>rw[show(⟨g,[.bg (pk E)],w⟩:bU).g.M 0=0 from EG]at hk;exact absurd hk (ac8 k)
   | i+1,hi=>cases hi
  ·match i,hi with
   | 0,hi=>rw[show(⟨g,[.bg (pk E)],w⟩:bU).g.M 0=0 from EG];exact abw _
   | i+1,hi=>cases hi
theorem aa.Ji {X Y':Type} {p:X→Prop} {ch:X→List Chunk} {p1 p2:Y'→X→Prop} {Q':Y'→Prop} {out:Y'×X×X→List Chunk} {res:Y'×X×X→AV} (π1 π2:List Nat) (r:Nat) (hc:fY P f)
  (h:∀ x,p x→aa P f args (ch x) (Y:=Y'×X×X) (fun y=>Q' y.1∧p1 y.1 y.2.1∧p2 y.1 y.2.2) res out) (ha:fq rt args=args) (h0:∀ x,p x→dj (af (ch x) 0)=true)
  (l1:∀ y:Y'×X×X,pG π1 (out y) π1 (ch y.2.1)) (l2:∀ y:Y'×X×X,pG π2 (out y) π2 (ch y.2.2))
  (n1:bI π1=true) (n2:bI π2=true) (hd:∀ i,i∈π1→i∈π2→False) (q1:π1[0]?=some 0) (q2:π2[0]?=some r) (hr:∀ y,res y=.ptr r 0) :
  aa P f args [.bg (EH p fun x=>pk (ch x))] Q' (fun _=>.ptr 1 0) (fun y=>[.bg (EH (p1 y) fun x=>pk (ch x)),.bg (EH (p2 y) fun x=>pk (ch x))]) :=
 aa.XD 0 rfl (fun x hx=>((aa.LN π1 π2 r (h x hx) ha (h0 x hx) (fun y _=>l1 y) (fun y _=>l2 y) n1 n2 hd q1 q2 (fun y _=>hr y)).TZ (Y':=Y'×X×X) (Q':=fun y=>Q' y.1∧p2 y.1 y.2.2) (nM:=fun _=>.ptr 1 0) (EF:=fun y=>[.bg (EH (p1 y.1) fun x=>pk (ch x)),.bg (pk (ch y.2.2))]) 0
  fun y hy=>⟨y,_,_,⟨hy.1,hy.2.2⟩,rfl,rfl,rfl,fun Φ b S hp hq=>⟨y.2.1,hy.2.1,hq⟩⟩).TZ 1 fun y hy=>⟨y.1,_,_,hy.1,rfl,rfl,rfl,fun Φ b S hp hq=>⟨y.2.2,hy.2,hq⟩⟩) hc
end
end Go.Proofs.YthnefnlhcijekaaGreat.Fw
set_option maxRecDepth 8000
namespace Go.Proofs.YthnefnlhcijekaaGreat.En
open Go Go.RowKit Fw Hi Ce Bt Eb
structure JG (K:Kt) (c:Nat):Prop where
 lo:(dT K).length≤c
 hi:(c:Int)≤K.n
structure Ay (K:Kt) (m c:Nat) (x:Es):Prop where
 ok:jT x
 rel:Rel x.a K m
 G:x.G≤100*m
 len:x.a.ord.length=c
theorem Ay.bF {K:Kt} {m c:Nat} {x:Es} (p:Ay K m c x):JG K c:=by
 refine⟨?_,?_⟩
 ·rw[←p.len];exact Ak p.rel p.ok.inv
 ·rw[←p.len,p.rel.n];have:=lz p.ok.inv;omega
abbrev dY (K:Kt) (m c:Nat):OQ:=EH (Ay K m c) fun x=>pk (gp x)
theorem oj.p {x y:Es} {K:Kt} {N m m':Nat} (h:oj x K N y) (hG:x.G≤100*m) (hm:m+1≤m') (hN:N≤m'):Ay K m' y.a.ord.length y :=
 ⟨h.ok,h.rel.up hN,by have:=h.G;omega,rfl⟩
section
variable {K:Kt} {m m' c:Nat}
theorem pb (nm:Nm) (w:Int) (h1:m≤999990) (h2:m+1≤m'):aa Tryz.prog 29 [.ptr 0 0,qC nm w] [.bg (dY K m c)] (Y:=Nat) (JG (cz K nm w).1)
  (fun _=>uU (cz K nm w).2) (fun c'=>[.bg (dY (cz K nm w).1 m' c')]):=by
 refine aa.boxed ⟨_,Tryz.func29,rfl,by decide⟩ (fun x p=>?_) rfl (fun _ _=>rfl) (fun _ _=>rfl)
 exact(js x p.ok p.rel (by omega) (by have:=p.G;omega) nm w).as fun y h=>⟨(y.a.ord.length,y),⟨(h.p p.G h2 h2).bF,h.p p.G h2 h2⟩,rfl,rfl⟩
theorem MY (nm:Nm) (w:Int) (h1:m≤999990):aa Tryz.prog 34 [.ptr 0 0,qC nm w] [.bg (dY K m c)] (Y:=Unit) (fun _=>True)
  (fun _=>uU (eY K nm w).2.1) (fun _=>[.bg (dY K m c)]):=by
 refine aa.boxed ⟨_,Tryz.func34,rfl,by decide⟩ (fun x p=>?_) rfl (fun _ _=>rfl) (fun _ _=>rfl)
 exact(Tb x p.ok p.rel (by omega) nm w).as fun _ _=>⟨((),x),⟨trivial,p⟩,rfl,rfl⟩
theorem wG (t:Int) (h2:m+1≤m'):aa Tryz.prog 23 [.ptr 0 0,.int .i64 fun _=>t] [.bg (dY K m c)] (Y:=Nat) (JG (dW K t))
  (fun _=>.int .i64 fun _=>(dW K t).now) (fun c'=>[.bg (dY (dW K t) m' c')]):=by
 refine aa.boxed ⟨_,Tryz.func23,rfl,by decide⟩ (fun x p=>?_) rfl (fun _ _=>rfl) (fun _ _=>rfl)
 exact(Td x p.ok p.rel t).as fun y h=>⟨(y.a.ord.length,y),⟨(h.p p.G h2 (by omega)).bF,h.p p.G h2 (by omega)⟩,rfl,rfl⟩
theorem yd (nm:Nm) (h1:m≤999990) (h2:m+1≤m'):aa Tryz.prog 37 [.ptr 0 0,uR nm] [.bg (dY K m c)] (Y:=Nat) (JG (cK K nm).1)
  (fun _=>.int .i64 fun _=>(cK K nm).2) (fun c'=>[.bg (dY (cK K nm).1 m' c')]):=by
 refine aa.boxed ⟨_,Tryz.func37,rfl,by decide⟩ (fun x p=>?_) rfl (fun _ _=>rfl) (fun _ _=>rfl)
 exact(LB x p.ok p.rel (by have:=p.G;omega) nm).as fun y h=>⟨(y.a.ord.length,y),⟨(h.p p.G h2 (by omega)).bF,h.p p.G h2 (by omega)⟩,rfl,rfl⟩
theorem Tk (id:Int) (q:ax) (h2:m+1≤m'):aa Tryz.prog 24 [.ptr 0 0,.int .i64 fun _=>id,aI q] [.bg (dY K m c)] (Y:=Nat) (JG (kH K id q).1)
  (fun _=>.bM [.int .i64 fun _=>(kH K id q).2.1,.int .i64 fun _=>(kH K id q).2.2]) (fun c'=>[.bg (dY (kH K id q).1 m' c')]):=by
 refine aa.boxed ⟨_,Tryz.func24,rfl,by decide⟩ (fun x p=>?_) rfl (fun _ _=>rfl) (fun _ _=>rfl)
 exact(Bs x p.ok p.rel id q).as fun y h=>⟨(y.a.ord.length,y),⟨(h.p p.G h2 (by omega)).bF,h.p p.G h2 (by omega)⟩,rfl,rfl⟩
theorem LO (id:Int) (h2:m+1≤m'):aa Tryz.prog 43 [.ptr 0 0,.int .i64 fun _=>id] [.bg (dY K m c)] (Y:=Nat) (JG (o9 K id).1)
  (fun _=>.int .i64 fun _=>(o9 K id).2) (fun c'=>[.bg (dY (o9 K id).1 m' c')]):=by
 refine aa.boxed ⟨_,Tryz.func43,rfl,by decide⟩ (fun x p=>?_) rfl (fun _ _=>rfl) (fun _ _=>rfl)
 exact(LD x p.ok p.rel id).as fun y h=>⟨(y.a.ord.length,y),⟨(h.p p.G h2 (by omega)).bF,h.p p.G h2 (by omega)⟩,rfl,rfl⟩
theorem Uk (id:Int):aa Tryz.prog 41 [.ptr 0 0,.int .i64 fun _=>id] [.bg (dY K m c)] (Y:=Unit) (fun _=>True)
  (fun _=>.bM [aI (gq K.bk id).1,.int .i64 fun _=>(gq K.bk id).2.1,.int .i64 fun _=>(gq K.bk id).2.2]) (fun _=>[.bg (dY K m c)]):=by
 refine aa.boxed ⟨_,Tryz.func41,rfl,by decide⟩ (fun x p=>?_) rfl (fun _ _=>rfl) (fun _ _=>rfl)
 exact(LC x p.ok id).as fun _ _=>⟨((),x),⟨trivial,p⟩,by rw[p.rel.bk],rfl⟩
theorem PI:aa Tryz.prog 35 [.ptr 0 0] [.bg (dY K m c)] (Y:=Unit) (fun _=>JG K c)
  (fun _=>.int .i64 fun _=>(c:Int)) (fun _=>[.bg (dY K m c)]):=by
 refine aa.boxed ⟨_,Tryz.func35,rfl,by decide⟩ (fun x p=>?_) rfl (fun _ _=>rfl) (fun _ _=>rfl)
 exact(PA x p.ok).as fun _ _=>⟨((),x),⟨p.bF,p⟩,by rw[p.len],rfl⟩
theorem Jj:aa Tryz.prog 28 [.ptr 0 0] [.bg (dY K m c)] (Y:=Unit) (fun _=>JG K c∧K.n≤64)
  (fun _=>.aG vv fun _=>dT K) (fun _=>[.bg (dY K m c)]):=by
 refine aa.boxed ⟨_,Tryz.func28,rfl,by decide⟩ (fun x p=>?_) rfl (fun _ _=>rfl) (fun _ _=>rfl)
 exact(PE x p.ok p.rel).as fun _ _=>⟨((),x),⟨⟨p.bF,by rw[p.rel.n];have:=p.ok.inv.n;omega⟩,p⟩,rfl,rfl⟩
structure PJ (K:Kt) (c:Nat) (aB:Int) (y:Nat×Int):Prop where
 bF:JG K y.1
 le:y.1≤c
 lo:0≤y.2
 hi:y.2≤max aB 0
 all:64≤aB→y.1=(dT K).length
theorem MZ (aB:Int) (AJ:-9223372036854775808≤aB∧aB≤9223372036854775807) (h1:m≤999990) (h2:m+1≤m'):aa Tryz.prog 36 [.ptr 0 0,.int .i64 fun _=>aB] [.bg (dY K m c)] (Y:=Nat×Int) (PJ K c aB)
  (fun y=>.int .i64 fun _=>y.2) (fun y=>[.bg (dY K m' y.1)]):=by
 refine aa.boxed ⟨_,Tryz.func36,rfl,by decide⟩ (fun x p=>?_) rfl (fun _ _=>rfl) (fun _ _=>rfl)
 refine(Th x p.ok p.rel (by have:=p.G;omega) aB AJ).as fun y h=>?_
 have hp:Ay K m' y.1.a.ord.length y.1:=⟨h.ok,h.rel.up (by omega),by have:=h.G;have:=p.G;omega,rfl⟩
 refine⟨((y.1.a.ord.length,y.2),y.1),⟨⟨hp.bF,by rw[←p.len];exact h.len,h.lo,h.hi,fun Yd=>?_⟩,hp⟩,rfl,rfl⟩
 rw[nG h.rel h.ok.inv,List.filter_eq_self.2 (h.all Yd)]
theorem Tl:aa Tryz.prog 25 [.ptr 0 0] [.bg (dY K m c)] (Y:=Nat) (JG K)
  (fun _=>.ptr 1 0) (fun c'=>[.bg (dY K m c),.bg (dY K m c')]):=by
 refine aa.Ji (ch:=gp) (p1:=fun _=>Ay K m c) (p2:=Ay K m) (out:=fun y=>gp y.2.1++Wy y.2.2) (res:=fun _=>.ptr 7 0) [0,1,2,3,4,5,6] [7,8,9,10,11,12,13] 7 ⟨_,Tryz.func25,rfl,by decide⟩ (fun x p=>?_) rfl (fun _ _=>rfl) (fun y=>?_) (fun y=>?_) rfl rfl (by decide) rfl rfl (fun _=>rfl)
 ·refine(Tj x p.ok p.rel).as fun y h=>?_
  have hp:Ay K m y.a.ord.length y:=⟨h.ok,h.rel,by have:=h.G;omega,rfl⟩
  exact⟨(y.a.ord.length,x,y),⟨hp.bF,p,hp⟩,rfl,rfl⟩
 ·exact Vc
 ·exact Vc
end
def PK (n:Int):Kt:=⟨n,0,Lt,[]⟩
theorem WB (n sd:Int) (hn:1≤n∧n≤64):aa Tryz.prog 22 [Jh n sd] [] (Y:=Unit) (fun _=>True) (fun _=>.bM [.ptr 0 0,.int .i64 fun _=>0]) (fun _=>[.bg (dY (PK n) 0 0)]):=by
 obtain⟨k,rfl⟩:∃ k:Nat,n=(k:Int):=⟨n.toNat,by omega⟩
 have hk:1≤k∧k≤64:=by omega
 exact aa.mr ((nK k sd hk).as fun c _=>⟨((),PG k sd c),⟨trivial,⟨jT.new hk sd c,Rel.new k,abw _,rfl⟩⟩,rfl,rfl⟩) fun _ _=>rfl
end Go.Proofs.YthnefnlhcijekaaGreat.En
namespace Go.Proofs.YthnefnlhcijekaaGreat.En
open Go Go.RowKit Fw Hi Ce
structure Small (K:Kt) (m:Nat):Prop where
 bk:lV K.bk
 n:1≤K.n∧K.n≤64
 now:0≤K.now∧K.now≤j5
 len:K.L.length≤m
 gk:∀ x∈K.L,x.2.length≤m
theorem Small.at_ {K:Kt} {m:Nat} (s:Small K m) (nm:Nm):(aR K.L nm).length≤m:=by
 rw[Lr]
 split
 ·rename_i h
  obtain⟨x,hx,_⟩:=(S6 _ _).1 h
  rw[abi,hx]
  exact s.gk x (adl hx)
 ·exact abw _
end Go.Proofs.YthnefnlhcijekaaGreat.En
namespace Go.Proofs.YthnefnlhcijekaaGreat.Fw
open Go Go.RowKit
theorem Inv.bg {B:bU} {g:Gh} {env:Env} {E:List Chunk} {tmps:Array Value} {w:World} (h:Inv B g env E tmps w) {i:Nat} {q q':OQ} (hi:af E i=.bg q) (hq:∀ Φ b S hp,q.h Φ b S hp→q'.h Φ b S hp):Inv B g env (bh E i (.bg q')) tmps w:=by
 have hs:=h.aZ.sat i
 rw[hi]at hs
 exact⟨h.er,h.aZ.swap hi (CO hq hs),h.ext.Mm hi⟩
section
variable {P:Program} {N:Nat} {M:List Bool} {S:Sc} {c:Code} {env:Env} {E:List Chunk} {K:Ex→Env→List Chunk→Prop}
theorem ae.bg {l:List AV} {Y:Type} {Q:Y→Prop} {res:Y→List AV} {out:Y→List Chunk} (i:Nat) (q q':OQ) (hi:af E i=.bg q) (hq:∀ Φ b S hp,q.h Φ b S hp→q'.h Φ b S hp) (k:ae M env (bh E i (.bg q')) l Q res out):ae M env E l Q res out where
 h:=fun B g tmps w cs hB hI hr=>k.h B g tmps w cs hB (hI.bg hi hq) hr
end
end Go.Proofs.YthnefnlhcijekaaGreat.Fw
set_option maxRecDepth 8000
namespace Go.Proofs.YthnefnlhcijekaaGreat.En
open Go Go.RowKit Fw Hi Ce
section
variable {K:Kt} {m m':Nat}
theorem Small.up (s:Small K m) (h:m≤m'):Small K m':=⟨s.bk,s.n,s.now,abW s.len h,fun x hx=>abW (s.gk x hx) h⟩
theorem DU:∀ (L:Hs) (nm:Nm) (l:List a7),(j7 L nm l).length≤L.length+1
 | [],_,_=>abr _
 | x::r,nm,l=>by
  unfold j7;split
  ·have:=DU r nm l;rw[abt,abt];omega
  ·split
   ·rw[abt,abt];omega
   ·rw[abt];exact abr _
theorem DV:∀ (L:Hs) (nm:Nm) (l:List a7) (x:Nm×List a7),x∈j7 L nm l→x∈L∨x=(nm,l)
 | [],_,_,x,h=>.inr (by simpa [j7]using h)
 | y::r,nm,l,x,h=>by
  unfold j7 at h;split at h
  ·rcases abE.1 h with h1|h1
   ·exact .inl (abE.2 (.inl h1))
   ·exact(DV r nm l x h1).imp (fun h=>abn _ h) id
  ·split at h
   ·rcases abE.1 h with h1|h1
    ·exact .inr h1
    ·exact .inl (abn _ h1)
   ·rcases abE.1 h with h1|h1
    ·exact .inr h1
    ·exact .inl h1
theorem Jk (s:Small K m) (nm:Nm) (w:Int):(eY K nm w).1.length≤m+1:=by
 have:=s.at_ nm
 unfold eY
 split
 ·cases cx K.bk nm.1 with
  | none=>exact abw _
  | some pv =>
   have:=Lm pv.1 (aR K.L nm) K.now w
   simp only[];omega
 ·exact abw _
theorem Small.check (s:Small K m) (nm:Nm) (w:Int):Small (cz K nm w).1 (m+1):=by
 unfold cz
 split
 ·split
  ·exact s.up (by omega)
  ·refine⟨s.bk,s.n,s.now,?_,fun x hx=>?_⟩
   ·have:=DU K.L nm (eY K nm w).1
    have:=s.len
    show(j7 K.L nm _).length≤_
    omega
   ·rcases DV _ _ _ _ hx with h|h
    ·exact Nat.le_succ_of_le (s.gk x h)
    ·rw[h];exact Jk s nm w
 ·exact s.up (by omega)
theorem Small.tick (s:Small K m) (t:Int):Small (dW K t) m:=by
 unfold dW;split
 ·rename_i h;exact⟨s.bk,s.n,⟨by have:=s.now;show 0≤t;omega,h.2⟩,s.len,s.gk⟩
 ·exact s
theorem Az:∀ (L:Hs) (nm:Nm),(nP L nm).Sublist L
 | [],_=>aeu _
 | x::r,nm=>by
  unfold nP;split
  ·exact(Az r nm).cons_cons x
  ·split
   ·exact aex ..
   ·exact aeu _
theorem Small.sub (s:Small K m) {L:Hs} (h:L.Sublist K.L):Small { K with L:=L } m :=
 ⟨s.bk,s.n,s.now,abW h.length_le s.len,fun x hx=>s.gk x (h.subset hx)⟩
theorem Small.forget (s:Small K m) (nm:Nm):Small (cK K nm).1 m:=by
 unfold cK
 split
 ·cases cx K.bk nm.1 with
  | none=>exact s
  | some _=>exact s.sub (Az _ _)
 ·exact s
theorem Small.set (s:Small K m) (id:Int) (p:ax):Small (kH K id p).1 m:=by
 unfold kH;split
 ·rename_i h
  have h2:=s.sub (L:=FW K.L id) (adz ..)
  exact⟨(Ar s.bk h).ok,h2.n,h2.now,h2.len,h2.gk⟩
 ·exact s
theorem Small.del (s:Small K m) (id:Int):Small (o9 K id).1 m:=by
 unfold o9;split
 ·rename_i h
  have h2:=s.sub (L:=FW K.L id) (adz ..)
  exact⟨(As s.bk h).ok,h2.n,h2.now,h2.len,h2.gk⟩
 ·exact s
theorem Small.zero {n:Int} (hn:1≤n∧n≤64):Small (PK n) 0:=⟨MK,hn,⟨abz _,by show(0:Int)≤j5;unfold j5;omega⟩,abr _,fun x hx=>by cases hx⟩
theorem Tn (s:Small K m):dW K 0=K:=by unfold dW;rw[if_neg];have:=s.now;omega
end
abbrev WC:Ty:=.pair (.int .i64) (.pair .str (.int .i64))
abbrev To:Ty:=.pair (.int .i64) (.pair WC (.pair (.int .i64) Sq))
abbrev Jl:=Int×(Int×List UInt8×Int)×Int×ax
def WD (o:Jl):AV:=.agg [.int .i64 fun _=>o.1,.int .i64 fun _=>o.2.1.1,.str fun _=>o.2.1.2.1,.int .i64 fun _=>o.2.1.2.2,.int .i64 fun _=>o.2.2.1,.int .i64 fun _=>o.2.2.2.1,.int .i64 fun _=>o.2.2.2.2.1,.int .i64 fun _=>o.2.2.2.2.2.1,.int .i64 fun _=>o.2.2.2.2.2.2]
def DW (o:Jl):Nm:=(o.2.1.1,o.2.1.2.1)
def oW (o:Jl):Int:=o.2.1.2.2
def gT (K:Kt) (o:Jl):Kt×DN×Int :=
 if o.1=0 then((cz K (DW o) (oW o)).1,(cz K (DW o) (oW o)).2,0)
 else if o.1=1 then(K,(eY K (DW o) (oW o)).2.1,0)
 else if o.1=2 then(dW K o.2.2.1,(0,zeroV),(dW K o.2.2.1).now)
 else if o.1=3 then(if o.2.2.1<0∨1099511627776<o.2.2.1 then(K,(0,zeroV),0)else(dW K (K.now+o.2.2.1),(0,zeroV),(dW K (K.now+o.2.2.1)).now))
 else if o.1=4 then((kH K o.2.1.1 o.2.2.2).1,((kH K o.2.1.1 o.2.2.2).2.2,zeroV),(kH K o.2.1.1 o.2.2.2).2.1)
 else if o.1=5 then((o9 K o.2.1.1).1,((o9 K o.2.1.1).2,zeroV),0)
 else if o.1=6 then((cK K (DW o)).1,((cK K (DW o)).2,zeroV),0)
 else(K,(0,zeroV),0)
theorem Small.say {K:Kt} {m:Nat} (s:Small K m) (o:Jl):Small (gT K o).1 (m+1):=by
 unfold gT
 split
 ·exact s.check _ _
 split
 ·exact s.up (by omega)
 split
 ·exact(s.tick _).up (by omega)
 split
 ·split
  ·exact s.up (by omega)
  ·exact(s.tick _).up (by omega)
 split
 ·exact(s.set _ _).up (by omega)
 split
 ·exact(s.del _).up (by omega)
 split
 ·exact(s.forget _).up (by omega)
 ·exact s.up (by omega)
theorem Tp (nm:Nm) (w:Int):aa Tryz.prog 33 [qC nm w] [] (Y:=Unit) (fun _=>True) (fun _=>uR nm) (fun _=>[]):=by
 (refine aa.q Tryz.func33 rfl fun S ao=>Wa _ ?_;(repeat' first|exact tv|apply pr|intro hh))
 all_goals exact ae.z () []
theorem ye {K:Kt} {m m' c:Nat} (h:m≤m'):∀ Φ b S hp,(dY K m c).h Φ b S hp→(dY K m' c).h Φ b S hp:=by
 rintro Φ b S hp ⟨x,p,h2⟩
 exact⟨x,⟨p.ok,p.rel.up h,by have:=p.G;omega,p.len⟩,h2⟩
def PL (r:DN×Int):AV:=.bM [uU r.1,.int .i64 fun _=>r.2]
set_option maxHeartbeats 1000000 in
theorem Yf {K:Kt} {ms m m' c:Nat} (s:Small K ms) (o:Jl) (hN:-9223372036854775808≤o.2.2.1∧o.2.2.1≤9223372036854775807) (h1:m≤999980) (h2:m+2≤m'):aa Tryz.prog 32 [.ptr 0 0,WD o] [.bg (dY K m c)] (Y:=Nat) (fun _=>True)
  (fun _=>PL (gT K o).2) (fun c'=>[.bg (dY (gT K o).1 m' c')]):=by
 have Wt:=s.now
 have O9:j5=1099511627776:=rfl
 have e0:=Tn s
 (refine aa.q Tryz.func32 rfl fun S ao=>Wa _ ?_;(repeat' first|exact tv|apply pr|intro hh))
 ·have e:gT K o=((cz K (DW o) (oW o)).1,(cz K (DW o) (oW o)).2,0):=by unfold gT;rw[if_pos hh]
  rw[e]
  (refine ab.q (pb (DW o) (oW o) (by omega) (show m+1≤m' by omega)) [0] ?_;rintro c' _;refine Wp _ ?_;(repeat' first|exact tv|apply pr|intro hh))
  exact ae.z c' [0]
 ·have e:gT K o=(K,(eY K (DW o) (oW o)).2.1,0):=by unfold gT;rw[if_neg (by omega),if_pos hh]
  rw[e]
  (refine ab.q (MY (K:=K) (m:=m) (c:=c) (DW o) (oW o) (by omega)) [0] fun _ _=>Wp _ ?_;(repeat' first|exact tv|apply pr|intro hh))
  refine ae.bg 0 (dY K m c) (dY K m' c) rfl (ye (by omega)) ?_
  exact ae.z c [0]
 ·have e:gT K o=(dW K o.2.2.1,(0,zeroV),(dW K o.2.2.1).now):=by unfold gT;rw[if_neg (by omega),if_neg (by omega),if_pos hh]
  rw[e]
  (refine ab.q (wG o.2.2.1 (show m+1≤m' by omega)) [0] ?_;rintro c' _;refine Wp _ ?_;(repeat' first|exact tv|apply pr|intro hh))
  exact ae.z c' [0]
 ·have e:gT K o=(K,(0,zeroV),0):=by unfold gT;rw[if_neg (by omega),if_neg (by omega),if_neg (by omega),if_pos (by assumption),if_pos (by omega)]
  rw[e]
  refine ae.bg 0 (dY K m c) (dY K m' c) rfl (ye (by omega)) ?_
  exact ae.z c [0]
 ·have e:gT K o=(dW K (K.now+o.2.2.1),(0,zeroV),(dW K (K.now+o.2.2.1)).now):=by unfold gT;rw[if_neg (by omega),if_neg (by omega),if_neg (by omega),if_pos (by assumption),if_neg (by omega)]
  rw[e]
  have hg:=wG (K:=K) (m:=m) (m':=m+1) (c:=c) 0 (abr _)
  rw[e0]at hg
  (refine ab.q hg [0] ?_;rintro c' _;refine Wp _ ?_;(repeat' first|exact tv|apply pr|intro hh))
  have ew:IntKind.i64.wrap (K.now+o.2.2.1)=K.now+o.2.2.1:=wr (by omega)
  simp only[ew]
  (refine ab.q (wG (K:=K) (m:=m+1) (m':=m') (c:=c') (K.now+o.2.2.1) (by omega)) [0] ?_;rintro c2 _;refine Wp _ ?_;(repeat' first|exact tv|apply pr|intro hh))
  exact ae.z c2 [0]
 ·have e:gT K o=(K,(0,zeroV),0):=by unfold gT;rw[if_neg (by omega),if_neg (by omega),if_neg (by omega),if_pos (by assumption),if_pos (by omega)]
  rw[e]
  refine ae.bg 0 (dY K m c) (dY K m' c) rfl (ye (by omega)) ?_
  exact ae.z c [0]
 ·have e:gT K o=((kH K o.2.1.1 o.2.2.2).1,((kH K o.2.1.1 o.2.2.2).2.2,zeroV),(kH K o.2.1.1 o.2.2.2).2.1):=by unfold gT;rw[if_neg (by omega),if_neg (by omega),if_neg (by omega),if_neg (by omega),if_pos hh]
  rw[e]
  (refine ab.q (Tk o.2.1.1 o.2.2.2 (show m+1≤m' by omega)) [0] ?_;rintro c' _;refine Wp _ ?_;(repeat' first|exact tv|apply pr|intro hh))
  exact ae.z c' [0]
 ·have e:gT K o=((o9 K o.2.1.1).1,((o9 K o.2.1.1).2,zeroV),0):=by unfold gT;rw[if_neg (by omega),if_neg (by omega),if_neg (by omega),if_neg (by omega),if_neg (by omega),if_pos hh]
  rw[e]
  (refine ab.q (LO o.2.1.1 (show m+1≤m' by omega)) [0] ?_;rintro c' _;refine Wp _ ?_;(repeat' first|exact tv|apply pr|intro hh))
  exact ae.z c' [0]
 ·have e:gT K o=((cK K (DW o)).1,((cK K (DW o)).2,zeroV),0):=by unfold gT;rw[if_neg (by omega),if_neg (by omega),if_neg (by omega),if_neg (by omega),if_neg (by omega),if_neg (by omega),if_pos hh]
  rw[e]
  (refine ab.q (Tp (DW o) (oW o)) [] fun _ _=>Wp _ ?_;(repeat' first|exact tv|apply pr|intro hh))
  (refine ab.q (yd (DW o) (by omega) (show m+1≤m' by omega)) [0] ?_;rintro c' _;refine Wp _ ?_;(repeat' first|exact tv|apply pr|intro hh))
  exact ae.z c' [0]
 ·have e:gT K o=(K,(0,zeroV),0):=by unfold gT;rw[if_neg (by omega),if_neg (by omega),if_neg (by omega),if_neg (by omega),if_neg (by omega),if_neg (by omega),if_neg (by omega)]
  rw[e]
  (refine ab.q (MZ o.2.2.1 hN (by omega) (show m+1≤m' by omega)) [0] ?_;rintro y _;refine Wp _ ?_;(repeat' first|exact tv|apply pr|intro hh))
  exact ae.z y.1 [0]
 ·have e:gT K o=(K,(0,zeroV),0):=by unfold gT;rw[if_neg (by omega),if_neg (by omega),if_neg (by omega),if_neg (by omega),if_neg (by omega),if_neg (by omega),if_neg (by omega)]
  rw[e]
  refine ae.bg 0 (dY K m c) (dY K m' c) rfl (ye (by omega)) ?_
  exact ae.z c [0]
theorem Yg (a b:List Nm) (ha:a.length≤100000):aa Tryz.prog 27 [.aG vv fun _=>a,.aG vv fun _=>b] [] (Y:=Unit) (fun _=>True)
  (fun _=>.bool fun _=>decide (a=b)) (fun _=>[]):=by
 (refine aa.q Tryz.func27 rfl fun S ao=>Wa _ ?_;(repeat' first|exact tv|apply pr|intro hh))
 ·(refine ae.w () [] _ ?_;(repeat' first|exact tv|apply pr))
  exact decide_eq_false fun e=>‹¬_› (by rw[e])
 refine aH.intro hm (X:=Nat) (fun i=>i≤a.length∧a.take i=b.take i) (fun i=>a.length - i)
  (fun i=>[(0,.aG vv fun _=>a),(1,.aG vv fun _=>b),(5,.int .i64 fun _=>(i:Int))]) (fun i=>[]) 0 [] ⟨rfl,rfl,?_,?_⟩ ⟨abw _,rfl⟩ ?_
 ·exact Vc
 ·exact Vc
 rintro i ⟨hi,ht⟩
 have r8:a.length=b.length:=by omega
 (refine Wa _ ?_;(repeat' first|exact tv|apply pr|intro hh))
 all_goals first|exact Ob.mk ⟨by simp only[];omega,by simp only[];omega⟩|skip
 ·have hx:=(G8 _ rfl _ _).1 ‹_=false›
  (refine ae.w () [] _ ?_;(repeat' first|exact tv|apply pr))
  exact(decide_eq_false fun e=>hx (by rw[e]))
 ·have hx:=(nk _ rfl _ _).1 ‹_=true›
  refine⟨i+1,[],⟨rfl,rfl,?_,?_⟩,⟨by show i+1≤_;omega,?_⟩,by show _ - (i+1)<_ - i;omega⟩
  ·exact Vc
  ·(refine Vb _ ?_;(repeat' first|exact tv|apply pr))
   rw[wr (by omega)];omega
  ·simp only[abm]at hx
   exact xk (d:=(0,[])) (by omega) (by omega) ht hx
 ·have e:i=a.length:=by omega
  subst e
  rw[abv,abo (by omega)]at ht
  (refine ae.w () [] _ ?_;(repeat' first|exact tv|apply pr))
  exact decide_eq_true ht
end Go.Proofs.YthnefnlhcijekaaGreat.En
set_option maxRecDepth 8000
namespace Go.Proofs.YthnefnlhcijekaaGreat.En
open Go Go.RowKit Fw Hi Ce
def WE:ax:=(1,2,10,0)
def lI (now:Int) (L:Hs):Kt:=⟨1,now,Lt.set 0 (true,WE,1),L⟩
def qE:Hs:=[((0,[97]),[(100,2)])]
def WG:Hs:=[((0,[97]),[(100,2)]),((0,[98]),[(110,1)])]
theorem lv1:cz (PK 1) (0,[97]) 1=(PK 1,(5,zeroV)):=by kernel_rfl
theorem lv2:kH (PK 1) 0 WE=(lI 0 [],1,0):=by kernel_rfl
theorem lv3:dW (lI 0 []) 100=lI 100 []:=by kernel_rfl
theorem lv4:cz (lI 100 []) (0,[97]) 2=(lI 100 qE,(0,true,0,0,10)):=by kernel_rfl
theorem lv5:cz (lI 100 qE) (0,[98]) 1=(lI 100 qE,(7,zeroV)):=by kernel_rfl
theorem lv6:(eY (lI 100 qE) (0,[98]) 1).2.1=(0,true,1,0,5):=by kernel_rfl
theorem lv7:dT (lI 100 qE)=[(0,[97])]:=by kernel_rfl
theorem lv8:dW (lI 100 qE) 50=lI 100 qE:=by kernel_rfl
theorem lv9:dW (lI 100 qE) 110=lI 110 qE:=by kernel_rfl
theorem WH:cz (lI 110 qE) (0,[98]) 1=(lI 110 WG,(0,true,1,0,5)):=by kernel_rfl
theorem WI:cK (lI 110 WG) (0,[98])=(lI 110 qE,0):=by kernel_rfl
theorem WJ:cK (lI 110 qE) (1,[98])=(lI 110 qE,5):=by kernel_rfl
theorem WK:cz (lI 110 qE) (0,[]) 1=(lI 110 qE,(1,zeroV)):=by kernel_rfl
theorem Tq:dT (lI 110 qE)=[]:=by kernel_rfl
set_option maxHeartbeats 1000000 in
theorem Mk:aa Tryz.prog 31 [] [] (Y:=Unit) (fun _=>True) (fun _=>.tt) (fun _=>[]):=by
 have h1:=fun c=>pb (K:=PK 1) (m:=0) (m':=1) (c:=c) (0,[97]) 1 (by omega) (by omega)
 have h2:=fun c=>Tk (K:=PK 1) (m:=1) (m':=2) (c:=c) 0 WE (by omega)
 have h3:=fun c=>wG (K:=lI 0 []) (m:=2) (m':=3) (c:=c) 100 (by omega)
 have h4:=fun c=>pb (K:=lI 100 []) (m:=3) (m':=4) (c:=c) (0,[97]) 2 (by omega) (by omega)
 have h5:=fun c=>pb (K:=lI 100 qE) (m:=4) (m':=5) (c:=c) (0,[98]) 1 (by omega) (by omega)
 have TT:=fun c=>pb (K:=lI 100 qE) (m:=5) (m':=6) (c:=c) (0,[98]) 1 (by omega) (by omega)
 have h6:=fun c=>MY (K:=lI 100 qE) (m:=5) (c:=c) (0,[98]) 1 (by omega)
 have h7:=fun c=>Jj (K:=lI 100 qE) (m:=5) (c:=c)
 have h8:=fun c=>wG (K:=lI 100 qE) (m:=5) (m':=6) (c:=c) 50 (by omega)
 have h9:=fun c=>wG (K:=lI 100 qE) (m:=6) (m':=7) (c:=c) 110 (by omega)
 have fm:=fun c=>pb (K:=lI 110 qE) (m:=7) (m':=8) (c:=c) (0,[98]) 1 (by omega) (by omega)
 have vm:=fun c=>yd (K:=lI 110 WG) (m:=8) (m':=9) (c:=c) (0,[98]) (by omega) (by omega)
 have Mh:=fun c=>yd (K:=lI 110 qE) (m:=9) (m':=10) (c:=c) (1,[98]) (by omega) (by omega)
 have Yh:=fun c=>pb (K:=lI 110 qE) (m:=10) (m':=11) (c:=c) (0,[]) 1 (by omega) (by omega)
 have Yi:=fun c=>Jj (K:=lI 110 qE) (m:=11) (c:=c)
 have h16:=fun c=>MZ (K:=lI 110 qE) (m:=11) (m':=12) (c:=c) 1000 (by omega) (by omega) (by omega)
 simp only[lv1]at h1
 simp only[lv2]at h2
 simp only[lv3]at h3
 simp only[lv4]at h4
 simp only[lv5]at h5 TT
 simp only[lv6]at h6
 simp only[lv7]at h7
 simp only[lv8]at h8
 simp only[lv9]at h9
 simp only[WH]at fm
 simp only[WI]at vm
 simp only[WJ]at Mh
 simp only[WK]at Yh
 simp only[Tq]at Yi
 (refine aa.q Tryz.func31 rfl fun S ao=>Wa _ ?_;(repeat' first|exact tv|apply pr|intro hh))
 (refine ab.q (WB 1 0 (by omega)) [] fun _ _=>Wp _ ?_;(repeat' first|exact tv|apply pr|intro hh))
 (refine ab.q (LM 0 0 (by omega)) [] fun _ _=>Wp _ ?_;(repeat' first|exact tv|apply pr|intro hh))
 all_goals first|(exfalso;exact absurd rfl ‹_›)|skip
 (refine ab.q (h1 0) [1] ?_;rintro c1 _;refine Wp _ ?_;(repeat' first|exact tv|apply pr|intro hh))
 (refine ab.q (h2 c1) [1] ?_;rintro c2 _;refine Wp _ ?_;(repeat' first|exact tv|apply pr|intro hh))
 (refine ab.q (h3 c2) [1] ?_;rintro c3 _;refine Wp _ ?_;(repeat' first|exact tv|apply pr|intro hh))
 (refine ab.q (h4 c3) [1] ?_;rintro c4 _;refine Wp _ ?_;(repeat' first|exact tv|apply pr|intro hh))
 (refine ab.q (h5 c4) [1] ?_;rintro c5 _;refine Wp _ ?_;(repeat' first|exact tv|apply pr|intro hh))
 (refine ab.q (h6 c5) [1] fun _ _=>Wp _ ?_;(repeat' first|exact tv|apply pr|intro hh))
 (refine ab.q (h7 c5) [1] fun _ _=>Wp _ ?_;(repeat' first|exact tv|apply pr|intro hh))
 (refine ab.q (Tl (K:=lI 100 qE) (m:=5) (c:=c5)) [1] ?_;rintro d1 _;refine Wp _ ?_;(repeat' first|exact tv|apply pr|intro hh))
 (refine ab.q (h8 c5) [1] ?_;rintro c6 _;refine Wp _ ?_;(repeat' first|exact tv|apply pr|intro hh))
 (refine ab.q (h9 c6) [1] ?_;rintro c7 _;refine Wp _ ?_;(repeat' first|exact tv|apply pr|intro hh))
 (refine ab.q (fm c7) [1] ?_;rintro c8 _;refine Wp _ ?_;(repeat' first|exact tv|apply pr|intro hh))
 (refine ab.q (vm c8) [1] ?_;rintro c9 _;refine Wp _ ?_;(repeat' first|exact tv|apply pr|intro hh))
 (refine ab.q (Mh c9) [1] ?_;rintro c10 _;refine Wp _ ?_;(repeat' first|exact tv|apply pr|intro hh))
 (refine ab.q (Yh c10) [1] ?_;rintro Yj _;refine Wp _ ?_;(repeat' first|exact tv|apply pr|intro hh))
 (refine ab.q (TT d1) [6] ?_;rintro d2 _;refine Wp _ ?_;(repeat' first|exact tv|apply pr|intro hh))
 all_goals first|(exact absurd hh (by decide))|(exact absurd rfl hh)|skip
 (refine ab.q (Yi Yj) [1] fun _ _=>Wp _ ?_;(repeat' first|exact tv|apply pr|intro hh))
 all_goals first|(exact absurd hh (by decide))|(exact absurd rfl hh)|skip
 (refine ab.q (h16 Yj) [1] ?_;rintro y hy;refine Wp _ ?_;(repeat' first|exact tv|apply pr|intro hh))
 all_goals have WL:y.1=0:=(hy.all (by omega)).trans (by rw[Tq];rfl)
 all_goals have u6:=hy.lo
 all_goals first|(exfalso;omega)|skip
 (refine ab.q (PI (K:=lI 110 qE) (m:=12) (c:=y.1)) [1] fun _ _=>Wp _ ?_;(repeat' first|exact tv|apply pr|intro hh))
 (refine ae.w () [] _ ?_;(repeat' first|exact tv|apply pr))
 rw[WL];rfl
def PM (l:List Jl) (aB:Int):Prop:=(l.length:Int)≤aB∧∀ o∈l,o.2.1.2.1.length≤60
instance (l:List Jl) (aB:Int):Decidable (PM l aB):=inferInstanceAs (Decidable (_∧_))
theorem aaD (l:List Jl) (aB:Int) (dH:aB≤1000):aa Tryz.prog 30 [.aG To fun _=>l,.int .i64 fun _=>aB] [] (Y:=Unit) (fun _=>True) (fun _=>.bool fun _=>decide (PM l aB)) (fun _=>[]):=by
 by_cases h0:(l.length:Int)≤aB
 rotate_left
 ·rw[decide_eq_false fun h=>h0 h.1]
  (refine aa.q Tryz.func30 rfl fun S ao=>Wa _ ?_;(repeat' first|exact tv|apply pr|intro hh))
  all_goals first|(exfalso;omega)|skip
  all_goals exact ae.z () []
 (refine aa.q Tryz.func30 rfl fun S ao=>Wa _ ?_;(repeat' first|exact tv|apply pr|intro hh))
 all_goals first|(exfalso;omega)|skip
 refine aH.intro hm (X:=Nat) (fun i=>i≤l.length∧∀ j,j<i→(l.getD j To.a8).2.1.2.1.length≤60) (fun i=>l.length - i)
  (fun i=>[(0,.aG To fun _=>l),(5,.int .i64 fun _=>(i:Int))]) (fun i=>[]) 0 [] ⟨rfl,rfl,?_,?_⟩ ⟨abw _,fun j hj=>absurd hj (ac8 j)⟩ ?_
 ·exact Vc
 ·exact Vc
 rintro i ⟨hi,iy⟩
 (refine Wa _ ?_;(repeat' first|exact tv|apply pr|intro hh))
 all_goals first|exact Ob.mk ⟨by simp only[];omega,by simp only[];omega⟩|skip
 ·have dp:i<l.length:=by omega
  have AJ:l.getD ((i:Int)).toNat To.a8∈l:=by rw[abm,abi,abj dp];exact abO _
  rw[decide_eq_false fun h=>absurd (h.2 _ AJ) (by omega)]
  exact ae.z () []
 ·have dp:i<l.length:=by omega
  refine⟨i+1,[],⟨rfl,rfl,?_,?_⟩,⟨by show i+1≤_;omega,fun j hj=>?_⟩,by show _ - (i+1)<_ - i;omega⟩
  ·exact Vc
  ·(refine Vb _ ?_;(repeat' first|exact tv|apply pr))
   rw[wr (by omega)];omega
  ·by_cases e:j=i
   ·subst e
    rw[abm]at hh
    omega
   ·exact iy j (by omega)
 ·have dp:i=l.length:=by omega
  subst dp
  rw[decide_eq_true (show PM l aB from⟨h0,fun o ho=>by
   obtain⟨j,hj⟩:=abu.1 ho
   have:=iy j (abk.1 hj).1
   rw[abi,hj]at this
   exact this⟩)]
  exact ae.z () []
def aaE (o:Jl):Prop:=-9223372036854775808≤o.2.2.1∧o.2.2.1≤9223372036854775807
theorem Tr {l:List Jl} {i:Nat} (h:i<l.length):l.getD i To.a8∈l:=by rw[abi,abj h];exact abO _
end Go.Proofs.YthnefnlhcijekaaGreat.En
namespace Go.Proofs.YthnefnlhcijekaaGreat.Fw
open Go Go.RowKit Go.ChangeShapes
def gW (W:World):Gh:={ n:=0,Φ:=fun b=>W.heap[b]?,B:=fun _=>0,V:=fun _=>none,L:=fun _=>0,k:=0,W:=fun _ _=>0,M:=fun _=>0 }
theorem PN (W:World):fg (gW W) [] W:=by
 refine⟨rfl,fun b o h=>h,fun i=>trivial,fun i j b hi=>?_,fun i b hi=>?_⟩
 ·simp[af,Chunk.own]at hi
 ·simp[af,Chunk.own]at hi
def LP:(t:Ty)→t.den→Prop
 | .int k,n=>k.min≤n∧n≤k.max
 | .bool,_=>True
 | .str,s=>List.length s≤maxLen
 | .list e,xs=>List.length xs≤maxLen∧∀ x,x∈(xs:List e.den)→LP e x
 | .pair a b,x=>LP a x.1∧LP b x.2
theorem uY {w:World} {base:Nat} {a:Addr} {n:Nat} {cs:List Value} (h:w.cells? base a n=some cs):cs.length=n∧∀ (j:Nat) (u:Value),cs[j]?=some u→w.cell? (a.add j)=some u:=by
 unfold World.cells? at h
 split at h
 ·rename_i hb
  have key:∀ (l:List Nat) (cs:List Value),l.mapM (fun i=>w.cell? (a.add i))=some cs→cs.length=l.length∧∀ (j:Nat) (u:Value) (i:Nat),cs[j]?=some u→l[j]?=some i→w.cell? (a.add i)=some u:=by
   intro l
   induction l with
   | nil=>intro cs h;simp at h;subst h;simp
   | cons i l ih =>
    intro cs h
    simp only[List.mapM_cons,Option.bind_eq_bind,Option.bind_eq_some_iff,Option.pure_def,ab6]at h
    obtain⟨u,h1,r,h2,rfl⟩:=h
    obtain⟨h3,h4⟩:=ih r h2
    refine⟨by simp[h3],fun j v i' hj hi=>?_⟩
    cases j with
    | zero=>simp at hj hi;subst hj hi;exact h1
    | succ j=>exact h4 j v i' (by simpa using hj) (by simpa using hi)
  obtain⟨h1,h2⟩:=key _ _ h
  refine⟨by simpa using h1,fun j u hj=>h2 j u j hj ?_⟩
  have:=(abk.1 hj).1
  rw[aeg (by rw[h1]at this;simpa using this)]
 ·cases h
theorem uZ {W:World} {a:Addr} {u:Value} (h:W.cell? a=some u):∃ cells T fr,a.spot=none∧(gW W).Φ a.block=some (.cells cells T fr)∧cells[a.off]?=some u:=by
 unfold World.cell? at h
 split at h
 ·rename_i c T fr hc
  split at h
  ·cases h
  ·rename_i hs
   exact⟨c,T,fr,by simpa using hs,hc,h⟩
 ·cases h
theorem DX {α:Type} {p:Nat→α→Prop}:∀ n:Nat,(∀ i,i<n→∃ x,p i x)→∃ xs:List α,xs.length=n∧∀ (i:Nat) (x:α),xs[i]?=some x→p i x
 | 0,_=>⟨[],rfl,by simp⟩
 | n+1,h=>by
  obtain⟨xs,h1,h2⟩:=DX n (fun i hi=>h i (by omega))
  obtain⟨x,hx⟩:=h n (by omega)
  refine⟨xs++[x],by simp[h1],fun i y hy=>?_⟩
  rw[abT]at hy
  split at hy
  ·exact h2 i y hy
  ·rename_i hi
   have:i - xs.length=0:=by
    have:=(abk.1 hy).1
    simp at this;omega
   rw[this]at hy
   simp at hy
   subst hy
   have:i=n:=by omega
   subst this;exact hx
section
variable {H:Type} {sv:TypeId×Value→H} {P:Program} {W:World} {base:Nat} {sp:Nat→Bool} {held:Bool}
theorem iS (K:Kids P (·<P.types.size)):∀ (d:Nat) (t:Nat) (ty:Ty),t<P.types.size→gL P d t=some ty→∀ (fuel:Nat) (cs:List Value) (x:DataW H×List MemPlace),DataW.trod sv P W base sp held fuel t cs=some x →
  ∃ a:ty.den,RL (gW W) (enc ty (fun _=>a) []) cs∧LP ty a
 | 0,_,_,_,h=>by simp[gL]at h
 | d+1,t,ty,bm,h=>by
  intro fuel cs x hx
  simp only[gL]at h
  split at h
  ·rename_i k ht
   cases h
   obtain⟨n,rfl,_,hw⟩:=DataW.trod_int (aw ht) hx
   simp only[Lit.wf,abD,decide_eq_true_eq]at hw
   exact⟨n,⟨.int k (fun _=>n),trivial⟩,hw⟩
  ·rename_i ht
   cases h
   obtain⟨b,rfl,_⟩:=DataW.trod_bool (aw ht) hx
   exact⟨b,⟨.bool (fun _=>b),trivial⟩,trivial⟩
  ·rename_i ht
   cases h
   obtain⟨s,rfl,_,hs⟩:=DataW.trod_string (aw ht) hx
   refine⟨s.data.toList,⟨?_,trivial⟩,?_⟩
   ·have:=R.str (g:=gW W) (fun _=>s.data.toList)
    simpa using this
   ·show s.data.toList.length≤maxLen
    rw[Array.length_toList];exact hs
  ·rename_i e ht
   split at h <;> try cases h
   rename_i y hy
   have X2:y=y:=rfl
   have WM:=K.slice bm (aw ht)
   rcases DataW.trod_slice (aw ht) hx with⟨rfl,_⟩|⟨a,len,cap,elems,rest,n,_,rfl,_,_,hlc,Js,hlen,FJ,_⟩
   ·refine⟨([]:List y.den),⟨?_,trivial⟩,?_⟩
    ·exact R.aG y (fun _=>[]) none 0 (fun _ _=>.nilIface) (abr _) (by simp) (fun i x j z hx=>by simp at hx) (fun i x j z hx=>by simp at hx)
    ·refine⟨?_,fun x hx=>?_⟩
     ·show([]:List y.den).length≤maxLen
      simp
     ·cases hx
   ·have aaG:maxLen=9223372036854775807:=by decide
    have each:∀ i,i<len→∃ p:y.den×List Value,W.cells? base (a.add (i*P.cellsOf e)) (P.cellsOf e)=some p.2∧RL (gW W) (enc y (fun _=>p.1) []) p.2∧LP y p.1:=by
     intro i hi
     have h1:=FJ i hi
     rw[abj (by omega)]at h1
     obtain⟨mY,h2,h3⟩:=Option.bind_eq_some_iff.1 h1
     obtain⟨b,h4,h5⟩:=iS K d e y WM hy n mY _ h3
     exact⟨(b,mY),h2,h4,h5⟩
    obtain⟨ps,Gc,hp⟩:=DX len each
    have cv:∀ (i:Nat) (p:y.den×List Value),ps[i]?=some p→P.cellsOf e=y.size:=by
     intro i p hi
     obtain⟨h1,h2,_⟩:=hp i p hi
     have:=h2.length
     rw[bz,(uY h1).1]at this
     exact this.symm
    refine⟨ps.map (·.1),⟨?_,trivial⟩,?_,?_⟩
    ·have QT:(ps.map (·.1)).length=len:=by simp[Gc]
     have:=R.aG (g:=gW W) y (fun _=>ps.map (·.1)) (some a) cap (fun i j=>((ps[i]?.map (·.2)).getD [])[j]?.getD .nilIface) (by simp only[QT];exact hlc) (by simp only[QT];omega) ?_ ?_
     ·simp only[QT]at this;exact this
     ·intro i x j z hx hz
      simp only[ach]at hx
      cases hq:ps[i]? with
      | none=>rw[hq]at hx;cases hx
      | some p =>
       rw[hq]at hx
       simp only[acb,ab6]at hx
       subst hx
       obtain⟨h1,h2,_⟩:=hp i p hq
       obtain⟨u,hu,_⟩:=h2.get hz
       have hc:=(uY h1).2 j u hu
       obtain⟨cells,T,fr,hs,hΦ,dw⟩:=uZ hc
       have FV:a.spot=none∨(i*P.cellsOf e=0∧j=0):=by
        by_cases h0:i*P.cellsOf e=0∧j=0
        ·exact .inr h0
        ·left
         by_cases FK:i*P.cellsOf e+j=0
         ·exact(h0 ⟨by omega,by omega⟩).elim
         ·
          have XW:0<len:=by have:=(abk.1 hq).1;omega
          obtain⟨p0,hp0⟩:∃ p0,ps[0]?=some p0:=⟨ps[0]'(by omega),abj (by omega)⟩
          obtain⟨g1,g2,_⟩:=hp 0 p0 hp0
          have WL:(enc y (fun _=>p0.1) [])[0]?≠none:=by
           have:=bz y (fun _=>p0.1)
           have h0:=Ty.size_pos y
           intro hn
           rw[adt]at hn
           omega
          cases LQ:(enc y (fun _=>p0.1) [])[0]? with
          | none=>exact(WL LQ).elim
          | some z0 =>
           obtain⟨u0,Jn,_⟩:=g2.get LQ
           have q7:=(uY g1).2 0 u0 Jn
           obtain⟨_,_,_,Oq,_⟩:=uZ q7
           simpa [Addr.add]using Oq
       have PO:a.spot=none:=by
        rcases FV with h|⟨h0,RB⟩
        ·exact h
        ·subst RB
         rw[h0]at hs
         simpa [Addr.add]using hs
       have e1:(a.add (i*P.cellsOf e)).add j=⟨a.block,a.off+(i*P.cellsOf e+j),none⟩:=by
        rw[b7 PO,b7 rfl];simp[ady]
       rw[e1]at hΦ dw
       refine⟨a.block,a.off,cells,T,fr,by cases a;simp at PO ⊢;exact PO,hΦ,?_⟩
       rw[cv i p hq]at dw
       simp only[acb,acY,hu]
       exact dw
     ·intro i x j z hx hz
      simp only[ach]at hx
      cases hq:ps[i]? with
      | none=>rw[hq]at hx;cases hx
      | some p =>
       rw[hq]at hx
       simp only[acb,ab6]at hx
       subst hx
       obtain⟨h1,h2,_⟩:=hp i p hq
       obtain⟨u,hu,hr⟩:=h2.get hz
       simp only[hq,acb,acY,hu]
       exact hr
    ·show(ps.map (·.1)).length≤maxLen
     rw[ab4];omega
    ·intro x hx
     obtain⟨p,QY,rfl⟩:=abR.1 hx
     obtain⟨i,hi⟩:=abu.1 QY
     exact(hp i p hi).2.2
  ·rename_i fs ht
   obtain⟨xs,n,_,_,FM,Nq,hf⟩:=DataW.trod_struct (aw ht) hx
   obtain⟨Pm,BO,PC⟩:=K.struct bm (aw ht)
   have go:∀ (l:List Field) (k:Nat) (ty:Ty),vd (gL P d) l=some ty→(∀ f∈l,f.type<P.types.size)→(∀ (j:Nat) f,l[j]?=some f→f.offset=k+((l.take j).map fun f=>P.cellsOf f.type).sum) →
     (∀ f∈l,∃ z,DataW.trod sv P W base sp held n f.type ((cs.drop f.offset).take (P.cellsOf f.type))=some z)→(cs.drop k).length=(l.map fun f=>P.cellsOf f.type).sum →
     ∃ a:ty.den,RL (gW W) (enc ty (fun _=>a) []) (cs.drop k)∧LP ty a:=by
    intro l
    induction l with
    | nil=>intro k ty h;simp[vd]at h
    | cons f r ih =>
     intro k ty h ht ho hz hl
     obtain⟨z,LQ⟩:=hz f (abq ..)
     have QH:f.offset=k:=by simpa using ho 0 f rfl
     rw[QH]at LQ
     have Yk:=ht f (abq ..)
     cases r with
     | nil =>
      simp only[vd]at h
      obtain⟨a,h1,h2⟩:=iS K d f.type ty Yk h n _ _ LQ
      refine⟨a,?_,h2⟩
      simp only[abH,List.map_nil,aco,List.sum_nil,ab8]at hl
      rwa [abo (by omega)]at h1
     | cons f2 r2 =>
      simp only[vd]at h
      split at h <;> try cases h
      rename_i ta tb Uo u5
      obtain⟨a,h1,h2⟩:=iS K d f.type ta Yk Uo n _ _ LQ
      obtain⟨b,h3,h4⟩:=ih (k+P.cellsOf f.type) tb u5 (fun q hq=>ht q (abn _ hq)) (fun j q hq=>by
       have:=ho (j+1) q (by simpa using hq)
       simp only[acz,abH,aco]at this
       omega) (fun q hq=>hz q (abn _ hq)) (by
       simp only[abH,aco,abG]at hl ⊢
       omega)
      refine⟨(a,b),?_,h2,h4⟩
      simp only[enc]
      rw[cR ta]
      have:=h1.append h3
      rw[←adR]at this
      rwa [adr]at this
   have:=go fs.toList 0 ty h Pm (fun j f hj=>by simpa using PC j f hj) (fun f hfm=>by
    obtain⟨i,hi⟩:=abu.1 hfm
    have eH:fs[i]?=some f:=by simpa using hi
    have h1:=hf i f eH
    have dp:=(abk.1 hi).1
    rw[abj (by simp at dp;omega)]at h1
    exact⟨_,h1⟩) (by simpa [FM]using BO)
   simpa using this
  ·rename_i n e ht
   split at h <;> try cases h
   rename_i y hy
   obtain⟨xs,m,_,_,FM,Nq,hf⟩:=DataW.trod_array (aw ht) hx
   obtain⟨WM,cv⟩:=K.array bm (aw ht)
   rw[cv]at FM
   have go:∀ (n k:Nat) (ty:Ty),vx n y=some ty→(∀ i,i<n→∃ z,DataW.trod sv P W base sp held m e ((cs.drop ((k+i)*P.cellsOf e)).take (P.cellsOf e))=some z)→(cs.drop (k*P.cellsOf e)).length=n*P.cellsOf e →
     ∃ a:ty.den,RL (gW W) (enc ty (fun _=>a) []) (cs.drop (k*P.cellsOf e))∧LP ty a:=by
    intro n
    induction n with
    | zero=>intro k ty h;simp[vx]at h
    | succ n ih =>
     intro k ty h hz hl
     obtain⟨z,LQ⟩:=hz 0 (by omega)
     rw[ab8]at LQ
     obtain⟨a,h1,h2⟩:=iS K d e y WM hy m _ _ LQ
     cases n with
     | zero =>
      simp only[vx,ab6]at h
      subst h
      rw[abo (by omega)]at h1
      exact⟨a,h1,h2⟩
     | succ n =>
      simp only[vx]at h
      split at h <;> try cases h
      rename_i tz Qp
      obtain⟨b,h3,h4⟩:=ih (k+1) tz Qp (fun i hi=>by have:=hz (i+1) (by omega);rwa [show k+1+i=k+(i+1) by omega]) (by
       rw[abG]at hl ⊢
       rw[ace,adn]at hl ⊢
       omega)
      refine⟨(a,b),?_,h2,h4⟩
      simp only[enc]
      rw[cR y]
      have:=h1.append h3
      rw[ace,adn,←adR]at this
      rwa [adr]at this
   have:=go n 0 ty h (fun i hi=>by
    have h1:=hf i hi
    rw[abj (by omega)]at h1
    exact⟨_,by rw[abx];exact h1⟩) (by simpa using FM)
   simpa using this
  ·cases h
end
end Go.Proofs.YthnefnlhcijekaaGreat.Fw
namespace Go.Proofs.YthnefnlhcijekaaGreat.Fw
open Go Go.RowKit Go.ChangeShapes Go.WideShapes
def Ts:TypeDesc→Bool
 | .int _=>true|.bool=>true|.string=>true|.slice _=>true|_=>false
section
variable {H:Type} {sv:TypeId×Value→H} {P:Program} {W:World} {base:Nat} {sp:Nat→Bool} {held:Bool}
theorem Tt (K:Kids P (·<P.types.size)) {b0:Nat} {t:Nat} {ty:Ty} {d:TypeDesc} (hd:aT P t=some d) (hb:Ts d=true) (bm:t<P.types.size) (AA:gL P 6 t=some ty) {v:Value} {x:DataW H} {ps:List MemPlace}
  (lP:Value.okWide P W .any b0 t v) (h:DataW.Trod sv P W base sp held t v x ps):∃ a:ty.den,RL (gW W) (enc ty (fun _=>a) []) [v]∧LP ty a:=by
 obtain⟨fuel,hf⟩:=h
 obtain⟨a,h1,h2⟩:=iS K 6 t ty bm AA fuel _ _ hf
 refine⟨a,?_,h2⟩
 have hc:v.cells.toList=[v]:=by
  have hu:=aw hd
  cases v <;> first|rfl|skip
  cases d <;> first|(cases hb;done)|(simp[Value.okWide,hu,Cell.okWide,Cell.ok]at lP)
 rwa [hc]at h1
def WN:TypeDesc→Bool
 | .struct _=>true|.array _ _=>true|_=>false
theorem PQ (K:Kids P (·<P.types.size)) {b0:Nat} {t:Nat} {ty:Ty} {d:TypeDesc} (hd:aT P t=some d) (hb:WN d=true) (bm:t<P.types.size) (AA:gL P 6 t=some ty) {v:Value} {x:DataW H} {ps:List MemPlace}
  (lP:Value.okWide P W .any b0 t v) (h:DataW.Trod sv P W base sp held t v x ps):∃ a:ty.den,R (gW W) (.agg (enc ty (fun _=>a) [])) v∧LP ty a:=by
 obtain⟨fuel,hf⟩:=h
 obtain⟨a,h1,h2⟩:=iS K 6 t ty bm AA fuel _ _ hf
 have hu:=aw hd
 have hv:∃ cs,v=.agg cs:=by
  cases d <;> first|(cases hb;done)|skip
  all_goals
   simp only[Value.okWide,hu]at lP
   obtain⟨cs,rfl,_⟩:=lP
   exact⟨cs,rfl⟩
 obtain⟨cs,rfl⟩:=hv
 refine⟨a,?_,h2⟩
 have:=R.iV h1
 simpa [Value.cells]using this
theorem Ul {f:FuncId} {args:List AV} {aD:List Value} {Y:Type} {Q:Y→Prop} {res:Y→AV} {out:Y→List Chunk} (hm:aa P f args [] Q res out) (Bb:∀ y,Q y→res y=.tt) (hr:RL (gW W) args aD) :
  Calls P f aD.toArray W fun e W'=>e=.returned (.bool true)∧Below W.heap.size W W':=by
 refine(hm.h (gW W) W aD (PN W) hr).mono ?_
 rintro e W' ⟨y,c,g',hq,rfl,h1,h2,h3⟩
 rw[Bb y hq]at h1
 rw[h1.kM]
 refine⟨rfl,h3.os,h3.tape,h3.output.o,h3.size,fun b hb=>h3.cE b hb ?_⟩
 rintro⟨i,hi⟩
 simp[af,Chunk.own]at hi
theorem oq (hl:laidOutB P=true) {W':World} (hb:Below W.heap.size W W'):∀ {ts:List TypeId} {vs:List Value} {ds:List (DataW H)} {ps:List MemPlace} (Tu:Nat→Bool),(∀ t∈ts,P.readableRec t=true∧t<P.types.size) →
  DataW.TrodAll sv P W 0 (fun _=>true) true ts vs ds ps→(∀ p∈ps,p.block<W.heap.size)→(∀ p∈ps,Tu p.block=true)→DataW.TrodAll sv P W' 0 Tu true ts vs ds ps
 | [],[],[],ps,Tu,_,h,_,_=>h
 | t::ts,v::vs,d::ds,ps,Tu,ht,h,bm,FV=>by
  obtain⟨p,q,h1,h2,rfl⟩:=h
  obtain⟨hr,lO⟩:=ht t (abq ..)
  refine⟨p,q,WideElems.Trod_stays hl hr lO h1 (fun x hx=>hb.same (bm x (adj _ hx))) (fun x hx=>FV x (adj _ hx)),?_,rfl⟩
  exact oq hl hb Tu (fun t Jt=>ht t (abn _ Jt)) h2 (fun x hx=>bm x (List.mem_append_right _ hx)) (fun x hx=>FV x (List.mem_append_right _ hx))
 | [],_::_,_,_,_,_,h,_,_=>h.elim
 | [],[],_::_,_,_,_,h,_,_=>h.elim
 | _::_,[],_,_,_,_,h,_,_=>h.elim
 | _::_,_::_,[],_,_,_,h,_,_=>h.elim
theorem Tv {f:Func} {s:ChangeSpec} {W':World} {args:Array Value} {ds gs:List (DataW H)} {before:List MemPlace} (hl:laidOutB P=true) {tb:TypeId}
  (hW:DataW.Whole sv P f.params.toList s.vars false W args.toList ds gs before) (hv:s.vars=[]) (Jr:s.fn H (ds++gs)={ results:=[.lit (.bool true)],args:=ds })
  (Bb:f.resultTypes=#[tb]) (u5:P.underlying tb=some .bool) (ht:∀ t∈f.params.toList,P.readableRec t=true∧t<P.types.size) (hb:Below W.heap.size W W') :
  s.post sv P f false true false false W args (.bool true) W':=by
 have bm:=hW.lt
 have hW':=hW
 obtain⟨p,q,hA,hV,T3,Xg,eZ⟩:=hW'
 rw[hv]at hV
 have hgq:gs=[]∧q=[]:=by
  cases gs with
  | nil=>exact⟨rfl,hV⟩
  | cons g r=>exact hV.elim
 obtain⟨rfl,rfl⟩:=hgq
 rw[List.append_nil]at T3
 subst T3
 have hold:∀ p∈before,(fun b=>decide (b<W.heap.size)) p.block=true:=fun p hp=>by simpa using bm p hp
 have eu:∀ sp:Nat→Bool,(∀ p∈before,sp p.block=true)→DataW.TrodAll sv P W' 0 sp true f.params.toList args.toList ds before:=fun sp FV=>oq hl hb sp ht hA bm FV
 have Tw:∀ (b:Nat) (sp:Nat→Bool) (hd:Bool),DataW.TrodAll sv P W' b sp hd f.resultTypes.toList ((Value.bool true).resultList f.resultTypes.size) [.lit (.bool true)] []:=by
  intro b sp hd
  rw[Bb]
  exact trodAll_mk1 (shut_bool u5 true)
 refine⟨ds,[],before,[],before,[],hW,?_,?_,?_,World.keptBut_mono (fun p hp=>⟨hp,?_⟩) (hb.frame (·∈before)),fun h=>by cases h⟩
 ·rw[Jr];exact Tw _ _ _
 ·rw[Jr];exact eu _ hold
 ·rw[Jr,hv];rfl
 ·exact .inr (by simpa using hp)
end
end Go.Proofs.YthnefnlhcijekaaGreat.Fw
namespace Go.Proofs.YthnefnlhcijekaaGreat.Fw
open Go Go.ChangeShapes Go.WideShapes Go.ChangeAt Go.RowKit
theorem Tx:laidOutB Tryz.prog=true:=by kernel_rfl
theorem Tz:mapsRowed Tryz.prog=true:=by kernel_rfl
theorem WO:Tryz.prog.plainKeys=true:=by kernel_rfl
theorem WQ:Tryz.prog.stopsHeard=true:=by kernel_rfl
theorem WR:Tryz.prog.mayEnter=true:=by kernel_rfl
theorem WS:Tryz.prog.liftsFinal=false:=by kernel_rfl
theorem Yl:Tryz.prog.make=some Rows.engineNilRow.make:=by kernel_rfl
theorem Ym:Kids Tryz.prog (·<Tryz.prog.types.size):=kids_rows Tx Tz
end Go.Proofs.YthnefnlhcijekaaGreat.Fw
