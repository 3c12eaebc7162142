/- The law BatchScripts holds at every input that its statement lets in; part 1 of its proof. -/
import Derived.Test.YthnefnlhcijekaaGreatMC6
set_option linter.unusedVariables false
set_option linter.unusedSimpArgs false
namespace Go.Proofs.YthnefnlhcijekaaGreat.En
open Go Go.RowKit Fw Hi Ce
section
variable {K:Kt} {m:Nat} {nm key:Nm} {w v:Int} {p:ay}
theorem adP:(dV K nm w).1.n=K.n/\(dV K nm w).1.now=K.now/\(dV K nm w).1.bk=K.bk:=by
 unfold dV;split
 .split <;> exact⟨rfl,rfl,rfl⟩
 .exact⟨rfl,rfl,rfl⟩
end
theorem ad6 {n b:Nat} (hn:n<=300000) (hb:b<=1000):n<=140737488355328/\n*b<=140737488355328 :=
 ⟨by omega,aaA (Nat.mul_le_mul hn hb) (by decide)⟩
abbrev adk:=Int×List UInt8×Int
def aNm (a:adk):Nm:=(a.1,a.2.1)
def ads (K:Kt) (a:adk):Kt×L1:=dV K (aNm a) a.2.2
def om:Kt->List adk->Kt×List L1
 | K,[]=>(K,[])
 | K,a::r=>((om (ads K a).1 r).1,(ads K a).2::(om (ads K a).1 r).2)
theorem adA (a:adk):∀ (l:List adk) (K:Kt),om K (l++[a])=((ads (om K l).1 a).1,(om K l).2++[(ads (om K l).1 a).2])
 | [],K=>rfl
 | b::r,K=>by rw[abp,om,adA a r (ads K b).1];rfl
theorem adB {l:List adk} {i:Nat} (d:adk) (h:i<l.length) (K:Kt):om K (l.take (i+1))=((ads (om K (l.take i)).1 (l.getD i d)).1,(om K (l.take i)).2++[(ads (om K (l.take i)).1 (l.getD i d)).2]):=by
 rw[aaE,Z1 h,ac4,adA,ZZ,Z1 h];rfl
theorem adl:∀ (l:List adk) (K:Kt),(om K l).2.length=l.length
 | [],_=>rfl
 | a::r,K=>by rw[om,Z9,Z9,adl r]
theorem Small.each:∀ (l:List adk) {K:Kt} {m:Nat},Small K m->Small (om K l).1 (m+l.length)
 | [],_,_,s=>s
 | a::r,K,m,s=>by
  have:=Small.each r (s.check (aNm a) a.2.2);rw[om,Z9];exact this.up (by omega)
def adp (l:List adk):Prop:=l.length=0\/8<l.length
instance (l:List adk):Decidable (adp l):=inferInstanceAs (Decidable (_\/_))
def adf (K:Kt) (l:List adk):Kt×List L1×Int:=if adp l then(K,[],1)else((om K l).1,(om K l).2,0)
def wo (t:L1):Bool:=!decide (t.1=0) || !t.2.1
def adj (K:Kt) (l:List adk):Kt×List L1×Bool×Int :=
 if adp l then(K,[],false,1)else if(om K l).2.any wo then(K,(om K l).2,false,0)else((om K l).1,(om K l).2,true,0)
theorem ad7 (x y:Nm):rT x y<0↔kQ x y:=by rw[<-sk];simp[ltOf]
theorem adZ (x y:Nm):rT x y=0↔x=y:=by
 have h:=(C6 x.2 y.2).2;unfold rT Ti.lY;constructor
 .intro h1
  by_cases ha:x.1<y.1
  .simp[ha]at h1
  .by_cases hb:y.1<x.1
   .simp[ha,hb]at h1
   .simp[ha,hb]at h1
    exact Prod.ext (by omega) (h.1 h1)
 .rintro rfl
  simp[h.2 rfl]
def adH (L:List Nm) (after:Nm) (aF:Int):List Nm:=(L.filter fun x=>decide (kQ after x)).take aF.toNat
def adh:List Nm->Nm->Nat
 | [],_=>0
 | a::r,x=>if kQ a x then adh r x+1 else 0
theorem adE:∀ (l:List Nm) (x:Nm),adh l x<=l.length
 | [],_=>Z8 _
 | a::r,x=>by
  unfold adh;split
  .exact Nat.succ_le_succ (adE r x)
  .exact aae _
theorem adF {x:Nm}:∀ {l:List Nm},l.Pairwise kQ->∀ j,j<l.length->(kQ (l.getD j (0,[])) x↔j<adh l x)
 | [],_,_,h=>absurd h (abW _)
 | a::r,hs,0,_=>by
  show kQ a x↔_;unfold adh;split
  .exact⟨fun _=>Nat.succ_pos _,fun _=>‹_›⟩
  .exact⟨fun h=>absurd h ‹_›,fun h=>absurd h (Nat.lt_irrefl _)⟩
 | a::r,hs,j+1,h=>by
  have rG:=abx.1 hs;have hj:j<r.length:=by simpa using h
  show kQ (r.getD j (0,[])) x↔_;have e:adh (a::r) x=if kQ a x then adh r x+1 else 0:=rfl;rw[adF rG.2 j hj,e];split
  .omega
  .rename_i hn
   refine⟨fun hc=>?_,fun hc=>absurd hc (abW _)⟩;exfalso;apply hn;have h1:=(adF rG.2 j hj).2 hc;have h2:kQ a (r.getD j (0,[])):=rG.1 _ (by rw[ZZ,Z1 hj];exact aax _);exact gj h2 h1
def adt (l:List Nm) (x:Nm):Bool:=decide (adh l x<l.length/\l.getD (adh l x) (0,[])=x)
theorem adx {x:Nm}:∀ {l:List Nm},l.Pairwise kQ->l.drop (if adt l x=true then adh l x+1 else adh l x)=l.filter fun y=>decide (kQ x y)
 | [],_=>by simp[adt,adh]
 | a::r,hs=>by
  have rG:=abx.1 hs;have ih:=adx (x:=x) rG.2;by_cases h:kQ a x
  .have e1:adh (a::r) x=adh r x+1:=by rw[adh,Z0 h]
   have e2:adt (a::r) x=adt r x:=by
    unfold adt;rw[e1,decide_eq_decide];show(adh r x+1<r.length+1/\r.getD (adh r x) (0,[])=x)↔_;rw[Nat.add_lt_add_iff_right]
   rw[e1,e2,List.filter_cons_of_neg (by simpa using pY h),<-ih];split <;> rfl
  .have e1:adh (a::r) x=0:=by rw[adh,ZY h]
   by_cases ha:a=x
   .subst ha
    have e2:adt (a::r) a=true:=by unfold adt;rw[e1];simp
    rw[e1,e2,Z0 rfl,List.filter_cons_of_neg (by simpa using ig a)];show r=_;exact(List.filter_eq_self.2 fun y hy=>by simpa using rG.1 y hy).symm
   .have hx:kQ x a:=aaG fun h2=>ha (jA h h2)
    have e2:adt (a::r) x=false:=by unfold adt;rw[e1];simp[ha]
    rw[e1,e2,ZY (by decide)];show a::r=_;refine(List.filter_eq_self.2 fun y hy=>?_).symm;rcases aaj.1 hy with e|h3
    .rw[e];simpa using hx
    .simpa using gj hx (rG.1 y h3)
end Go.Proofs.YthnefnlhcijekaaGreat.En
set_option maxRecDepth 8000
namespace Go.Proofs.YthnefnlhcijekaaGreat.En
open Go Go.RowKit Fw Hi Ce
abbrev adg:Ty:=.pair (.int .i64) (.pair .bool (.pair (.int .i64) (.pair (.int .i64) (.int .i64))))
abbrev aep:TypeId:=55
section
variable {K:Kt} {m m' c:Nat}
structure EaI (K:Kt) (l:List adk) (z:Nat×Nat×Kt×List L1):Prop where
 le:z.1<=l.length
 eq:om K (l.take z.1)=(z.2.2.1,z.2.2.2)
theorem adS (l:List adk) (h1:m<=999900) (h2:m+8<=m'):aa Tryz.prog 19 [.ptr 0 0,.aL Zj fun _=>l] [.bq (nn K m c)] (Y:=Nat) (fun _=>True)
  (fun _=>.bQ [.aL adg fun _=>(adf K l).2.1,.I ((adf K l).2.2)]) (fun c'=>[.bq (nn (adf K l).1 m' c')]):=by
 have Pz:Tryz.t55.bytes<=1000:=by decide
 by_cases hb:adp l
 .have e:adf K l=(K,[],1):=by unfold adf;rw[Z0 hb]
  unfold adp at hb;rw[e];(refine aa.q Tryz.func19 rfl fun S aw=>Wa _ ?_;(repeat' first|exact tv|apply pr|intro hh));all_goals try (exfalso;omega)
  all_goals refine ae.bq 0 (nn K m c) (nn K m' c) rfl (Vq (by omega)) ?_
  all_goals exact ae.z c [0]
 have e:adf K l=((om K l).1,(om K l).2,0):=by unfold adf;rw[ZY hb]
 unfold adp at hb;rw[e];(refine aa.q Tryz.func19 rfl fun S aw=>Wa _ ?_;(repeat' first|exact tv|apply pr|intro hh));all_goals try (exfalso;omega)
 refine aM.nil aep adg none [6] ?_;refine aM.intro hm (X:=Nat×Nat×Kt×List L1) (EaI K l) (fun z=>l.length - z.1)
  (fun z=>[(0,.ptr 0 0),(21,.aL Zj fun _=>l),(22,.I (l.length:Int)),(23,.I (z.1:Int)),(6,.vec 1 5 (fun _=>0) fun _=>z.2.2.2.length)])
  (fun z=>[.bq (nn z.2.2.1 (m+z.1) z.2.1),.aq aep adg fun _=>z.2.2.2]) (0,c,K,[]) [0,1] ⟨rfl,rfl,?_,?_⟩ ⟨aae _,rfl⟩ ?_
 .exact Vc
 .exact Vc
 rintro⟨i,c1,afw,out⟩ hI;have hi:=hI.le;have he:=hI.eq;simp only[]at hi he;have D8:out.length=i:=by
  have:=adl (l.take i) K;rw[he,aak]at this;simp only[]at this;omega
 by_cases dp:i<l.length
 .have Wi:=Vo (K:=afw) (m:=m+i) (m':=m+(i+1)) (c:=c1) (aNm (l.getD i Zj.bA)) (l.getD i Zj.bA).2.2 (by omega) (by omega)
  have fR:=adB Zj.bA dp K;rw[he]at fR;(refine Wa _ ?_;(repeat' first|exact tv|apply pr|intro hh));all_goals first|exact Ob.mk ⟨by simp only[];omega,by simp only[];omega⟩|(exfalso;omega)|skip
  refine ab.q Wi [0] ?_;rintro c2 _;refine Wp _ ?_;repeat' first|exact tv|apply pr|intro hh
  .refine Ob.mk ⟨rfl,ad6 ?_ Pz⟩
   show out.length+1<=300000;omega
  all_goals refine⟨(i+1,c2,(dV afw (aNm (l.getD i Zj.bA)) (l.getD i Zj.bA).2.2).1,out++[(dV afw (aNm (l.getD i Zj.bA)) (l.getD i Zj.bA).2.2).2]),[0,1],⟨rfl,rfl,?_,?_⟩,⟨dp,fR⟩,by show _ - (i+1)<_ - i;omega⟩
  all_goals refine Vb _ ?_;repeat' first|exact tv|apply pr
  all_goals first|(rw[wr (by omega)];omega)|(rw[Z6 (Z8 _)];rfl)|(rw[aab];rfl)|skip
 have IL:i=l.length:=by omega
 subst IL;rw[aac]at he;rw[he];(refine Wa _ ?_;(repeat' first|exact tv|apply pr|intro hh));all_goals try (exfalso;omega)
 refine ae.bq 0 (nn afw (m+l.length) c1) (nn afw m' c1) rfl (Vq (by omega)) ?_;(refine ae.gU 1 ?_;(conv=>whnf));(refine ae.w c1 [0] _ ?_;(repeat' first|exact tv|apply pr));rw[aah,aac]
theorem ad8 (t:L1):MU Tryz.prog 48 [Ih t] [] (.bool fun _=>wo t) []:=by
 (refine aa.q Tryz.func48 rfl fun S aw=>Wa _ ?_;(repeat' first|exact tv|apply pr|intro hh));all_goals refine ae.w () [] _ ?_;repeat' first|exact tv|apply pr
 all_goals (unfold wo;simp_all)
theorem ad9 (l:List L1) (hl:l.length<=1000):aa Tryz.prog 102 [.aL adg fun _=>l,.fn (.func 48) [] []] [] (Y:=Int) (fun y=>decide (0<=y)=l.any wo)
  (fun y=>.int .i64 fun _=>y) (fun _=>[]):=by
 (refine aa.q Tryz.func102 rfl fun S aw=>Wa _ ?_;(repeat' first|exact tv|apply pr|intro hh));refine aM.intro hm (X:=Nat) (fun i=>i<=l.length/\(l.take i).any wo=false) (fun i=>l.length - i)
  (fun i=>[(8,.I (i:Int)),(7,.I (l.length:Int)),(6,.aL adg fun _=>l),(0,.aL adg fun _=>l),(1,.fn (.func 48) [] [])])
  (fun i=>[]) 0 [] ⟨rfl,rfl,?_,?_⟩ ⟨aae _,rfl⟩ ?_
 .exact Vc
 .exact Vc
 rintro i ⟨hi,ha⟩;(refine Wa _ ?_;(repeat' first|exact tv|apply pr|intro hh));all_goals try exact Ob.mk ⟨by simp only[];omega,by simp only[];omega⟩
 .have dp:i<l.length:=by omega
  have hg:l.getD i adg.bA∈l:=by rw[ZZ,Z1 dp];exact aax _
  have uu:(l.take (i+1)).any wo=wo (l.getD i adg.bA):=by
   rw[aaE,Z1 dp,ac4,List.any_append,ha,ZZ,Z1 dp];simp
  refine ab.q (ad8 (l.getD i adg.bA)) [] fun _ _=>Wp _ ?_;repeat' first|exact tv|apply pr|intro hh
  .refine ae.w (i:Int) [] _ ?_;repeat' first|exact tv|apply pr
   rw[decide_eq_true (by omega)];exact(List.any_eq_true.2 ⟨_,hg,hh⟩).symm
  .refine⟨i+1,[],⟨rfl,rfl,?_,?_⟩,⟨by show i+1<=_;omega,uu.trans hh⟩,by omega⟩
   .exact Vc
   .refine Vb _ ?_;repeat' first|exact tv|apply pr
    rw[wr (by omega)];omega
 .have IL:i=l.length:=by omega
  subst IL;rw[aac]at ha;(refine ae.w (-1) [] _ ?_;(repeat' first|exact tv|apply pr));rw[ha];rfl
theorem adI (l:List L1) (hl:l.length<=1000):MU Tryz.prog 47 [.aL adg fun _=>l,.fn (.func 48) [] []] [] (.bool fun _=>l.any wo) []:=by
 (refine aa.q Tryz.func47 rfl fun S aw=>Wa _ ?_;(repeat' first|exact tv|apply pr|intro hh));(refine ab.q (ad9 l hl) [] ?_;rintro y hy;refine Wp _ ?_;(repeat' first|exact tv|apply pr|intro hh));all_goals refine ae.w () [] _ ?_;repeat' first|exact tv|apply pr
 exact hy
theorem aeA (l:List adk) (h1:m<=999800) (h2:m+8<=m'):aa Tryz.prog 20 [.ptr 0 0,.aL Zj fun _=>l] [.bq (nn K m c)] (Y:=Nat) (fun _=>True)
  (fun _=>.bQ [.aL adg fun _=>(adj K l).2.1,.bool fun _=>(adj K l).2.2.1,.I ((adj K l).2.2.2)]) (fun c'=>[.bq (nn (adj K l).1 m' c')]):=by
 have hea:=fun c=>adS (K:=K) (m:=m) (m':=m') (c:=c) l (by omega) h2;by_cases hb:adp l
 .have e:adj K l=(K,[],false,1):=by unfold adj;rw[Z0 hb]
  have e2:adf K l=(K,[],1):=by unfold adf;rw[Z0 hb]
  simp only[e2]at hea;rw[e];(refine aa.q Tryz.func20 rfl fun S aw=>Wa _ ?_;(repeat' first|exact tv|apply pr|intro hh));(refine ab.q (W4 (K:=K) (m:=m) (c:=c)) [0] ?_;rintro d _;refine Wp _ ?_;(repeat' first|exact tv|apply pr|intro hh));(refine ab.q (hea d) [1] ?_;rintro d2 _;refine Wp _ ?_;(repeat' first|exact tv|apply pr|intro hh));all_goals refine ae.bq 0 (nn K m c) (nn K m' c) rfl (Vq (by omega)) ?_
  all_goals exact ae.z c [0]
 have e2:adf K l=((om K l).1,(om K l).2,0):=by unfold adf;rw[ZY hb]
 have La:=adl l K;simp only[e2]at hea;have O8:=adI (om K l).2 (by unfold adp at hb;omega);cases ha:(om K l).2.any wo with
 | true =>
  have e:adj K l=(K,(om K l).2,false,0):=by unfold adj;rw[ZY hb,ha];rfl
  rw[ha]at O8;rw[e];(refine aa.q Tryz.func20 rfl fun S aw=>Wa _ ?_;(repeat' first|exact tv|apply pr|intro hh));(refine ab.q (W4 (K:=K) (m:=m) (c:=c)) [0] ?_;rintro d _;refine Wp _ ?_;(repeat' first|exact tv|apply pr|intro hh));(refine ab.q (hea d) [1] ?_;rintro d2 _;refine Wp _ ?_;(repeat' first|exact tv|apply pr|intro hh));all_goals refine ab.q O8 [] fun _ _=>Wp _ ?_;repeat' first|exact tv|apply pr|intro hh
  all_goals refine ae.bq 0 (nn K m c) (nn K m' c) rfl (Vq (by omega)) ?_
  all_goals exact ae.z c [0]
 | false =>
  have e:adj K l=((om K l).1,(om K l).2,true,0):=by unfold adj;rw[ZY hb,ha];rfl
  rw[ha]at O8;rw[e];(refine aa.q Tryz.func20 rfl fun S aw=>Wa _ ?_;(repeat' first|exact tv|apply pr|intro hh));(refine ab.q (W4 (K:=K) (m:=m) (c:=c)) [0] ?_;rintro d _;refine Wp _ ?_;(repeat' first|exact tv|apply pr|intro hh));(refine ab.q (hea d) [1] ?_;rintro d2 _;refine Wp _ ?_;(repeat' first|exact tv|apply pr|intro hh));all_goals refine ab.q O8 [] fun _ _=>Wp _ ?_;repeat' first|exact tv|apply pr|intro hh
  all_goals refine ab.q (hea c) [0] ?_;rintro d3 _;refine Wp _ ?_;repeat' first|exact tv|apply pr|intro hh
  all_goals exact ae.z d3 [0]
theorem ady (x y:Nm):MU Tryz.prog 49 [zB x,zB y] [] (.I (rT x y)) []:=by
 (refine aa.q Tryz.func49 rfl fun S aw=>Wa _ ?_;(repeat' first|exact tv|apply pr|intro hh));(refine ab.q (Ti.tB x.1 y.1) [] fun _ _=>Wp _ ?_;(repeat' first|exact tv|apply pr|intro hh));all_goals refine ab.q (KR x.2 y.2) [] fun _ _=>Wp _ ?_;repeat' first|exact tv|apply pr|intro hh
 all_goals refine ab.q (Ti.orM (Ti.lY x.1 y.1) (p8 x.2 y.2)) [2] fun _ _=>Wp _ ?_;repeat' first|exact tv|apply pr|intro hh
 all_goals exact ae.z () []
theorem aeY (l:List Nm) (hs:l.Pairwise kQ) (hl:l.length<=1000) (x:Nm):MU Tryz.prog 53 [.aL uR fun _=>l,zB x,.fn (.func 49) [] []] [] (.bQ [.I (adh l x:Int),.bool fun _=>adt l x]) []:=by
 have ES:=adE l x;(refine aa.q Tryz.func53 rfl fun S aw=>Wa _ ?_;(repeat' first|exact tv|apply pr|intro hh));refine aM.intro hm (X:=Nat×Nat) (fun z=>z.1<=adh l x/\adh l x<=z.2/\z.2<=l.length) (fun z=>z.2 - z.1)
  (fun z=>[(0,.aL uR fun _=>l),(2,.fn (.func 49) [] []),(4,.ptr 0 0),(8,.I (l.length:Int)),(9,.I (z.1:Int)),(10,.I (z.2:Int))])
  (fun z=>[.cells 24 [.I x.1,.str fun _=>x.2]]) (0,l.length) [0] ⟨rfl,rfl,?_,?_⟩ ⟨aae _,ES,Z8 _⟩ ?_
 .exact Vc
 .exact Vc
 rintro⟨a,b⟩ ⟨h1,h2,h3⟩;simp only[]at h1 h2 h3;by_cases rB:a<b
 .have aeZ:IntKind.i64.wrap (Int.fdiv (IntKind.u64.wrap (IntKind.i64.wrap ((a:Int)+(b:Int)))) (2 ^ min (Int.toNat 1) IntKind.u64.bits))=(((a+b) / 2:Nat):Int):=by
   rw[wr (x:=(a:Int)+(b:Int)) (by omega),uQ (by omega)];show IntKind.i64.wrap (Int.fdiv ((a:Int)+(b:Int)) 2)=_;rw[abA _ (by omega),wr (by omega)];omega
  have hm1:a<=(a+b) / 2/\(a+b) / 2<b:=by omega
  have IB:=adF (x:=x) hs ((a+b) / 2) (by omega);have hcp:=ad7 (l.getD ((((a+b) / 2:Nat):Int)).toNat uR.bA) x;(refine Wa _ ?_;(repeat' first|exact tv|apply pr|intro hh));all_goals try (exfalso;omega)
  all_goals simp only[aeZ]
  all_goals first|exact Ob.mk (by decide)|exact Ob.mk ⟨by omega,by omega⟩|skip
  refine ab.q (ady (l.getD ((((a+b) / 2:Nat):Int)).toNat uR.bA) x) [] fun _ _=>Wp _ ?_;repeat' first|exact tv|apply pr|intro hh
  .refine⟨((a+b) / 2+1,b),[0],⟨rfl,rfl,?_,?_⟩,⟨IB.1 (hcp.1 hh),h2,h3⟩,by show b - ((a+b) / 2+1)<b - a;omega⟩
   .exact Vc
   .refine Vb _ ?_;repeat' first|exact tv|apply pr
    rw[wr (by omega)];omega
  .refine⟨(a,(a+b) / 2),[0],⟨rfl,rfl,?_,?_⟩,⟨h1,Nat.not_lt.1 fun h=>hh (hcp.2 (IB.2 h)),by show(a+b) / 2<=_;omega⟩,by show(a+b) / 2 - a<b - a;omega⟩
   .exact Vc
   .exact Vc
 .have WX:a=adh l x:=by omega
  subst WX;have II:=adZ (l.getD ((adh l x:Int)).toNat uR.bA) x;(refine Wa _ ?_;(repeat' first|exact tv|apply pr|intro hh));all_goals first|(exfalso;omega)|exact Ob.mk ⟨by simp only[];omega,by simp only[];omega⟩|skip
  .refine ab.q (ady (l.getD ((adh l x:Int)).toNat uR.bA) x) [] fun _ _=>Wp _ ?_;repeat' first|exact tv|apply pr|intro hh
   (refine ae.w () [] _ ?_;(repeat' first|exact tv|apply pr));unfold adt;rw[abX,beq_iff_eq,decide_eq_true_eq,II];exact⟨fun h=>⟨by omega,h⟩,fun h=>h.2⟩
  .refine ae.w () [] _ ?_;repeat' first|exact tv|apply pr
   unfold adt;exact decide_eq_false fun h=>by omega
theorem adJ (i n:Nat) (aF:Int) (h1:i<=10000) (h2:n<=10000):(if IntKind.i64.wrap ((i:Int)+(if(n:Int)<(if 0>aF then 0 else aF)then(n:Int)else(if 0>aF then 0 else aF)))<(n:Int)then IntKind.i64.wrap ((i:Int)+(if(n:Int)<(if 0>aF then 0 else aF)then(n:Int)else(if 0>aF then 0 else aF)))else(n:Int))
  = ((min (i+min aF.toNat n) n:Nat):Int):=by
 have e:(if(n:Int)<(if 0>aF then 0 else aF)then(n:Int)else(if 0>aF then 0 else aF))=((min aF.toNat n:Nat):Int):=by
  by_cases h:0>aF
  .rw[Z0 h,ZY (by omega)];omega
  .rw[ZY h];split <;> omega
 rw[e,wr (by omega)];split <;> omega
theorem adK (l:List Nm) (i:Nat) (aF:Int) (hi:i<=l.length):List.drop i (List.take (min (i+min aF.toNat l.length) l.length) l)=(l.drop i).take aF.toNat:=by
 rw[List.drop_take,List.take_eq_take_iff,aar];omega
theorem aex (after:Nm) (aF:Int) (C3:-9223372036854775808<=aF/\aF<=9223372036854775807) (Qi:(eD K).Pairwise kQ):MU Tryz.prog 21 [.ptr 0 0,zB after,.I aF] [.bq (nn K m c)] (.aL uR fun _=>adH (eD K) after aF) [.bq (nn K m c)]:=by
 have had:=adx (x:=after) Qi;have ES:=adE (eD K) after;(refine aa.q Tryz.func21 rfl fun S aw=>Wa _ ?_;(repeat' first|exact tv|apply pr|intro hh));(refine ab.q (Vp (K:=K) (m:=m) (c:=c)) [0] ?_;rintro _ ⟨⟨q1,q2⟩,q3⟩;refine Wp _ ?_;(repeat' first|exact tv|apply pr|intro hh));have Az:=aeY (eD K) Qi (by omega) after;cases kj:adt (eD K) after with
 | true =>
  rw[kj]at Az had;rw[Z0 rfl]at had;have bf:adh (eD K) after<(eD K).length:=(of_decide_eq_true (show decide (_/\_)=true from kj)).1;have ei:IntKind.i64.wrap ((adh (eD K) after:Int)+1)=((adh (eD K) after+1:Nat):Int):=by rw[wr (by omega)];omega
  have afx:=adJ (adh (eD K) after+1) (eD K).length aF (by omega) (by omega);have ec:=adK (eD K) (adh (eD K) after+1) aF (by omega);(refine ab.q Az [] fun _ _=>Wp _ ?_;(repeat' first|exact tv|apply pr|intro hh));all_goals simp only[ei,afx]
  .exact Ob.mk ⟨by omega,by omega,by omega⟩
  .refine ae.w () [0] _ ?_;repeat' first|exact tv|apply pr
   rw[adH,<-had,Z4,Z4,ec]
 | false =>
  rw[kj]at Az had;rw[ZY (by decide)]at had;have afx:=adJ (adh (eD K) after) (eD K).length aF (by omega) (by omega);have ec:=adK (eD K) (adh (eD K) after) aF (by omega);(refine ab.q Az [] fun _ _=>Wp _ ?_;(repeat' first|exact tv|apply pr|intro hh));all_goals simp only[afx]
  .exact Ob.mk ⟨by omega,by omega,by omega⟩
  .refine ae.w () [0] _ ?_;repeat' first|exact tv|apply pr
   rw[adH,<-had,Z4,Z4,ec]
end
end Go.Proofs.YthnefnlhcijekaaGreat.En
set_option maxRecDepth 8000
namespace Go.Proofs.YthnefnlhcijekaaGreat.En
open Go Go.RowKit Fw Hi Ce
abbrev adm:Ty:=.pair (.int .i64) (.pair (.list Zj) (.pair (.int .i64) UI))
abbrev OpB:=Int×List adk×Int×ay
theorem aea (a b:List L1) (ha:a.length<=100000):MU Tryz.prog 26 [.aL adg fun _=>a,.aL adg fun _=>b] [] (.bool fun _=>decide (a=b)) []:=by
 refine aa.q Tryz.func26 rfl fun S aw=>Wa _ ?_;repeat' first|exact tv|apply pr|intro hh
 .refine ae.w () [] _ ?_;repeat' first|exact tv|apply pr
  exact decide_eq_false fun e=>‹¬_› (by rw[e])
 refine aM.intro hm (X:=Nat) (fun i=>i<=a.length/\a.take i=b.take i) (fun i=>a.length - i)
  (fun i=>[(0,.aL adg fun _=>a),(1,.aL adg fun _=>b),(5,.I (i:Int))]) (fun i=>[]) 0 [] ⟨rfl,rfl,?_,?_⟩ ⟨aae _,rfl⟩ ?_
 .exact Vc
 .exact Vc
 rintro i ⟨hi,ht⟩;have rB:a.length=b.length:=by omega
 (refine Wa _ ?_;(repeat' first|exact tv|apply pr|intro hh));all_goals first|exact Ob.mk ⟨by simp only[];omega,by simp only[];omega⟩|skip
 .have hx:=(Gk _ rfl _ _).1 ‹_=false›
  (refine ae.w () [] _ ?_;(repeat' first|exact tv|apply pr));exact(decide_eq_false fun e=>hx (by rw[e]))
 .have hx:=(mF _ rfl _ _).1 ‹_=true›
  refine⟨i+1,[],⟨rfl,rfl,?_,?_⟩,⟨by show i+1<=_;omega,?_⟩,by show _ - (i+1)<_ - i;omega⟩
  .exact Vc
  .refine Vb _ ?_;repeat' first|exact tv|apply pr
   rw[wr (by omega)];omega
  .simp only[Z4]at hx
   exact wG (d:=adg.bA) (by omega) (by omega) ht hx
 .have e:i=a.length:=by omega
  subst e;rw[aac,Z6 (by omega)]at ht;(refine ae.w () [] _ ?_;(repeat' first|exact tv|apply pr));exact decide_eq_true ht
def okB (o:OpB):Prop:=o.2.1.length<=12/\∀ a∈o.2.1,a.2.1.length<=60
instance (o:OpB):Decidable (okB o):=inferInstanceAs (Decidable (_/\_))
def aeq (l:List OpB) (aF:Int):Prop:=(l.length:Int)<=aF/\∀ o∈l,okB o
instance (l:List OpB) (aF:Int):Decidable (aeq l aF):=inferInstanceAs (Decidable (_/\_))
theorem getD_in {α:Type} {l:List α} {i:Nat} (d:α) (h:i<l.length):l.getD i d∈l:=by rw[ZZ,Z1 h];exact aax _
theorem adL {α:Type} {l:List α} {p:α->Prop} (d:α) (h:∀ j,j<l.length->p (l.getD j d)):∀ o∈l,p o:=fun o ho=>by
 obtain⟨j,hj⟩:=aaa.1 ho;have:=h j (Z2.1 hj).1;rw[ZZ,hj]at this;exact this
theorem aeN (l:List OpB) (aF:Int) (dJ:aF<=1000):MU Tryz.prog 17 [.aL adm fun _=>l,.I aF] [] (.bool fun _=>decide (aeq l aF)) []:=by
 by_cases h0:(l.length:Int)<=aF;rotate_left
 .rw[decide_eq_false fun h=>h0 h.1]
  (refine aa.q Tryz.func17 rfl fun S aw=>Wa _ ?_;(repeat' first|exact tv|apply pr|intro hh));all_goals try (exfalso;omega)
  all_goals exact ae.z () []
 (refine aa.q Tryz.func17 rfl fun S aw=>Wa _ ?_;(repeat' first|exact tv|apply pr|intro hh));all_goals try (exfalso;omega)
 refine aM.intro hm (X:=Nat) (fun i=>i<=l.length/\∀ j,j<i->okB (l.getD j adm.bA)) (fun i=>l.length - i)
  (fun i=>[(0,.aL adm fun _=>l),(5,.I (i:Int))]) (fun i=>[]) 0 [] ⟨rfl,rfl,?_,?_⟩ ⟨aae _,fun j hj=>absurd hj (abW j)⟩ ?_
 .exact Vc
 .exact Vc
 rintro i ⟨hi,jG⟩;by_cases dp:i<l.length;rotate_left
 .have IL:i=l.length:=by omega
  subst IL;rw[decide_eq_true (show aeq l aF from⟨h0,adL adm.bA jG⟩)];(refine Wa _ ?_;(repeat' first|exact tv|apply pr|intro hh));all_goals try (exfalso;omega)
  exact ae.z () []
 have C3:=getD_in adm.bA dp;by_cases Qp:(l.getD ((i:Int)).toNat adm.bA).2.1.length<=12;rotate_left
 .rw[decide_eq_false fun h=>Qp (h.2 _ C3).1]
  (refine Wa _ ?_;(repeat' first|exact tv|apply pr|intro hh));all_goals first|exact Ob.mk ⟨by simp only[];omega,by simp only[];omega⟩|(exfalso;omega)|skip
  exact ae.z () []
 (refine Wa _ ?_;(repeat' first|exact tv|apply pr|intro hh));all_goals first|exact Ob.mk ⟨by simp only[];omega,by simp only[];omega⟩|(exfalso;omega)|skip
 refine aM.intro hm (X:=Nat) (fun k=>k<=(l.getD ((i:Int)).toNat adm.bA).2.1.length/\∀ j,j<k->((l.getD ((i:Int)).toNat adm.bA).2.1.getD j Zj.bA).2.1.length<=60) (fun k=>(l.getD ((i:Int)).toNat adm.bA).2.1.length - k)
  (fun k=>[(0,.aL adm fun _=>l),(5,.I (i:Int)),(6,.I (k:Int))]) (fun k=>[]) 0 [] ⟨rfl,rfl,?_,?_⟩ ⟨aae _,fun j hj=>absurd hj (abW j)⟩ ?_
 .exact Vc
 .exact Vc
 rintro k ⟨hk,hka⟩;(refine Wa _ ?_;(repeat' first|exact tv|apply pr|intro hh));all_goals first|exact Ob.mk ⟨by simp only[];omega,by simp only[];omega⟩|skip
 .have Af:=getD_in Zj.bA (show k<(l.getD ((i:Int)).toNat adm.bA).2.1.length by omega)
  rw[decide_eq_false fun h=>absurd ((h.2 _ C3).2 _ Af) (by have:=hh;simp only[Z4]at this ⊢;omega)];exact ae.z () []
 .refine⟨k+1,[],⟨rfl,rfl,?_,?_⟩,⟨by show k+1<=_;omega,fun j hj=>?_⟩,by show _ - (k+1)<_ - k;omega⟩
  .exact Vc
  .refine Vb _ ?_;repeat' first|exact tv|apply pr
   rw[wr (by omega)];omega
  .by_cases e:j=k
   .subst e
    have:=hh;simp only[Z4]at this ⊢;omega
   .exact hka j (by omega)
 .have Wu:k=(l.getD ((i:Int)).toNat adm.bA).2.1.length:=by omega
  subst Wu;refine⟨i+1,[],⟨rfl,rfl,?_,?_⟩,⟨by show i+1<=_;omega,fun j hj=>?_⟩,by show _ - (i+1)<_ - i;omega⟩
  .exact Vc
  .refine Vb _ ?_;repeat' first|exact tv|apply pr
   rw[wr (by omega)];omega
  .by_cases e:j=i
   .subst e;exact⟨Qp,adL Zj.bA hka⟩
   .exact jG j (by omega)
def lbP:ay:=(2,2,10,0)
def lbK (L:Hs):Kt:=⟨9,0,LV.set 0 (true,lbP,1),L⟩
def lbB:Hs:=[((0,[97]),[(0,1)]),((0,[98]),[(0,1)])]
def lbC:Hs:=[((0,[97]),[(0,1),(0,1)]),((0,[98]),[(0,1)]),((0,[99]),[(0,2)])]
def a97 (n:Int):adk:=(0,[97],n)
theorem lb1:qQ (W6 9) 0 lbP=(lbK [],1,0):=by kernel_rfl
theorem lb2:adj (lbK []) [a97 1,a97 2]=(lbK [],(om (lbK []) [a97 1,a97 2]).2,false,0):=by kernel_rfl
theorem lb3:adf (lbK []) [a97 1,a97 2,(0,[98],1)]=(lbK lbB,(om (lbK []) [a97 1,a97 2,(0,[98],1)]).2,0):=by kernel_rfl
theorem lb4:adj (lbK lbB) [a97 1,(0,[99],2)]=(lbK lbC,(om (lbK lbB) [a97 1,(0,[99],2)]).2,true,0):=by kernel_rfl
theorem lb5:adf (lbK lbC) []=(lbK lbC,[],1):=by kernel_rfl
theorem lb6:adH (eD (lbK lbC)) (0,[]) 2=[(0,[97]),(0,[98])]:=by kernel_rfl
theorem lb7:adH (eD (lbK lbC)) (0,[98]) 2=[(0,[99])]:=by kernel_rfl
theorem lb8:(eD (lbK lbC)).Pairwise kQ:=by
 have e:eD (lbK lbC)=[(0,[97]),(0,[98]),(0,[99])]:=by kernel_rfl
 rw[e];decide
end Go.Proofs.YthnefnlhcijekaaGreat.En
set_option maxRecDepth 8000
namespace Go.Proofs.YthnefnlhcijekaaGreat.En
open Go Go.RowKit Fw Hi Ce
def lt1:List L1:=[(0,true,1,0,10),(0,false,1,10,10)]
def lt2:List L1:=[(0,true,1,0,10),(0,false,1,10,10),(0,true,1,0,10)]
def lt3:List L1:=[(0,true,0,0,10),(0,true,0,0,10)]
theorem le1:(om (lbK []) [a97 1,a97 2]).2=lt1:=by kernel_rfl
theorem le2:(om (lbK []) [a97 1,a97 2,(0,[98],1)]).2=lt2:=by kernel_rfl
theorem le3:(om (lbK lbB) [a97 1,(0,[99],2)]).2=lt3:=by kernel_rfl
set_option maxHeartbeats 1000000 in
theorem adG:MU Tryz.prog 18 [] [] .tt []:=by
 have h1:=fun c=>Zh (K:=W6 9) (m:=0) (m':=1) (c:=c) 0 lbP (by omega);have h2:=fun c=>aeA (K:=lbK []) (m:=1) (m':=9) (c:=c) [a97 1,a97 2] (by omega) (by omega);have h3:=fun c=>adS (K:=lbK []) (m:=9) (m':=17) (c:=c) [a97 1,a97 2,(0,[98],1)] (by omega) (by omega);have h4:=fun c=>aeA (K:=lbK lbB) (m:=17) (m':=25) (c:=c) [a97 1,(0,[99],2)] (by omega) (by omega);have h5:=fun c=>adS (K:=lbK lbC) (m:=25) (m':=33) (c:=c) [] (by omega) (by omega);have h6:=fun c=>aex (K:=lbK lbC) (m:=33) (c:=c) (0,[]) 2 (by omega) lb8;have h7:=fun c=>aex (K:=lbK lbC) (m:=33) (c:=c) (0,[98]) 2 (by omega) lb8;simp only[lb1]at h1;simp only[lb2,le1]at h2;simp only[lb3,le2]at h3;simp only[lb4,le3]at h4;simp only[lb5]at h5;simp only[lb6]at h6;simp only[lb7]at h7;unfold lt1 at h2;unfold lt2 at h3;unfold lt3 at h4;(refine aa.q Tryz.func18 rfl fun S aw=>Wa _ ?_;(repeat' first|exact tv|apply pr|intro hh));(refine ab.q (Zi 9 0 (by omega)) [] fun _ _=>Wp _ ?_;(repeat' first|exact tv|apply pr|intro hh));(refine ab.q (h1 0) [0] ?_;rintro c1 _;refine Wp _ ?_;(repeat' first|exact tv|apply pr|intro hh));refine ab.gU 1 ?_ (h2 c1).aA;(conv=>whnf);(refine ab.q (h2 c1) [0] ?_;rintro c2 _;refine Wp _ ?_;(repeat' first|exact tv|apply pr|intro hh));refine ab.gU 2 ?_ (h3 c2).aA;(conv=>whnf);(refine ab.q (h3 c2) [0] ?_;rintro c3 _;refine Wp _ ?_;(repeat' first|exact tv|apply pr|intro hh));refine ab.gU 3 ?_ (h4 c3).aA;(conv=>whnf);(refine ab.q (h4 c3) [0] ?_;rintro afy _;refine Wp _ ?_;(repeat' first|exact tv|apply pr|intro hh));(refine ab.q (h5 afy) [0] ?_;rintro afz _;refine Wp _ ?_;(repeat' first|exact tv|apply pr|intro hh));(refine ab.q (h6 afz) [0] fun _ _=>Wp _ ?_;(repeat' first|exact tv|apply pr|intro hh));(refine ab.q (h7 afz) [0] fun _ _=>Wp _ ?_;(repeat' first|exact tv|apply pr|intro hh));exact ae.z () []
end Go.Proofs.YthnefnlhcijekaaGreat.En
set_option maxRecDepth 8000
namespace Go.Proofs.YthnefnlhcijekaaGreat.En
open Go Go.RowKit Fw Hi Ce
theorem adr (bk:List bM) (h:ni bk):MU Tryz.prog 146 [.aL c7 fun _=>bk] [] .tt []:=by
 have hl:=h.len;refine aa.q Tryz.func146 rfl fun S aw=>Wa _ ?_;repeat' first|exact tv|apply pr|intro hh
 .omega
 refine aM.intro hm (X:=Nat) (fun i=>i<=8) (fun i=>8 - i)
  (fun i=>[(3,.I (i:Int)),(0,.aL c7 fun _=>bk)]) (fun i=>[]) 0 [] ⟨rfl,rfl,?_,?_⟩ (aae _) ?_
 .exact Vc
 .exact Vc
 intro i hi;by_cases h8:i<8
 .have hv:=H2 h (id:=i) (by omega)
  have ho:=Kw h (id:=i) (by omega);have e1:aX bk (i:Int)=bk.getD i c7.bA:=by unfold aX;rw[Z4];rfl
  rw[e1]at hv ho;obtain⟨on,p,v,hb⟩:∃ on p v,bk.getD i c7.bA=(on,p,v):=⟨_,_,_,rfl⟩
  rw[hb]at hv ho;rw[oz]at ho;simp only[]at hv;rw[ZY (by omega)]at ho;have mC:bk.getD ((i:Int)).toNat c7.bA=(on,p,v):=by rw[Z4];exact hb
  have f1:(bk.getD ((i:Int)).toNat c7.bA).1=on:=by rw[mC]
  have f2:(bk.getD ((i:Int)).toNat c7.bA).2.1=p:=by rw[mC]
  have f3:(bk.getD ((i:Int)).toNat c7.bA).2.2=v:=by rw[mC]
  cases on with
  | true =>
   simp only[if_true,Bool.or_eq_false_iff,decide_eq_false_iff_not,Bool.not_eq_false',decide_eq_true_eq]at ho;have qU:=Po.CJ (bk.getD ((i:Int)).toNat c7.bA).2.1;rw[f2,Z0 ho.2,<-f2]at qU;(refine Wa _ ?_;(repeat' first|exact tv|apply pr|intro hh));all_goals first|exact Ob.mk ⟨by simp only[];omega,by simp only[];omega⟩|(exfalso;omega)|(exfalso;simp_all;done)|skip
   all_goals refine ab.q qU [] fun _ _=>Wp _ ?_;repeat' first|exact tv|apply pr|intro hh
   all_goals first|exact Ob.mk ⟨by simp only[];omega,by simp only[];omega⟩|(exfalso;omega)|(exfalso;simp_all;done)|skip
   refine⟨i+1,[],⟨rfl,rfl,?_,?_⟩,by omega,by omega⟩
   .exact Vc
   .refine Vb _ ?_;repeat' first|exact tv|apply pr
    rw[wr (by omega)];omega
  | false =>
   rw[ZY (by simp)]at ho;simp only[Bool.not_eq_false',decide_eq_true_eq]at ho;(refine Wa _ ?_;(repeat' first|exact tv|apply pr|intro hh));all_goals first|exact Ob.mk ⟨by simp only[];omega,by simp only[];omega⟩|(exfalso;omega)|(exfalso;simp_all;done)|skip
   .exact absurd (by rw[mC,ho]) ((Gk _ rfl _ _).1 hh)
   refine⟨i+1,[],⟨rfl,rfl,?_,?_⟩,by omega,by omega⟩
   .exact Vc
   .refine Vb _ ?_;repeat' first|exact tv|apply pr
    rw[wr (by omega)];omega
 .refine Wa _ ?_;repeat' first|exact tv|apply pr|intro hh
  all_goals try (exfalso;omega)
  exact ae.z () []
theorem aeb (bk:List bM) (h:ni bk) (id:Int):MU Tryz.prog 90 [.aL c7 fun _=>bk,.I id] [] (.bQ [aI (nj bk id).1,.I ((nj bk id).2.1),.I ((nj bk id).2.2)]) []:=by
 have hl:=h.len;by_cases hi:0<=id/\id<8
 .by_cases hon:(aX bk id).1=true
  .have eg:nj bk id=((aX bk id).2.1,(aX bk id).2.2,0):=by unfold nj;rw[Z0 hi,Z0 hon]
   rw[eg];have aeB:(bk.getD id.toNat c7.bA).1=true:=hon;(refine aa.q Tryz.func90 rfl fun S aw=>Wa _ ?_;(repeat' first|exact tv|apply pr|intro hh));(refine ab.q (adr bk h) [] fun _ _=>Wp _ ?_;(repeat' first|exact tv|apply pr|intro hh));all_goals first|exact Ob.mk ⟨by simp only[];omega,by simp only[];omega⟩|(exfalso;omega)|skip
   .rw[aeB]at hh;cases hh
   all_goals exact ae.z () []
  .have eg:nj bk id=((0,0,0,0),0,5):=by unfold nj;rw[Z0 hi,ZY hon]
   rw[eg];have aeB:¬(bk.getD id.toNat c7.bA).1=true:=hon;(refine aa.q Tryz.func90 rfl fun S aw=>Wa _ ?_;(repeat' first|exact tv|apply pr|intro hh));(refine ab.q (adr bk h) [] fun _ _=>Wp _ ?_;(repeat' first|exact tv|apply pr|intro hh));all_goals first|exact Ob.mk ⟨by simp only[];omega,by simp only[];omega⟩|(exfalso;omega)|skip
   .exact ae.z () []
   all_goals exact absurd ‹(bk.getD id.toNat c7.bA).1=true› aeB
 .have eg:nj bk id=((0,0,0,0),0,1):=by unfold nj;rw[ZY hi]
  rw[eg];(refine aa.q Tryz.func90 rfl fun S aw=>Wa _ ?_;(repeat' first|exact tv|apply pr|intro hh));(refine ab.q (adr bk h) [] fun _ _=>Wp _ ?_;(repeat' first|exact tv|apply pr|intro hh));all_goals try (exfalso;omega)
  all_goals exact ae.z () []
theorem aeC (bk:List bM) (h:ni bk) (id:Int) (p:ay):MU Tryz.prog 142 [.aL c7 fun _=>bk,.I id,aI p] [] (.bQ [.aL c7 fun _=>(ie bk id p).1,.I ((ie bk id p).2.1),.I ((ie bk id p).2.2)]) []:=by
 have hl:=h.len;have qU:=Po.CJ p;by_cases hi:(0<=id/\id<8)/\aQ p
 .have hv:=H2 h hi.1
  rw[Z0 hi.2]at qU;have ev:(aX bk id).2.2=(bk.getD id.toNat c7.bA).2.2:=rfl;by_cases hf:(aX bk id).2.2=1073741824
  .have e:ie bk id p=(bk,0,4):=by unfold ie;rw[Z0 hi,Z0 hf]
   rw[e];(refine aa.q Tryz.func142 rfl fun S aw=>Wa _ ?_;(repeat' first|exact tv|apply pr|intro hh));(refine ab.q (adr bk h) [] fun _ _=>Wp _ ?_;(repeat' first|exact tv|apply pr|intro hh));all_goals try ((refine ab.q qU [] fun _ _=>Wp _ ?_;(repeat' first|exact tv|apply pr|intro hh)))
   all_goals first|exact Ob.mk ⟨by simp only[];omega,by simp only[];omega⟩|(exfalso;omega)|skip
   all_goals exact ae.z () []
  .have e:ie bk id p=(bk.set id.toNat (true,p,(aX bk id).2.2+1),(aX bk id).2.2+1,0):=by unfold ie;rw[Z0 hi,ZY hf]
   rw[e];have hb:Tryz.t188.bytes<=1000:=by decide
   (refine aa.q Tryz.func142 rfl fun S aw=>Wa _ ?_;(repeat' first|exact tv|apply pr|intro hh));(refine ab.q (adr bk h) [] fun _ _=>Wp _ ?_;(repeat' first|exact tv|apply pr|intro hh));all_goals try ((refine ab.q qU [] fun _ _=>Wp _ ?_;(repeat' first|exact tv|apply pr|intro hh)))
   all_goals first|exact Ob.mk ⟨by simp only[];omega,by simp only[];omega⟩|(exfalso;omega)|skip
   .refine⟨⟨rfl,?_,?_⟩⟩
    .show 0+bk.length<=_
     omega
    .show(0+bk.length)*Tryz.t188.bytes<=_
     rw[hl];omega
   (refine ae.gU 1 ?_;(conv=>whnf));(refine ae.w () [] _ ?_;(repeat' first|exact tv|apply pr));all_goals rw[wr (show -9223372036854775808<=(bk.getD id.toNat c7.bA).2.2+1/\_ by omega)]
   .rw[aaf,aaf,aah,abR,ab3,Z6 (by rw[aao];exact Z8 _)];rfl
   .rw[aaf,abR,ab3,ZZ,ac9 (by omega)];rfl
 .have e:ie bk id p=(bk,0,1):=by unfold ie;rw[ZY hi]
  rw[e];by_cases hr:0<=id/\id<8
  .rw[ZY (fun hp=>hi ⟨hr,hp⟩)]at qU
   (refine aa.q Tryz.func142 rfl fun S aw=>Wa _ ?_;(repeat' first|exact tv|apply pr|intro hh));(refine ab.q (adr bk h) [] fun _ _=>Wp _ ?_;(repeat' first|exact tv|apply pr|intro hh));all_goals try ((refine ab.q qU [] fun _ _=>Wp _ ?_;(repeat' first|exact tv|apply pr|intro hh)))
   all_goals try (exfalso;omega)
   all_goals exact ae.z () []
  .refine aa.q Tryz.func142 rfl fun S aw=>Wa _ ?_;repeat' first|exact tv|apply pr|intro hh
   (refine ab.q (adr bk h) [] fun _ _=>Wp _ ?_;(repeat' first|exact tv|apply pr|intro hh));all_goals try (exfalso;omega)
   all_goals exact ae.z () []
theorem aeD:MU Tryz.prog 83 [] [] (.aL c7 fun _=>LV) []:=by
 refine aa.q Tryz.func83 rfl fun S aw=>Wa _ ?_;repeat' first|exact tv|apply pr|intro hh
 .exact Ob.mk (by decide)
 (refine ae.gU 0 ?_;(conv=>whnf));exact ae.z () []
end Go.Proofs.YthnefnlhcijekaaGreat.En
set_option maxRecDepth 8000
namespace Go.Proofs.YthnefnlhcijekaaGreat.En
open Go Go.RowKit Fw Hi Ce
abbrev adn:Ty:=.pair (.pair (.int .i64) .str) (.list dz)
abbrev aeP:=Nm×List bc
abbrev aec:TypeId:=145
abbrev aeQ:TypeId:=84
def ado:aeP:=((0,[]),[])
def chF (K:Kt):List Chunk:=[.cells aeQ [.I K.n,.aL c7 fun _=>K.bk,.I K.now,.vec 1 3 (fun _=>0) fun _=>K.L.length],.aq aec adn fun _=>K.L]
def QD:Hs->Nm->Nat
 | [],_=>0
 | x::r,nm=>if kQ x.1 nm then QD r nm+1 else 0
theorem adQ:∀ (L:Hs) (nm:Nm),QD L nm<=L.length
 | [],_=>Z8 _
 | x::r,nm=>by
  unfold QD;split
  .rw[Z9];exact Nat.succ_le_succ (adQ r nm)
  .exact aae _
theorem adM:∀ (L:Hs) (nm:Nm) (i:Nat),i<=QD L nm->i<L.length->(kQ (L.getD i ado).1 nm->i+1<=QD L nm)/\(¬kQ (L.getD i ado).1 nm->i=QD L nm)
 | [],_,i,_,hi=>absurd hi (abW i)
 | x::r,nm,0,h,_=>by
  show(kQ x.1 nm->_)/\(¬kQ x.1 nm->_);unfold QD;exact⟨fun h1=>by rw[Z0 h1];omega,fun h1=>by rw[ZY h1]⟩
 | x::r,nm,i+1,h,hi=>by
  unfold QD at h ⊢;split at h
  .rename_i h1
   have:=adM r nm i (by omega) (by simpa using hi);rw[Z0 h1];exact⟨fun h2=>Nat.succ_le_succ (this.1 h2),fun h2=>congrArg (·+1) (this.2 h2)⟩
  .omega
def isL (L:Hs) (nm:Nm):Bool:=decide (QD L nm<L.length/\(L.getD (QD L nm) ado).1=nm)
theorem adT (x:aeP) (r:Hs) (nm:Nm):isL (x::r) nm=if kQ x.1 nm then isL r nm else decide (x.1=nm):=by
 unfold isL;by_cases h:kQ x.1 nm
 .rw[Z0 h]
  have e:QD (x::r) nm=QD r nm+1:=by rw[QD,Z0 h]
  rw[e,decide_eq_decide];show(QD r nm+1<r.length+1/\(r.getD (QD r nm) ado).1=nm)↔_;rw[Nat.add_lt_add_iff_right]
 .rw[ZY h]
  have e:QD (x::r) nm=0:=by rw[QD,ZY h]
  rw[e,decide_eq_decide];show(0<r.length+1/\x.1=nm)↔_;exact⟨fun h=>h.2,fun h=>⟨Nat.succ_pos _,h⟩⟩
theorem adU:∀ (L:Hs) (nm:Nm),aY L nm=if isL L nm=true then(L.getD (QD L nm) ado).2 else[]
 | [],nm=>by simp[aY,isL]
 | x::r,nm=>by
  rw[adT,aY];by_cases h:kQ x.1 nm
  .rw[Z0 h,Z0 h,adU r nm]
   have e:QD (x::r) nm=QD r nm+1:=by rw[QD,Z0 h]
   rw[e];rfl
  .rw[ZY h,ZY h]
   have e:QD (x::r) nm=0:=by rw[QD,ZY h]
   rw[e];by_cases h2:x.1=nm
   .rw[Z0 h2,Z0 (by simpa using h2)];rfl
   .rw[ZY h2,ZY (by simpa using h2)]
theorem aed:∀ (L:Hs) (nm:Nm) (l:List bc),jM L nm l=if isL L nm=true then L.set (QD L nm) (nm,l)else L.take (QD L nm)++(nm,l)::L.drop (QD L nm)
 | [],nm,l=>by simp[jM,isL,QD]
 | x::r,nm,l=>by
  rw[adT,jM];by_cases h:kQ x.1 nm
  .rw[Z0 h,Z0 h,aed r nm l]
   have e:QD (x::r) nm=QD r nm+1:=by rw[QD,Z0 h]
   rw[e];split <;> rfl
  .rw[ZY h,ZY h]
   have e:QD (x::r) nm=0:=by rw[QD,ZY h]
   rw[e];by_cases h2:x.1=nm
   .rw[Z0 h2,Z0 (by simpa using h2)];rfl
   .rw[ZY h2,ZY (by simpa using h2)];rfl
theorem aer (x y:List UInt8):Op.bytesLess x y=decide (x<y):=Go.Proofs.bytesLess_eq x y
theorem aee {L:Hs} {nm:Nm} (h:QD L nm<L.length):isL L nm=decide ((L.getD (QD L nm) ado).1=nm):=by
 unfold isL;rw[decide_eq_decide];exact⟨fun h2=>h2.2,fun h2=>⟨h,h2⟩⟩
theorem aes {L:Hs} {nm:Nm} (h:¬QD L nm<L.length):isL L nm=false:=by
 unfold isL;exact decide_eq_false fun h2=>h h2.1
theorem adV (K:Kt) (hL:K.L.length<=100000) (nm:Nm):MU Tryz.prog 141 [.ptr 0 0,zB nm] (chF K) (.bQ [.I (QD K.L nm:Int),.bool fun _=>isL K.L nm]) (chF K):=by
  have hle:=adQ K.L nm;(refine aa.q Tryz.func141 rfl fun S aw=>Wa _ ?_;(repeat' first|exact tv|apply pr|intro hh));refine aM.intro hm (X:=Nat) (fun i=>i<=QD K.L nm) (fun i=>K.L.length - i)
    (fun i=>[(6,.I (i:Int)),(0,.ptr 0 0),(3,.ptr 2 0)]) (fun i=>chF K++[.cells 24 [.I nm.1,.str fun _=>nm.2]]) 0 [0,1,2] ⟨rfl,rfl,?_,?_⟩ (aae _) ?_
  · exact Vc
  · exact Vc
  intro i hi;have hs:=adM K.L nm i hi;have No:K.L.getD (0+((i:Int)).toNat) adn.bA=K.L.getD i ado:=by rw[aaf,Z4];rfl
  unfold kQ at hs;(refine Wa _ ?_;(repeat' first|exact tv|apply pr|intro hh));all_goals first|exact Ob.mk ⟨by simp only[];omega,by simp only[];omega⟩|(exfalso;omega)|skip
  all_goals simp only[No,aer,decide_eq_true_eq,decide_eq_false_iff_not]at *
  all_goals first
    | (refine⟨i+1,[0,1,2],⟨rfl,rfl,?_,?_⟩,?_,by omega⟩
       · exact Vc
       · (refine Vb _ ?_;(repeat' first|exact tv|apply pr))
         rw[wr (by omega)];omega
       · refine(hs (by omega)).1 ?_
         first|(left;assumption)|(right;exact⟨by assumption,by assumption⟩)
       done)
    | skip
  · have e:i=QD K.L nm:=(hs (by omega)).2 (fun h=>h.elim (by assumption) fun h2=>absurd h2.2 (by assumption))
    refine ae.w () [0,1] _ ?_;repeat' first|exact tv|apply pr
    · rw[e]
    · rw[aee (by omega),abX,mF _ rfl,decide_eq_true_eq,<-e]
  · have e:i=QD K.L nm:=(hs (by omega)).2 (fun h=>h.elim (by assumption) fun h2=>absurd h2.1 (by assumption))
    refine ae.w () [0,1] _ ?_;repeat' first|exact tv|apply pr
    · rw[e]
    · rw[aee (by omega),abX,mF _ rfl,decide_eq_true_eq,<-e]
  · have e:i=QD K.L nm:=by omega
    have e2:=aes (L:=K.L) (nm:=nm) (by omega);rw[e2];(refine ae.w () [0,1] _ ?_;(repeat' first|exact tv|apply pr));rw[e]
end Go.Proofs.YthnefnlhcijekaaGreat.En
set_option maxRecDepth 8000
namespace Go.Proofs.YthnefnlhcijekaaGreat.En
open Go Go.RowKit Fw Hi Ce
theorem aeE (K:Kt) {m:Nat} (s:Small K m) (Tn:m<=100000) (nm:Nm):MU Tryz.prog 197 [.ptr 0 0,zB nm] (chF K) (.aL dz fun _=>aY K.L nm) (chF K):=by
 have hl:=s.len;have hp:=adV K (by omega) nm;have ZU:=adU K.L nm;cases hi:isL K.L nm with
 | false =>
  rw[hi]at hp ZU;rw[ZU];(refine aa.q Tryz.func197 rfl fun S aw=>Wa _ ?_;(repeat' first|exact tv|apply pr|intro hh));(refine ab.q hp [0,1] fun _ _=>Wp _ ?_;(repeat' first|exact tv|apply pr|intro hh));(refine ae.w () [0,1] _ ?_;(repeat' first|exact tv|apply pr));all_goals rfl
 | true =>
  have h1:QD K.L nm<K.L.length:=(of_decide_eq_true (show decide (_/\_)=true from hi)).1;rw[hi]at hp ZU;rw[ZU];(refine aa.q Tryz.func197 rfl fun S aw=>Wa _ ?_;(repeat' first|exact tv|apply pr|intro hh));refine ab.q hp [0,1] fun _ _=>Wp _ ?_;repeat' first|exact tv|apply pr|intro hh
  .exact Ob.mk ⟨by simp only[];omega,by simp only[];omega⟩
  (refine ae.w () [0,1] _ ?_;(repeat' first|exact tv|apply pr));simp only[if_true,Z4,aaf];rfl
def adq (K:Kt) (i:Nat):List Nm:=((K.L.take i).filter (OA K)).map (·.1)
theorem ad0 (K:Kt) (i:Nat) (hi:i<K.L.length):adq K (i+1)=if OA K (K.L.getD i ado)=true then adq K i++[(K.L.getD i ado).1]else adq K i:=by
 have hg:K.L[i]?=some (K.L.getD i ado):=by rw[ZZ,Z1 hi];rfl
 unfold adq;rw[aaE,hg,ac4,List.filter_append];by_cases hc:OA K (K.L.getD i ado)=true
 .rw[Z0 hc,ade,Z0 hc,ace];rfl
 .rw[ZY hc,ade,ZY hc,List.filter_nil,List.append_nil]
theorem aef (K:Kt) (i:Nat):(adq K i).length<=i:=by
 unfold adq;rw[aba];exact aaA (acf ..) (by rw[aak];omega)
theorem aeg (K:Kt):adq K K.L.length=eD K:=by unfold adq eD;rw[aac]
theorem adW (K:Kt) {m:Nat} (s:Small K m) (Tn:m<=100000):MU Tryz.prog 40 [.ptr 0 0] (chF K) (.aL uR fun _=>eD K) (chF K):=by
  have hl:=s.len;(refine aa.q Tryz.func40 rfl fun S aw=>Wa _ ?_;(repeat' first|exact tv|apply pr|intro hh));refine aM.nil 24 uR none [3] ?_;refine aM.intro hm (X:=Nat) (fun i=>i<=K.L.length) (fun i=>K.L.length - i)
    (fun i=>[(0,.ptr 0 0),(3,.vec 2 2 (fun _=>0) fun _=>(adq K i).length),(4,.I (i:Int))])
    (fun i=>chF K++[.aq 24 uR fun _=>adq K i]) 0 [0,1,2] ⟨rfl,rfl,?_,?_⟩ (aae _) ?_
  · exact Vc
  · exact Vc
  intro i hi;have u7:=aef K i;by_cases dp:i<K.L.length
  · have No:K.L.getD (0+((i:Int)).toNat) adn.bA=K.L.getD i ado:=by rw[aaf,Z4];rfl
    have C3:K.L.getD i ado∈K.L:=by rw[ZZ,Z1 dp];exact aax _
    have uu:=ad0 K i dp;have Mo:=s.fM _ C3;have cL:=aeb K.bk s.bk (K.L.getD i ado).1.1;rw[<-No]at uu cL Mo;cases hb:cC K.bk (K.L.getD (0+((i:Int)).toNat) adn.bA).1.1 with
    | none =>
      have hc:OA K (K.L.getD (0+((i:Int)).toNat) adn.bA)=false:=by unfold OA;simp only[hb]
      rw[hc,ZY (by decide)]at uu;have hcd:(nj K.bk (K.L.getD (0+((i:Int)).toNat) adn.bA).1.1).2.2≠0:=by rw[get_none hb];simp only[];split <;> decide
      (refine Wa _ ?_;(repeat' first|exact tv|apply pr|intro hh));all_goals first|exact Ob.mk ⟨by simp only[];omega,by simp only[];omega⟩|(exfalso;omega)|skip
      all_goals refine ab.q cL [] fun _ _=>Wp _ ?_;repeat' first|exact tv|apply pr|intro hh
      all_goals first|exact Ob.mk ⟨by simp only[];omega,by simp only[];omega⟩|(exfalso;omega)|skip
      all_goals refine⟨i+1,[0,1,2],⟨rfl,rfl,?_,?_⟩,by show i+1<=_;omega,by show _ - (i+1)<_ - i;omega⟩
      all_goals refine Vb _ ?_;repeat' first|exact tv|apply pr
      all_goals first|(rw[uu];done)|(rw[wr (by omega)];omega)|exact uu.symm|skip
    | some pv =>
      obtain⟨p,v⟩:=pv;have hc:OA K (K.L.getD (0+((i:Int)).toNat) adn.bA)=!Hi.neutral p (K.L.getD (0+((i:Int)).toNat) adn.bA).2 K.now:=by unfold OA;simp only[hb]
      have uY:Hi.neutral p (K.L.getD (0+((i:Int)).toNat) adn.bA).2 K.now=false->adq K (i+1)=adq K i++[(K.L.getD (0+((i:Int)).toNat) adn.bA).1]:=fun h=>by rw[uu,hc,h];rfl
      have rG:Hi.neutral p (K.L.getD (0+((i:Int)).toNat) adn.bA).2 K.now=true->adq K (i+1)=adq K i:=fun h=>by rw[uu,hc,h];rfl
      clear uu;rw[si hb]at cL;(refine Wa _ ?_;(repeat' first|exact tv|apply pr|intro hh));all_goals first|exact Ob.mk ⟨by simp only[];omega,by simp only[];omega⟩|(exfalso;omega)|skip
      all_goals refine ab.q cL [] fun _ _=>Wp _ ?_;repeat' first|exact tv|apply pr|intro hh
      all_goals first|exact Ob.mk ⟨by simp only[];omega,by simp only[];omega⟩|(exfalso;omega)|skip
      all_goals refine ab.q (Pg p (K.L.getD (0+((i:Int)).toNat) adn.bA).2 K.now (by omega)) [] fun _ _=>Wp _ ?_;repeat' first|exact tv|apply pr|intro hh
      all_goals first|exact Ob.mk ⟨by simp only[];omega,by simp only[];omega⟩|(exfalso;omega)|skip
      all_goals first|have uu:=uY hh|have uu:=rG hh|have uu:=uY (by assumption)|have uu:=rG (by assumption)
      all_goals first
        | (refine⟨⟨rfl,?_,?_⟩⟩
           · show(adq K i).length+1<=_
             omega
           · show((adq K i).length+1)*24<=_
             omega
           done)
        | skip
      all_goals refine⟨i+1,[0,1,2],⟨rfl,rfl,?_,?_⟩,by show i+1<=_;omega,by show _ - (i+1)<_ - i;omega⟩
      all_goals refine Vb _ ?_;repeat' first|exact tv|apply pr
      all_goals first|(rw[uu,Z6 (Z8 _)];rfl)|(rw[uu,aab];rfl)|(rw[uu];done)|(rw[wr (by omega)];omega)|exact uu.symm|skip
  · (refine Wa _ ?_;(repeat' first|exact tv|apply pr|intro hh))
    all_goals try (exfalso;omega)
    have e:i=K.L.length:=by omega
    subst e;(refine ae.gU 2 ?_;(conv=>whnf));(refine ae.w () [0,1] _ ?_;(repeat' first|exact tv|apply pr));rw[aah,aac,aeg]
end Go.Proofs.YthnefnlhcijekaaGreat.En
set_option maxRecDepth 8000
namespace Go.Proofs.YthnefnlhcijekaaGreat.En
open Go Go.RowKit Fw Hi Ce
theorem aet (nm:Nm):fy nm=decide ((0<=nm.1/\nm.1<8)/\1<=nm.2.length/\nm.2.length<=32):=by
 unfold fy;rw[abX];simp only[aai,decide_eq_true_eq,aa4,decide_eq_false_iff_not];rw[<-aaL];omega
theorem y8 (nm:Nm):MU Tryz.prog 145 [zB nm] [] (.bool fun _=>fy nm) []:=by
 (refine aa.q Tryz.func145 rfl fun S aw=>Wa _ ?_;(repeat' first|exact tv|apply pr|intro hh));all_goals refine ae.w () [] _ ?_;repeat' first|exact tv|apply pr
 all_goals rw[aet]
 all_goals first|(rw[decide_eq_decide];omega)|exact decide_eq_false (by omega)
def lk3 (r:List bc×L1×Bool):AV:=.bQ [.aL dz fun _=>r.1,Ih r.2.1,.bool fun _=>r.2.2]
theorem aeF (K:Kt) {m:Nat} (s:Small K m) (Tn:m<=100000) (nm:Nm) (w:Int):MU Tryz.prog 140 [.ptr 0 0,vR nm w] (chF K) (lk3 (gB K nm w)) (chF K):=by
 have uA:=y8 nm;have hwg:=Po.y7 w;have cL:=aeb K.bk s.bk nm.1;have ql:=s.at_ nm;cases hn:fy nm with
 | false =>
  have e:gB K nm w=([],(1,zeroV),false):=by unfold gB;rw[hn];rfl
  rw[e];rw[hn]at uA;(refine aa.q Tryz.func140 rfl fun S aw=>Wa _ ?_;(repeat' first|exact tv|apply pr|intro hh));(refine ab.q uA [] fun _ _=>Wp _ ?_;(repeat' first|exact tv|apply pr|intro hh));all_goals try ((refine ab.q hwg [] fun _ _=>Wp _ ?_;(repeat' first|exact tv|apply pr|intro hh)))
  all_goals refine ae.w () [0,1] _ ?_;repeat' first|exact tv|apply pr
  all_goals rfl
 | true =>
  rw[hn]at uA;cases hw:aU w with
  | false =>
   have e:gB K nm w=([],(1,zeroV),false):=by unfold gB;rw[hn,hw];rfl
   rw[e];rw[hw]at hwg;(refine aa.q Tryz.func140 rfl fun S aw=>Wa _ ?_;(repeat' first|exact tv|apply pr|intro hh));(refine ab.q uA [] fun _ _=>Wp _ ?_;(repeat' first|exact tv|apply pr|intro hh));all_goals try ((refine ab.q hwg [] fun _ _=>Wp _ ?_;(repeat' first|exact tv|apply pr|intro hh)))
   all_goals refine ae.w () [0,1] _ ?_;repeat' first|exact tv|apply pr
   all_goals rfl
  | true =>
   rw[hw]at hwg;cases hb:cC K.bk nm.1 with
   | none =>
    have e:gB K nm w=([],(5,zeroV),false):=by unfold gB;rw[hn,hw,hb];rfl
    rw[e];rw[get_none hb,Z0 (rA hn)]at cL;(refine aa.q Tryz.func140 rfl fun S aw=>Wa _ ?_;(repeat' first|exact tv|apply pr|intro hh));(refine ab.q uA [] fun _ _=>Wp _ ?_;(repeat' first|exact tv|apply pr|intro hh));all_goals try ((refine ab.q hwg [] fun _ _=>Wp _ ?_;(repeat' first|exact tv|apply pr|intro hh)))
    all_goals refine ab.q cL [] fun _ _=>Wp _ ?_;repeat' first|exact tv|apply pr|intro hh
    all_goals refine ae.w () [0,1] _ ?_;repeat' first|exact tv|apply pr
    all_goals rfl
   | some pv =>
    obtain⟨p,v⟩:=pv;have e:gB K nm w=((Hi.ask p (aY K.L nm) K.now w).1,(0,(Hi.ask p (aY K.L nm) K.now w).2),!Hi.neutral p (aY K.L nm) K.now):=by unfold gB;rw[hn,hw,hb];rfl
    rw[e];rw[si hb]at cL;(refine aa.q Tryz.func140 rfl fun S aw=>Wa _ ?_;(repeat' first|exact tv|apply pr|intro hh));(refine ab.q uA [] fun _ _=>Wp _ ?_;(repeat' first|exact tv|apply pr|intro hh));all_goals try ((refine ab.q hwg [] fun _ _=>Wp _ ?_;(repeat' first|exact tv|apply pr|intro hh)))
    all_goals refine ab.q cL [] fun _ _=>Wp _ ?_;repeat' first|exact tv|apply pr|intro hh
    all_goals refine ab.q (aeE K s Tn nm) [0,1] fun _ _=>Wp _ ?_;repeat' first|exact tv|apply pr|intro hh
    all_goals refine ab.q (LS p (aY K.L nm) K.now w (by omega)) [] fun _ _=>Wp _ ?_;repeat' first|exact tv|apply pr|intro hh
    all_goals refine ab.q (Pg p (aY K.L nm) K.now (by omega)) [] fun _ _=>Wp _ ?_;repeat' first|exact tv|apply pr|intro hh
    all_goals exact ae.z () [0,1]
theorem aeG {L:Hs} {nm:Nm} (h:isL L nm=true) (l:List bc):L.set (QD L nm) (((L.getD (QD L nm) adn.bA).1.1,(L.getD (QD L nm) adn.bA).1.2),l)=L.set (QD L nm) (nm,l):=by
 have:=(of_decide_eq_true (show decide (_/\_)=true from h)).2;have e:((L.getD (QD L nm) adn.bA).1.1,(L.getD (QD L nm) adn.bA).1.2)=nm:=this;rw[e]
theorem aey {n b:Nat} (hn:n<=300000) (hb:b<=1000):n<=140737488355328/\n*b<=140737488355328 :=
 ⟨by omega,aaA (Nat.mul_le_mul hn hb) (by decide)⟩
theorem aeH {L:Hs} {p:Nat} (hp:p<=L.length) {nm:Nm} {l:List bc}:List.take (0+(List.take (((p:Int)).toNat - Int.toNat 0) (List.drop (0+Int.toNat 0) L)).length+(List.take 1 (List.drop 0 [((nm.1,nm.2),l)])).length) (List.take (0+(List.take (((p:Int)).toNat - Int.toNat 0) (List.drop (0+Int.toNat 0) L)).length) (List.take 0 []++List.take (((p:Int)).toNat - Int.toNat 0) (List.drop (0+Int.toNat 0) L))++List.take 1 (List.drop 0 [((nm.1,nm.2),l)]))++List.take (((L.length:Int)).toNat - ((p:Int)).toNat) (List.drop (0+((p:Int)).toNat) L)
  = L.take p++(nm,l)::L.drop p:=by
 have e1:((p:Int)).toNat - Int.toNat 0=p:=by simp
 have e2:(0+Int.toNat 0)=0:=rfl;rw[e1,e2,aah,aah,Z4,Z4,aaf,aaf,abR,ab3];have h3:(L.take p).length=p:=by rw[aak,aa0 hp]
 rw[h3,acr,Nat.min_self];have h4:List.take 1 [((nm.1,nm.2),l)]=[(nm,l)]:=rfl;rw[h4,Z6 (l:=L.take p++[(nm,l)]) (by rw[aab,h3];exact Z8 _),Z6 (l:=L.drop p) (by rw[aar];exact Z8 _),ac6];rfl
theorem aeu (K:Kt) {m:Nat} (s:Small K m) (Tn:m<=100000) (nm:Nm) (w:Int):MU Tryz.prog 84 [.ptr 0 0,vR nm w] (chF K) (Ih (dV K nm w).2) (chF (dV K nm w).1):=by
 have hl:=s.len;have Lx:=aeF K s Tn nm w;have RT:=adW K s Tn;have vX:=adV K (by omega) nm;have hle:=adQ K.L nm;have Pz:Tryz.t145.bytes<=1000:=by decide
 by_cases h1:(gB K nm w).2.1.1=0/\(gB K nm w).2.1.2.1=true
 .by_cases h2:(gB K nm w).2.2=false/\K.n<=(eD K).length
  .have e:dV K nm w=(K,(7,zeroV)):=by unfold dV;rw[Z0 h1,Z0 h2]
   rw[e];(refine aa.q Tryz.func84 rfl fun S aw=>Wa _ ?_;(repeat' first|exact tv|apply pr|intro hh));(refine ab.q Lx [0,1] fun _ _=>Wp _ ?_;(repeat' first|exact tv|apply pr|intro hh));all_goals first|(exact absurd (h1.2.symm.trans ‹(gB K nm w).2.1.2.1=false›) (by decide))|(exact absurd h1.1 ‹(gB K nm w).2.1.1≠0›)|(exact absurd h1.1 ‹¬(gB K nm w).2.1.1=0›)|skip
   all_goals try ((refine ab.q RT [0,1] fun _ _=>Wp _ ?_;(repeat' first|exact tv|apply pr|intro hh)))
   all_goals first|(exact absurd (h2.1.symm.trans ‹(gB K nm w).2.2=true›) (by decide))|(exact absurd h2.2 ‹_›)|skip
   all_goals refine ae.w () [0,1] _ ?_;repeat' first|exact tv|apply pr
   all_goals rfl
  .have e:dV K nm w=({ K with L:=jM K.L nm (gB K nm w).1 },(gB K nm w).2.1):=by unfold dV;rw[Z0 h1,ZY h2]
   rw[e];have qe:=aed K.L nm (gB K nm w).1;cases hi:isL K.L nm with
   | true =>
    have bf:QD K.L nm<K.L.length:=(of_decide_eq_true (show decide (_/\_)=true from hi)).1;rw[hi]at vX qe;(refine aa.q Tryz.func84 rfl fun S aw=>Wa _ ?_;(repeat' first|exact tv|apply pr|intro hh));(refine ab.q Lx [0,1] fun _ _=>Wp _ ?_;(repeat' first|exact tv|apply pr|intro hh));all_goals first|(exact absurd (h1.2.symm.trans ‹(gB K nm w).2.1.2.1=false›) (by decide))|(exact absurd h1.1 ‹(gB K nm w).2.1.1≠0›)|(exact absurd h1.1 ‹¬(gB K nm w).2.1.1=0›)|skip
    all_goals try ((refine ab.q RT [0,1] fun _ _=>Wp _ ?_;(repeat' first|exact tv|apply pr|intro hh)))
    all_goals first|(exact absurd ⟨‹(gB K nm w).2.2=false›,‹K.n<=((eD K).length:Int)›⟩ h2)|skip
    all_goals refine ab.q vX [0,1] fun _ _=>Wp _ ?_;repeat' first|exact tv|apply pr|intro hh
    all_goals first|exact Ob.mk ⟨by simp only[];omega,by simp only[];omega⟩|skip
    all_goals refine ae.w () [0,1] _ ?_;repeat' first|exact tv|apply pr
    all_goals rw[qe,Z0 rfl]
    all_goals first|(rw[aao];done)|(rw[aaf,Z4];exact aeG hi _)
   | false =>
    rw[hi]at vX qe;(refine aa.q Tryz.func84 rfl fun S aw=>Wa _ ?_;(repeat' first|exact tv|apply pr|intro hh));(refine ab.q Lx [0,1] fun _ _=>Wp _ ?_;(repeat' first|exact tv|apply pr|intro hh));all_goals first|(exact absurd (h1.2.symm.trans ‹(gB K nm w).2.1.2.1=false›) (by decide))|(exact absurd h1.1 ‹(gB K nm w).2.1.1≠0›)|(exact absurd h1.1 ‹¬(gB K nm w).2.1.1=0›)|skip
    all_goals try ((refine ab.q RT [0,1] fun _ _=>Wp _ ?_;(repeat' first|exact tv|apply pr|intro hh)))
    all_goals first|(exact absurd ⟨‹(gB K nm w).2.2=false›,‹K.n<=((eD K).length:Int)›⟩ h2)|skip
    all_goals refine ab.q vX [0,1] fun _ _=>Wp _ ?_;repeat' first|exact tv|apply pr|intro hh
    all_goals first|exact Ob.mk ⟨by simp only[];omega,by simp only[];omega⟩|exact Ob.mk ⟨by simp only[];omega,by simp only[];omega,by simp only[];omega⟩|(refine Ob.mk ⟨rfl,aey ?_ Pz⟩;simp;omega)|skip
    all_goals refine ae.w () [0,6] _ ?_;repeat' first|exact tv|apply pr
    all_goals rw[qe,ZY (by decide)]
    all_goals first|(simp[aa0 hle];done)|(simp[aa0 hle];omega)|(rw[aeH hle])|skip
 .have e:dV K nm w=(K,(gB K nm w).2.1):=by unfold dV;rw[ZY h1]
  rw[e];(refine aa.q Tryz.func84 rfl fun S aw=>Wa _ ?_;(repeat' first|exact tv|apply pr|intro hh));(refine ab.q Lx [0,1] fun _ _=>Wp _ ?_;(repeat' first|exact tv|apply pr|intro hh));all_goals first|(exact absurd ⟨‹(gB K nm w).2.1.1=0›,‹(gB K nm w).2.1.2.1=true›⟩ h1)|skip
  all_goals try ((refine ab.q RT [0,1] fun _ _=>Wp _ ?_;(repeat' first|exact tv|apply pr|intro hh)))
  all_goals first|(exact absurd ⟨‹(gB K nm w).2.1.1=0›,‹(gB K nm w).2.1.2.1=true›⟩ h1)|skip
  all_goals exact ae.z () [0,1]
end Go.Proofs.YthnefnlhcijekaaGreat.En
set_option maxRecDepth 8000
namespace Go.Proofs.YthnefnlhcijekaaGreat.En
open Go Go.RowKit Fw Hi Ce
theorem aeI (K:Kt) (t:Int):MU Tryz.prog 86 [.ptr 0 0,.I t] (chF K) (.I ((mq K t).now)) (chF (mq K t)):=by
 have Pe:ke=1099511627776:=rfl;by_cases ht:K.now<t/\t<=ke
 .have e:mq K t={ K with now:=t }:=by unfold mq;rw[Z0 ht]
  rw[e];(refine aa.q Tryz.func86 rfl fun S aw=>Wa _ ?_;(repeat' first|exact tv|apply pr|intro hh));all_goals try (exfalso;omega)
  all_goals exact ae.z () [0,1]
 .have e:mq K t=K:=by unfold mq;rw[ZY ht]
  rw[e];(refine aa.q Tryz.func86 rfl fun S aw=>Wa _ ?_;(repeat' first|exact tv|apply pr|intro hh));all_goals try (exfalso;omega)
  all_goals exact ae.z () [0,1]
def woT (L:Hs) (book:Int) (i:Nat):Hs:=(L.take i).filter fun x=>decide (x.1.1≠book)
theorem aei (L:Hs) (book:Int) (i:Nat) (hi:i<L.length):woT L book (i+1)=if(L.getD i ado).1.1≠book then woT L book i++[L.getD i ado]else woT L book i:=by
 have hg:L[i]?=some (L.getD i ado):=by rw[ZZ,Z1 hi];rfl
 unfold woT;rw[aaE,hg,ac4,List.filter_append];by_cases hc:(L.getD i ado).1.1≠book
 .rw[Z0 hc,ade,Z0 (by simpa using hc)];rfl
 .rw[ZY hc,ade,ZY (by simpa using hc),List.filter_nil,List.append_nil]
theorem aev (L:Hs) (book:Int) (i:Nat):(woT L book i).length<=i:=by
 unfold woT;exact aaA (acf ..) (by rw[aak];omega)
theorem adX (L:Hs) (book:Int):woT L book L.length=Ky L book:=by unfold woT Ky;rw[aac]
theorem ad1 (K:Kt) (hl:K.L.length<=100000) (book:Int):MU Tryz.prog 143 [.ptr 0 0,.I book] (chF K) (.bQ []) (chF { K with L:=Ky K.L book }):=by
 have Pz:Tryz.t145.bytes<=1000:=by decide
 (refine aa.q Tryz.func143 rfl fun S aw=>Wa _ ?_;(repeat' first|exact tv|apply pr|intro hh));refine aM.nil aec adn none [4] ?_;refine aM.intro hm (X:=Nat) (fun i=>i<=K.L.length) (fun i=>K.L.length - i)
  (fun i=>[(0,.ptr 0 0),(1,.I book),(4,.vec 2 3 (fun _=>0) fun _=>(woT K.L book i).length),(5,.I (i:Int))])
  (fun i=>chF K++[.aq aec adn fun _=>woT K.L book i]) 0 [0,1,2] ⟨rfl,rfl,?_,?_⟩ (aae _) ?_
 .exact Vc
 .exact Vc
 intro i hi;have u7:=aev K.L book i;by_cases dp:i<K.L.length
 .have No:K.L.getD (0+((i:Int)).toNat) adn.bA=K.L.getD i ado:=by rw[aaf,Z4];rfl
  have uu:=aei K.L book i dp;rw[<-No]at uu;(refine Wa _ ?_;(repeat' first|exact tv|apply pr|intro hh));all_goals first|exact Ob.mk ⟨by simp only[];omega,by simp only[];omega⟩|(exfalso;omega)|skip
  all_goals first|(refine Ob.mk ⟨rfl,aey ?_ Pz⟩;show(woT K.L book i).length+1<=_;omega)|skip
  all_goals first|(rw[Z0 ‹(K.L.getD (0+((i:Int)).toNat) adn.bA).1.1≠book›]at uu)|(rw[ZY (Classical.not_not.2 ‹(K.L.getD (0+((i:Int)).toNat) adn.bA).1.1=book›)]at uu)
  all_goals refine⟨i+1,[0,1,2],⟨rfl,rfl,?_,?_⟩,by show i+1<=_;omega,by show _ - (i+1)<_ - i;omega⟩
  all_goals refine Vb _ ?_;repeat' first|exact tv|apply pr
  all_goals first|(rw[uu,Z6 (Z8 _)];rfl)|(rw[uu,aab];rfl)|(rw[uu];done)|(rw[wr (by omega)];omega)|exact uu.symm|skip
 .refine Wa _ ?_;repeat' first|exact tv|apply pr|intro hh
  all_goals try (exfalso;omega)
  have e:i=K.L.length:=by omega
  subst e;refine ae.w () [0,2] _ ?_;repeat' first|exact tv|apply pr
  .rw[adX]
  .exact adX K.L book
theorem aeR (K:Kt) {m:Nat} (s:Small K m) (Tn:m<=100000) (id:Int) (p:ay):MU Tryz.prog 87 [.ptr 0 0,.I id,aI p] (chF K) (.bQ [.I ((qQ K id p).2.1),.I ((qQ K id p).2.2)]) (chF (qQ K id p).1):=by
 have hl:=s.len;have fR:=aeC K.bk s.bk id p;by_cases he:(ie K.bk id p).2.2=0
 .have e:qQ K id p=({ K with bk:=(ie K.bk id p).1,L:=Ky K.L id },(ie K.bk id p).2.1,0):=by unfold qQ;rw[Z0 he]
  rw[e];have hwo:=ad1 { K with bk:=(ie K.bk id p).1 } (show K.L.length<=100000 by omega) id;(refine aa.q Tryz.func87 rfl fun S aw=>Wa _ ?_;(repeat' first|exact tv|apply pr|intro hh));all_goals refine ab.q fR [] fun _ _=>Wp _ ?_;repeat' first|exact tv|apply pr|intro hh
  all_goals first|(exact absurd he ‹_›)|skip
  all_goals refine ab.q hwo [0,1] fun _ _=>Wp _ ?_;repeat' first|exact tv|apply pr|intro hh
  all_goals refine ae.w () [0,1] _ ?_;repeat' first|exact tv|apply pr
  all_goals exact he
 .have e:qQ K id p=(K,0,(ie K.bk id p).2.2):=by unfold qQ;rw[ZY he]
  have e0:(ie K.bk id p).2.1=0:=by
   revert he;unfold ie;split
   .split <;> simp
   .simp
  rw[e];rw[e0]at fR;(refine aa.q Tryz.func87 rfl fun S aw=>Wa _ ?_;(repeat' first|exact tv|apply pr|intro hh));all_goals refine ab.q fR [] fun _ _=>Wp _ ?_;repeat' first|exact tv|apply pr|intro hh
  all_goals first|(exact absurd ‹_› he)|skip
  all_goals exact ae.z () [0,1]
def aeS (n sd:Int):AV:=.agg [.I n,.int .u64 fun _=>sd]
theorem aez (n sd:Int) (hn:1<=n/\n<=64):MU Tryz.prog 38 [aeS n sd] [] (.bQ [.ptr 0 0,.I 0]) (chF ⟨n,0,LV,[]⟩):=by
 (refine aa.q Tryz.func38 rfl fun S aw=>Wa _ ?_;(repeat' first|exact tv|apply pr|intro hh));all_goals try (exfalso;omega)
 all_goals refine ab.q aeD [] fun _ _=>Wq _ ?_;repeat' first|exact tv|apply pr|intro hh
 all_goals refine aB.nil aec adn (some (1,3)) [] ?_
 all_goals (conv=>whnf)
 all_goals refine Wa _ ?_;repeat' first|exact tv|apply pr|intro hh
 all_goals exact ae.z () [1,2]
theorem adN (n sd:Int) (hn:¬(1<=n/\n<=64)):MU Tryz.prog 38 [aeS n sd] [] (.bQ [.bW,.I 1]) []:=by
 (refine aa.q Tryz.func38 rfl fun S aw=>Wa _ ?_;(repeat' first|exact tv|apply pr|intro hh));all_goals try (exfalso;omega)
 all_goals exact ae.z () []
end Go.Proofs.YthnefnlhcijekaaGreat.En
set_option maxRecDepth 8000
namespace Go.Proofs.YthnefnlhcijekaaGreat.En
open Go Go.RowKit Fw Hi Ce
theorem adD:∀ (l:List adk) (K:Kt),(om K l).1.n=K.n/\(om K l).1.now=K.now/\(om K l).1.bk=K.bk
 | [],_=>⟨rfl,rfl,rfl⟩
 | a::r,K=>by
  have h:=adD r (ads K a).1;have h2:=adP (K:=K) (nm:=aNm a) (w:=a.2.2);rw[om];exact⟨h.1.trans h2.1,h.2.1.trans h2.2.1,h.2.2.trans h2.2.2⟩
def CA (i:Nat) (K:Kt):List Chunk:=[.cells aeQ [.I K.n,.aL c7 fun _=>K.bk,.I K.now,.vec i 3 (fun _=>0) fun _=>K.L.length],.aq aec adn fun _=>K.L]
structure FeI (K:Kt) (l:List adk) (z:Nat×Kt×List L1):Prop where
 le:z.1<=l.length
 eq:om K (l.take z.1)=(z.2.1,z.2.2)
theorem aej (K:Kt) {m:Nat} (s:Small K m) (Tn:m<=99990) (l:List adk):MU Tryz.prog 93 [.ptr 0 0,.aL Zj fun _=>l] (chF K) (.bQ [.aL adg fun _=>(adf K l).2.1,.I ((adf K l).2.2)]) (chF (adf K l).1):=by
 have Pz:Tryz.t55.bytes<=1000:=by decide
 by_cases hb:adp l
 .have e:adf K l=(K,[],1):=by unfold adf;rw[Z0 hb]
  unfold adp at hb;rw[e];(refine aa.q Tryz.func93 rfl fun S aw=>Wa _ ?_;(repeat' first|exact tv|apply pr|intro hh));all_goals try (exfalso;omega)
  all_goals exact ae.z () [0,1]
 have e:adf K l=((om K l).1,(om K l).2,0):=by unfold adf;rw[ZY hb]
 unfold adp at hb;rw[e];(refine aa.q Tryz.func93 rfl fun S aw=>Wa _ ?_;(repeat' first|exact tv|apply pr|intro hh));all_goals try (exfalso;omega)
 refine aM.nil aep adg none [6] ?_;refine aM.intro hm (X:=Nat×Kt×List L1) (FeI K l) (fun z=>l.length - z.1)
  (fun z=>[(0,.ptr 0 0),(1,.aL Zj fun _=>l),(7,.I (z.1:Int)),(6,.vec 2 5 (fun _=>0) fun _=>z.2.2.length)])
  (fun z=>chF z.2.1++[.aq aep adg fun _=>z.2.2]) (0,K,[]) [0,1,2] ⟨rfl,rfl,?_,?_⟩ ⟨aae _,rfl⟩ ?_
 .exact Vc
 .exact Vc
 rintro⟨i,afw,out⟩ hI;have hi:=hI.le;have he:=hI.eq;simp only[]at hi he;have D8:out.length=i:=by
  have:=adl (l.take i) K;rw[he,aak]at this;simp only[]at this;omega
 have uY:Small afw (m+8):=by
  have:=Small.each (l.take i) s;rw[he]at this;exact this.up (by rw[aak];omega)
 by_cases dp:i<l.length
 .have Wi:=aeu afw uY (by omega) (aNm (l.getD ((i:Int)).toNat Zj.bA)) (l.getD ((i:Int)).toNat Zj.bA).2.2
  have fR:=adB Zj.bA dp K;rw[he]at fR;(refine Wa _ ?_;(repeat' first|exact tv|apply pr|intro hh));all_goals first|exact Ob.mk ⟨by simp only[];omega,by simp only[];omega⟩|(exfalso;omega)|skip
  refine ab.q Wi [0,1] fun _ _=>Wp _ ?_;repeat' first|exact tv|apply pr|intro hh
  .refine Ob.mk ⟨rfl,ad6 ?_ Pz⟩
   show out.length+1<=300000;omega
  all_goals refine⟨(i+1,(dV afw (aNm (l.getD i Zj.bA)) (l.getD i Zj.bA).2.2).1,out++[(dV afw (aNm (l.getD i Zj.bA)) (l.getD i Zj.bA).2.2).2]),[0,1,2],⟨rfl,rfl,?_,?_⟩,⟨dp,fR⟩,by show _ - (i+1)<_ - i;omega⟩
  all_goals refine Vb _ ?_;repeat' first|exact tv|apply pr
  all_goals first|(rw[wr (by omega)];omega)|(rw[Z6 (Z8 _)];rfl)|(rw[aab];rfl)|skip
 have IL:i=l.length:=by omega
 subst IL;rw[aac]at he;rw[he];(refine Wa _ ?_;(repeat' first|exact tv|apply pr|intro hh));all_goals try (exfalso;omega)
 (refine ae.gU 2 ?_;(conv=>whnf));(refine ae.w () [0,1] _ ?_;(repeat' first|exact tv|apply pr));rw[aah,aac]
theorem adY {t:L1} (h:t.1=0) (h2:t.2.1=true):wo t=false:=by unfold wo;rw[decide_eq_true h,h2];rfl
theorem ad2 {t:L1} (h:¬t.1=0):wo t=true:=by unfold wo;rw[decide_eq_false h];rfl
theorem aek {t:L1} (h:t.2.1=false):wo t=true:=by unfold wo;rw[h];exact Bool.or_true _
theorem adO {a:List L1} {i:Nat} (h:i<a.length):(a.take (i+1)).any wo=((a.take i).any wo || wo (a.getD i adg.bA)):=by
 rw[aaE,Z1 h,ac4,List.any_append,ZZ,Z1 h];simp
theorem aeT (K:Kt) {m:Nat} (s:Small K m) (Tn:m<=99990) (l:List adk):MU Tryz.prog 94 [.ptr 0 0,.aL Zj fun _=>l] (chF K) (.bQ [.aL adg fun _=>(adj K l).2.1,.bool fun _=>(adj K l).2.2.1,.I ((adj K l).2.2.2)]) (chF (adj K l).1):=by
 have Pz:Tryz.t145.bytes<=1000:=by decide
 have hlen:=s.len;have hea:=aej K s Tn l;by_cases hb:adp l
 .have e:adj K l=(K,[],false,1):=by unfold adj;rw[Z0 hb]
  have e2:adf K l=(K,[],1):=by unfold adf;rw[Z0 hb]
  rw[e2]at hea;rw[e];(refine aa.q Tryz.func94 rfl fun S aw=>Wa _ ?_;(repeat' first|exact tv|apply pr|intro hh));all_goals first|(refine Ob.mk (ad6 ?_ Pz).2;show(List.take K.L.length (List.drop 0 K.L)).length<=300000;rw[aah,aac];omega)|skip
  all_goals simp only[aah,aac]
  (refine ab.q hea [2,3] fun _ _=>Wp _ ?_;(repeat' first|exact tv|apply pr|intro hh));all_goals exact ae.z () [0,1]
 have e2:adf K l=((om K l).1,(om K l).2,0):=by unfold adf;rw[ZY hb]
 have EM:=adl l K;have Wu:=adD l K;rw[e2]at hea;have e:adj K l=if(om K l).2.any wo=true then(K,(om K l).2,false,0)else((om K l).1,(om K l).2,true,0):=by unfold adj;rw[ZY hb]
 unfold adp at hb;cases hx:(om K l).2.any wo with
 | true =>
  rw[Z0 hx]at e;rw[e];(refine aa.q Tryz.func94 rfl fun S aw=>Wa _ ?_;(repeat' first|exact tv|apply pr|intro hh));all_goals first|(refine Ob.mk (ad6 ?_ Pz).2;show(List.take K.L.length (List.drop 0 K.L)).length<=300000;rw[aah,aac];omega)|skip
  all_goals simp only[aah,aac]
  (refine ab.q hea [2,3] fun _ _=>Wp _ ?_;(repeat' first|exact tv|apply pr|intro hh));refine aM.intro hm (X:=Nat) (fun i=>i<=(om K l).2.length/\((om K l).2.take i).any wo=false) (fun i=>(om K l).2.length - i)
   (fun i=>[(0,.ptr 0 0),(7,.ptr 2 0),(8,.aL adg fun _=>(om K l).2),(10,.I (i:Int))])
   (fun i=>chF K++CA 3 (om K l).1) 0 [0,1,2,3] ⟨rfl,rfl,?_,?_⟩ ⟨aae _,rfl⟩ ?_
  .exact Vc
  .exact Vc
  rintro i ⟨hi,hia⟩;by_cases dp:i<(om K l).2.length
  .have uu:((om K l).2.take (i+1)).any wo=(((om K l).2.take i).any wo || wo ((om K l).2.getD ((i:Int)).toNat adg.bA)):=adO dp
   have bD:(om K l).2.getD ((i:Int)).toNat adg.bA∈(om K l).2:=getD_in adg.bA dp;rw[hia,Bool.false_or]at uu;(refine Wa _ ?_;(repeat' first|exact tv|apply pr|intro hh));all_goals first|exact Ob.mk ⟨by simp only[];omega,by simp only[];omega⟩|(exfalso;omega)|skip
   all_goals first|((refine ae.w () [0,1] _ ?_;(repeat' first|exact tv|apply pr)))|skip
   all_goals refine⟨i+1,[0,1,2,3],⟨rfl,rfl,?_,?_⟩,⟨by show i+1<=_;omega,?_⟩,by show _ - (i+1)<_ - i;omega⟩
   all_goals refine Vb _ ?_;repeat' first|exact tv|apply pr
   all_goals first|(rw[wr (by omega)];omega)|exact uu.trans (adY ‹_› hh)|skip
  have IL:i=(om K l).2.length:=by omega
  subst IL;rw[aac]at hia;exact absurd (hx.symm.trans hia) (by decide)
 | false =>
  rw[ZY (by rw[hx];decide)]at e;rw[e];(refine aa.q Tryz.func94 rfl fun S aw=>Wa _ ?_;(repeat' first|exact tv|apply pr|intro hh));all_goals first|(refine Ob.mk (ad6 ?_ Pz).2;show(List.take K.L.length (List.drop 0 K.L)).length<=300000;rw[aah,aac];omega)|skip
  all_goals simp only[aah,aac]
  (refine ab.q hea [2,3] fun _ _=>Wp _ ?_;(repeat' first|exact tv|apply pr|intro hh));refine aM.intro hm (X:=Nat) (fun i=>i<=(om K l).2.length/\((om K l).2.take i).any wo=false) (fun i=>(om K l).2.length - i)
   (fun i=>[(0,.ptr 0 0),(7,.ptr 2 0),(8,.aL adg fun _=>(om K l).2),(10,.I (i:Int))])
   (fun i=>chF K++CA 3 (om K l).1) 0 [0,1,2,3] ⟨rfl,rfl,?_,?_⟩ ⟨aae _,rfl⟩ ?_
  .exact Vc
  .exact Vc
  rintro i ⟨hi,hia⟩;by_cases dp:i<(om K l).2.length
  .have uu:((om K l).2.take (i+1)).any wo=(((om K l).2.take i).any wo || wo ((om K l).2.getD ((i:Int)).toNat adg.bA)):=adO dp
   have bD:(om K l).2.getD ((i:Int)).toNat adg.bA∈(om K l).2:=getD_in adg.bA dp;rw[hia,Bool.false_or]at uu;(refine Wa _ ?_;(repeat' first|exact tv|apply pr|intro hh));all_goals first|exact Ob.mk ⟨by simp only[];omega,by simp only[];omega⟩|(exfalso;omega)|skip
   all_goals first|(exfalso;exact absurd (List.any_eq_true.2 ⟨_,bD,ad2 hh⟩) (by rw[hx];decide))|(exfalso;exact absurd (List.any_eq_true.2 ⟨_,bD,aek hh⟩) (by rw[hx];decide))|skip
   all_goals refine⟨i+1,[0,1,2,3],⟨rfl,rfl,?_,?_⟩,⟨by show i+1<=_;omega,?_⟩,by show _ - (i+1)<_ - i;omega⟩
   all_goals refine Vb _ ?_;repeat' first|exact tv|apply pr
   all_goals first|(rw[wr (by omega)];omega)|exact uu.trans (adY ‹_› hh)|skip
  have IL:i=(om K l).2.length:=by omega
  subst IL;rw[aac]at hia;(refine Wa _ ?_;(repeat' first|exact tv|apply pr|intro hh));all_goals try (exfalso;omega)
  (refine ae.w () [0,3] _ ?_;(repeat' first|exact tv|apply pr));all_goals first|exact Wu.1.symm|exact Wu.2.1.symm|exact Wu.2.2.symm|skip
def opB (o:OpB):AV:=.agg [.I o.1,.aL Zj fun _=>o.2.1,.I o.2.2.1,.I o.2.2.2.1,.I o.2.2.2.2.1,.I o.2.2.2.2.2.1,.I o.2.2.2.2.2.2]
def adi (K:Kt) (o:OpB):Kt :=
 if o.1=0 then(adf K o.2.1).1 else if o.1=1 then(adj K o.2.1).1
 else if o.1=2 then(if o.2.2.1<0\/1099511627776<o.2.2.1 then K else mq K (K.now+o.2.2.1))
 else if o.1=3 then(qQ K o.2.2.1 o.2.2.2).1 else K
theorem ael (K:Kt) (l:List adk):(adf K l).2.1.length<=8:=by
 unfold adf;split
 .exact aae _
 .rename_i h;unfold adp at h
  show(om K l).2.length<=8;rw[adl];omega
theorem aew (K:Kt) (l:List adk):(adj K l).2.1.length<=8:=by
 unfold adj;split
 .exact aae _
 .rename_i h;unfold adp at h
  have:=adl l K;split
  .show(om K l).2.length<=8;omega
  .show(om K l).2.length<=8;omega
theorem Small.ae1 {K:Kt} {m:Nat} (s:Small K m) (o:OpB):Small (adi K o) (m+8):=by
 have he:∀ l,¬adp l->Small (om K l).1 (m+8):=fun l h=>by unfold adp at h;exact(s.each l).up (by omega)
 unfold adi;split
 .unfold adf;split
  .exact s.up (by omega)
  .exact he _ ‹_›
 split
 .unfold adj;split
  .exact s.up (by omega)
  .split
   .exact s.up (by omega)
   .exact he _ ‹_›
 split
 .split
  .exact s.up (by omega)
  .exact(s.tick _).up (by omega)
 split
 .exact(s.set _ _).up (by omega)
 .exact s.up (by omega)
set_option maxHeartbeats 1000000 in
theorem aeU {K:Kt} {ms m m' c:Nat} (s:Small K ms) (VQ:ms<=90000) (o:OpB) (hN:-9223372036854775808<=o.2.2.1/\o.2.2.1<=9223372036854775807) (h1:m<=900000) (h2:m+8<=m'):aa Tryz.prog 44 [.ptr 0 0,.ptr 1 0,opB o] (.bq (nn K m c)::CA 2 K) (Y:=Nat) (fun _=>True)
  (fun _=>.tt) (fun c'=>.bq (nn (adi K o) m' c')::CA 2 (adi K o)):=by
 have Zb:=s.now;have Pe:ke=1099511627776:=rfl;have hN1:=hN.1;have hN2:=hN.2;by_cases k0:o.1=0
 .have e:adi K o=(adf K o.2.1).1:=by unfold adi;rw[Z0 k0]
  have hto:=aea (adf K o.2.1).2.1 (adf K o.2.1).2.1 (by have:=ael K o.2.1;omega);rw[e];(refine aa.q Tryz.func44 rfl fun S aw=>Wa _ ?_;(repeat' first|exact tv|apply pr|intro hh));all_goals try (exfalso;omega)
  all_goals refine ab.q (adS (K:=K) (m:=m) (m':=m') (c:=c) o.2.1 (by omega) h2) [0] ?_;rintro c' _;refine Wp _ ?_;repeat' first|exact tv|apply pr|intro hh
  all_goals refine ab.q (aej K s (by omega) o.2.1) [1,2] fun _ _=>Wp _ ?_;repeat' first|exact tv|apply pr|intro hh
  all_goals refine ab.q hto [] fun _ _=>Wp _ ?_;repeat' first|exact tv|apply pr|intro hh
  all_goals first|(exact absurd ‹_=false› (by simp))|skip
  all_goals refine ae.w c' [0,1,2] _ ?_;repeat' first|exact tv|apply pr
  all_goals simp
 by_cases k1:o.1=1
 .have e:adi K o=(adj K o.2.1).1:=by unfold adi;rw[ZY k0,Z0 k1]
  have hto:=aea (adj K o.2.1).2.1 (adj K o.2.1).2.1 (by have:=aew K o.2.1;omega);rw[e];(refine aa.q Tryz.func44 rfl fun S aw=>Wa _ ?_;(repeat' first|exact tv|apply pr|intro hh));all_goals try (exfalso;omega)
  all_goals refine ab.q (aeA (K:=K) (m:=m) (m':=m') (c:=c) o.2.1 (by omega) h2) [0] ?_;rintro c' _;refine Wp _ ?_;repeat' first|exact tv|apply pr|intro hh
  all_goals refine ab.q (aeT K s (by omega) o.2.1) [1,2] fun _ _=>Wp _ ?_;repeat' first|exact tv|apply pr|intro hh
  all_goals refine ab.q hto [] fun _ _=>Wp _ ?_;repeat' first|exact tv|apply pr|intro hh
  all_goals first|(exact absurd ‹_=false› (by simp))|(exact absurd rfl hh)|skip
  all_goals refine ae.w c' [0,1,2] _ ?_;repeat' first|exact tv|apply pr
  all_goals simp
 by_cases k2:o.1=2
 .by_cases hr:o.2.2.1<0\/1099511627776<o.2.2.1
  .have e:adi K o=K:=by unfold adi;rw[ZY k0,ZY k1,Z0 k2,Z0 hr]
   rw[e];(refine aa.q Tryz.func44 rfl fun S aw=>Wa _ ?_;(repeat' first|exact tv|apply pr|intro hh));all_goals try (exfalso;omega)
   all_goals refine ae.bq 0 (nn K m c) (nn K m' c) rfl (Vq (by omega)) ?_
   all_goals exact ae.z c [0,1,2]
  .have e:adi K o=mq K (K.now+o.2.2.1):=by unfold adi;rw[ZY k0,ZY k1,Z0 k2,ZY hr]
   have ew:IntKind.i64.wrap (K.now+o.2.2.1)=K.now+o.2.2.1:=wr (by omega);rw[e];(refine aa.q Tryz.func44 rfl fun S aw=>Wa _ ?_;(repeat' first|exact tv|apply pr|intro hh));all_goals try (exfalso;omega)
   all_goals simp only[ew]
   all_goals refine ab.q (W0 (K:=K) (m:=m) (m':=m') (c:=c) (K.now+o.2.2.1) (by omega)) [0] ?_;rintro c' _;refine Wp _ ?_;repeat' first|exact tv|apply pr|intro hh
   all_goals try simp only[ew]
   all_goals refine ab.q (aeI K (K.now+o.2.2.1)) [1,2] fun _ _=>Wp _ ?_;repeat' first|exact tv|apply pr|intro hh
   all_goals refine ae.w c' [0,1,2] _ ?_;repeat' first|exact tv|apply pr
   all_goals simp
 by_cases k3:o.1=3
 .have e:adi K o=(qQ K o.2.2.1 o.2.2.2).1:=by unfold adi;rw[ZY k0,ZY k1,ZY k2,Z0 k3]
  rw[e];(refine aa.q Tryz.func44 rfl fun S aw=>Wa _ ?_;(repeat' first|exact tv|apply pr|intro hh));all_goals try (exfalso;omega)
  all_goals refine ab.q (Zh (K:=K) (m:=m) (m':=m') (c:=c) o.2.2.1 o.2.2.2 (by omega)) [0] ?_;rintro c' _;refine Wp _ ?_;repeat' first|exact tv|apply pr|intro hh
  all_goals refine ab.q (aeR K s (by omega) o.2.2.1 o.2.2.2) [1,2] fun _ _=>Wp _ ?_;repeat' first|exact tv|apply pr|intro hh
  all_goals first|(exact absurd rfl hh)|skip
  all_goals refine ae.w c' [0,1,2] _ ?_;repeat' first|exact tv|apply pr
  all_goals simp
 have e:adi K o=K:=by unfold adi;rw[ZY k0,ZY k1,ZY k2,ZY k3]
 rw[e];by_cases k4:o.1=4
 .refine aa.q Tryz.func44 rfl fun S aw=>Wa _ ?_;repeat' first|exact tv|apply pr|intro hh
  all_goals try (exfalso;omega)
  all_goals refine ab.q (W3 (K:=K) (m:=m) (m':=m') (c:=c) o.2.2.1 hN (by omega) (by omega)) [0] ?_;rintro y _;refine Wp _ ?_;repeat' first|exact tv|apply pr|intro hh
  all_goals exact ae.z y.1 [0,1,2]
 .refine aa.q Tryz.func44 rfl fun S aw=>Wa _ ?_;repeat' first|exact tv|apply pr|intro hh
  all_goals try (exfalso;omega)
  all_goals refine ae.bq 0 (nn K m c) (nn K m' c) rfl (Vq (by omega)) ?_
  all_goals exact ae.z c [0,1,2]
end Go.Proofs.YthnefnlhcijekaaGreat.En
set_option maxRecDepth 8000
namespace Go.Proofs.YthnefnlhcijekaaGreat.En
open Go Go.RowKit Fw Hi Ce
structure BsI (l:List OpB) (z:Nat×Kt×Nat):Prop where
 le:z.1<=l.length
 s:Small z.2.1 (9*z.1)
def aeV (o:OpB):Prop:=-9223372036854775808<=o.2.2.1/\o.2.2.1<=9223372036854775807
set_option maxHeartbeats 1000000 in
theorem adz (n sd:Int) (l:List OpB) (hN:∀ o∈l,aeV o):MU Tryz.prog 14 [Ir n sd,.aL adm fun _=>l] [] .tt []:=by
 have Kn:=aeN l 30 (by omega);by_cases hf:aeq l 30;rotate_left
 .rw[decide_eq_false hf]at Kn
  by_cases hn:1<=n/\n<=64
  .refine aa.q Tryz.func14 rfl fun S aw=>Wa _ ?_;repeat' first|exact tv|apply pr|intro hh
   (refine ab.q (Zi n sd hn) [] fun _ _=>Wp _ ?_;(repeat' first|exact tv|apply pr|intro hh));(refine ab.q (aez n sd hn) [] fun _ _=>Wp _ ?_;(repeat' first|exact tv|apply pr|intro hh));(refine ab.q Kn [] fun _ _=>Wp _ ?_;(repeat' first|exact tv|apply pr|intro hh));all_goals refine ab.q adG [] fun _ _=>Wp _ ?_;repeat' first|exact tv|apply pr|intro hh
   all_goals exact ae.z () []
  .refine aa.q Tryz.func14 rfl fun S aw=>Wa _ ?_;repeat' first|exact tv|apply pr|intro hh
   (refine ab.q (S7 n sd hn) [] fun _ _=>Wp _ ?_;(repeat' first|exact tv|apply pr|intro hh));(refine ab.q (adN n sd hn) [] fun _ _=>Wp _ ?_;(repeat' first|exact tv|apply pr|intro hh));(refine ab.q Kn [] fun _ _=>Wp _ ?_;(repeat' first|exact tv|apply pr|intro hh));all_goals refine ab.q adG [] fun _ _=>Wp _ ?_;repeat' first|exact tv|apply pr|intro hh
   all_goals exact ae.z () []
 rw[decide_eq_true hf]at Kn;have hl30:=hf.1;by_cases hn:1<=n/\n<=64;rotate_left
 .refine aa.q Tryz.func14 rfl fun S aw=>Wa _ ?_;repeat' first|exact tv|apply pr|intro hh
  (refine ab.q (S7 n sd hn) [] fun _ _=>Wp _ ?_;(repeat' first|exact tv|apply pr|intro hh));(refine ab.q (adN n sd hn) [] fun _ _=>Wp _ ?_;(repeat' first|exact tv|apply pr|intro hh));(refine ab.q Kn [] fun _ _=>Wp _ ?_;(repeat' first|exact tv|apply pr|intro hh));all_goals refine ab.q adG [] fun _ _=>Wp _ ?_;repeat' first|exact tv|apply pr|intro hh
  all_goals exact ae.z () []
 (refine aa.q Tryz.func14 rfl fun S aw=>Wa _ ?_;(repeat' first|exact tv|apply pr|intro hh));(refine ab.q (Zi n sd hn) [] fun _ _=>Wp _ ?_;(repeat' first|exact tv|apply pr|intro hh));(refine ab.q (aez n sd hn) [] fun _ _=>Wp _ ?_;(repeat' first|exact tv|apply pr|intro hh));(refine ab.q Kn [] fun _ _=>Wp _ ?_;(repeat' first|exact tv|apply pr|intro hh));refine aM.intro hm (X:=Nat×Kt×Nat) (BsI l) (fun z=>l.length - z.1)
  (fun z=>[(1,.aL adm fun _=>l),(5,.ptr 0 0),(7,.ptr 1 0),(9,.I (z.1:Int))])
  (fun z=>.bq (nn z.2.1 (9*z.1) z.2.2)::CA 2 z.2.1) (0,W6 n,0) [1,2,3] ⟨rfl,rfl,?_,?_⟩ ⟨aae _,Small.zero hn⟩ ?_
 .exact Vc
 .exact Vc
 rintro⟨i,K,c⟩ hI;have hi:=hI.le;have hs:=hI.s;simp only[]at hi hs;by_cases dp:i<l.length
 .have OT:=aeU (m:=9*i) (m':=9*(i+1)) (c:=c) hs (by omega) (l.getD ((i:Int)).toNat adm.bA) (hN _ (getD_in adm.bA dp)) (by omega) (by omega)
  have ZP:=(hs.ae1 (l.getD ((i:Int)).toNat adm.bA)).up (show 9*i+8<=9*(i+1) by omega);(refine Wa _ ?_;(repeat' first|exact tv|apply pr|intro hh));all_goals first|exact Ob.mk ⟨by simp only[];omega,by simp only[];omega⟩|(exfalso;omega)|skip
  all_goals refine ab.q OT [0,1,2] ?_;rintro c' _;refine Wp _ ?_;repeat' first|exact tv|apply pr|intro hh
  all_goals refine ab.q (Vp (K:=adi K (l.getD ((i:Int)).toNat adm.bA)) (m:=9*(i+1)) (c:=c')) [0] ?_;rintro _ ⟨⟨q1,q2⟩,q3⟩;refine Wp _ ?_;repeat' first|exact tv|apply pr|intro hh
  all_goals refine ab.q (adW (adi K (l.getD ((i:Int)).toNat adm.bA)) ZP (by omega)) [1,2] fun _ _=>Wp _ ?_;repeat' first|exact tv|apply pr|intro hh
  all_goals refine ab.q (W7 (eD (adi K (l.getD ((i:Int)).toNat adm.bA))) (eD (adi K (l.getD ((i:Int)).toNat adm.bA))) (by omega)) [] fun _ _=>Wp _ ?_;repeat' first|exact tv|apply pr|intro hh
  all_goals first|(exact absurd ‹_=false› (by simp))|skip
  all_goals refine⟨(i+1,adi K (l.getD ((i:Int)).toNat adm.bA),c'),[0,1,2],⟨rfl,rfl,?_,?_⟩,⟨dp,ZP⟩,by show _ - (i+1)<_ - i;omega⟩
  all_goals refine Vb _ ?_;repeat' first|exact tv|apply pr
  all_goals first|(rw[wr (by omega)];omega)|skip
 (refine Wa _ ?_;(repeat' first|exact tv|apply pr|intro hh));all_goals try (exfalso;omega)
 all_goals refine ab.q adG [] fun _ _=>Wp _ ?_;repeat' first|exact tv|apply pr|intro hh
 all_goals exact ae.z () []
end Go.Proofs.YthnefnlhcijekaaGreat.En
namespace Go.Proofs.YthnefnlhcijekaaGreat.RBatchScripts
open Go Go.ChangeShapes Go.WideShapes Go.ChangeAt Go.RowKit Fw
theorem own:ownKnob Tryz.prog.godebug=none:=by kernel_rfl
theorem laidOut:laidOutB Tryz.prog=true:=Si
theorem kids:Kids Tryz.prog (·<Tryz.prog.types.size):=Xa
theorem readable:∀ t∈Tryz.f14.params.toList,Tryz.prog.readableRec t=true/\t<Tryz.prog.types.size:=by
 have h:(Tryz.f14.params.toList.all fun t=>Tryz.prog.readableRec t && decide (t<Tryz.prog.types.size))=true:=by kernel_rfl
 intro t ht;have:=abb.1 h t ht;rw[aai,decide_eq_true_eq]at this;exact this
set_option maxRecDepth 100000 in
theorem lifted (os:Os) (started:os.Started) (H:Type) (enc:TypeId×Value->H) :
  ReturnsInHanded {} Tryz.checked os 14 .any (Rows.batchScriptsSpec.pre6 enc Tryz.prog Tryz.f14 Rows.batchScriptsRow.domain false) (Rows.batchScriptsSpec.post enc Tryz.prog Tryz.f14 false true false false):=by
 refine returnsInHanded_of_change (C:=Tryz.checked) own started (by kernel_rfl) Tryz.func14
  (ChangeSpec.witness6 (enc:=enc) (C:=Tryz.checked) false ⟨#[],#[.agg #[.int .i64 0,.int .u64 0],.slice none 0 0],[]⟩ 8 (by kernel_rfl) (by kernel_rfl) (by kernel_rfl) (by kernel_rfl)) ?_
 intro W base args ds gs before aeW hW hcnd _;have ln:∀ (j:Nat) t v,Tryz.f14.params[j]?=some t->args[j]?=some v->Value.okWide Tryz.prog W .any base t v:=aeW;have Zq:DataW.Whole enc Tryz.prog Tryz.f14.params.toList Rows.batchScriptsSpec.vars false W args.toList ds gs before:=hW;obtain⟨p,q,hA0,hV,_,_,_⟩:=Zq;have hA:DataW.TrodAll enc Tryz.prog W 0 (fun _=>true) true Tryz.f14.params.toList args.toList ds p:=hA0;rw[Tryz.params14]at hA ln;obtain⟨v0,v1,d0,d1,p0,p1,rfl,rfl,rfl,h0,h1⟩:=trodAll_two hA;obtain⟨rfl,rfl⟩:=trodVars_none hV;obtain⟨a0,afA,w0⟩:=OR (ty:=(.pair (.int .i64) (.int .u64))) kids rfl rfl (of_decide_eq_true (by kernel_rfl)) (by kernel_rfl) (ln 0 _ v0 rfl rfl) h0;obtain⟨a1,r1,w1⟩:=Se (ty:=(.list En.adm)) kids rfl rfl (of_decide_eq_true (by kernel_rfl)) (by kernel_rfl) (ln 1 _ v1 rfl rfl) h1;refine(S9 (aC:=[v0,v1]) (En.adz a0.1 a0.2 a1 (fun o ho=>(w1.2 o ho).2.2.1)) (fun _ _=>rfl) ⟨afA,r1.1,trivial⟩).mono ?_;rintro e W' ⟨rfl,hb⟩;exact⟨_,rfl,Sg laidOut hW rfl rfl (by rfl) Tryz.underlying4 readable hb⟩
theorem aem:Tryz.prog.inPlace 14=Rows.batchScriptsRow.inPlace:=by kernel_rfl
theorem adv:Tryz.prog.unfollowed 14=Rows.batchScriptsRow.unfollowed:=by kernel_rfl
theorem ad3:Tryz.prog.recurses 14=Rows.batchScriptsRow.recurses:=by unfold Program.recurses;rw[adv];first|exact Bool.true_or _|kernel_rfl
theorem aeJ:Tryz.prog.varsNamed 14=Rows.batchScriptsRow.named:=by kernel_rfl
theorem closed:joinedFacts Tryz.prog 14 Tryz.f14 Rows.batchScriptsSpec Rows.batchScriptsRow=true:=by
 unfold joinedFacts;rw[aem,adv,ad3,aeJ,Si,Sj,Vt,Vu,Vv,Vw,W9];kernel_rfl
theorem holds:Rows.BatchScriptsSaid :=
 OpenClaim.holds_of_wide 14 Tryz.f14 rfl rfl rfl rfl rfl rfl rfl ⟨rfl,rfl,rfl,rfl,rfl⟩ rfl rfl rfl rfl rfl (by kernel_rfl) Tryz.func14 closed
  (of_decide_eq_true (by kernel_rfl)) (by unfold Func.isWrapper;first|(rw[Z0 (by decide +kernel)];kernel_rfl)|(rw[ZY (by decide +kernel)];exact⟨rfl,rfl⟩))
  (fun os started H enc _=>lifted os started H enc)
end Go.Proofs.YthnefnlhcijekaaGreat.RBatchScripts
#print axioms Go.Proofs.YthnefnlhcijekaaGreat.RBatchScripts.holds
