/- The law BatchAll holds at every input that its statement lets in; part 1 of its proof. -/
import Derived.Test.YthnefnlhcijekaaGreatMC6
set_option linter.unusedVariables false
set_option linter.unusedSimpArgs false
set_option maxRecDepth 8000
namespace Go.Proofs.YthnefnlhcijekaaGreat.En
open Go Go.RowKit Fw Hi Ce
section
variable {K:Kt} {m m':Nat}
theorem ad2 (s:Small K m):mq K 0=K:=by unfold mq;rw[ZY];have:=s.now;omega
end
theorem ad7 {n b:Nat} (hn:n<=300000) (hb:b<=1000):n<=140737488355328/\n*b<=140737488355328 :=
 ⟨by omega,aaA (Nat.mul_le_mul hn hb) (by decide)⟩
abbrev adj:=Int×List UInt8×Int
def aNm (a:adj):Nm:=(a.1,a.2.1)
def adm (K:Kt) (a:adj):Kt×L1:=dV K (aNm a) a.2.2
def QD:Kt->List adj->Kt×List L1
 | K,[]=>(K,[])
 | K,a::r=>((QD (adm K a).1 r).1,(adm K a).2::(QD (adm K a).1 r).2)
theorem adv (a:adj):∀ (l:List adj) (K:Kt),QD K (l++[a])=((adm (QD K l).1 a).1,(QD K l).2++[(adm (QD K l).1 a).2])
 | [],K=>rfl
 | b::r,K=>by rw[abp,QD,adv a r (adm K b).1];rfl
theorem adG {l:List adj} {i:Nat} (d:adj) (h:i<l.length) (K:Kt):QD K (l.take (i+1))=((adm (QD K (l.take i)).1 (l.getD i d)).1,(QD K (l.take i)).2++[(adm (QD K (l.take i)).1 (l.getD i d)).2]):=by
 rw[aaE,Z1 h,ac4,adv,ZZ,Z1 h];rfl
theorem adk:∀ (l:List adj) (K:Kt),(QD K l).2.length=l.length
 | [],_=>rfl
 | a::r,K=>by rw[QD,Z9,Z9,adk r]
theorem Small.each:∀ (l:List adj) {K:Kt} {m:Nat},Small K m->Small (QD K l).1 (m+l.length)
 | [],_,_,s=>s
 | a::r,K,m,s=>by
  have:=Small.each r (s.check (aNm a) a.2.2);rw[QD,Z9];exact this.up (by omega)
def adu (l:List adj):Prop:=l.length=0\/8<l.length
instance (l:List adj):Decidable (adu l):=inferInstanceAs (Decidable (_\/_))
def om (K:Kt) (l:List adj):Kt×List L1×Int:=if adu l then(K,[],1)else((QD K l).1,(QD K l).2,0)
def wo (t:L1):Bool:=!decide (t.1=0) || !t.2.1
def adf (K:Kt) (l:List adj):Kt×List L1×Bool×Int :=
 if adu l then(K,[],false,1)else if(QD K l).2.any wo then(K,(QD K l).2,false,0)else((QD K l).1,(QD K l).2,true,0)
theorem adL (x y:Nm):rT x y<0↔kQ x y:=by rw[<-sk];simp[ltOf]
theorem adH (x y:Nm):rT x y=0↔x=y:=by
 have h:=(C6 x.2 y.2).2;unfold rT Ti.lY;constructor
 .intro h1
  by_cases ha:x.1<y.1
  .simp[ha]at h1
  .by_cases hb:y.1<x.1
   .simp[ha,hb]at h1
   .simp[ha,hb]at h1
    exact Prod.ext (by omega) (h.1 h1)
 .rintro rfl
  simp[h.2 rfl]
def adz (L:List Nm) (after:Nm) (aF:Int):List Nm:=(L.filter fun x=>decide (kQ after x)).take aF.toNat
def adh:List Nm->Nm->Nat
 | [],_=>0
 | a::r,x=>if kQ a x then adh r x+1 else 0
theorem adx:∀ (l:List Nm) (x:Nm),adh l x<=l.length
 | [],_=>Z8 _
 | a::r,x=>by
  unfold adh;split
  .exact Nat.succ_le_succ (adx r x)
  .exact aae _
theorem ady {x:Nm}:∀ {l:List Nm},l.Pairwise kQ->∀ j,j<l.length->(kQ (l.getD j (0,[])) x↔j<adh l x)
 | [],_,_,h=>absurd h (abW _)
 | a::r,hs,0,_=>by
  show kQ a x↔_;unfold adh;split
  .exact⟨fun _=>Nat.succ_pos _,fun _=>‹_›⟩
  .exact⟨fun h=>absurd h ‹_›,fun h=>absurd h (Nat.lt_irrefl _)⟩
 | a::r,hs,j+1,h=>by
  have rG:=abx.1 hs;have hj:j<r.length:=by simpa using h
  show kQ (r.getD j (0,[])) x↔_;have e:adh (a::r) x=if kQ a x then adh r x+1 else 0:=rfl;rw[ady rG.2 j hj,e];split
  .omega
  .rename_i hn
   refine⟨fun hc=>?_,fun hc=>absurd hc (abW _)⟩;exfalso;apply hn;have h1:=(ady rG.2 j hj).2 hc;have h2:kQ a (r.getD j (0,[])):=rG.1 _ (by rw[ZZ,Z1 hj];exact aax _);exact gj h2 h1
def adl (l:List Nm) (x:Nm):Bool:=decide (adh l x<l.length/\l.getD (adh l x) (0,[])=x)
theorem adp {x:Nm}:∀ {l:List Nm},l.Pairwise kQ->l.drop (if adl l x=true then adh l x+1 else adh l x)=l.filter fun y=>decide (kQ x y)
 | [],_=>by simp[adl,adh]
 | a::r,hs=>by
  have rG:=abx.1 hs;have ih:=adp (x:=x) rG.2;by_cases h:kQ a x
  .have e1:adh (a::r) x=adh r x+1:=by rw[adh,Z0 h]
   have e2:adl (a::r) x=adl r x:=by
    unfold adl;rw[e1,decide_eq_decide];show(adh r x+1<r.length+1/\r.getD (adh r x) (0,[])=x)↔_;rw[Nat.add_lt_add_iff_right]
   rw[e1,e2,List.filter_cons_of_neg (by simpa using pY h),<-ih];split <;> rfl
  .have e1:adh (a::r) x=0:=by rw[adh,ZY h]
   by_cases ha:a=x
   .subst ha
    have e2:adl (a::r) a=true:=by unfold adl;rw[e1];simp
    rw[e1,e2,Z0 rfl,List.filter_cons_of_neg (by simpa using ig a)];show r=_;exact(List.filter_eq_self.2 fun y hy=>by simpa using rG.1 y hy).symm
   .have hx:kQ x a:=aaG fun h2=>ha (jA h h2)
    have e2:adl (a::r) x=false:=by unfold adl;rw[e1];simp[ha]
    rw[e1,e2,ZY (by decide)];show a::r=_;refine(List.filter_eq_self.2 fun y hy=>?_).symm;rcases aaj.1 hy with e|h3
    .rw[e];simpa using hx
    .simpa using gj hx (rG.1 y h3)
end Go.Proofs.YthnefnlhcijekaaGreat.En
set_option maxRecDepth 8000
namespace Go.Proofs.YthnefnlhcijekaaGreat.En
open Go Go.RowKit Fw Hi Ce
abbrev adi:Ty:=.pair (.int .i64) (.pair .bool (.pair (.int .i64) (.pair (.int .i64) (.int .i64))))
abbrev ad4:TypeId:=55
section
variable {K:Kt} {m m' c:Nat}
structure EaI (K:Kt) (l:List adj) (z:Nat×Nat×Kt×List L1):Prop where
 le:z.1<=l.length
 eq:QD K (l.take z.1)=(z.2.2.1,z.2.2.2)
theorem adq (l:List adj) (h1:m<=999900) (h2:m+8<=m'):aa Tryz.prog 19 [.ptr 0 0,.aL Zj fun _=>l] [.bq (nn K m c)] (Y:=Nat) (fun _=>True)
  (fun _=>.bQ [.aL adi fun _=>(om K l).2.1,.I ((om K l).2.2)]) (fun c'=>[.bq (nn (om K l).1 m' c')]):=by
 have Pz:Tryz.t55.bytes<=1000:=by decide
 by_cases hb:adu l
 .have e:om K l=(K,[],1):=by unfold om;rw[Z0 hb]
  unfold adu at hb;rw[e];(refine aa.q Tryz.func19 rfl fun S aw=>Wa _ ?_;(repeat' first|exact tv|apply pr|intro hh));all_goals try (exfalso;omega)
  all_goals refine ae.bq 0 (nn K m c) (nn K m' c) rfl (Vq (by omega)) ?_
  all_goals exact ae.z c [0]
 have e:om K l=((QD K l).1,(QD K l).2,0):=by unfold om;rw[ZY hb]
 unfold adu at hb;rw[e];(refine aa.q Tryz.func19 rfl fun S aw=>Wa _ ?_;(repeat' first|exact tv|apply pr|intro hh));all_goals try (exfalso;omega)
 refine aM.nil ad4 adi none [6] ?_;refine aM.intro hm (X:=Nat×Nat×Kt×List L1) (EaI K l) (fun z=>l.length - z.1)
  (fun z=>[(0,.ptr 0 0),(21,.aL Zj fun _=>l),(22,.I (l.length:Int)),(23,.I (z.1:Int)),(6,.vec 1 5 (fun _=>0) fun _=>z.2.2.2.length)])
  (fun z=>[.bq (nn z.2.2.1 (m+z.1) z.2.1),.aq ad4 adi fun _=>z.2.2.2]) (0,c,K,[]) [0,1] ⟨rfl,rfl,?_,?_⟩ ⟨aae _,rfl⟩ ?_
 .exact Vc
 .exact Vc
 rintro⟨i,c1,aeF,out⟩ hI;have hi:=hI.le;have he:=hI.eq;simp only[]at hi he;have D8:out.length=i:=by
  have:=adk (l.take i) K;rw[he,aak]at this;simp only[]at this;omega
 by_cases dp:i<l.length
 .have Wi:=Vo (K:=aeF) (m:=m+i) (m':=m+(i+1)) (c:=c1) (aNm (l.getD i Zj.bA)) (l.getD i Zj.bA).2.2 (by omega) (by omega)
  have fR:=adG Zj.bA dp K;rw[he]at fR;(refine Wa _ ?_;(repeat' first|exact tv|apply pr|intro hh));all_goals first|exact Ob.mk ⟨by simp only[];omega,by simp only[];omega⟩|(exfalso;omega)|skip
  refine ab.q Wi [0] ?_;rintro c2 _;refine Wp _ ?_;repeat' first|exact tv|apply pr|intro hh
  .refine Ob.mk ⟨rfl,ad7 ?_ Pz⟩
   show out.length+1<=300000;omega
  all_goals refine⟨(i+1,c2,(dV aeF (aNm (l.getD i Zj.bA)) (l.getD i Zj.bA).2.2).1,out++[(dV aeF (aNm (l.getD i Zj.bA)) (l.getD i Zj.bA).2.2).2]),[0,1],⟨rfl,rfl,?_,?_⟩,⟨dp,fR⟩,by show _ - (i+1)<_ - i;omega⟩
  all_goals refine Vb _ ?_;repeat' first|exact tv|apply pr
  all_goals first|(rw[wr (by omega)];omega)|(rw[Z6 (Z8 _)];rfl)|(rw[aab];rfl)|skip
 have IL:i=l.length:=by omega
 subst IL;rw[aac]at he;rw[he];(refine Wa _ ?_;(repeat' first|exact tv|apply pr|intro hh));all_goals try (exfalso;omega)
 refine ae.bq 0 (nn aeF (m+l.length) c1) (nn aeF m' c1) rfl (Vq (by omega)) ?_;(refine ae.gU 1 ?_;(conv=>whnf));(refine ae.w c1 [0] _ ?_;(repeat' first|exact tv|apply pr));rw[aah,aac]
theorem adM (t:L1):MU Tryz.prog 48 [Ih t] [] (.bool fun _=>wo t) []:=by
 (refine aa.q Tryz.func48 rfl fun S aw=>Wa _ ?_;(repeat' first|exact tv|apply pr|intro hh));all_goals refine ae.w () [] _ ?_;repeat' first|exact tv|apply pr
 all_goals (unfold wo;simp_all)
theorem adN (l:List L1) (hl:l.length<=1000):aa Tryz.prog 102 [.aL adi fun _=>l,.fn (.func 48) [] []] [] (Y:=Int) (fun y=>decide (0<=y)=l.any wo)
  (fun y=>.int .i64 fun _=>y) (fun _=>[]):=by
 (refine aa.q Tryz.func102 rfl fun S aw=>Wa _ ?_;(repeat' first|exact tv|apply pr|intro hh));refine aM.intro hm (X:=Nat) (fun i=>i<=l.length/\(l.take i).any wo=false) (fun i=>l.length - i)
  (fun i=>[(8,.I (i:Int)),(7,.I (l.length:Int)),(6,.aL adi fun _=>l),(0,.aL adi fun _=>l),(1,.fn (.func 48) [] [])])
  (fun i=>[]) 0 [] ⟨rfl,rfl,?_,?_⟩ ⟨aae _,rfl⟩ ?_
 .exact Vc
 .exact Vc
 rintro i ⟨hi,ha⟩;(refine Wa _ ?_;(repeat' first|exact tv|apply pr|intro hh));all_goals try exact Ob.mk ⟨by simp only[];omega,by simp only[];omega⟩
 .have dp:i<l.length:=by omega
  have hg:l.getD i adi.bA∈l:=by rw[ZZ,Z1 dp];exact aax _
  have uu:(l.take (i+1)).any wo=wo (l.getD i adi.bA):=by
   rw[aaE,Z1 dp,ac4,List.any_append,ha,ZZ,Z1 dp];simp
  refine ab.q (adM (l.getD i adi.bA)) [] fun _ _=>Wp _ ?_;repeat' first|exact tv|apply pr|intro hh
  .refine ae.w (i:Int) [] _ ?_;repeat' first|exact tv|apply pr
   rw[decide_eq_true (by omega)];exact(List.any_eq_true.2 ⟨_,hg,hh⟩).symm
  .refine⟨i+1,[],⟨rfl,rfl,?_,?_⟩,⟨by show i+1<=_;omega,uu.trans hh⟩,by omega⟩
   .exact Vc
   .refine Vb _ ?_;repeat' first|exact tv|apply pr
    rw[wr (by omega)];omega
 .have IL:i=l.length:=by omega
  subst IL;rw[aac]at ha;(refine ae.w (-1) [] _ ?_;(repeat' first|exact tv|apply pr));rw[ha];rfl
theorem adA (l:List L1) (hl:l.length<=1000):MU Tryz.prog 47 [.aL adi fun _=>l,.fn (.func 48) [] []] [] (.bool fun _=>l.any wo) []:=by
 (refine aa.q Tryz.func47 rfl fun S aw=>Wa _ ?_;(repeat' first|exact tv|apply pr|intro hh));(refine ab.q (adN l hl) [] ?_;rintro y hy;refine Wp _ ?_;(repeat' first|exact tv|apply pr|intro hh));all_goals refine ae.w () [] _ ?_;repeat' first|exact tv|apply pr
 exact hy
theorem adV (l:List adj) (h1:m<=999800) (h2:m+8<=m'):aa Tryz.prog 20 [.ptr 0 0,.aL Zj fun _=>l] [.bq (nn K m c)] (Y:=Nat) (fun _=>True)
  (fun _=>.bQ [.aL adi fun _=>(adf K l).2.1,.bool fun _=>(adf K l).2.2.1,.I ((adf K l).2.2.2)]) (fun c'=>[.bq (nn (adf K l).1 m' c')]):=by
 have hea:=fun c=>adq (K:=K) (m:=m) (m':=m') (c:=c) l (by omega) h2;by_cases hb:adu l
 .have e:adf K l=(K,[],false,1):=by unfold adf;rw[Z0 hb]
  have e2:om K l=(K,[],1):=by unfold om;rw[Z0 hb]
  simp only[e2]at hea;rw[e];(refine aa.q Tryz.func20 rfl fun S aw=>Wa _ ?_;(repeat' first|exact tv|apply pr|intro hh));(refine ab.q (W4 (K:=K) (m:=m) (c:=c)) [0] ?_;rintro d _;refine Wp _ ?_;(repeat' first|exact tv|apply pr|intro hh));(refine ab.q (hea d) [1] ?_;rintro d2 _;refine Wp _ ?_;(repeat' first|exact tv|apply pr|intro hh));all_goals refine ae.bq 0 (nn K m c) (nn K m' c) rfl (Vq (by omega)) ?_
  all_goals exact ae.z c [0]
 have e2:om K l=((QD K l).1,(QD K l).2,0):=by unfold om;rw[ZY hb]
 have La:=adk l K;simp only[e2]at hea;have O8:=adA (QD K l).2 (by unfold adu at hb;omega);cases ha:(QD K l).2.any wo with
 | true =>
  have e:adf K l=(K,(QD K l).2,false,0):=by unfold adf;rw[ZY hb,ha];rfl
  rw[ha]at O8;rw[e];(refine aa.q Tryz.func20 rfl fun S aw=>Wa _ ?_;(repeat' first|exact tv|apply pr|intro hh));(refine ab.q (W4 (K:=K) (m:=m) (c:=c)) [0] ?_;rintro d _;refine Wp _ ?_;(repeat' first|exact tv|apply pr|intro hh));(refine ab.q (hea d) [1] ?_;rintro d2 _;refine Wp _ ?_;(repeat' first|exact tv|apply pr|intro hh));all_goals refine ab.q O8 [] fun _ _=>Wp _ ?_;repeat' first|exact tv|apply pr|intro hh
  all_goals refine ae.bq 0 (nn K m c) (nn K m' c) rfl (Vq (by omega)) ?_
  all_goals exact ae.z c [0]
 | false =>
  have e:adf K l=((QD K l).1,(QD K l).2,true,0):=by unfold adf;rw[ZY hb,ha];rfl
  rw[ha]at O8;rw[e];(refine aa.q Tryz.func20 rfl fun S aw=>Wa _ ?_;(repeat' first|exact tv|apply pr|intro hh));(refine ab.q (W4 (K:=K) (m:=m) (c:=c)) [0] ?_;rintro d _;refine Wp _ ?_;(repeat' first|exact tv|apply pr|intro hh));(refine ab.q (hea d) [1] ?_;rintro d2 _;refine Wp _ ?_;(repeat' first|exact tv|apply pr|intro hh));all_goals refine ab.q O8 [] fun _ _=>Wp _ ?_;repeat' first|exact tv|apply pr|intro hh
  all_goals refine ab.q (hea c) [0] ?_;rintro d3 _;refine Wp _ ?_;repeat' first|exact tv|apply pr|intro hh
  all_goals exact ae.z d3 [0]
theorem adr (x y:Nm):MU Tryz.prog 49 [zB x,zB y] [] (.I (rT x y)) []:=by
 (refine aa.q Tryz.func49 rfl fun S aw=>Wa _ ?_;(repeat' first|exact tv|apply pr|intro hh));(refine ab.q (Ti.tB x.1 y.1) [] fun _ _=>Wp _ ?_;(repeat' first|exact tv|apply pr|intro hh));all_goals refine ab.q (KR x.2 y.2) [] fun _ _=>Wp _ ?_;repeat' first|exact tv|apply pr|intro hh
 all_goals refine ab.q (Ti.orM (Ti.lY x.1 y.1) (p8 x.2 y.2)) [2] fun _ _=>Wp _ ?_;repeat' first|exact tv|apply pr|intro hh
 all_goals exact ae.z () []
theorem ad8 (l:List Nm) (hs:l.Pairwise kQ) (hl:l.length<=1000) (x:Nm):MU Tryz.prog 53 [.aL uR fun _=>l,zB x,.fn (.func 49) [] []] [] (.bQ [.I (adh l x:Int),.bool fun _=>adl l x]) []:=by
 have ES:=adx l x;(refine aa.q Tryz.func53 rfl fun S aw=>Wa _ ?_;(repeat' first|exact tv|apply pr|intro hh));refine aM.intro hm (X:=Nat×Nat) (fun z=>z.1<=adh l x/\adh l x<=z.2/\z.2<=l.length) (fun z=>z.2 - z.1)
  (fun z=>[(0,.aL uR fun _=>l),(2,.fn (.func 49) [] []),(4,.ptr 0 0),(8,.I (l.length:Int)),(9,.I (z.1:Int)),(10,.I (z.2:Int))])
  (fun z=>[.cells 24 [.I x.1,.str fun _=>x.2]]) (0,l.length) [0] ⟨rfl,rfl,?_,?_⟩ ⟨aae _,ES,Z8 _⟩ ?_
 .exact Vc
 .exact Vc
 rintro⟨a,b⟩ ⟨h1,h2,h3⟩;simp only[]at h1 h2 h3;by_cases rB:a<b
 .have ad9:IntKind.i64.wrap (Int.fdiv (IntKind.u64.wrap (IntKind.i64.wrap ((a:Int)+(b:Int)))) (2 ^ min (Int.toNat 1) IntKind.u64.bits))=(((a+b) / 2:Nat):Int):=by
   rw[wr (x:=(a:Int)+(b:Int)) (by omega),uQ (by omega)];show IntKind.i64.wrap (Int.fdiv ((a:Int)+(b:Int)) 2)=_;rw[abA _ (by omega),wr (by omega)];omega
  have hm1:a<=(a+b) / 2/\(a+b) / 2<b:=by omega
  have IB:=ady (x:=x) hs ((a+b) / 2) (by omega);have hcp:=adL (l.getD ((((a+b) / 2:Nat):Int)).toNat uR.bA) x;(refine Wa _ ?_;(repeat' first|exact tv|apply pr|intro hh));all_goals try (exfalso;omega)
  all_goals simp only[ad9]
  all_goals first|exact Ob.mk (by decide)|exact Ob.mk ⟨by omega,by omega⟩|skip
  refine ab.q (adr (l.getD ((((a+b) / 2:Nat):Int)).toNat uR.bA) x) [] fun _ _=>Wp _ ?_;repeat' first|exact tv|apply pr|intro hh
  .refine⟨((a+b) / 2+1,b),[0],⟨rfl,rfl,?_,?_⟩,⟨IB.1 (hcp.1 hh),h2,h3⟩,by show b - ((a+b) / 2+1)<b - a;omega⟩
   .exact Vc
   .refine Vb _ ?_;repeat' first|exact tv|apply pr
    rw[wr (by omega)];omega
  .refine⟨(a,(a+b) / 2),[0],⟨rfl,rfl,?_,?_⟩,⟨h1,Nat.not_lt.1 fun h=>hh (hcp.2 (IB.2 h)),by show(a+b) / 2<=_;omega⟩,by show(a+b) / 2 - a<b - a;omega⟩
   .exact Vc
   .exact Vc
 .have WX:a=adh l x:=by omega
  subst WX;have II:=adH (l.getD ((adh l x:Int)).toNat uR.bA) x;(refine Wa _ ?_;(repeat' first|exact tv|apply pr|intro hh));all_goals first|(exfalso;omega)|exact Ob.mk ⟨by simp only[];omega,by simp only[];omega⟩|skip
  .refine ab.q (adr (l.getD ((adh l x:Int)).toNat uR.bA) x) [] fun _ _=>Wp _ ?_;repeat' first|exact tv|apply pr|intro hh
   (refine ae.w () [] _ ?_;(repeat' first|exact tv|apply pr));unfold adl;rw[abX,beq_iff_eq,decide_eq_true_eq,II];exact⟨fun h=>⟨by omega,h⟩,fun h=>h.2⟩
  .refine ae.w () [] _ ?_;repeat' first|exact tv|apply pr
   unfold adl;exact decide_eq_false fun h=>by omega
theorem adB (i n:Nat) (aF:Int) (h1:i<=10000) (h2:n<=10000):(if IntKind.i64.wrap ((i:Int)+(if(n:Int)<(if 0>aF then 0 else aF)then(n:Int)else(if 0>aF then 0 else aF)))<(n:Int)then IntKind.i64.wrap ((i:Int)+(if(n:Int)<(if 0>aF then 0 else aF)then(n:Int)else(if 0>aF then 0 else aF)))else(n:Int))
  = ((min (i+min aF.toNat n) n:Nat):Int):=by
 have e:(if(n:Int)<(if 0>aF then 0 else aF)then(n:Int)else(if 0>aF then 0 else aF))=((min aF.toNat n:Nat):Int):=by
  by_cases h:0>aF
  .rw[Z0 h,ZY (by omega)];omega
  .rw[ZY h];split <;> omega
 rw[e,wr (by omega)];split <;> omega
theorem adC (l:List Nm) (i:Nat) (aF:Int) (hi:i<=l.length):List.drop i (List.take (min (i+min aF.toNat l.length) l.length) l)=(l.drop i).take aF.toNat:=by
 rw[List.drop_take,List.take_eq_take_iff,aar];omega
theorem adT (after:Nm) (aF:Int) (C3:-9223372036854775808<=aF/\aF<=9223372036854775807) (Qi:(eD K).Pairwise kQ):MU Tryz.prog 21 [.ptr 0 0,zB after,.I aF] [.bq (nn K m c)] (.aL uR fun _=>adz (eD K) after aF) [.bq (nn K m c)]:=by
 have had:=adp (x:=after) Qi;have ES:=adx (eD K) after;(refine aa.q Tryz.func21 rfl fun S aw=>Wa _ ?_;(repeat' first|exact tv|apply pr|intro hh));(refine ab.q (Vp (K:=K) (m:=m) (c:=c)) [0] ?_;rintro _ ⟨⟨q1,q2⟩,q3⟩;refine Wp _ ?_;(repeat' first|exact tv|apply pr|intro hh));have Az:=ad8 (eD K) Qi (by omega) after;cases kj:adl (eD K) after with
 | true =>
  rw[kj]at Az had;rw[Z0 rfl]at had;have bf:adh (eD K) after<(eD K).length:=(of_decide_eq_true (show decide (_/\_)=true from kj)).1;have ei:IntKind.i64.wrap ((adh (eD K) after:Int)+1)=((adh (eD K) after+1:Nat):Int):=by rw[wr (by omega)];omega
  have aeG:=adB (adh (eD K) after+1) (eD K).length aF (by omega) (by omega);have ec:=adC (eD K) (adh (eD K) after+1) aF (by omega);(refine ab.q Az [] fun _ _=>Wp _ ?_;(repeat' first|exact tv|apply pr|intro hh));all_goals simp only[ei,aeG]
  .exact Ob.mk ⟨by omega,by omega,by omega⟩
  .refine ae.w () [0] _ ?_;repeat' first|exact tv|apply pr
   rw[adz,<-had,Z4,Z4,ec]
 | false =>
  rw[kj]at Az had;rw[ZY (by decide)]at had;have aeG:=adB (adh (eD K) after) (eD K).length aF (by omega) (by omega);have ec:=adC (eD K) (adh (eD K) after) aF (by omega);(refine ab.q Az [] fun _ _=>Wp _ ?_;(repeat' first|exact tv|apply pr|intro hh));all_goals simp only[aeG]
  .exact Ob.mk ⟨by omega,by omega,by omega⟩
  .refine ae.w () [0] _ ?_;repeat' first|exact tv|apply pr
   rw[adz,<-had,Z4,Z4,ec]
end
end Go.Proofs.YthnefnlhcijekaaGreat.En
set_option maxRecDepth 8000
namespace Go.Proofs.YthnefnlhcijekaaGreat.En
open Go Go.RowKit Fw Hi Ce
abbrev adg:Ty:=.pair (.int .i64) (.pair (.list Zj) (.pair (.int .i64) UI))
abbrev OpB:=Int×List adj×Int×ay
theorem adF (a b:List L1) (ha:a.length<=100000):MU Tryz.prog 26 [.aL adi fun _=>a,.aL adi fun _=>b] [] (.bool fun _=>decide (a=b)) []:=by
 refine aa.q Tryz.func26 rfl fun S aw=>Wa _ ?_;repeat' first|exact tv|apply pr|intro hh
 .refine ae.w () [] _ ?_;repeat' first|exact tv|apply pr
  exact decide_eq_false fun e=>‹¬_› (by rw[e])
 refine aM.intro hm (X:=Nat) (fun i=>i<=a.length/\a.take i=b.take i) (fun i=>a.length - i)
  (fun i=>[(0,.aL adi fun _=>a),(1,.aL adi fun _=>b),(5,.I (i:Int))]) (fun i=>[]) 0 [] ⟨rfl,rfl,?_,?_⟩ ⟨aae _,rfl⟩ ?_
 .exact Vc
 .exact Vc
 rintro i ⟨hi,ht⟩;have rB:a.length=b.length:=by omega
 (refine Wa _ ?_;(repeat' first|exact tv|apply pr|intro hh));all_goals first|exact Ob.mk ⟨by simp only[];omega,by simp only[];omega⟩|skip
 .have hx:=(Gk _ rfl _ _).1 ‹_=false›
  (refine ae.w () [] _ ?_;(repeat' first|exact tv|apply pr));exact(decide_eq_false fun e=>hx (by rw[e]))
 .have hx:=(mF _ rfl _ _).1 ‹_=true›
  refine⟨i+1,[],⟨rfl,rfl,?_,?_⟩,⟨by show i+1<=_;omega,?_⟩,by show _ - (i+1)<_ - i;omega⟩
  .exact Vc
  .refine Vb _ ?_;repeat' first|exact tv|apply pr
   rw[wr (by omega)];omega
  .simp only[Z4]at hx
   exact wG (d:=adi.bA) (by omega) (by omega) ht hx
 .have e:i=a.length:=by omega
  subst e;rw[aac,Z6 (by omega)]at ht;(refine ae.w () [] _ ?_;(repeat' first|exact tv|apply pr));exact decide_eq_true ht
def okB (o:OpB):Prop:=o.2.1.length<=12/\∀ a∈o.2.1,a.2.1.length<=60
instance (o:OpB):Decidable (okB o):=inferInstanceAs (Decidable (_/\_))
def adI (l:List OpB) (aF:Int):Prop:=(l.length:Int)<=aF/\∀ o∈l,okB o
instance (l:List OpB) (aF:Int):Decidable (adI l aF):=inferInstanceAs (Decidable (_/\_))
theorem getD_in {α:Type} {l:List α} {i:Nat} (d:α) (h:i<l.length):l.getD i d∈l:=by rw[ZZ,Z1 h];exact aax _
theorem adD {α:Type} {l:List α} {p:α->Prop} (d:α) (h:∀ j,j<l.length->p (l.getD j d)):∀ o∈l,p o:=fun o ho=>by
 obtain⟨j,hj⟩:=aaa.1 ho;have:=h j (Z2.1 hj).1;rw[ZZ,hj]at this;exact this
theorem adU (l:List OpB) (aF:Int) (dJ:aF<=1000):MU Tryz.prog 17 [.aL adg fun _=>l,.I aF] [] (.bool fun _=>decide (adI l aF)) []:=by
 by_cases h0:(l.length:Int)<=aF;rotate_left
 .rw[decide_eq_false fun h=>h0 h.1]
  (refine aa.q Tryz.func17 rfl fun S aw=>Wa _ ?_;(repeat' first|exact tv|apply pr|intro hh));all_goals try (exfalso;omega)
  all_goals exact ae.z () []
 (refine aa.q Tryz.func17 rfl fun S aw=>Wa _ ?_;(repeat' first|exact tv|apply pr|intro hh));all_goals try (exfalso;omega)
 refine aM.intro hm (X:=Nat) (fun i=>i<=l.length/\∀ j,j<i->okB (l.getD j adg.bA)) (fun i=>l.length - i)
  (fun i=>[(0,.aL adg fun _=>l),(5,.I (i:Int))]) (fun i=>[]) 0 [] ⟨rfl,rfl,?_,?_⟩ ⟨aae _,fun j hj=>absurd hj (abW j)⟩ ?_
 .exact Vc
 .exact Vc
 rintro i ⟨hi,jG⟩;by_cases dp:i<l.length;rotate_left
 .have IL:i=l.length:=by omega
  subst IL;rw[decide_eq_true (show adI l aF from⟨h0,adD adg.bA jG⟩)];(refine Wa _ ?_;(repeat' first|exact tv|apply pr|intro hh));all_goals try (exfalso;omega)
  exact ae.z () []
 have C3:=getD_in adg.bA dp;by_cases Qp:(l.getD ((i:Int)).toNat adg.bA).2.1.length<=12;rotate_left
 .rw[decide_eq_false fun h=>Qp (h.2 _ C3).1]
  (refine Wa _ ?_;(repeat' first|exact tv|apply pr|intro hh));all_goals first|exact Ob.mk ⟨by simp only[];omega,by simp only[];omega⟩|(exfalso;omega)|skip
  exact ae.z () []
 (refine Wa _ ?_;(repeat' first|exact tv|apply pr|intro hh));all_goals first|exact Ob.mk ⟨by simp only[];omega,by simp only[];omega⟩|(exfalso;omega)|skip
 refine aM.intro hm (X:=Nat) (fun k=>k<=(l.getD ((i:Int)).toNat adg.bA).2.1.length/\∀ j,j<k->((l.getD ((i:Int)).toNat adg.bA).2.1.getD j Zj.bA).2.1.length<=60) (fun k=>(l.getD ((i:Int)).toNat adg.bA).2.1.length - k)
  (fun k=>[(0,.aL adg fun _=>l),(5,.I (i:Int)),(6,.I (k:Int))]) (fun k=>[]) 0 [] ⟨rfl,rfl,?_,?_⟩ ⟨aae _,fun j hj=>absurd hj (abW j)⟩ ?_
 .exact Vc
 .exact Vc
 rintro k ⟨hk,hka⟩;(refine Wa _ ?_;(repeat' first|exact tv|apply pr|intro hh));all_goals first|exact Ob.mk ⟨by simp only[];omega,by simp only[];omega⟩|skip
 .have Af:=getD_in Zj.bA (show k<(l.getD ((i:Int)).toNat adg.bA).2.1.length by omega)
  rw[decide_eq_false fun h=>absurd ((h.2 _ C3).2 _ Af) (by have:=hh;simp only[Z4]at this ⊢;omega)];exact ae.z () []
 .refine⟨k+1,[],⟨rfl,rfl,?_,?_⟩,⟨by show k+1<=_;omega,fun j hj=>?_⟩,by show _ - (k+1)<_ - k;omega⟩
  .exact Vc
  .refine Vb _ ?_;repeat' first|exact tv|apply pr
   rw[wr (by omega)];omega
  .by_cases e:j=k
   .subst e
    have:=hh;simp only[Z4]at this ⊢;omega
   .exact hka j (by omega)
 .have Wu:k=(l.getD ((i:Int)).toNat adg.bA).2.1.length:=by omega
  subst Wu;refine⟨i+1,[],⟨rfl,rfl,?_,?_⟩,⟨by show i+1<=_;omega,fun j hj=>?_⟩,by show _ - (i+1)<_ - i;omega⟩
  .exact Vc
  .refine Vb _ ?_;repeat' first|exact tv|apply pr
   rw[wr (by omega)];omega
  .by_cases e:j=i
   .subst e;exact⟨Qp,adD Zj.bA hka⟩
   .exact jG j (by omega)
def lbP:ay:=(2,2,10,0)
def lbK (L:Hs):Kt:=⟨9,0,LV.set 0 (true,lbP,1),L⟩
def lbB:Hs:=[((0,[97]),[(0,1)]),((0,[98]),[(0,1)])]
def lbC:Hs:=[((0,[97]),[(0,1),(0,1)]),((0,[98]),[(0,1)]),((0,[99]),[(0,2)])]
def a97 (n:Int):adj:=(0,[97],n)
theorem lb1:qQ (W6 9) 0 lbP=(lbK [],1,0):=by kernel_rfl
theorem lb2:adf (lbK []) [a97 1,a97 2]=(lbK [],(QD (lbK []) [a97 1,a97 2]).2,false,0):=by kernel_rfl
theorem lb3:om (lbK []) [a97 1,a97 2,(0,[98],1)]=(lbK lbB,(QD (lbK []) [a97 1,a97 2,(0,[98],1)]).2,0):=by kernel_rfl
theorem lb4:adf (lbK lbB) [a97 1,(0,[99],2)]=(lbK lbC,(QD (lbK lbB) [a97 1,(0,[99],2)]).2,true,0):=by kernel_rfl
theorem lb5:om (lbK lbC) []=(lbK lbC,[],1):=by kernel_rfl
theorem lb6:adz (eD (lbK lbC)) (0,[]) 2=[(0,[97]),(0,[98])]:=by kernel_rfl
theorem lb7:adz (eD (lbK lbC)) (0,[98]) 2=[(0,[99])]:=by kernel_rfl
theorem lb8:(eD (lbK lbC)).Pairwise kQ:=by
 have e:eD (lbK lbC)=[(0,[97]),(0,[98]),(0,[99])]:=by kernel_rfl
 rw[e];decide
end Go.Proofs.YthnefnlhcijekaaGreat.En
set_option maxRecDepth 8000
namespace Go.Proofs.YthnefnlhcijekaaGreat.En
open Go Go.RowKit Fw Hi Ce
def lt1:List L1:=[(0,true,1,0,10),(0,false,1,10,10)]
def lt2:List L1:=[(0,true,1,0,10),(0,false,1,10,10),(0,true,1,0,10)]
def lt3:List L1:=[(0,true,0,0,10),(0,true,0,0,10)]
theorem le1:(QD (lbK []) [a97 1,a97 2]).2=lt1:=by kernel_rfl
theorem le2:(QD (lbK []) [a97 1,a97 2,(0,[98],1)]).2=lt2:=by kernel_rfl
theorem le3:(QD (lbK lbB) [a97 1,(0,[99],2)]).2=lt3:=by kernel_rfl
set_option maxHeartbeats 1000000 in
theorem ads:MU Tryz.prog 18 [] [] .tt []:=by
 have h1:=fun c=>Zh (K:=W6 9) (m:=0) (m':=1) (c:=c) 0 lbP (by omega);have h2:=fun c=>adV (K:=lbK []) (m:=1) (m':=9) (c:=c) [a97 1,a97 2] (by omega) (by omega);have h3:=fun c=>adq (K:=lbK []) (m:=9) (m':=17) (c:=c) [a97 1,a97 2,(0,[98],1)] (by omega) (by omega);have h4:=fun c=>adV (K:=lbK lbB) (m:=17) (m':=25) (c:=c) [a97 1,(0,[99],2)] (by omega) (by omega);have h5:=fun c=>adq (K:=lbK lbC) (m:=25) (m':=33) (c:=c) [] (by omega) (by omega);have h6:=fun c=>adT (K:=lbK lbC) (m:=33) (c:=c) (0,[]) 2 (by omega) lb8;have h7:=fun c=>adT (K:=lbK lbC) (m:=33) (c:=c) (0,[98]) 2 (by omega) lb8;simp only[lb1]at h1;simp only[lb2,le1]at h2;simp only[lb3,le2]at h3;simp only[lb4,le3]at h4;simp only[lb5]at h5;simp only[lb6]at h6;simp only[lb7]at h7;unfold lt1 at h2;unfold lt2 at h3;unfold lt3 at h4;(refine aa.q Tryz.func18 rfl fun S aw=>Wa _ ?_;(repeat' first|exact tv|apply pr|intro hh));(refine ab.q (Zi 9 0 (by omega)) [] fun _ _=>Wp _ ?_;(repeat' first|exact tv|apply pr|intro hh));(refine ab.q (h1 0) [0] ?_;rintro c1 _;refine Wp _ ?_;(repeat' first|exact tv|apply pr|intro hh));refine ab.gU 1 ?_ (h2 c1).aA;(conv=>whnf);(refine ab.q (h2 c1) [0] ?_;rintro c2 _;refine Wp _ ?_;(repeat' first|exact tv|apply pr|intro hh));refine ab.gU 2 ?_ (h3 c2).aA;(conv=>whnf);(refine ab.q (h3 c2) [0] ?_;rintro c3 _;refine Wp _ ?_;(repeat' first|exact tv|apply pr|intro hh));refine ab.gU 3 ?_ (h4 c3).aA;(conv=>whnf);(refine ab.q (h4 c3) [0] ?_;rintro aeH _;refine Wp _ ?_;(repeat' first|exact tv|apply pr|intro hh));(refine ab.q (h5 aeH) [0] ?_;rintro aeI _;refine Wp _ ?_;(repeat' first|exact tv|apply pr|intro hh));(refine ab.q (h6 aeI) [0] fun _ _=>Wp _ ?_;(repeat' first|exact tv|apply pr|intro hh));(refine ab.q (h7 aeI) [0] fun _ _=>Wp _ ?_;(repeat' first|exact tv|apply pr|intro hh));exact ae.z () []
end Go.Proofs.YthnefnlhcijekaaGreat.En
set_option maxRecDepth 8000
namespace Go.Proofs.YthnefnlhcijekaaGreat.En
open Go Go.RowKit Fw Hi Ce
theorem adO (K:Kt) (l:List adj):(adf K l).2.1=(om K l).2.1/\(adf K l).2.2.2=(om K l).2.2:=by
 unfold adf om;split
 .exact⟨rfl,rfl⟩
 .split <;> exact⟨rfl,rfl⟩
theorem adX (K:Kt) (l:List adj):(adf K l).2.2.1=(((adf K l).2.2.2 == 0) && !((adf K l).2.1.any wo)):=by
 unfold adf;split
 .rfl
 .cases h:(QD K l).2.any wo with
  | true=>simp[h]
  | false=>simp[h]
theorem adR {K:Kt} {l:List adj} (h:(adf K l).2.2.1=true):(adf K l).1=(om K l).1:=by
 revert h;unfold adf om;split
 .intro h;rfl
 .split
  .intro h;cases h
  .intro h;rfl
theorem adY {K:Kt} {l:List adj} (h:(adf K l).2.2.1=false):(adf K l).1=K:=by
 revert h;unfold adf;split
 .intro h;rfl
 .split
  .intro h;rfl
  .intro h;cases h
theorem adE (K:Kt) (l:List adj):(om K l).2.1.length<=8:=by
 unfold om;split
 .exact aae _
 .rename_i h;unfold adu at h
  show(QD K l).2.length<=8;rw[adk];omega
theorem Small.om {K:Kt} {m:Nat} (s:Small K m) (l:List adj):Small (om K l).1 (m+8):=by
 unfold En.om;split
 .exact s.up (by omega)
 .rename_i h;unfold adu at h
  exact(s.each l).up (by omega)
theorem any_succ {a:List L1} {i:Nat} (h:i<a.length):(a.take (i+1)).any wo=((a.take i).any wo || wo (a.getD i adi.bA)):=by
 rw[aaE,Z1 h,ac4,List.any_append,ZZ,Z1 h];simp
theorem adt {E A:Bool} {t:L1}:((E && !A)=true->t.1=0->t.2.1=(E && !(A || wo t)))/\((E && !A)=true->¬t.1=0->(E && !(A || wo t))=false)/\((E && !A)=false->(E && !(A || wo t))=false):=by
 unfold wo;refine⟨fun h h1=>?_,fun h h1=>?_,fun h=>?_⟩
 .rw[decide_eq_true h1];revert h;cases E <;> cases A <;> simp
 .rw[decide_eq_false h1];cases E <;> cases A <;> simp
 .revert h;cases E <;> cases A <;> simp
structure BaI (l:List OpB) (z:Nat×Kt×Nat×Nat):Prop where
 le:z.1<=l.length
 s:Small z.2.1 (9*z.1)
 m:z.2.2.1<=12*z.1
set_option maxHeartbeats 2000000 in
theorem adJ (n sd:Int) (l:List OpB) (asks:List adj):MU Tryz.prog 4 [Ir n sd,.aL adg fun _=>l,.aL Zj fun _=>asks] [] .tt []:=by
 have VB:=adU [(0,asks,0,0,0,0,0)] 1 (by omega);have Pe:ke=1099511627776:=rfl;have Kn:=adU l 20 (by omega);by_cases hn:1<=n/\n<=64;rotate_left
 .by_cases hf:adI l 20
  all_goals first|rw[decide_eq_true hf]at Kn|rw[decide_eq_false hf]at Kn
  all_goals (refine aa.q Tryz.func4 rfl fun S aw=>?_;(conv=>whnf))
  all_goals refine Wa _ ?_;repeat' first|exact tv|apply pr|intro hh
  all_goals refine ab.q (S7 n sd hn) [] fun _ _=>Wp _ ?_;repeat' first|exact tv|apply pr|intro hh
  all_goals refine ab.q Kn [] fun _ _=>Wp _ ?_;repeat' first|exact tv|apply pr|intro hh
  all_goals first|(refine ab.gU 1 ?_ VB.aA;(conv=>whnf);(refine ab.q VB [] fun _ _=>Wp _ ?_;(repeat' first|exact tv|apply pr|intro hh)))|skip
  all_goals refine ab.q ads [] fun _ _=>Wp _ ?_;repeat' first|exact tv|apply pr|intro hh
  all_goals exact ae.z () []
 by_cases hf:adI l 20;rotate_left
 .rw[decide_eq_false hf]at Kn
  (refine aa.q Tryz.func4 rfl fun S aw=>Wa _ ?_;(repeat' first|exact tv|apply pr|intro hh));(refine ab.q (Zi n sd hn) [] fun _ _=>Wp _ ?_;(repeat' first|exact tv|apply pr|intro hh));(refine ab.q Kn [] fun _ _=>Wp _ ?_;(repeat' first|exact tv|apply pr|intro hh));all_goals refine ab.q ads [] fun _ _=>Wp _ ?_;repeat' first|exact tv|apply pr|intro hh
  all_goals exact ae.z () []
 rw[decide_eq_true hf]at Kn;have hl20:=hf.1;by_cases hg:adI [(0,asks,0,0,0,0,0)] 1;rotate_left
 .rw[decide_eq_false hg]at VB
  (refine aa.q Tryz.func4 rfl fun S aw=>Wa _ ?_;(repeat' first|exact tv|apply pr|intro hh));(refine ab.q (Zi n sd hn) [] fun _ _=>Wp _ ?_;(repeat' first|exact tv|apply pr|intro hh));(refine ab.q Kn [] fun _ _=>Wp _ ?_;(repeat' first|exact tv|apply pr|intro hh));refine ab.gU 2 ?_ VB.aA;(conv=>whnf);(refine ab.q VB [] fun _ _=>Wp _ ?_;(repeat' first|exact tv|apply pr|intro hh));all_goals refine ab.q ads [] fun _ _=>Wp _ ?_;repeat' first|exact tv|apply pr|intro hh
  all_goals exact ae.z () []
 rw[decide_eq_true hg]at VB;(refine aa.q Tryz.func4 rfl fun S aw=>Wa _ ?_;(repeat' first|exact tv|apply pr|intro hh));(refine ab.q (Zi n sd hn) [] fun _ _=>Wp _ ?_;(repeat' first|exact tv|apply pr|intro hh));(refine ab.q Kn [] fun _ _=>Wp _ ?_;(repeat' first|exact tv|apply pr|intro hh));refine ab.gU 2 ?_ VB.aA;(conv=>whnf);(refine ab.q VB [] fun _ _=>Wp _ ?_;(repeat' first|exact tv|apply pr|intro hh));refine aM.intro hm (X:=Nat×Kt×Nat×Nat) (BaI l) (fun z=>l.length - z.1)
  (fun z=>[(1,.aL adg fun _=>l),(2,.aL Zj fun _=>asks),(7,.ptr 0 0),(9,.I (z.1:Int))])
  (fun z=>[.bq (nn z.2.1 z.2.2.1 z.2.2.2)]) (0,W6 n,0,0) [1] ⟨rfl,rfl,?_,?_⟩ ⟨aae _,Small.zero hn,Z8 _⟩ ?_
 .exact Vc
 .exact Vc
 rintro⟨i,K,m,c⟩ hI;have hi:=hI.le;have hs:=hI.s;have Rx:=hI.m;simp only[]at hi hs Rx;have Zb:=hs.now;by_cases dp:i<l.length
 .have hea:=adq (K:=K) (m:=m) (m':=m+8) (c:=c) (l.getD ((i:Int)).toNat adg.bA).2.1 (by omega) (by omega)
  have hes:=(hs.om (l.getD ((i:Int)).toNat adg.bA).2.1).up (show 9*i+8<=9*(i+1) by omega);have rf:=Zh (K:=K) (m:=m) (m':=m+1) (c:=c) (l.getD ((i:Int)).toNat adg.bA).2.2.1 (l.getD ((i:Int)).toNat adg.bA).2.2.2 (by omega);have DA:=(hs.set (l.getD ((i:Int)).toNat adg.bA).2.2.1 (l.getD ((i:Int)).toNat adg.bA).2.2.2).up (show 9*i<=9*(i+1) by omega);have YH:=hs.up (show 9*i<=9*(i+1) by omega);have ht0:=W0 (K:=K) (m:=m) (m':=m+1) (c:=c) 0 (by omega);rw[ad2 hs]at ht0;have ht1:=fun c=>W0 (K:=K) (m:=m+1) (m':=m+2) (c:=c) (K.now+(l.getD ((i:Int)).toNat adg.bA).2.2.1) (by omega);have fR:=(hs.tick (K.now+(l.getD ((i:Int)).toNat adg.bA).2.2.1)).up (show 9*i<=9*(i+1) by omega);by_cases h01:(l.getD ((i:Int)).toNat adg.bA).1=0\/(l.getD ((i:Int)).toNat adg.bA).1=1
  .refine Wa _ ?_;repeat' first|exact tv|apply pr|intro hh
   all_goals first|exact Ob.mk ⟨by simp only[];omega,by simp only[];omega⟩|(exfalso;omega)|skip
   all_goals refine ab.q hea [0] ?_;rintro c' _;refine Wp _ ?_;repeat' first|exact tv|apply pr|intro hh
   all_goals refine⟨(i+1,(om K (l.getD ((i:Int)).toNat adg.bA).2.1).1,m+8,c'),[0],⟨rfl,rfl,?_,?_⟩,⟨dp,hes,by show m+8<=_;omega⟩,by show _ - (i+1)<_ - i;omega⟩
   all_goals refine Vb _ ?_;repeat' first|exact tv|apply pr
   all_goals first|(rw[wr (by omega)];omega)|skip
  by_cases h2:(l.getD ((i:Int)).toNat adg.bA).1=2
  .by_cases hr:0<=(l.getD ((i:Int)).toNat adg.bA).2.2.1/\(l.getD ((i:Int)).toNat adg.bA).2.2.1<=1073741824
   .have ew:IntKind.i64.wrap (K.now+(l.getD ((i:Int)).toNat adg.bA).2.2.1)=K.now+(l.getD ((i:Int)).toNat adg.bA).2.2.1:=wr (by omega)
    (refine Wa _ ?_;(repeat' first|exact tv|apply pr|intro hh));all_goals first|exact Ob.mk ⟨by simp only[];omega,by simp only[];omega⟩|(exfalso;omega)|skip
    all_goals refine ab.q ht0 [0] ?_;rintro c1 _;refine Wp _ ?_;repeat' first|exact tv|apply pr|intro hh
    all_goals first|exact Ob.mk ⟨by simp only[];omega,by simp only[];omega⟩|(exfalso;omega)|skip
    all_goals simp only[ew]
    all_goals refine ab.q (ht1 c1) [0] ?_;rintro c' _;refine Wp _ ?_;repeat' first|exact tv|apply pr|intro hh
    all_goals refine⟨(i+1,mq K (K.now+(l.getD ((i:Int)).toNat adg.bA).2.2.1),m+2,c'),[0],⟨rfl,rfl,?_,?_⟩,⟨dp,fR,by show m+2<=_;omega⟩,by show _ - (i+1)<_ - i;omega⟩
    all_goals refine Vb _ ?_;repeat' first|exact tv|apply pr
    all_goals first|(rw[wr (by omega)];omega)|skip
   .refine Wa _ ?_;repeat' first|exact tv|apply pr|intro hh
    all_goals first|exact Ob.mk ⟨by simp only[];omega,by simp only[];omega⟩|(exfalso;omega)|skip
    all_goals refine⟨(i+1,K,m,c),[0],⟨rfl,rfl,?_,?_⟩,⟨dp,YH,by show m<=_;omega⟩,by show _ - (i+1)<_ - i;omega⟩
    all_goals refine Vb _ ?_;repeat' first|exact tv|apply pr
    all_goals first|(rw[wr (by omega)];omega)|skip
  by_cases h3:(l.getD ((i:Int)).toNat adg.bA).1=3
  .refine Wa _ ?_;repeat' first|exact tv|apply pr|intro hh
   all_goals first|exact Ob.mk ⟨by simp only[];omega,by simp only[];omega⟩|(exfalso;omega)|skip
   all_goals refine ab.q rf [0] ?_;rintro c' _;refine Wp _ ?_;repeat' first|exact tv|apply pr|intro hh
   all_goals refine⟨(i+1,(qQ K (l.getD ((i:Int)).toNat adg.bA).2.2.1 (l.getD ((i:Int)).toNat adg.bA).2.2.2).1,m+1,c'),[0],⟨rfl,rfl,?_,?_⟩,⟨dp,DA,by show m+1<=_;omega⟩,by show _ - (i+1)<_ - i;omega⟩
   all_goals refine Vb _ ?_;repeat' first|exact tv|apply pr
   all_goals first|(rw[wr (by omega)];omega)|skip
  .refine Wa _ ?_;repeat' first|exact tv|apply pr|intro hh
   all_goals first|exact Ob.mk ⟨by simp only[];omega,by simp only[];omega⟩|(exfalso;omega)|skip
   all_goals refine⟨(i+1,K,m,c),[0],⟨rfl,rfl,?_,?_⟩,⟨dp,YH,by show m<=_;omega⟩,by show _ - (i+1)<_ - i;omega⟩
   all_goals refine Vb _ ?_;repeat' first|exact tv|apply pr
   all_goals first|(rw[wr (by omega)];omega)|skip
 have WX:=adO K asks;have hfe:=adE K asks;have Uz:=adX K asks;have h8:(adf K asks).2.1.length<=8:=by rw[WX.1];exact hfe
 have hto:=adF (adf K asks).2.1 (om K asks).2.1 (by rw[WX.1];omega);rw[decide_eq_true WX.1]at hto;have Aj:=adV (K:=K) (m:=m) (m':=m+8) (c:=c) asks (by omega) (by omega);have hek:=fun c=>adq (K:=K) (m:=m) (m':=m+8) (c:=c) asks (by omega) (by omega);rw[<-WX.2]at hek;(refine Wa _ ?_;(repeat' first|exact tv|apply pr|intro hh));all_goals try (exfalso;omega)
 (refine ab.q (W4 (K:=K) (m:=m) (c:=c)) [0] ?_;rintro aeJ _;refine Wp _ ?_;(repeat' first|exact tv|apply pr|intro hh));(refine ab.q (W4 (K:=K) (m:=m) (c:=c)) [0] ?_;rintro aeK _;refine Wp _ ?_;(repeat' first|exact tv|apply pr|intro hh));(refine ab.q Aj [0] ?_;rintro aeL _;refine Wp _ ?_;(repeat' first|exact tv|apply pr|intro hh));(refine ab.q (hek aeJ) [1] ?_;rintro ck2 _;refine Wp _ ?_;(repeat' first|exact tv|apply pr|intro hh));all_goals first|(exact absurd rfl hh)|skip
 all_goals refine ab.q hto [] fun _ _=>Wp _ ?_;repeat' first|exact tv|apply pr|intro hh
 all_goals first|(exact absurd ‹_=false› (by simp))|skip
 refine aM.intro hm (X:=Nat) (fun k=>k<=(adf K asks).2.1.length) (fun k=>(adf K asks).2.1.length - k)
  (fun k=>[(2,.aL Zj fun _=>asks),(7,.ptr 0 0),(10,.ptr 1 0),(11,.ptr 2 0),(12,.aL adi fun _=>(adf K asks).2.1),(13,.bool fun _=>(adf K asks).2.2.1),(17,.bool fun _=>((adf K asks).2.2.2 == 0) && !(((adf K asks).2.1.take k).any wo)),(18,.I (k:Int))])
  (fun k=>[.bq (nn (adf K asks).1 (m+8) aeL),.bq (nn (om K asks).1 (m+8) ck2),.bq (nn K m aeK)]) 0 [0,1,2] ⟨rfl,rfl,?_,?_⟩ (aae _) ?_
 .exact Vc
 .refine Vb _ ?_;repeat' first|exact tv|apply pr
  all_goals exact(Bool.and_true _).symm
 intro k hk;by_cases pF:k<(adf K asks).2.1.length
 .have uu:((adf K asks).2.1.take (k+1)).any wo=(((adf K asks).2.1.take k).any wo || wo ((adf K asks).2.1.getD ((k:Int)).toNat adi.bA)):=any_succ pF
  (refine Wa _ ?_;(repeat' first|exact tv|apply pr|intro hh));all_goals first|exact Ob.mk ⟨by simp only[];omega,by simp only[];omega⟩|(exfalso;omega)|skip
  all_goals refine⟨k+1,[0,1,2],⟨rfl,rfl,?_,?_⟩,by show k+1<=_;omega,by show _ - (k+1)<_ - k;omega⟩
  all_goals refine Vb _ ?_;repeat' first|exact tv|apply pr
  all_goals first|(rw[wr (by omega)];omega)|(rw[uu];exact adt.1 ‹_› hh)|(rw[uu];exact adt.2.1 ‹_› hh)|(rw[uu];exact adt.2.2 hh)|skip
 have Wu:k=(adf K asks).2.1.length:=by omega
 subst Wu;rw[aac,<-Uz];have ZR:=(hs.om asks).up (show 9*i+8<=200 by omega);cases hb:(adf K asks).2.2.1 with
 | true =>
  have e1:=adR hb;have hx:=fun c=>adq (K:=(adf K asks).1) (m:=m+8) (m':=m+16) (c:=c) asks (by omega) (by omega);have adZ:=adF (om (adf K asks).1 asks).2.1 (om (adf K asks).1 asks).2.1 (by have:=adE (adf K asks).1 asks;omega);rw[<-e1];(refine Wa _ ?_;(repeat' first|exact tv|apply pr|intro hh));all_goals first|(exfalso;omega)|(exact absurd rfl hh)|skip
  all_goals refine ab.q (hx aeL) [0] ?_;rintro x1 _;refine Wp _ ?_;repeat' first|exact tv|apply pr|intro hh
  all_goals refine ab.q (hx ck2) [1] ?_;rintro x2 _;refine Wp _ ?_;repeat' first|exact tv|apply pr|intro hh
  all_goals refine ab.q adZ [] fun _ _=>Wp _ ?_;repeat' first|exact tv|apply pr|intro hh
  all_goals first|(exact absurd ‹_=false› (by simp))|skip
  all_goals refine ab.q (Vp (K:=(om (adf K asks).1 asks).1) (m:=m+16) (c:=x1)) [0] ?_;rintro _ ⟨⟨q1,q2⟩,q3⟩;refine Wp _ ?_;repeat' first|exact tv|apply pr|intro hh
  all_goals refine ab.q (Vp (K:=(om (adf K asks).1 asks).1) (m:=m+16) (c:=x2)) [1] fun _ _=>Wp _ ?_;repeat' first|exact tv|apply pr|intro hh
  all_goals refine ab.q (W7 (eD (om (adf K asks).1 asks).1) (eD (om (adf K asks).1 asks).1) (by omega)) [] fun _ _=>Wp _ ?_;repeat' first|exact tv|apply pr|intro hh
  all_goals first|(exact absurd ‹_=false› (by simp))|skip
  all_goals refine ab.q ads [] fun _ _=>Wp _ ?_;repeat' first|exact tv|apply pr|intro hh
  all_goals exact ae.z () []
 | false =>
  have e1:=adY hb;have hx:=fun m c (h:m<=500)=>adq (K:=K) (m:=m) (m':=m+8) (c:=c) asks (by omega) (by omega);have adZ:=adF (om K asks).2.1 (om K asks).2.1 (by omega);rw[e1];clear hb;(refine Wa _ ?_;(repeat' first|exact tv|apply pr|intro hh));all_goals first|(exfalso;omega)|(exact absurd rfl hh)|skip
  all_goals refine ab.q (hx (m+8) aeL (by omega)) [0] ?_;rintro x1 _;refine Wp _ ?_;repeat' first|exact tv|apply pr|intro hh
  all_goals refine ab.q (hx m aeK (by omega)) [2] ?_;rintro x2 _;refine Wp _ ?_;repeat' first|exact tv|apply pr|intro hh
  all_goals refine ab.q adZ [] fun _ _=>Wp _ ?_;repeat' first|exact tv|apply pr|intro hh
  all_goals first|(exact absurd ‹_=false› (by simp))|skip
  all_goals refine ab.q (Vp (K:=(om K asks).1) (m:=m+8+8) (c:=x1)) [0] ?_;rintro _ ⟨⟨q1,q2⟩,q3⟩;refine Wp _ ?_;repeat' first|exact tv|apply pr|intro hh
  all_goals refine ab.q (Vp (K:=(om K asks).1) (m:=m+8) (c:=x2)) [2] fun _ _=>Wp _ ?_;repeat' first|exact tv|apply pr|intro hh
  all_goals refine ab.q (W7 (eD (om K asks).1) (eD (om K asks).1) (by omega)) [] fun _ _=>Wp _ ?_;repeat' first|exact tv|apply pr|intro hh
  all_goals first|(exact absurd ‹_=false› (by simp))|skip
  all_goals refine ab.q ads [] fun _ _=>Wp _ ?_;repeat' first|exact tv|apply pr|intro hh
  all_goals exact ae.z () []
end Go.Proofs.YthnefnlhcijekaaGreat.En
namespace Go.Proofs.YthnefnlhcijekaaGreat.RBatchAll
open Go Go.ChangeShapes Go.WideShapes Go.ChangeAt Go.RowKit Fw
theorem own:ownKnob Tryz.prog.godebug=none:=by kernel_rfl
theorem laidOut:laidOutB Tryz.prog=true:=Si
theorem kids:Kids Tryz.prog (·<Tryz.prog.types.size):=Xa
theorem readable:∀ t∈Tryz.f4.params.toList,Tryz.prog.readableRec t=true/\t<Tryz.prog.types.size:=by
 have h:(Tryz.f4.params.toList.all fun t=>Tryz.prog.readableRec t && decide (t<Tryz.prog.types.size))=true:=by kernel_rfl
 intro t ht;have:=abb.1 h t ht;rw[aai,decide_eq_true_eq]at this;exact this
set_option maxRecDepth 100000 in
theorem lifted (os:Os) (started:os.Started) (H:Type) (enc:TypeId×Value->H) :
  ReturnsInHanded {} Tryz.checked os 4 .any (Rows.batchAllSpec.pre6 enc Tryz.prog Tryz.f4 Rows.batchAllRow.domain false) (Rows.batchAllSpec.post enc Tryz.prog Tryz.f4 false true false false):=by
 refine returnsInHanded_of_change (C:=Tryz.checked) own started (by kernel_rfl) Tryz.func4
  (ChangeSpec.witness6 (enc:=enc) (C:=Tryz.checked) false ⟨#[],#[.agg #[.int .i64 0,.int .u64 0],.slice none 0 0,.slice none 0 0],[]⟩ 8 (by kernel_rfl) (by kernel_rfl) (by kernel_rfl) (by kernel_rfl)) ?_
 intro W base args ds gs before ad6 hW hcnd _;have ln:∀ (j:Nat) t v,Tryz.f4.params[j]?=some t->args[j]?=some v->Value.okWide Tryz.prog W .any base t v:=ad6;have Zq:DataW.Whole enc Tryz.prog Tryz.f4.params.toList Rows.batchAllSpec.vars false W args.toList ds gs before:=hW;obtain⟨p,q,hA0,hV,_,_,_⟩:=Zq;have hA:DataW.TrodAll enc Tryz.prog W 0 (fun _=>true) true Tryz.f4.params.toList args.toList ds p:=hA0;rw[Tryz.params4]at hA ln;obtain⟨v0,v1,v2,d0,d1,d2,p0,p1,p2,rfl,rfl,rfl,h0,h1,h2⟩:=trodAll_three hA;obtain⟨rfl,rfl⟩:=trodVars_none hV;obtain⟨a0,aeM,w0⟩:=OR (ty:=(.pair (.int .i64) (.int .u64))) kids rfl rfl (of_decide_eq_true (by kernel_rfl)) (by kernel_rfl) (ln 0 _ v0 rfl rfl) h0;obtain⟨a1,r1,w1⟩:=Se (ty:=(.list En.adg)) kids rfl rfl (of_decide_eq_true (by kernel_rfl)) (by kernel_rfl) (ln 1 _ v1 rfl rfl) h1;obtain⟨a2,r2,w2⟩:=Se (ty:=(.list En.Zj)) kids rfl rfl (of_decide_eq_true (by kernel_rfl)) (by kernel_rfl) (ln 2 _ v2 rfl rfl) h2;refine(S9 (aC:=[v0,v1,v2]) (En.adJ a0.1 a0.2 a1 a2) (fun _ _=>rfl) ⟨aeM,r1.1,r2.1,trivial⟩).mono ?_;rintro e W' ⟨rfl,hb⟩;exact⟨_,rfl,Sg laidOut hW rfl rfl (by rfl) Tryz.underlying4 readable hb⟩
theorem adP:Tryz.prog.inPlace 4=Rows.batchAllRow.inPlace:=by kernel_rfl
theorem adn:Tryz.prog.unfollowed 4=Rows.batchAllRow.unfollowed:=by kernel_rfl
theorem adK:Tryz.prog.recurses 4=Rows.batchAllRow.recurses:=by unfold Program.recurses;rw[adn];first|exact Bool.true_or _|kernel_rfl
theorem ad0:Tryz.prog.varsNamed 4=Rows.batchAllRow.named:=by kernel_rfl
theorem closed:joinedFacts Tryz.prog 4 Tryz.f4 Rows.batchAllSpec Rows.batchAllRow=true:=by
 unfold joinedFacts;rw[adP,adn,adK,ad0,Si,Sj,Vt,Vu,Vv,Vw,W9];kernel_rfl
theorem holds:Rows.BatchAllSaid :=
 OpenClaim.holds_of_wide 4 Tryz.f4 rfl rfl rfl rfl rfl rfl rfl ⟨rfl,rfl,rfl,rfl,rfl⟩ rfl rfl rfl rfl rfl (by kernel_rfl) Tryz.func4 closed
  (of_decide_eq_true (by kernel_rfl)) (by unfold Func.isWrapper;first|(rw[Z0 (by decide +kernel)];kernel_rfl)|(rw[ZY (by decide +kernel)];exact⟨rfl,rfl⟩))
  (fun os started H enc _=>lifted os started H enc)
end Go.Proofs.YthnefnlhcijekaaGreat.RBatchAll
#print axioms Go.Proofs.YthnefnlhcijekaaGreat.RBatchAll.holds
