/- The law BatchPages holds at every input that its statement lets in; part 1 of its proof. -/
import Derived.Test.YthnefnlhcijekaaGreatMC6
set_option linter.unusedVariables false
set_option linter.unusedSimpArgs false
namespace Go.Proofs.YthnefnlhcijekaaGreat.En
open Go Go.RowKit Fw Hi Ce
section
variable {K:Kt} {m:Nat} {nm key:Nm} {w v:Int} {p:ay}
theorem adT:(dV K nm w).1.n=K.n/\(dV K nm w).1.now=K.now/\(dV K nm w).1.bk=K.bk:=by
 unfold dV;split
 .split <;> exact⟨rfl,rfl,rfl⟩
 .exact⟨rfl,rfl,rfl⟩
theorem ad5 (h:RY K.L):RY (dV K nm w).1.L:=by
 unfold dV;split
 .split
  .exact h
  .exact CZ h
 .exact h
theorem aef (h:RY K.L) (t:Int):RY (mq K t).L:=by unfold mq;split <;> exact h
theorem adF:(eD K).length<=K.L.length:=by unfold eD;rw[aba];exact acf ..
end
theorem adK {n b:Nat} (hn:n<=300000) (hb:b<=1000):n<=140737488355328/\n*b<=140737488355328 :=
 ⟨by omega,aaA (Nat.mul_le_mul hn hb) (by decide)⟩
abbrev adl:=Int×List UInt8×Int
def aNm (a:adl):Nm:=(a.1,a.2.1)
def adw (K:Kt) (a:adl):Kt×L1:=dV K (aNm a) a.2.2
def om:Kt->List adl->Kt×List L1
 | K,[]=>(K,[])
 | K,a::r=>((om (adw K a).1 r).1,(adw K a).2::(om (adw K a).1 r).2)
theorem adG (a:adl):∀ (l:List adl) (K:Kt),om K (l++[a])=((adw (om K l).1 a).1,(om K l).2++[(adw (om K l).1 a).2])
 | [],K=>rfl
 | b::r,K=>by rw[abp,om,adG a r (adw K b).1];rfl
theorem adH {l:List adl} {i:Nat} (d:adl) (h:i<l.length) (K:Kt):om K (l.take (i+1))=((adw (om K (l.take i)).1 (l.getD i d)).1,(om K (l.take i)).2++[(adw (om K (l.take i)).1 (l.getD i d)).2]):=by
 rw[aaE,Z1 h,ac4,adG,ZZ,Z1 h];rfl
theorem adm:∀ (l:List adl) (K:Kt),(om K l).2.length=l.length
 | [],_=>rfl
 | a::r,K=>by rw[om,Z9,Z9,adm r]
theorem Small.each:∀ (l:List adl) {K:Kt} {m:Nat},Small K m->Small (om K l).1 (m+l.length)
 | [],_,_,s=>s
 | a::r,K,m,s=>by
  have:=Small.each r (s.check (aNm a) a.2.2);rw[om,Z9];exact this.up (by omega)
theorem adB:∀ (l:List adl) {K:Kt},RY K.L->RY (om K l).1.L
 | [],_,s=>s
 | a::r,K,s=>by rw[om];exact adB r (ad5 s)
def adq (l:List adl):Prop:=l.length=0\/8<l.length
instance (l:List adl):Decidable (adq l):=inferInstanceAs (Decidable (_\/_))
def adf (K:Kt) (l:List adl):Kt×List L1×Int:=if adq l then(K,[],1)else((om K l).1,(om K l).2,0)
def wo (t:L1):Bool:=!decide (t.1=0) || !t.2.1
def adk (K:Kt) (l:List adl):Kt×List L1×Bool×Int :=
 if adq l then(K,[],false,1)else if(om K l).2.any wo then(K,(om K l).2,false,0)else((om K l).1,(om K l).2,true,0)
theorem aeg (x y:Nm):rT x y<0↔kQ x y:=by rw[<-sk];simp[ltOf]
theorem ad6 (x y:Nm):rT x y=0↔x=y:=by
 have h:=(C6 x.2 y.2).2;unfold rT Ti.lY;constructor
 .intro h1
  by_cases ha:x.1<y.1
  .simp[ha]at h1
  .by_cases hb:y.1<x.1
   .simp[ha,hb]at h1
   .simp[ha,hb]at h1
    exact Prod.ext (by omega) (h.1 h1)
 .rintro rfl
  simp[h.2 rfl]
def QD (L:List Nm) (after:Nm) (aF:Int):List Nm:=(L.filter fun x=>decide (kQ after x)).take aF.toNat
def adi:List Nm->Nm->Nat
 | [],_=>0
 | a::r,x=>if kQ a x then adi r x+1 else 0
theorem adz:∀ (l:List Nm) (x:Nm),adi l x<=l.length
 | [],_=>Z8 _
 | a::r,x=>by
  unfold adi;split
  .exact Nat.succ_le_succ (adz r x)
  .exact aae _
theorem adA {x:Nm}:∀ {l:List Nm},l.Pairwise kQ->∀ j,j<l.length->(kQ (l.getD j (0,[])) x↔j<adi l x)
 | [],_,_,h=>absurd h (abW _)
 | a::r,hs,0,_=>by
  show kQ a x↔_;unfold adi;split
  .exact⟨fun _=>Nat.succ_pos _,fun _=>‹_›⟩
  .exact⟨fun h=>absurd h ‹_›,fun h=>absurd h (Nat.lt_irrefl _)⟩
 | a::r,hs,j+1,h=>by
  have rG:=abx.1 hs;have hj:j<r.length:=by simpa using h
  show kQ (r.getD j (0,[])) x↔_;have e:adi (a::r) x=if kQ a x then adi r x+1 else 0:=rfl;rw[adA rG.2 j hj,e];split
  .omega
  .rename_i hn
   refine⟨fun hc=>?_,fun hc=>absurd hc (abW _)⟩;exfalso;apply hn;have h1:=(adA rG.2 j hj).2 hc;have h2:kQ a (r.getD j (0,[])):=rG.1 _ (by rw[ZZ,Z1 hj];exact aax _);exact gj h2 h1
def ads (l:List Nm) (x:Nm):Bool:=decide (adi l x<l.length/\l.getD (adi l x) (0,[])=x)
theorem adt {x:Nm}:∀ {l:List Nm},l.Pairwise kQ->l.drop (if ads l x=true then adi l x+1 else adi l x)=l.filter fun y=>decide (kQ x y)
 | [],_=>by simp[ads,adi]
 | a::r,hs=>by
  have rG:=abx.1 hs;have ih:=adt (x:=x) rG.2;by_cases h:kQ a x
  .have e1:adi (a::r) x=adi r x+1:=by rw[adi,Z0 h]
   have e2:ads (a::r) x=ads r x:=by
    unfold ads;rw[e1,decide_eq_decide];show(adi r x+1<r.length+1/\r.getD (adi r x) (0,[])=x)↔_;rw[Nat.add_lt_add_iff_right]
   rw[e1,e2,List.filter_cons_of_neg (by simpa using pY h),<-ih];split <;> rfl
  .have e1:adi (a::r) x=0:=by rw[adi,ZY h]
   by_cases ha:a=x
   .subst ha
    have e2:ads (a::r) a=true:=by unfold ads;rw[e1];simp
    rw[e1,e2,Z0 rfl,List.filter_cons_of_neg (by simpa using ig a)];show r=_;exact(List.filter_eq_self.2 fun y hy=>by simpa using rG.1 y hy).symm
   .have hx:kQ x a:=aaG fun h2=>ha (jA h h2)
    have e2:ads (a::r) x=false:=by unfold ads;rw[e1];simp[ha]
    rw[e1,e2,ZY (by decide)];show a::r=_;refine(List.filter_eq_self.2 fun y hy=>?_).symm;rcases aaj.1 hy with e|h3
    .rw[e];simpa using hx
    .simpa using gj hx (rG.1 y h3)
end Go.Proofs.YthnefnlhcijekaaGreat.En
set_option maxRecDepth 8000
namespace Go.Proofs.YthnefnlhcijekaaGreat.En
open Go Go.RowKit Fw Hi Ce
abbrev adh:Ty:=.pair (.int .i64) (.pair .bool (.pair (.int .i64) (.pair (.int .i64) (.int .i64))))
abbrev aeD:TypeId:=55
section
variable {K:Kt} {m m' c:Nat}
structure EaI (K:Kt) (l:List adl) (z:Nat×Nat×Kt×List L1):Prop where
 le:z.1<=l.length
 eq:om K (l.take z.1)=(z.2.2.1,z.2.2.2)
theorem adW (l:List adl) (h1:m<=999900) (h2:m+8<=m'):aa Tryz.prog 19 [.ptr 0 0,.aL Zj fun _=>l] [.bq (nn K m c)] (Y:=Nat) (fun _=>True)
  (fun _=>.bQ [.aL adh fun _=>(adf K l).2.1,.I ((adf K l).2.2)]) (fun c'=>[.bq (nn (adf K l).1 m' c')]):=by
 have Pz:Tryz.t55.bytes<=1000:=by decide
 by_cases hb:adq l
 .have e:adf K l=(K,[],1):=by unfold adf;rw[Z0 hb]
  unfold adq at hb;rw[e];(refine aa.q Tryz.func19 rfl fun S aw=>Wa _ ?_;(repeat' first|exact tv|apply pr|intro hh));all_goals try (exfalso;omega)
  all_goals refine ae.bq 0 (nn K m c) (nn K m' c) rfl (Vq (by omega)) ?_
  all_goals exact ae.z c [0]
 have e:adf K l=((om K l).1,(om K l).2,0):=by unfold adf;rw[ZY hb]
 unfold adq at hb;rw[e];(refine aa.q Tryz.func19 rfl fun S aw=>Wa _ ?_;(repeat' first|exact tv|apply pr|intro hh));all_goals try (exfalso;omega)
 refine aM.nil aeD adh none [6] ?_;refine aM.intro hm (X:=Nat×Nat×Kt×List L1) (EaI K l) (fun z=>l.length - z.1)
  (fun z=>[(0,.ptr 0 0),(21,.aL Zj fun _=>l),(22,.I (l.length:Int)),(23,.I (z.1:Int)),(6,.vec 1 5 (fun _=>0) fun _=>z.2.2.2.length)])
  (fun z=>[.bq (nn z.2.2.1 (m+z.1) z.2.1),.aq aeD adh fun _=>z.2.2.2]) (0,c,K,[]) [0,1] ⟨rfl,rfl,?_,?_⟩ ⟨aae _,rfl⟩ ?_
 .exact Vc
 .exact Vc
 rintro⟨i,c1,afY,out⟩ hI;have hi:=hI.le;have he:=hI.eq;simp only[]at hi he;have D8:out.length=i:=by
  have:=adm (l.take i) K;rw[he,aak]at this;simp only[]at this;omega
 by_cases dp:i<l.length
 .have Wi:=Vo (K:=afY) (m:=m+i) (m':=m+(i+1)) (c:=c1) (aNm (l.getD i Zj.bA)) (l.getD i Zj.bA).2.2 (by omega) (by omega)
  have fR:=adH Zj.bA dp K;rw[he]at fR;(refine Wa _ ?_;(repeat' first|exact tv|apply pr|intro hh));all_goals first|exact Ob.mk ⟨by simp only[];omega,by simp only[];omega⟩|(exfalso;omega)|skip
  refine ab.q Wi [0] ?_;rintro c2 _;refine Wp _ ?_;repeat' first|exact tv|apply pr|intro hh
  .refine Ob.mk ⟨rfl,adK ?_ Pz⟩
   show out.length+1<=300000;omega
  all_goals refine⟨(i+1,c2,(dV afY (aNm (l.getD i Zj.bA)) (l.getD i Zj.bA).2.2).1,out++[(dV afY (aNm (l.getD i Zj.bA)) (l.getD i Zj.bA).2.2).2]),[0,1],⟨rfl,rfl,?_,?_⟩,⟨dp,fR⟩,by show _ - (i+1)<_ - i;omega⟩
  all_goals refine Vb _ ?_;repeat' first|exact tv|apply pr
  all_goals first|(rw[wr (by omega)];omega)|(rw[Z6 (Z8 _)];rfl)|(rw[aab];rfl)|skip
 have IL:i=l.length:=by omega
 subst IL;rw[aac]at he;rw[he];(refine Wa _ ?_;(repeat' first|exact tv|apply pr|intro hh));all_goals try (exfalso;omega)
 refine ae.bq 0 (nn afY (m+l.length) c1) (nn afY m' c1) rfl (Vq (by omega)) ?_;(refine ae.gU 1 ?_;(conv=>whnf));(refine ae.w c1 [0] _ ?_;(repeat' first|exact tv|apply pr));rw[aah,aac]
theorem aeh (t:L1):MU Tryz.prog 48 [Ih t] [] (.bool fun _=>wo t) []:=by
 (refine aa.q Tryz.func48 rfl fun S aw=>Wa _ ?_;(repeat' first|exact tv|apply pr|intro hh));all_goals refine ae.w () [] _ ?_;repeat' first|exact tv|apply pr
 all_goals (unfold wo;simp_all)
theorem aei (l:List L1) (hl:l.length<=1000):aa Tryz.prog 102 [.aL adh fun _=>l,.fn (.func 48) [] []] [] (Y:=Int) (fun y=>decide (0<=y)=l.any wo)
  (fun y=>.int .i64 fun _=>y) (fun _=>[]):=by
 (refine aa.q Tryz.func102 rfl fun S aw=>Wa _ ?_;(repeat' first|exact tv|apply pr|intro hh));refine aM.intro hm (X:=Nat) (fun i=>i<=l.length/\(l.take i).any wo=false) (fun i=>l.length - i)
  (fun i=>[(8,.I (i:Int)),(7,.I (l.length:Int)),(6,.aL adh fun _=>l),(0,.aL adh fun _=>l),(1,.fn (.func 48) [] [])])
  (fun i=>[]) 0 [] ⟨rfl,rfl,?_,?_⟩ ⟨aae _,rfl⟩ ?_
 .exact Vc
 .exact Vc
 rintro i ⟨hi,ha⟩;(refine Wa _ ?_;(repeat' first|exact tv|apply pr|intro hh));all_goals try exact Ob.mk ⟨by simp only[];omega,by simp only[];omega⟩
 .have dp:i<l.length:=by omega
  have hg:l.getD i adh.bA∈l:=by rw[ZZ,Z1 dp];exact aax _
  have uu:(l.take (i+1)).any wo=wo (l.getD i adh.bA):=by
   rw[aaE,Z1 dp,ac4,List.any_append,ha,ZZ,Z1 dp];simp
  refine ab.q (aeh (l.getD i adh.bA)) [] fun _ _=>Wp _ ?_;repeat' first|exact tv|apply pr|intro hh
  .refine ae.w (i:Int) [] _ ?_;repeat' first|exact tv|apply pr
   rw[decide_eq_true (by omega)];exact(List.any_eq_true.2 ⟨_,hg,hh⟩).symm
  .refine⟨i+1,[],⟨rfl,rfl,?_,?_⟩,⟨by show i+1<=_;omega,uu.trans hh⟩,by omega⟩
   .exact Vc
   .refine Vb _ ?_;repeat' first|exact tv|apply pr
    rw[wr (by omega)];omega
 .have IL:i=l.length:=by omega
  subst IL;rw[aac]at ha;(refine ae.w (-1) [] _ ?_;(repeat' first|exact tv|apply pr));rw[ha];rfl
theorem adL (l:List L1) (hl:l.length<=1000):MU Tryz.prog 47 [.aL adh fun _=>l,.fn (.func 48) [] []] [] (.bool fun _=>l.any wo) []:=by
 (refine aa.q Tryz.func47 rfl fun S aw=>Wa _ ?_;(repeat' first|exact tv|apply pr|intro hh));(refine ab.q (aei l hl) [] ?_;rintro y hy;refine Wp _ ?_;(repeat' first|exact tv|apply pr|intro hh));all_goals refine ae.w () [] _ ?_;repeat' first|exact tv|apply pr
 exact hy
theorem aeN (l:List adl) (h1:m<=999800) (h2:m+8<=m'):aa Tryz.prog 20 [.ptr 0 0,.aL Zj fun _=>l] [.bq (nn K m c)] (Y:=Nat) (fun _=>True)
  (fun _=>.bQ [.aL adh fun _=>(adk K l).2.1,.bool fun _=>(adk K l).2.2.1,.I ((adk K l).2.2.2)]) (fun c'=>[.bq (nn (adk K l).1 m' c')]):=by
 have hea:=fun c=>adW (K:=K) (m:=m) (m':=m') (c:=c) l (by omega) h2;by_cases hb:adq l
 .have e:adk K l=(K,[],false,1):=by unfold adk;rw[Z0 hb]
  have e2:adf K l=(K,[],1):=by unfold adf;rw[Z0 hb]
  simp only[e2]at hea;rw[e];(refine aa.q Tryz.func20 rfl fun S aw=>Wa _ ?_;(repeat' first|exact tv|apply pr|intro hh));(refine ab.q (W4 (K:=K) (m:=m) (c:=c)) [0] ?_;rintro d _;refine Wp _ ?_;(repeat' first|exact tv|apply pr|intro hh));(refine ab.q (hea d) [1] ?_;rintro d2 _;refine Wp _ ?_;(repeat' first|exact tv|apply pr|intro hh));all_goals refine ae.bq 0 (nn K m c) (nn K m' c) rfl (Vq (by omega)) ?_
  all_goals exact ae.z c [0]
 have e2:adf K l=((om K l).1,(om K l).2,0):=by unfold adf;rw[ZY hb]
 have La:=adm l K;simp only[e2]at hea;have O8:=adL (om K l).2 (by unfold adq at hb;omega);cases ha:(om K l).2.any wo with
 | true =>
  have e:adk K l=(K,(om K l).2,false,0):=by unfold adk;rw[ZY hb,ha];rfl
  rw[ha]at O8;rw[e];(refine aa.q Tryz.func20 rfl fun S aw=>Wa _ ?_;(repeat' first|exact tv|apply pr|intro hh));(refine ab.q (W4 (K:=K) (m:=m) (c:=c)) [0] ?_;rintro d _;refine Wp _ ?_;(repeat' first|exact tv|apply pr|intro hh));(refine ab.q (hea d) [1] ?_;rintro d2 _;refine Wp _ ?_;(repeat' first|exact tv|apply pr|intro hh));all_goals refine ab.q O8 [] fun _ _=>Wp _ ?_;repeat' first|exact tv|apply pr|intro hh
  all_goals refine ae.bq 0 (nn K m c) (nn K m' c) rfl (Vq (by omega)) ?_
  all_goals exact ae.z c [0]
 | false =>
  have e:adk K l=((om K l).1,(om K l).2,true,0):=by unfold adk;rw[ZY hb,ha];rfl
  rw[ha]at O8;rw[e];(refine aa.q Tryz.func20 rfl fun S aw=>Wa _ ?_;(repeat' first|exact tv|apply pr|intro hh));(refine ab.q (W4 (K:=K) (m:=m) (c:=c)) [0] ?_;rintro d _;refine Wp _ ?_;(repeat' first|exact tv|apply pr|intro hh));(refine ab.q (hea d) [1] ?_;rintro d2 _;refine Wp _ ?_;(repeat' first|exact tv|apply pr|intro hh));all_goals refine ab.q O8 [] fun _ _=>Wp _ ?_;repeat' first|exact tv|apply pr|intro hh
  all_goals refine ab.q (hea c) [0] ?_;rintro d3 _;refine Wp _ ?_;repeat' first|exact tv|apply pr|intro hh
  all_goals exact ae.z d3 [0]
theorem adC (x y:Nm):MU Tryz.prog 49 [zB x,zB y] [] (.I (rT x y)) []:=by
 (refine aa.q Tryz.func49 rfl fun S aw=>Wa _ ?_;(repeat' first|exact tv|apply pr|intro hh));(refine ab.q (Ti.tB x.1 y.1) [] fun _ _=>Wp _ ?_;(repeat' first|exact tv|apply pr|intro hh));all_goals refine ab.q (KR x.2 y.2) [] fun _ _=>Wp _ ?_;repeat' first|exact tv|apply pr|intro hh
 all_goals refine ab.q (Ti.orM (Ti.lY x.1 y.1) (p8 x.2 y.2)) [2] fun _ _=>Wp _ ?_;repeat' first|exact tv|apply pr|intro hh
 all_goals exact ae.z () []
theorem aff (l:List Nm) (hs:l.Pairwise kQ) (hl:l.length<=1000) (x:Nm):MU Tryz.prog 53 [.aL uR fun _=>l,zB x,.fn (.func 49) [] []] [] (.bQ [.I (adi l x:Int),.bool fun _=>ads l x]) []:=by
 have ES:=adz l x;(refine aa.q Tryz.func53 rfl fun S aw=>Wa _ ?_;(repeat' first|exact tv|apply pr|intro hh));refine aM.intro hm (X:=Nat×Nat) (fun z=>z.1<=adi l x/\adi l x<=z.2/\z.2<=l.length) (fun z=>z.2 - z.1)
  (fun z=>[(0,.aL uR fun _=>l),(2,.fn (.func 49) [] []),(4,.ptr 0 0),(8,.I (l.length:Int)),(9,.I (z.1:Int)),(10,.I (z.2:Int))])
  (fun z=>[.cells 24 [.I x.1,.str fun _=>x.2]]) (0,l.length) [0] ⟨rfl,rfl,?_,?_⟩ ⟨aae _,ES,Z8 _⟩ ?_
 .exact Vc
 .exact Vc
 rintro⟨a,b⟩ ⟨h1,h2,h3⟩;simp only[]at h1 h2 h3;by_cases rB:a<b
 .have afg:IntKind.i64.wrap (Int.fdiv (IntKind.u64.wrap (IntKind.i64.wrap ((a:Int)+(b:Int)))) (2 ^ min (Int.toNat 1) IntKind.u64.bits))=(((a+b) / 2:Nat):Int):=by
   rw[wr (x:=(a:Int)+(b:Int)) (by omega),uQ (by omega)];show IntKind.i64.wrap (Int.fdiv ((a:Int)+(b:Int)) 2)=_;rw[abA _ (by omega),wr (by omega)];omega
  have hm1:a<=(a+b) / 2/\(a+b) / 2<b:=by omega
  have IB:=adA (x:=x) hs ((a+b) / 2) (by omega);have hcp:=aeg (l.getD ((((a+b) / 2:Nat):Int)).toNat uR.bA) x;(refine Wa _ ?_;(repeat' first|exact tv|apply pr|intro hh));all_goals try (exfalso;omega)
  all_goals simp only[afg]
  all_goals first|exact Ob.mk (by decide)|exact Ob.mk ⟨by omega,by omega⟩|skip
  refine ab.q (adC (l.getD ((((a+b) / 2:Nat):Int)).toNat uR.bA) x) [] fun _ _=>Wp _ ?_;repeat' first|exact tv|apply pr|intro hh
  .refine⟨((a+b) / 2+1,b),[0],⟨rfl,rfl,?_,?_⟩,⟨IB.1 (hcp.1 hh),h2,h3⟩,by show b - ((a+b) / 2+1)<b - a;omega⟩
   .exact Vc
   .refine Vb _ ?_;repeat' first|exact tv|apply pr
    rw[wr (by omega)];omega
  .refine⟨(a,(a+b) / 2),[0],⟨rfl,rfl,?_,?_⟩,⟨h1,Nat.not_lt.1 fun h=>hh (hcp.2 (IB.2 h)),by show(a+b) / 2<=_;omega⟩,by show(a+b) / 2 - a<b - a;omega⟩
   .exact Vc
   .exact Vc
 .have WX:a=adi l x:=by omega
  subst WX;have II:=ad6 (l.getD ((adi l x:Int)).toNat uR.bA) x;(refine Wa _ ?_;(repeat' first|exact tv|apply pr|intro hh));all_goals first|(exfalso;omega)|exact Ob.mk ⟨by simp only[];omega,by simp only[];omega⟩|skip
  .refine ab.q (adC (l.getD ((adi l x:Int)).toNat uR.bA) x) [] fun _ _=>Wp _ ?_;repeat' first|exact tv|apply pr|intro hh
   (refine ae.w () [] _ ?_;(repeat' first|exact tv|apply pr));unfold ads;rw[abX,beq_iff_eq,decide_eq_true_eq,II];exact⟨fun h=>⟨by omega,h⟩,fun h=>h.2⟩
  .refine ae.w () [] _ ?_;repeat' first|exact tv|apply pr
   unfold ads;exact decide_eq_false fun h=>by omega
theorem adM (i n:Nat) (aF:Int) (h1:i<=10000) (h2:n<=10000):(if IntKind.i64.wrap ((i:Int)+(if(n:Int)<(if 0>aF then 0 else aF)then(n:Int)else(if 0>aF then 0 else aF)))<(n:Int)then IntKind.i64.wrap ((i:Int)+(if(n:Int)<(if 0>aF then 0 else aF)then(n:Int)else(if 0>aF then 0 else aF)))else(n:Int))
  = ((min (i+min aF.toNat n) n:Nat):Int):=by
 have e:(if(n:Int)<(if 0>aF then 0 else aF)then(n:Int)else(if 0>aF then 0 else aF))=((min aF.toNat n:Nat):Int):=by
  by_cases h:0>aF
  .rw[Z0 h,ZY (by omega)];omega
  .rw[ZY h];split <;> omega
 rw[e,wr (by omega)];split <;> omega
theorem adN (l:List Nm) (i:Nat) (aF:Int) (hi:i<=l.length):List.drop i (List.take (min (i+min aF.toNat l.length) l.length) l)=(l.drop i).take aF.toNat:=by
 rw[List.drop_take,List.take_eq_take_iff,aar];omega
theorem aej (after:Nm) (aF:Int) (C3:-9223372036854775808<=aF/\aF<=9223372036854775807) (Qi:(eD K).Pairwise kQ):MU Tryz.prog 21 [.ptr 0 0,zB after,.I aF] [.bq (nn K m c)] (.aL uR fun _=>QD (eD K) after aF) [.bq (nn K m c)]:=by
 have had:=adt (x:=after) Qi;have ES:=adz (eD K) after;(refine aa.q Tryz.func21 rfl fun S aw=>Wa _ ?_;(repeat' first|exact tv|apply pr|intro hh));(refine ab.q (Vp (K:=K) (m:=m) (c:=c)) [0] ?_;rintro _ ⟨⟨q1,q2⟩,q3⟩;refine Wp _ ?_;(repeat' first|exact tv|apply pr|intro hh));have Az:=aff (eD K) Qi (by omega) after;cases kj:ads (eD K) after with
 | true =>
  rw[kj]at Az had;rw[Z0 rfl]at had;have bf:adi (eD K) after<(eD K).length:=(of_decide_eq_true (show decide (_/\_)=true from kj)).1;have ei:IntKind.i64.wrap ((adi (eD K) after:Int)+1)=((adi (eD K) after+1:Nat):Int):=by rw[wr (by omega)];omega
  have afZ:=adM (adi (eD K) after+1) (eD K).length aF (by omega) (by omega);have ec:=adN (eD K) (adi (eD K) after+1) aF (by omega);(refine ab.q Az [] fun _ _=>Wp _ ?_;(repeat' first|exact tv|apply pr|intro hh));all_goals simp only[ei,afZ]
  .exact Ob.mk ⟨by omega,by omega,by omega⟩
  .refine ae.w () [0] _ ?_;repeat' first|exact tv|apply pr
   rw[QD,<-had,Z4,Z4,ec]
 | false =>
  rw[kj]at Az had;rw[ZY (by decide)]at had;have afZ:=adM (adi (eD K) after) (eD K).length aF (by omega) (by omega);have ec:=adN (eD K) (adi (eD K) after) aF (by omega);(refine ab.q Az [] fun _ _=>Wp _ ?_;(repeat' first|exact tv|apply pr|intro hh));all_goals simp only[afZ]
  .exact Ob.mk ⟨by omega,by omega,by omega⟩
  .refine ae.w () [0] _ ?_;repeat' first|exact tv|apply pr
   rw[QD,<-had,Z4,Z4,ec]
end
end Go.Proofs.YthnefnlhcijekaaGreat.En
set_option maxRecDepth 8000
namespace Go.Proofs.YthnefnlhcijekaaGreat.En
open Go Go.RowKit Fw Hi Ce
abbrev ado:Ty:=.pair (.int .i64) (.pair (.list Zj) (.pair (.int .i64) UI))
abbrev OpB:=Int×List adl×Int×ay
theorem aek (a b:List L1) (ha:a.length<=100000):MU Tryz.prog 26 [.aL adh fun _=>a,.aL adh fun _=>b] [] (.bool fun _=>decide (a=b)) []:=by
 refine aa.q Tryz.func26 rfl fun S aw=>Wa _ ?_;repeat' first|exact tv|apply pr|intro hh
 .refine ae.w () [] _ ?_;repeat' first|exact tv|apply pr
  exact decide_eq_false fun e=>‹¬_› (by rw[e])
 refine aM.intro hm (X:=Nat) (fun i=>i<=a.length/\a.take i=b.take i) (fun i=>a.length - i)
  (fun i=>[(0,.aL adh fun _=>a),(1,.aL adh fun _=>b),(5,.I (i:Int))]) (fun i=>[]) 0 [] ⟨rfl,rfl,?_,?_⟩ ⟨aae _,rfl⟩ ?_
 .exact Vc
 .exact Vc
 rintro i ⟨hi,ht⟩;have rB:a.length=b.length:=by omega
 (refine Wa _ ?_;(repeat' first|exact tv|apply pr|intro hh));all_goals first|exact Ob.mk ⟨by simp only[];omega,by simp only[];omega⟩|skip
 .have hx:=(Gk _ rfl _ _).1 ‹_=false›
  (refine ae.w () [] _ ?_;(repeat' first|exact tv|apply pr));exact(decide_eq_false fun e=>hx (by rw[e]))
 .have hx:=(mF _ rfl _ _).1 ‹_=true›
  refine⟨i+1,[],⟨rfl,rfl,?_,?_⟩,⟨by show i+1<=_;omega,?_⟩,by show _ - (i+1)<_ - i;omega⟩
  .exact Vc
  .refine Vb _ ?_;repeat' first|exact tv|apply pr
   rw[wr (by omega)];omega
  .simp only[Z4]at hx
   exact wG (d:=adh.bA) (by omega) (by omega) ht hx
 .have e:i=a.length:=by omega
  subst e;rw[aac,Z6 (by omega)]at ht;(refine ae.w () [] _ ?_;(repeat' first|exact tv|apply pr));exact decide_eq_true ht
def okB (o:OpB):Prop:=o.2.1.length<=12/\∀ a∈o.2.1,a.2.1.length<=60
instance (o:OpB):Decidable (okB o):=inferInstanceAs (Decidable (_/\_))
def aeE (l:List OpB) (aF:Int):Prop:=(l.length:Int)<=aF/\∀ o∈l,okB o
instance (l:List OpB) (aF:Int):Decidable (aeE l aF):=inferInstanceAs (Decidable (_/\_))
theorem getD_in {α:Type} {l:List α} {i:Nat} (d:α) (h:i<l.length):l.getD i d∈l:=by rw[ZZ,Z1 h];exact aax _
theorem adO {α:Type} {l:List α} {p:α->Prop} (d:α) (h:∀ j,j<l.length->p (l.getD j d)):∀ o∈l,p o:=fun o ho=>by
 obtain⟨j,hj⟩:=aaa.1 ho;have:=h j (Z2.1 hj).1;rw[ZZ,hj]at this;exact this
theorem ae3 (l:List OpB) (aF:Int) (dJ:aF<=1000):MU Tryz.prog 17 [.aL ado fun _=>l,.I aF] [] (.bool fun _=>decide (aeE l aF)) []:=by
 by_cases h0:(l.length:Int)<=aF;rotate_left
 .rw[decide_eq_false fun h=>h0 h.1]
  (refine aa.q Tryz.func17 rfl fun S aw=>Wa _ ?_;(repeat' first|exact tv|apply pr|intro hh));all_goals try (exfalso;omega)
  all_goals exact ae.z () []
 (refine aa.q Tryz.func17 rfl fun S aw=>Wa _ ?_;(repeat' first|exact tv|apply pr|intro hh));all_goals try (exfalso;omega)
 refine aM.intro hm (X:=Nat) (fun i=>i<=l.length/\∀ j,j<i->okB (l.getD j ado.bA)) (fun i=>l.length - i)
  (fun i=>[(0,.aL ado fun _=>l),(5,.I (i:Int))]) (fun i=>[]) 0 [] ⟨rfl,rfl,?_,?_⟩ ⟨aae _,fun j hj=>absurd hj (abW j)⟩ ?_
 .exact Vc
 .exact Vc
 rintro i ⟨hi,jG⟩;by_cases dp:i<l.length;rotate_left
 .have IL:i=l.length:=by omega
  subst IL;rw[decide_eq_true (show aeE l aF from⟨h0,adO ado.bA jG⟩)];(refine Wa _ ?_;(repeat' first|exact tv|apply pr|intro hh));all_goals try (exfalso;omega)
  exact ae.z () []
 have C3:=getD_in ado.bA dp;by_cases Qp:(l.getD ((i:Int)).toNat ado.bA).2.1.length<=12;rotate_left
 .rw[decide_eq_false fun h=>Qp (h.2 _ C3).1]
  (refine Wa _ ?_;(repeat' first|exact tv|apply pr|intro hh));all_goals first|exact Ob.mk ⟨by simp only[];omega,by simp only[];omega⟩|(exfalso;omega)|skip
  exact ae.z () []
 (refine Wa _ ?_;(repeat' first|exact tv|apply pr|intro hh));all_goals first|exact Ob.mk ⟨by simp only[];omega,by simp only[];omega⟩|(exfalso;omega)|skip
 refine aM.intro hm (X:=Nat) (fun k=>k<=(l.getD ((i:Int)).toNat ado.bA).2.1.length/\∀ j,j<k->((l.getD ((i:Int)).toNat ado.bA).2.1.getD j Zj.bA).2.1.length<=60) (fun k=>(l.getD ((i:Int)).toNat ado.bA).2.1.length - k)
  (fun k=>[(0,.aL ado fun _=>l),(5,.I (i:Int)),(6,.I (k:Int))]) (fun k=>[]) 0 [] ⟨rfl,rfl,?_,?_⟩ ⟨aae _,fun j hj=>absurd hj (abW j)⟩ ?_
 .exact Vc
 .exact Vc
 rintro k ⟨hk,hka⟩;(refine Wa _ ?_;(repeat' first|exact tv|apply pr|intro hh));all_goals first|exact Ob.mk ⟨by simp only[];omega,by simp only[];omega⟩|skip
 .have Af:=getD_in Zj.bA (show k<(l.getD ((i:Int)).toNat ado.bA).2.1.length by omega)
  rw[decide_eq_false fun h=>absurd ((h.2 _ C3).2 _ Af) (by have:=hh;simp only[Z4]at this ⊢;omega)];exact ae.z () []
 .refine⟨k+1,[],⟨rfl,rfl,?_,?_⟩,⟨by show k+1<=_;omega,fun j hj=>?_⟩,by show _ - (k+1)<_ - k;omega⟩
  .exact Vc
  .refine Vb _ ?_;repeat' first|exact tv|apply pr
   rw[wr (by omega)];omega
  .by_cases e:j=k
   .subst e
    have:=hh;simp only[Z4]at this ⊢;omega
   .exact hka j (by omega)
 .have Wu:k=(l.getD ((i:Int)).toNat ado.bA).2.1.length:=by omega
  subst Wu;refine⟨i+1,[],⟨rfl,rfl,?_,?_⟩,⟨by show i+1<=_;omega,fun j hj=>?_⟩,by show _ - (i+1)<_ - i;omega⟩
  .exact Vc
  .refine Vb _ ?_;repeat' first|exact tv|apply pr
   rw[wr (by omega)];omega
  .by_cases e:j=i
   .subst e;exact⟨Qp,adO Zj.bA hka⟩
   .exact jG j (by omega)
def lbP:ay:=(2,2,10,0)
def lbK (L:Hs):Kt:=⟨9,0,LV.set 0 (true,lbP,1),L⟩
def lbB:Hs:=[((0,[97]),[(0,1)]),((0,[98]),[(0,1)])]
def lbC:Hs:=[((0,[97]),[(0,1),(0,1)]),((0,[98]),[(0,1)]),((0,[99]),[(0,2)])]
def a97 (n:Int):adl:=(0,[97],n)
theorem lb1:qQ (W6 9) 0 lbP=(lbK [],1,0):=by kernel_rfl
theorem lb2:adk (lbK []) [a97 1,a97 2]=(lbK [],(om (lbK []) [a97 1,a97 2]).2,false,0):=by kernel_rfl
theorem lb3:adf (lbK []) [a97 1,a97 2,(0,[98],1)]=(lbK lbB,(om (lbK []) [a97 1,a97 2,(0,[98],1)]).2,0):=by kernel_rfl
theorem lb4:adk (lbK lbB) [a97 1,(0,[99],2)]=(lbK lbC,(om (lbK lbB) [a97 1,(0,[99],2)]).2,true,0):=by kernel_rfl
theorem lb5:adf (lbK lbC) []=(lbK lbC,[],1):=by kernel_rfl
theorem lb6:QD (eD (lbK lbC)) (0,[]) 2=[(0,[97]),(0,[98])]:=by kernel_rfl
theorem lb7:QD (eD (lbK lbC)) (0,[98]) 2=[(0,[99])]:=by kernel_rfl
theorem lb8:(eD (lbK lbC)).Pairwise kQ:=by
 have e:eD (lbK lbC)=[(0,[97]),(0,[98]),(0,[99])]:=by kernel_rfl
 rw[e];decide
end Go.Proofs.YthnefnlhcijekaaGreat.En
set_option maxRecDepth 8000
namespace Go.Proofs.YthnefnlhcijekaaGreat.En
open Go Go.RowKit Fw Hi Ce
def lt1:List L1:=[(0,true,1,0,10),(0,false,1,10,10)]
def lt2:List L1:=[(0,true,1,0,10),(0,false,1,10,10),(0,true,1,0,10)]
def lt3:List L1:=[(0,true,0,0,10),(0,true,0,0,10)]
theorem le1:(om (lbK []) [a97 1,a97 2]).2=lt1:=by kernel_rfl
theorem le2:(om (lbK []) [a97 1,a97 2,(0,[98],1)]).2=lt2:=by kernel_rfl
theorem le3:(om (lbK lbB) [a97 1,(0,[99],2)]).2=lt3:=by kernel_rfl
set_option maxHeartbeats 1000000 in
theorem adD:MU Tryz.prog 18 [] [] .tt []:=by
 have h1:=fun c=>Zh (K:=W6 9) (m:=0) (m':=1) (c:=c) 0 lbP (by omega);have h2:=fun c=>aeN (K:=lbK []) (m:=1) (m':=9) (c:=c) [a97 1,a97 2] (by omega) (by omega);have h3:=fun c=>adW (K:=lbK []) (m:=9) (m':=17) (c:=c) [a97 1,a97 2,(0,[98],1)] (by omega) (by omega);have h4:=fun c=>aeN (K:=lbK lbB) (m:=17) (m':=25) (c:=c) [a97 1,(0,[99],2)] (by omega) (by omega);have h5:=fun c=>adW (K:=lbK lbC) (m:=25) (m':=33) (c:=c) [] (by omega) (by omega);have h6:=fun c=>aej (K:=lbK lbC) (m:=33) (c:=c) (0,[]) 2 (by omega) lb8;have h7:=fun c=>aej (K:=lbK lbC) (m:=33) (c:=c) (0,[98]) 2 (by omega) lb8;simp only[lb1]at h1;simp only[lb2,le1]at h2;simp only[lb3,le2]at h3;simp only[lb4,le3]at h4;simp only[lb5]at h5;simp only[lb6]at h6;simp only[lb7]at h7;unfold lt1 at h2;unfold lt2 at h3;unfold lt3 at h4;(refine aa.q Tryz.func18 rfl fun S aw=>Wa _ ?_;(repeat' first|exact tv|apply pr|intro hh));(refine ab.q (Zi 9 0 (by omega)) [] fun _ _=>Wp _ ?_;(repeat' first|exact tv|apply pr|intro hh));(refine ab.q (h1 0) [0] ?_;rintro c1 _;refine Wp _ ?_;(repeat' first|exact tv|apply pr|intro hh));refine ab.gU 1 ?_ (h2 c1).aA;(conv=>whnf);(refine ab.q (h2 c1) [0] ?_;rintro c2 _;refine Wp _ ?_;(repeat' first|exact tv|apply pr|intro hh));refine ab.gU 2 ?_ (h3 c2).aA;(conv=>whnf);(refine ab.q (h3 c2) [0] ?_;rintro c3 _;refine Wp _ ?_;(repeat' first|exact tv|apply pr|intro hh));refine ab.gU 3 ?_ (h4 c3).aA;(conv=>whnf);(refine ab.q (h4 c3) [0] ?_;rintro af0 _;refine Wp _ ?_;(repeat' first|exact tv|apply pr|intro hh));(refine ab.q (h5 af0) [0] ?_;rintro af1 _;refine Wp _ ?_;(repeat' first|exact tv|apply pr|intro hh));(refine ab.q (h6 af1) [0] fun _ _=>Wp _ ?_;(repeat' first|exact tv|apply pr|intro hh));(refine ab.q (h7 af1) [0] fun _ _=>Wp _ ?_;(repeat' first|exact tv|apply pr|intro hh));exact ae.z () []
end Go.Proofs.YthnefnlhcijekaaGreat.En
set_option maxRecDepth 8000
namespace Go.Proofs.YthnefnlhcijekaaGreat.En
open Go Go.RowKit Fw Hi Ce
theorem adu (bk:List bM) (h:ni bk):MU Tryz.prog 146 [.aL c7 fun _=>bk] [] .tt []:=by
 have hl:=h.len;refine aa.q Tryz.func146 rfl fun S aw=>Wa _ ?_;repeat' first|exact tv|apply pr|intro hh
 .omega
 refine aM.intro hm (X:=Nat) (fun i=>i<=8) (fun i=>8 - i)
  (fun i=>[(3,.I (i:Int)),(0,.aL c7 fun _=>bk)]) (fun i=>[]) 0 [] ⟨rfl,rfl,?_,?_⟩ (aae _) ?_
 .exact Vc
 .exact Vc
 intro i hi;by_cases h8:i<8
 .have hv:=H2 h (id:=i) (by omega)
  have ho:=Kw h (id:=i) (by omega);have e1:aX bk (i:Int)=bk.getD i c7.bA:=by unfold aX;rw[Z4];rfl
  rw[e1]at hv ho;obtain⟨on,p,v,hb⟩:∃ on p v,bk.getD i c7.bA=(on,p,v):=⟨_,_,_,rfl⟩
  rw[hb]at hv ho;rw[oz]at ho;simp only[]at hv;rw[ZY (by omega)]at ho;have mC:bk.getD ((i:Int)).toNat c7.bA=(on,p,v):=by rw[Z4];exact hb
  have f1:(bk.getD ((i:Int)).toNat c7.bA).1=on:=by rw[mC]
  have f2:(bk.getD ((i:Int)).toNat c7.bA).2.1=p:=by rw[mC]
  have f3:(bk.getD ((i:Int)).toNat c7.bA).2.2=v:=by rw[mC]
  cases on with
  | true =>
   simp only[if_true,Bool.or_eq_false_iff,decide_eq_false_iff_not,Bool.not_eq_false',decide_eq_true_eq]at ho;have qU:=Po.CJ (bk.getD ((i:Int)).toNat c7.bA).2.1;rw[f2,Z0 ho.2,<-f2]at qU;(refine Wa _ ?_;(repeat' first|exact tv|apply pr|intro hh));all_goals first|exact Ob.mk ⟨by simp only[];omega,by simp only[];omega⟩|(exfalso;omega)|(exfalso;simp_all;done)|skip
   all_goals refine ab.q qU [] fun _ _=>Wp _ ?_;repeat' first|exact tv|apply pr|intro hh
   all_goals first|exact Ob.mk ⟨by simp only[];omega,by simp only[];omega⟩|(exfalso;omega)|(exfalso;simp_all;done)|skip
   refine⟨i+1,[],⟨rfl,rfl,?_,?_⟩,by omega,by omega⟩
   .exact Vc
   .refine Vb _ ?_;repeat' first|exact tv|apply pr
    rw[wr (by omega)];omega
  | false =>
   rw[ZY (by simp)]at ho;simp only[Bool.not_eq_false',decide_eq_true_eq]at ho;(refine Wa _ ?_;(repeat' first|exact tv|apply pr|intro hh));all_goals first|exact Ob.mk ⟨by simp only[];omega,by simp only[];omega⟩|(exfalso;omega)|(exfalso;simp_all;done)|skip
   .exact absurd (by rw[mC,ho]) ((Gk _ rfl _ _).1 hh)
   refine⟨i+1,[],⟨rfl,rfl,?_,?_⟩,by omega,by omega⟩
   .exact Vc
   .refine Vb _ ?_;repeat' first|exact tv|apply pr
    rw[wr (by omega)];omega
 .refine Wa _ ?_;repeat' first|exact tv|apply pr|intro hh
  all_goals try (exfalso;omega)
  exact ae.z () []
theorem ael (bk:List bM) (h:ni bk) (id:Int):MU Tryz.prog 90 [.aL c7 fun _=>bk,.I id] [] (.bQ [aI (nj bk id).1,.I ((nj bk id).2.1),.I ((nj bk id).2.2)]) []:=by
 have hl:=h.len;by_cases hi:0<=id/\id<8
 .by_cases hon:(aX bk id).1=true
  .have eg:nj bk id=((aX bk id).2.1,(aX bk id).2.2,0):=by unfold nj;rw[Z0 hi,Z0 hon]
   rw[eg];have aeO:(bk.getD id.toNat c7.bA).1=true:=hon;(refine aa.q Tryz.func90 rfl fun S aw=>Wa _ ?_;(repeat' first|exact tv|apply pr|intro hh));(refine ab.q (adu bk h) [] fun _ _=>Wp _ ?_;(repeat' first|exact tv|apply pr|intro hh));all_goals first|exact Ob.mk ⟨by simp only[];omega,by simp only[];omega⟩|(exfalso;omega)|skip
   .rw[aeO]at hh;cases hh
   all_goals exact ae.z () []
  .have eg:nj bk id=((0,0,0,0),0,5):=by unfold nj;rw[Z0 hi,ZY hon]
   rw[eg];have aeO:¬(bk.getD id.toNat c7.bA).1=true:=hon;(refine aa.q Tryz.func90 rfl fun S aw=>Wa _ ?_;(repeat' first|exact tv|apply pr|intro hh));(refine ab.q (adu bk h) [] fun _ _=>Wp _ ?_;(repeat' first|exact tv|apply pr|intro hh));all_goals first|exact Ob.mk ⟨by simp only[];omega,by simp only[];omega⟩|(exfalso;omega)|skip
   .exact ae.z () []
   all_goals exact absurd ‹(bk.getD id.toNat c7.bA).1=true› aeO
 .have eg:nj bk id=((0,0,0,0),0,1):=by unfold nj;rw[ZY hi]
  rw[eg];(refine aa.q Tryz.func90 rfl fun S aw=>Wa _ ?_;(repeat' first|exact tv|apply pr|intro hh));(refine ab.q (adu bk h) [] fun _ _=>Wp _ ?_;(repeat' first|exact tv|apply pr|intro hh));all_goals try (exfalso;omega)
  all_goals exact ae.z () []
theorem aeP (bk:List bM) (h:ni bk) (id:Int) (p:ay):MU Tryz.prog 142 [.aL c7 fun _=>bk,.I id,aI p] [] (.bQ [.aL c7 fun _=>(ie bk id p).1,.I ((ie bk id p).2.1),.I ((ie bk id p).2.2)]) []:=by
 have hl:=h.len;have qU:=Po.CJ p;by_cases hi:(0<=id/\id<8)/\aQ p
 .have hv:=H2 h hi.1
  rw[Z0 hi.2]at qU;have ev:(aX bk id).2.2=(bk.getD id.toNat c7.bA).2.2:=rfl;by_cases hf:(aX bk id).2.2=1073741824
  .have e:ie bk id p=(bk,0,4):=by unfold ie;rw[Z0 hi,Z0 hf]
   rw[e];(refine aa.q Tryz.func142 rfl fun S aw=>Wa _ ?_;(repeat' first|exact tv|apply pr|intro hh));(refine ab.q (adu bk h) [] fun _ _=>Wp _ ?_;(repeat' first|exact tv|apply pr|intro hh));all_goals try ((refine ab.q qU [] fun _ _=>Wp _ ?_;(repeat' first|exact tv|apply pr|intro hh)))
   all_goals first|exact Ob.mk ⟨by simp only[];omega,by simp only[];omega⟩|(exfalso;omega)|skip
   all_goals exact ae.z () []
  .have e:ie bk id p=(bk.set id.toNat (true,p,(aX bk id).2.2+1),(aX bk id).2.2+1,0):=by unfold ie;rw[Z0 hi,ZY hf]
   rw[e];have hb:Tryz.t188.bytes<=1000:=by decide
   (refine aa.q Tryz.func142 rfl fun S aw=>Wa _ ?_;(repeat' first|exact tv|apply pr|intro hh));(refine ab.q (adu bk h) [] fun _ _=>Wp _ ?_;(repeat' first|exact tv|apply pr|intro hh));all_goals try ((refine ab.q qU [] fun _ _=>Wp _ ?_;(repeat' first|exact tv|apply pr|intro hh)))
   all_goals first|exact Ob.mk ⟨by simp only[];omega,by simp only[];omega⟩|(exfalso;omega)|skip
   .refine⟨⟨rfl,?_,?_⟩⟩
    .show 0+bk.length<=_
     omega
    .show(0+bk.length)*Tryz.t188.bytes<=_
     rw[hl];omega
   (refine ae.gU 1 ?_;(conv=>whnf));(refine ae.w () [] _ ?_;(repeat' first|exact tv|apply pr));all_goals rw[wr (show -9223372036854775808<=(bk.getD id.toNat c7.bA).2.2+1/\_ by omega)]
   .rw[aaf,aaf,aah,abR,ab3,Z6 (by rw[aao];exact Z8 _)];rfl
   .rw[aaf,abR,ab3,ZZ,ac9 (by omega)];rfl
 .have e:ie bk id p=(bk,0,1):=by unfold ie;rw[ZY hi]
  rw[e];by_cases hr:0<=id/\id<8
  .rw[ZY (fun hp=>hi ⟨hr,hp⟩)]at qU
   (refine aa.q Tryz.func142 rfl fun S aw=>Wa _ ?_;(repeat' first|exact tv|apply pr|intro hh));(refine ab.q (adu bk h) [] fun _ _=>Wp _ ?_;(repeat' first|exact tv|apply pr|intro hh));all_goals try ((refine ab.q qU [] fun _ _=>Wp _ ?_;(repeat' first|exact tv|apply pr|intro hh)))
   all_goals try (exfalso;omega)
   all_goals exact ae.z () []
  .refine aa.q Tryz.func142 rfl fun S aw=>Wa _ ?_;repeat' first|exact tv|apply pr|intro hh
   (refine ab.q (adu bk h) [] fun _ _=>Wp _ ?_;(repeat' first|exact tv|apply pr|intro hh));all_goals try (exfalso;omega)
   all_goals exact ae.z () []
theorem aeQ:MU Tryz.prog 83 [] [] (.aL c7 fun _=>LV) []:=by
 refine aa.q Tryz.func83 rfl fun S aw=>Wa _ ?_;repeat' first|exact tv|apply pr|intro hh
 .exact Ob.mk (by decide)
 (refine ae.gU 0 ?_;(conv=>whnf));exact ae.z () []
end Go.Proofs.YthnefnlhcijekaaGreat.En
set_option maxRecDepth 8000
namespace Go.Proofs.YthnefnlhcijekaaGreat.En
open Go Go.RowKit Fw Hi Ce
abbrev adn:Ty:=.pair (.pair (.int .i64) .str) (.list dz)
abbrev ae5:=Nm×List bc
abbrev aem:TypeId:=145
abbrev ae6:TypeId:=84
def adp:ae5:=((0,[]),[])
def chF (K:Kt):List Chunk:=[.cells ae6 [.I K.n,.aL c7 fun _=>K.bk,.I K.now,.vec 1 3 (fun _=>0) fun _=>K.L.length],.aq aem adn fun _=>K.L]
def adg:Hs->Nm->Nat
 | [],_=>0
 | x::r,nm=>if kQ x.1 nm then adg r nm+1 else 0
theorem adU:∀ (L:Hs) (nm:Nm),adg L nm<=L.length
 | [],_=>Z8 _
 | x::r,nm=>by
  unfold adg;split
  .rw[Z9];exact Nat.succ_le_succ (adU r nm)
  .exact aae _
theorem adP:∀ (L:Hs) (nm:Nm) (i:Nat),i<=adg L nm->i<L.length->(kQ (L.getD i adp).1 nm->i+1<=adg L nm)/\(¬kQ (L.getD i adp).1 nm->i=adg L nm)
 | [],_,i,_,hi=>absurd hi (abW i)
 | x::r,nm,0,h,_=>by
  show(kQ x.1 nm->_)/\(¬kQ x.1 nm->_);unfold adg;exact⟨fun h1=>by rw[Z0 h1];omega,fun h1=>by rw[ZY h1]⟩
 | x::r,nm,i+1,h,hi=>by
  unfold adg at h ⊢;split at h
  .rename_i h1
   have:=adP r nm i (by omega) (by simpa using hi);rw[Z0 h1];exact⟨fun h2=>Nat.succ_le_succ (this.1 h2),fun h2=>congrArg (·+1) (this.2 h2)⟩
  .omega
def isL (L:Hs) (nm:Nm):Bool:=decide (adg L nm<L.length/\(L.getD (adg L nm) adp).1=nm)
theorem adY (x:ae5) (r:Hs) (nm:Nm):isL (x::r) nm=if kQ x.1 nm then isL r nm else decide (x.1=nm):=by
 unfold isL;by_cases h:kQ x.1 nm
 .rw[Z0 h]
  have e:adg (x::r) nm=adg r nm+1:=by rw[adg,Z0 h]
  rw[e,decide_eq_decide];show(adg r nm+1<r.length+1/\(r.getD (adg r nm) adp).1=nm)↔_;rw[Nat.add_lt_add_iff_right]
 .rw[ZY h]
  have e:adg (x::r) nm=0:=by rw[adg,ZY h]
  rw[e,decide_eq_decide];show(0<r.length+1/\x.1=nm)↔_;exact⟨fun h=>h.2,fun h=>⟨Nat.succ_pos _,h⟩⟩
theorem adZ:∀ (L:Hs) (nm:Nm),aY L nm=if isL L nm=true then(L.getD (adg L nm) adp).2 else[]
 | [],nm=>by simp[aY,isL]
 | x::r,nm=>by
  rw[adY,aY];by_cases h:kQ x.1 nm
  .rw[Z0 h,Z0 h,adZ r nm]
   have e:adg (x::r) nm=adg r nm+1:=by rw[adg,Z0 h]
   rw[e];rfl
  .rw[ZY h,ZY h]
   have e:adg (x::r) nm=0:=by rw[adg,ZY h]
   rw[e];by_cases h2:x.1=nm
   .rw[Z0 h2,Z0 (by simpa using h2)];rfl
   .rw[ZY h2,ZY (by simpa using h2)]
theorem aen:∀ (L:Hs) (nm:Nm) (l:List bc),jM L nm l=if isL L nm=true then L.set (adg L nm) (nm,l)else L.take (adg L nm)++(nm,l)::L.drop (adg L nm)
 | [],nm,l=>by simp[jM,isL,adg]
 | x::r,nm,l=>by
  rw[adY,jM];by_cases h:kQ x.1 nm
  .rw[Z0 h,Z0 h,aen r nm l]
   have e:adg (x::r) nm=adg r nm+1:=by rw[adg,Z0 h]
   rw[e];split <;> rfl
  .rw[ZY h,ZY h]
   have e:adg (x::r) nm=0:=by rw[adg,ZY h]
   rw[e];by_cases h2:x.1=nm
   .rw[Z0 h2,Z0 (by simpa using h2)];rfl
   .rw[ZY h2,ZY (by simpa using h2)];rfl
theorem ad0 (x y:List UInt8):Op.bytesLess x y=decide (x<y):=Go.Proofs.bytesLess_eq x y
theorem aeo {L:Hs} {nm:Nm} (h:adg L nm<L.length):isL L nm=decide ((L.getD (adg L nm) adp).1=nm):=by
 unfold isL;rw[decide_eq_decide];exact⟨fun h2=>h2.2,fun h2=>⟨h,h2⟩⟩
theorem aeF {L:Hs} {nm:Nm} (h:¬adg L nm<L.length):isL L nm=false:=by
 unfold isL;exact decide_eq_false fun h2=>h h2.1
theorem ad1 (K:Kt) (hL:K.L.length<=100000) (nm:Nm):MU Tryz.prog 141 [.ptr 0 0,zB nm] (chF K) (.bQ [.I (adg K.L nm:Int),.bool fun _=>isL K.L nm]) (chF K):=by
  have hle:=adU K.L nm;(refine aa.q Tryz.func141 rfl fun S aw=>Wa _ ?_;(repeat' first|exact tv|apply pr|intro hh));refine aM.intro hm (X:=Nat) (fun i=>i<=adg K.L nm) (fun i=>K.L.length - i)
    (fun i=>[(6,.I (i:Int)),(0,.ptr 0 0),(3,.ptr 2 0)]) (fun i=>chF K++[.cells 24 [.I nm.1,.str fun _=>nm.2]]) 0 [0,1,2] ⟨rfl,rfl,?_,?_⟩ (aae _) ?_
  · exact Vc
  · exact Vc
  intro i hi;have hs:=adP K.L nm i hi;have No:K.L.getD (0+((i:Int)).toNat) adn.bA=K.L.getD i adp:=by rw[aaf,Z4];rfl
  unfold kQ at hs;(refine Wa _ ?_;(repeat' first|exact tv|apply pr|intro hh));all_goals first|exact Ob.mk ⟨by simp only[];omega,by simp only[];omega⟩|(exfalso;omega)|skip
  all_goals simp only[No,ad0,decide_eq_true_eq,decide_eq_false_iff_not]at *
  all_goals first
    | (refine⟨i+1,[0,1,2],⟨rfl,rfl,?_,?_⟩,?_,by omega⟩
       · exact Vc
       · (refine Vb _ ?_;(repeat' first|exact tv|apply pr))
         rw[wr (by omega)];omega
       · refine(hs (by omega)).1 ?_
         first|(left;assumption)|(right;exact⟨by assumption,by assumption⟩)
       done)
    | skip
  · have e:i=adg K.L nm:=(hs (by omega)).2 (fun h=>h.elim (by assumption) fun h2=>absurd h2.2 (by assumption))
    refine ae.w () [0,1] _ ?_;repeat' first|exact tv|apply pr
    · rw[e]
    · rw[aeo (by omega),abX,mF _ rfl,decide_eq_true_eq,<-e]
  · have e:i=adg K.L nm:=(hs (by omega)).2 (fun h=>h.elim (by assumption) fun h2=>absurd h2.1 (by assumption))
    refine ae.w () [0,1] _ ?_;repeat' first|exact tv|apply pr
    · rw[e]
    · rw[aeo (by omega),abX,mF _ rfl,decide_eq_true_eq,<-e]
  · have e:i=adg K.L nm:=by omega
    have e2:=aeF (L:=K.L) (nm:=nm) (by omega);rw[e2];(refine ae.w () [0,1] _ ?_;(repeat' first|exact tv|apply pr));rw[e]
end Go.Proofs.YthnefnlhcijekaaGreat.En
set_option maxRecDepth 8000
namespace Go.Proofs.YthnefnlhcijekaaGreat.En
open Go Go.RowKit Fw Hi Ce
theorem aeR (K:Kt) {m:Nat} (s:Small K m) (Tn:m<=100000) (nm:Nm):MU Tryz.prog 197 [.ptr 0 0,zB nm] (chF K) (.aL dz fun _=>aY K.L nm) (chF K):=by
 have hl:=s.len;have hp:=ad1 K (by omega) nm;have ZU:=adZ K.L nm;cases hi:isL K.L nm with
 | false =>
  rw[hi]at hp ZU;rw[ZU];(refine aa.q Tryz.func197 rfl fun S aw=>Wa _ ?_;(repeat' first|exact tv|apply pr|intro hh));(refine ab.q hp [0,1] fun _ _=>Wp _ ?_;(repeat' first|exact tv|apply pr|intro hh));(refine ae.w () [0,1] _ ?_;(repeat' first|exact tv|apply pr));all_goals rfl
 | true =>
  have h1:adg K.L nm<K.L.length:=(of_decide_eq_true (show decide (_/\_)=true from hi)).1;rw[hi]at hp ZU;rw[ZU];(refine aa.q Tryz.func197 rfl fun S aw=>Wa _ ?_;(repeat' first|exact tv|apply pr|intro hh));refine ab.q hp [0,1] fun _ _=>Wp _ ?_;repeat' first|exact tv|apply pr|intro hh
  .exact Ob.mk ⟨by simp only[];omega,by simp only[];omega⟩
  (refine ae.w () [0,1] _ ?_;(repeat' first|exact tv|apply pr));simp only[if_true,Z4,aaf];rfl
def adr (K:Kt) (i:Nat):List Nm:=((K.L.take i).filter (OA K)).map (·.1)
theorem ad7 (K:Kt) (i:Nat) (hi:i<K.L.length):adr K (i+1)=if OA K (K.L.getD i adp)=true then adr K i++[(K.L.getD i adp).1]else adr K i:=by
 have hg:K.L[i]?=some (K.L.getD i adp):=by rw[ZZ,Z1 hi];rfl
 unfold adr;rw[aaE,hg,ac4,List.filter_append];by_cases hc:OA K (K.L.getD i adp)=true
 .rw[Z0 hc,ade,Z0 hc,ace];rfl
 .rw[ZY hc,ade,ZY hc,List.filter_nil,List.append_nil]
theorem aep (K:Kt) (i:Nat):(adr K i).length<=i:=by
 unfold adr;rw[aba];exact aaA (acf ..) (by rw[aak];omega)
theorem aeq (K:Kt):adr K K.L.length=eD K:=by unfold adr eD;rw[aac]
theorem ad2 (K:Kt) {m:Nat} (s:Small K m) (Tn:m<=100000):MU Tryz.prog 40 [.ptr 0 0] (chF K) (.aL uR fun _=>eD K) (chF K):=by
  have hl:=s.len;(refine aa.q Tryz.func40 rfl fun S aw=>Wa _ ?_;(repeat' first|exact tv|apply pr|intro hh));refine aM.nil 24 uR none [3] ?_;refine aM.intro hm (X:=Nat) (fun i=>i<=K.L.length) (fun i=>K.L.length - i)
    (fun i=>[(0,.ptr 0 0),(3,.vec 2 2 (fun _=>0) fun _=>(adr K i).length),(4,.I (i:Int))])
    (fun i=>chF K++[.aq 24 uR fun _=>adr K i]) 0 [0,1,2] ⟨rfl,rfl,?_,?_⟩ (aae _) ?_
  · exact Vc
  · exact Vc
  intro i hi;have u7:=aep K i;by_cases dp:i<K.L.length
  · have No:K.L.getD (0+((i:Int)).toNat) adn.bA=K.L.getD i adp:=by rw[aaf,Z4];rfl
    have C3:K.L.getD i adp∈K.L:=by rw[ZZ,Z1 dp];exact aax _
    have uu:=ad7 K i dp;have Mo:=s.fM _ C3;have cL:=ael K.bk s.bk (K.L.getD i adp).1.1;rw[<-No]at uu cL Mo;cases hb:cC K.bk (K.L.getD (0+((i:Int)).toNat) adn.bA).1.1 with
    | none =>
      have hc:OA K (K.L.getD (0+((i:Int)).toNat) adn.bA)=false:=by unfold OA;simp only[hb]
      rw[hc,ZY (by decide)]at uu;have hcd:(nj K.bk (K.L.getD (0+((i:Int)).toNat) adn.bA).1.1).2.2≠0:=by rw[get_none hb];simp only[];split <;> decide
      (refine Wa _ ?_;(repeat' first|exact tv|apply pr|intro hh));all_goals first|exact Ob.mk ⟨by simp only[];omega,by simp only[];omega⟩|(exfalso;omega)|skip
      all_goals refine ab.q cL [] fun _ _=>Wp _ ?_;repeat' first|exact tv|apply pr|intro hh
      all_goals first|exact Ob.mk ⟨by simp only[];omega,by simp only[];omega⟩|(exfalso;omega)|skip
      all_goals refine⟨i+1,[0,1,2],⟨rfl,rfl,?_,?_⟩,by show i+1<=_;omega,by show _ - (i+1)<_ - i;omega⟩
      all_goals refine Vb _ ?_;repeat' first|exact tv|apply pr
      all_goals first|(rw[uu];done)|(rw[wr (by omega)];omega)|exact uu.symm|skip
    | some pv =>
      obtain⟨p,v⟩:=pv;have hc:OA K (K.L.getD (0+((i:Int)).toNat) adn.bA)=!Hi.neutral p (K.L.getD (0+((i:Int)).toNat) adn.bA).2 K.now:=by unfold OA;simp only[hb]
      have uY:Hi.neutral p (K.L.getD (0+((i:Int)).toNat) adn.bA).2 K.now=false->adr K (i+1)=adr K i++[(K.L.getD (0+((i:Int)).toNat) adn.bA).1]:=fun h=>by rw[uu,hc,h];rfl
      have rG:Hi.neutral p (K.L.getD (0+((i:Int)).toNat) adn.bA).2 K.now=true->adr K (i+1)=adr K i:=fun h=>by rw[uu,hc,h];rfl
      clear uu;rw[si hb]at cL;(refine Wa _ ?_;(repeat' first|exact tv|apply pr|intro hh));all_goals first|exact Ob.mk ⟨by simp only[];omega,by simp only[];omega⟩|(exfalso;omega)|skip
      all_goals refine ab.q cL [] fun _ _=>Wp _ ?_;repeat' first|exact tv|apply pr|intro hh
      all_goals first|exact Ob.mk ⟨by simp only[];omega,by simp only[];omega⟩|(exfalso;omega)|skip
      all_goals refine ab.q (Pg p (K.L.getD (0+((i:Int)).toNat) adn.bA).2 K.now (by omega)) [] fun _ _=>Wp _ ?_;repeat' first|exact tv|apply pr|intro hh
      all_goals first|exact Ob.mk ⟨by simp only[];omega,by simp only[];omega⟩|(exfalso;omega)|skip
      all_goals first|have uu:=uY hh|have uu:=rG hh|have uu:=uY (by assumption)|have uu:=rG (by assumption)
      all_goals first
        | (refine⟨⟨rfl,?_,?_⟩⟩
           · show(adr K i).length+1<=_
             omega
           · show((adr K i).length+1)*24<=_
             omega
           done)
        | skip
      all_goals refine⟨i+1,[0,1,2],⟨rfl,rfl,?_,?_⟩,by show i+1<=_;omega,by show _ - (i+1)<_ - i;omega⟩
      all_goals refine Vb _ ?_;repeat' first|exact tv|apply pr
      all_goals first|(rw[uu,Z6 (Z8 _)];rfl)|(rw[uu,aab];rfl)|(rw[uu];done)|(rw[wr (by omega)];omega)|exact uu.symm|skip
  · (refine Wa _ ?_;(repeat' first|exact tv|apply pr|intro hh))
    all_goals try (exfalso;omega)
    have e:i=K.L.length:=by omega
    subst e;(refine ae.gU 2 ?_;(conv=>whnf));(refine ae.w () [0,1] _ ?_;(repeat' first|exact tv|apply pr));rw[aah,aac,aeq]
end Go.Proofs.YthnefnlhcijekaaGreat.En
set_option maxRecDepth 8000
namespace Go.Proofs.YthnefnlhcijekaaGreat.En
open Go Go.RowKit Fw Hi Ce
theorem aeG (nm:Nm):fy nm=decide ((0<=nm.1/\nm.1<8)/\1<=nm.2.length/\nm.2.length<=32):=by
 unfold fy;rw[abX];simp only[aai,decide_eq_true_eq,aa4,decide_eq_false_iff_not];rw[<-aaL];omega
theorem y8 (nm:Nm):MU Tryz.prog 145 [zB nm] [] (.bool fun _=>fy nm) []:=by
 (refine aa.q Tryz.func145 rfl fun S aw=>Wa _ ?_;(repeat' first|exact tv|apply pr|intro hh));all_goals refine ae.w () [] _ ?_;repeat' first|exact tv|apply pr
 all_goals rw[aeG]
 all_goals first|(rw[decide_eq_decide];omega)|exact decide_eq_false (by omega)
def lk3 (r:List bc×L1×Bool):AV:=.bQ [.aL dz fun _=>r.1,Ih r.2.1,.bool fun _=>r.2.2]
theorem aeS (K:Kt) {m:Nat} (s:Small K m) (Tn:m<=100000) (nm:Nm) (w:Int):MU Tryz.prog 140 [.ptr 0 0,vR nm w] (chF K) (lk3 (gB K nm w)) (chF K):=by
 have uA:=y8 nm;have hwg:=Po.y7 w;have cL:=ael K.bk s.bk nm.1;have ql:=s.at_ nm;cases hn:fy nm with
 | false =>
  have e:gB K nm w=([],(1,zeroV),false):=by unfold gB;rw[hn];rfl
  rw[e];rw[hn]at uA;(refine aa.q Tryz.func140 rfl fun S aw=>Wa _ ?_;(repeat' first|exact tv|apply pr|intro hh));(refine ab.q uA [] fun _ _=>Wp _ ?_;(repeat' first|exact tv|apply pr|intro hh));all_goals try ((refine ab.q hwg [] fun _ _=>Wp _ ?_;(repeat' first|exact tv|apply pr|intro hh)))
  all_goals refine ae.w () [0,1] _ ?_;repeat' first|exact tv|apply pr
  all_goals rfl
 | true =>
  rw[hn]at uA;cases hw:aU w with
  | false =>
   have e:gB K nm w=([],(1,zeroV),false):=by unfold gB;rw[hn,hw];rfl
   rw[e];rw[hw]at hwg;(refine aa.q Tryz.func140 rfl fun S aw=>Wa _ ?_;(repeat' first|exact tv|apply pr|intro hh));(refine ab.q uA [] fun _ _=>Wp _ ?_;(repeat' first|exact tv|apply pr|intro hh));all_goals try ((refine ab.q hwg [] fun _ _=>Wp _ ?_;(repeat' first|exact tv|apply pr|intro hh)))
   all_goals refine ae.w () [0,1] _ ?_;repeat' first|exact tv|apply pr
   all_goals rfl
  | true =>
   rw[hw]at hwg;cases hb:cC K.bk nm.1 with
   | none =>
    have e:gB K nm w=([],(5,zeroV),false):=by unfold gB;rw[hn,hw,hb];rfl
    rw[e];rw[get_none hb,Z0 (rA hn)]at cL;(refine aa.q Tryz.func140 rfl fun S aw=>Wa _ ?_;(repeat' first|exact tv|apply pr|intro hh));(refine ab.q uA [] fun _ _=>Wp _ ?_;(repeat' first|exact tv|apply pr|intro hh));all_goals try ((refine ab.q hwg [] fun _ _=>Wp _ ?_;(repeat' first|exact tv|apply pr|intro hh)))
    all_goals refine ab.q cL [] fun _ _=>Wp _ ?_;repeat' first|exact tv|apply pr|intro hh
    all_goals refine ae.w () [0,1] _ ?_;repeat' first|exact tv|apply pr
    all_goals rfl
   | some pv =>
    obtain⟨p,v⟩:=pv;have e:gB K nm w=((Hi.ask p (aY K.L nm) K.now w).1,(0,(Hi.ask p (aY K.L nm) K.now w).2),!Hi.neutral p (aY K.L nm) K.now):=by unfold gB;rw[hn,hw,hb];rfl
    rw[e];rw[si hb]at cL;(refine aa.q Tryz.func140 rfl fun S aw=>Wa _ ?_;(repeat' first|exact tv|apply pr|intro hh));(refine ab.q uA [] fun _ _=>Wp _ ?_;(repeat' first|exact tv|apply pr|intro hh));all_goals try ((refine ab.q hwg [] fun _ _=>Wp _ ?_;(repeat' first|exact tv|apply pr|intro hh)))
    all_goals refine ab.q cL [] fun _ _=>Wp _ ?_;repeat' first|exact tv|apply pr|intro hh
    all_goals refine ab.q (aeR K s Tn nm) [0,1] fun _ _=>Wp _ ?_;repeat' first|exact tv|apply pr|intro hh
    all_goals refine ab.q (LS p (aY K.L nm) K.now w (by omega)) [] fun _ _=>Wp _ ?_;repeat' first|exact tv|apply pr|intro hh
    all_goals refine ab.q (Pg p (aY K.L nm) K.now (by omega)) [] fun _ _=>Wp _ ?_;repeat' first|exact tv|apply pr|intro hh
    all_goals exact ae.z () [0,1]
theorem aeT {L:Hs} {nm:Nm} (h:isL L nm=true) (l:List bc):L.set (adg L nm) (((L.getD (adg L nm) adn.bA).1.1,(L.getD (adg L nm) adn.bA).1.2),l)=L.set (adg L nm) (nm,l):=by
 have:=(of_decide_eq_true (show decide (_/\_)=true from h)).2;have e:((L.getD (adg L nm) adn.bA).1.1,(L.getD (adg L nm) adn.bA).1.2)=nm:=this;rw[e]
theorem aeL {n b:Nat} (hn:n<=300000) (hb:b<=1000):n<=140737488355328/\n*b<=140737488355328 :=
 ⟨by omega,aaA (Nat.mul_le_mul hn hb) (by decide)⟩
theorem aeU {L:Hs} {p:Nat} (hp:p<=L.length) {nm:Nm} {l:List bc}:List.take (0+(List.take (((p:Int)).toNat - Int.toNat 0) (List.drop (0+Int.toNat 0) L)).length+(List.take 1 (List.drop 0 [((nm.1,nm.2),l)])).length) (List.take (0+(List.take (((p:Int)).toNat - Int.toNat 0) (List.drop (0+Int.toNat 0) L)).length) (List.take 0 []++List.take (((p:Int)).toNat - Int.toNat 0) (List.drop (0+Int.toNat 0) L))++List.take 1 (List.drop 0 [((nm.1,nm.2),l)]))++List.take (((L.length:Int)).toNat - ((p:Int)).toNat) (List.drop (0+((p:Int)).toNat) L)
  = L.take p++(nm,l)::L.drop p:=by
 have e1:((p:Int)).toNat - Int.toNat 0=p:=by simp
 have e2:(0+Int.toNat 0)=0:=rfl;rw[e1,e2,aah,aah,Z4,Z4,aaf,aaf,abR,ab3];have h3:(L.take p).length=p:=by rw[aak,aa0 hp]
 rw[h3,acr,Nat.min_self];have h4:List.take 1 [((nm.1,nm.2),l)]=[(nm,l)]:=rfl;rw[h4,Z6 (l:=L.take p++[(nm,l)]) (by rw[aab,h3];exact Z8 _),Z6 (l:=L.drop p) (by rw[aar];exact Z8 _),ac6];rfl
theorem aeH (K:Kt) {m:Nat} (s:Small K m) (Tn:m<=100000) (nm:Nm) (w:Int):MU Tryz.prog 84 [.ptr 0 0,vR nm w] (chF K) (Ih (dV K nm w).2) (chF (dV K nm w).1):=by
 have hl:=s.len;have Lx:=aeS K s Tn nm w;have RT:=ad2 K s Tn;have vX:=ad1 K (by omega) nm;have hle:=adU K.L nm;have Pz:Tryz.t145.bytes<=1000:=by decide
 by_cases h1:(gB K nm w).2.1.1=0/\(gB K nm w).2.1.2.1=true
 .by_cases h2:(gB K nm w).2.2=false/\K.n<=(eD K).length
  .have e:dV K nm w=(K,(7,zeroV)):=by unfold dV;rw[Z0 h1,Z0 h2]
   rw[e];(refine aa.q Tryz.func84 rfl fun S aw=>Wa _ ?_;(repeat' first|exact tv|apply pr|intro hh));(refine ab.q Lx [0,1] fun _ _=>Wp _ ?_;(repeat' first|exact tv|apply pr|intro hh));all_goals first|(exact absurd (h1.2.symm.trans ‹(gB K nm w).2.1.2.1=false›) (by decide))|(exact absurd h1.1 ‹(gB K nm w).2.1.1≠0›)|(exact absurd h1.1 ‹¬(gB K nm w).2.1.1=0›)|skip
   all_goals try ((refine ab.q RT [0,1] fun _ _=>Wp _ ?_;(repeat' first|exact tv|apply pr|intro hh)))
   all_goals first|(exact absurd (h2.1.symm.trans ‹(gB K nm w).2.2=true›) (by decide))|(exact absurd h2.2 ‹_›)|skip
   all_goals refine ae.w () [0,1] _ ?_;repeat' first|exact tv|apply pr
   all_goals rfl
  .have e:dV K nm w=({ K with L:=jM K.L nm (gB K nm w).1 },(gB K nm w).2.1):=by unfold dV;rw[Z0 h1,ZY h2]
   rw[e];have qe:=aen K.L nm (gB K nm w).1;cases hi:isL K.L nm with
   | true =>
    have bf:adg K.L nm<K.L.length:=(of_decide_eq_true (show decide (_/\_)=true from hi)).1;rw[hi]at vX qe;(refine aa.q Tryz.func84 rfl fun S aw=>Wa _ ?_;(repeat' first|exact tv|apply pr|intro hh));(refine ab.q Lx [0,1] fun _ _=>Wp _ ?_;(repeat' first|exact tv|apply pr|intro hh));all_goals first|(exact absurd (h1.2.symm.trans ‹(gB K nm w).2.1.2.1=false›) (by decide))|(exact absurd h1.1 ‹(gB K nm w).2.1.1≠0›)|(exact absurd h1.1 ‹¬(gB K nm w).2.1.1=0›)|skip
    all_goals try ((refine ab.q RT [0,1] fun _ _=>Wp _ ?_;(repeat' first|exact tv|apply pr|intro hh)))
    all_goals first|(exact absurd ⟨‹(gB K nm w).2.2=false›,‹K.n<=((eD K).length:Int)›⟩ h2)|skip
    all_goals refine ab.q vX [0,1] fun _ _=>Wp _ ?_;repeat' first|exact tv|apply pr|intro hh
    all_goals first|exact Ob.mk ⟨by simp only[];omega,by simp only[];omega⟩|skip
    all_goals refine ae.w () [0,1] _ ?_;repeat' first|exact tv|apply pr
    all_goals rw[qe,Z0 rfl]
    all_goals first|(rw[aao];done)|(rw[aaf,Z4];exact aeT hi _)
   | false =>
    rw[hi]at vX qe;(refine aa.q Tryz.func84 rfl fun S aw=>Wa _ ?_;(repeat' first|exact tv|apply pr|intro hh));(refine ab.q Lx [0,1] fun _ _=>Wp _ ?_;(repeat' first|exact tv|apply pr|intro hh));all_goals first|(exact absurd (h1.2.symm.trans ‹(gB K nm w).2.1.2.1=false›) (by decide))|(exact absurd h1.1 ‹(gB K nm w).2.1.1≠0›)|(exact absurd h1.1 ‹¬(gB K nm w).2.1.1=0›)|skip
    all_goals try ((refine ab.q RT [0,1] fun _ _=>Wp _ ?_;(repeat' first|exact tv|apply pr|intro hh)))
    all_goals first|(exact absurd ⟨‹(gB K nm w).2.2=false›,‹K.n<=((eD K).length:Int)›⟩ h2)|skip
    all_goals refine ab.q vX [0,1] fun _ _=>Wp _ ?_;repeat' first|exact tv|apply pr|intro hh
    all_goals first|exact Ob.mk ⟨by simp only[];omega,by simp only[];omega⟩|exact Ob.mk ⟨by simp only[];omega,by simp only[];omega,by simp only[];omega⟩|(refine Ob.mk ⟨rfl,aeL ?_ Pz⟩;simp;omega)|skip
    all_goals refine ae.w () [0,6] _ ?_;repeat' first|exact tv|apply pr
    all_goals rw[qe,ZY (by decide)]
    all_goals first|(simp[aa0 hle];done)|(simp[aa0 hle];omega)|(rw[aeU hle])|skip
 .have e:dV K nm w=(K,(gB K nm w).2.1):=by unfold dV;rw[ZY h1]
  rw[e];(refine aa.q Tryz.func84 rfl fun S aw=>Wa _ ?_;(repeat' first|exact tv|apply pr|intro hh));(refine ab.q Lx [0,1] fun _ _=>Wp _ ?_;(repeat' first|exact tv|apply pr|intro hh));all_goals first|(exact absurd ⟨‹(gB K nm w).2.1.1=0›,‹(gB K nm w).2.1.2.1=true›⟩ h1)|skip
  all_goals try ((refine ab.q RT [0,1] fun _ _=>Wp _ ?_;(repeat' first|exact tv|apply pr|intro hh)))
  all_goals first|(exact absurd ⟨‹(gB K nm w).2.1.1=0›,‹(gB K nm w).2.1.2.1=true›⟩ h1)|skip
  all_goals exact ae.z () [0,1]
end Go.Proofs.YthnefnlhcijekaaGreat.En
set_option maxRecDepth 8000
namespace Go.Proofs.YthnefnlhcijekaaGreat.En
open Go Go.RowKit Fw Hi Ce
theorem aeV (K:Kt) (t:Int):MU Tryz.prog 86 [.ptr 0 0,.I t] (chF K) (.I ((mq K t).now)) (chF (mq K t)):=by
 have Pe:ke=1099511627776:=rfl;by_cases ht:K.now<t/\t<=ke
 .have e:mq K t={ K with now:=t }:=by unfold mq;rw[Z0 ht]
  rw[e];(refine aa.q Tryz.func86 rfl fun S aw=>Wa _ ?_;(repeat' first|exact tv|apply pr|intro hh));all_goals try (exfalso;omega)
  all_goals exact ae.z () [0,1]
 .have e:mq K t=K:=by unfold mq;rw[ZY ht]
  rw[e];(refine aa.q Tryz.func86 rfl fun S aw=>Wa _ ?_;(repeat' first|exact tv|apply pr|intro hh));all_goals try (exfalso;omega)
  all_goals exact ae.z () [0,1]
def woT (L:Hs) (book:Int) (i:Nat):Hs:=(L.take i).filter fun x=>decide (x.1.1≠book)
theorem aes (L:Hs) (book:Int) (i:Nat) (hi:i<L.length):woT L book (i+1)=if(L.getD i adp).1.1≠book then woT L book i++[L.getD i adp]else woT L book i:=by
 have hg:L[i]?=some (L.getD i adp):=by rw[ZZ,Z1 hi];rfl
 unfold woT;rw[aaE,hg,ac4,List.filter_append];by_cases hc:(L.getD i adp).1.1≠book
 .rw[Z0 hc,ade,Z0 (by simpa using hc)];rfl
 .rw[ZY hc,ade,ZY (by simpa using hc),List.filter_nil,List.append_nil]
theorem aeI (L:Hs) (book:Int) (i:Nat):(woT L book i).length<=i:=by
 unfold woT;exact aaA (acf ..) (by rw[aak];omega)
theorem ad3 (L:Hs) (book:Int):woT L book L.length=Ky L book:=by unfold woT Ky;rw[aac]
theorem ad8 (K:Kt) (hl:K.L.length<=100000) (book:Int):MU Tryz.prog 143 [.ptr 0 0,.I book] (chF K) (.bQ []) (chF { K with L:=Ky K.L book }):=by
 have Pz:Tryz.t145.bytes<=1000:=by decide
 (refine aa.q Tryz.func143 rfl fun S aw=>Wa _ ?_;(repeat' first|exact tv|apply pr|intro hh));refine aM.nil aem adn none [4] ?_;refine aM.intro hm (X:=Nat) (fun i=>i<=K.L.length) (fun i=>K.L.length - i)
  (fun i=>[(0,.ptr 0 0),(1,.I book),(4,.vec 2 3 (fun _=>0) fun _=>(woT K.L book i).length),(5,.I (i:Int))])
  (fun i=>chF K++[.aq aem adn fun _=>woT K.L book i]) 0 [0,1,2] ⟨rfl,rfl,?_,?_⟩ (aae _) ?_
 .exact Vc
 .exact Vc
 intro i hi;have u7:=aeI K.L book i;by_cases dp:i<K.L.length
 .have No:K.L.getD (0+((i:Int)).toNat) adn.bA=K.L.getD i adp:=by rw[aaf,Z4];rfl
  have uu:=aes K.L book i dp;rw[<-No]at uu;(refine Wa _ ?_;(repeat' first|exact tv|apply pr|intro hh));all_goals first|exact Ob.mk ⟨by simp only[];omega,by simp only[];omega⟩|(exfalso;omega)|skip
  all_goals first|(refine Ob.mk ⟨rfl,aeL ?_ Pz⟩;show(woT K.L book i).length+1<=_;omega)|skip
  all_goals first|(rw[Z0 ‹(K.L.getD (0+((i:Int)).toNat) adn.bA).1.1≠book›]at uu)|(rw[ZY (Classical.not_not.2 ‹(K.L.getD (0+((i:Int)).toNat) adn.bA).1.1=book›)]at uu)
  all_goals refine⟨i+1,[0,1,2],⟨rfl,rfl,?_,?_⟩,by show i+1<=_;omega,by show _ - (i+1)<_ - i;omega⟩
  all_goals refine Vb _ ?_;repeat' first|exact tv|apply pr
  all_goals first|(rw[uu,Z6 (Z8 _)];rfl)|(rw[uu,aab];rfl)|(rw[uu];done)|(rw[wr (by omega)];omega)|exact uu.symm|skip
 .refine Wa _ ?_;repeat' first|exact tv|apply pr|intro hh
  all_goals try (exfalso;omega)
  have e:i=K.L.length:=by omega
  subst e;refine ae.w () [0,2] _ ?_;repeat' first|exact tv|apply pr
  .rw[ad3]
  .exact ad3 K.L book
theorem ae7 (K:Kt) {m:Nat} (s:Small K m) (Tn:m<=100000) (id:Int) (p:ay):MU Tryz.prog 87 [.ptr 0 0,.I id,aI p] (chF K) (.bQ [.I ((qQ K id p).2.1),.I ((qQ K id p).2.2)]) (chF (qQ K id p).1):=by
 have hl:=s.len;have fR:=aeP K.bk s.bk id p;by_cases he:(ie K.bk id p).2.2=0
 .have e:qQ K id p=({ K with bk:=(ie K.bk id p).1,L:=Ky K.L id },(ie K.bk id p).2.1,0):=by unfold qQ;rw[Z0 he]
  rw[e];have hwo:=ad8 { K with bk:=(ie K.bk id p).1 } (show K.L.length<=100000 by omega) id;(refine aa.q Tryz.func87 rfl fun S aw=>Wa _ ?_;(repeat' first|exact tv|apply pr|intro hh));all_goals refine ab.q fR [] fun _ _=>Wp _ ?_;repeat' first|exact tv|apply pr|intro hh
  all_goals first|(exact absurd he ‹_›)|skip
  all_goals refine ab.q hwo [0,1] fun _ _=>Wp _ ?_;repeat' first|exact tv|apply pr|intro hh
  all_goals refine ae.w () [0,1] _ ?_;repeat' first|exact tv|apply pr
  all_goals exact he
 .have e:qQ K id p=(K,0,(ie K.bk id p).2.2):=by unfold qQ;rw[ZY he]
  have e0:(ie K.bk id p).2.1=0:=by
   revert he;unfold ie;split
   .split <;> simp
   .simp
  rw[e];rw[e0]at fR;(refine aa.q Tryz.func87 rfl fun S aw=>Wa _ ?_;(repeat' first|exact tv|apply pr|intro hh));all_goals refine ab.q fR [] fun _ _=>Wp _ ?_;repeat' first|exact tv|apply pr|intro hh
  all_goals first|(exact absurd ‹_› he)|skip
  all_goals exact ae.z () [0,1]
def ae8 (n sd:Int):AV:=.agg [.I n,.int .u64 fun _=>sd]
theorem aeM (n sd:Int) (hn:1<=n/\n<=64):MU Tryz.prog 38 [ae8 n sd] [] (.bQ [.ptr 0 0,.I 0]) (chF ⟨n,0,LV,[]⟩):=by
 (refine aa.q Tryz.func38 rfl fun S aw=>Wa _ ?_;(repeat' first|exact tv|apply pr|intro hh));all_goals try (exfalso;omega)
 all_goals refine ab.q aeQ [] fun _ _=>Wq _ ?_;repeat' first|exact tv|apply pr|intro hh
 all_goals refine aB.nil aem adn (some (1,3)) [] ?_
 all_goals (conv=>whnf)
 all_goals refine Wa _ ?_;repeat' first|exact tv|apply pr|intro hh
 all_goals exact ae.z () [1,2]
theorem adQ (n sd:Int) (hn:¬(1<=n/\n<=64)):MU Tryz.prog 38 [ae8 n sd] [] (.bQ [.bW,.I 1]) []:=by
 (refine aa.q Tryz.func38 rfl fun S aw=>Wa _ ?_;(repeat' first|exact tv|apply pr|intro hh));all_goals try (exfalso;omega)
 all_goals exact ae.z () []
end Go.Proofs.YthnefnlhcijekaaGreat.En
set_option maxRecDepth 8000
namespace Go.Proofs.YthnefnlhcijekaaGreat.En
open Go Go.RowKit Fw Hi Ce
theorem adJ:∀ (l:List adl) (K:Kt),(om K l).1.n=K.n/\(om K l).1.now=K.now/\(om K l).1.bk=K.bk
 | [],_=>⟨rfl,rfl,rfl⟩
 | a::r,K=>by
  have h:=adJ r (adw K a).1;have h2:=adT (K:=K) (nm:=aNm a) (w:=a.2.2);rw[om];exact⟨h.1.trans h2.1,h.2.1.trans h2.2.1,h.2.2.trans h2.2.2⟩
def CA (i:Nat) (K:Kt):List Chunk:=[.cells ae6 [.I K.n,.aL c7 fun _=>K.bk,.I K.now,.vec i 3 (fun _=>0) fun _=>K.L.length],.aq aem adn fun _=>K.L]
structure FeI (K:Kt) (l:List adl) (z:Nat×Kt×List L1):Prop where
 le:z.1<=l.length
 eq:om K (l.take z.1)=(z.2.1,z.2.2)
theorem aet (K:Kt) {m:Nat} (s:Small K m) (Tn:m<=99990) (l:List adl):MU Tryz.prog 93 [.ptr 0 0,.aL Zj fun _=>l] (chF K) (.bQ [.aL adh fun _=>(adf K l).2.1,.I ((adf K l).2.2)]) (chF (adf K l).1):=by
 have Pz:Tryz.t55.bytes<=1000:=by decide
 by_cases hb:adq l
 .have e:adf K l=(K,[],1):=by unfold adf;rw[Z0 hb]
  unfold adq at hb;rw[e];(refine aa.q Tryz.func93 rfl fun S aw=>Wa _ ?_;(repeat' first|exact tv|apply pr|intro hh));all_goals try (exfalso;omega)
  all_goals exact ae.z () [0,1]
 have e:adf K l=((om K l).1,(om K l).2,0):=by unfold adf;rw[ZY hb]
 unfold adq at hb;rw[e];(refine aa.q Tryz.func93 rfl fun S aw=>Wa _ ?_;(repeat' first|exact tv|apply pr|intro hh));all_goals try (exfalso;omega)
 refine aM.nil aeD adh none [6] ?_;refine aM.intro hm (X:=Nat×Kt×List L1) (FeI K l) (fun z=>l.length - z.1)
  (fun z=>[(0,.ptr 0 0),(1,.aL Zj fun _=>l),(7,.I (z.1:Int)),(6,.vec 2 5 (fun _=>0) fun _=>z.2.2.length)])
  (fun z=>chF z.2.1++[.aq aeD adh fun _=>z.2.2]) (0,K,[]) [0,1,2] ⟨rfl,rfl,?_,?_⟩ ⟨aae _,rfl⟩ ?_
 .exact Vc
 .exact Vc
 rintro⟨i,afY,out⟩ hI;have hi:=hI.le;have he:=hI.eq;simp only[]at hi he;have D8:out.length=i:=by
  have:=adm (l.take i) K;rw[he,aak]at this;simp only[]at this;omega
 have uY:Small afY (m+8):=by
  have:=Small.each (l.take i) s;rw[he]at this;exact this.up (by rw[aak];omega)
 by_cases dp:i<l.length
 .have Wi:=aeH afY uY (by omega) (aNm (l.getD ((i:Int)).toNat Zj.bA)) (l.getD ((i:Int)).toNat Zj.bA).2.2
  have fR:=adH Zj.bA dp K;rw[he]at fR;(refine Wa _ ?_;(repeat' first|exact tv|apply pr|intro hh));all_goals first|exact Ob.mk ⟨by simp only[];omega,by simp only[];omega⟩|(exfalso;omega)|skip
  refine ab.q Wi [0,1] fun _ _=>Wp _ ?_;repeat' first|exact tv|apply pr|intro hh
  .refine Ob.mk ⟨rfl,adK ?_ Pz⟩
   show out.length+1<=300000;omega
  all_goals refine⟨(i+1,(dV afY (aNm (l.getD i Zj.bA)) (l.getD i Zj.bA).2.2).1,out++[(dV afY (aNm (l.getD i Zj.bA)) (l.getD i Zj.bA).2.2).2]),[0,1,2],⟨rfl,rfl,?_,?_⟩,⟨dp,fR⟩,by show _ - (i+1)<_ - i;omega⟩
  all_goals refine Vb _ ?_;repeat' first|exact tv|apply pr
  all_goals first|(rw[wr (by omega)];omega)|(rw[Z6 (Z8 _)];rfl)|(rw[aab];rfl)|skip
 have IL:i=l.length:=by omega
 subst IL;rw[aac]at he;rw[he];(refine Wa _ ?_;(repeat' first|exact tv|apply pr|intro hh));all_goals try (exfalso;omega)
 (refine ae.gU 2 ?_;(conv=>whnf));(refine ae.w () [0,1] _ ?_;(repeat' first|exact tv|apply pr));rw[aah,aac]
theorem ad4 {t:L1} (h:t.1=0) (h2:t.2.1=true):wo t=false:=by unfold wo;rw[decide_eq_true h,h2];rfl
theorem ad9 {t:L1} (h:¬t.1=0):wo t=true:=by unfold wo;rw[decide_eq_false h];rfl
theorem aeu {t:L1} (h:t.2.1=false):wo t=true:=by unfold wo;rw[h];exact Bool.or_true _
theorem adR {a:List L1} {i:Nat} (h:i<a.length):(a.take (i+1)).any wo=((a.take i).any wo || wo (a.getD i adh.bA)):=by
 rw[aaE,Z1 h,ac4,List.any_append,ZZ,Z1 h];simp
theorem ae9 (K:Kt) {m:Nat} (s:Small K m) (Tn:m<=99990) (l:List adl):MU Tryz.prog 94 [.ptr 0 0,.aL Zj fun _=>l] (chF K) (.bQ [.aL adh fun _=>(adk K l).2.1,.bool fun _=>(adk K l).2.2.1,.I ((adk K l).2.2.2)]) (chF (adk K l).1):=by
 have Pz:Tryz.t145.bytes<=1000:=by decide
 have hlen:=s.len;have hea:=aet K s Tn l;by_cases hb:adq l
 .have e:adk K l=(K,[],false,1):=by unfold adk;rw[Z0 hb]
  have e2:adf K l=(K,[],1):=by unfold adf;rw[Z0 hb]
  rw[e2]at hea;rw[e];(refine aa.q Tryz.func94 rfl fun S aw=>Wa _ ?_;(repeat' first|exact tv|apply pr|intro hh));all_goals first|(refine Ob.mk (adK ?_ Pz).2;show(List.take K.L.length (List.drop 0 K.L)).length<=300000;rw[aah,aac];omega)|skip
  all_goals simp only[aah,aac]
  (refine ab.q hea [2,3] fun _ _=>Wp _ ?_;(repeat' first|exact tv|apply pr|intro hh));all_goals exact ae.z () [0,1]
 have e2:adf K l=((om K l).1,(om K l).2,0):=by unfold adf;rw[ZY hb]
 have EM:=adm l K;have Wu:=adJ l K;rw[e2]at hea;have e:adk K l=if(om K l).2.any wo=true then(K,(om K l).2,false,0)else((om K l).1,(om K l).2,true,0):=by unfold adk;rw[ZY hb]
 unfold adq at hb;cases hx:(om K l).2.any wo with
 | true =>
  rw[Z0 hx]at e;rw[e];(refine aa.q Tryz.func94 rfl fun S aw=>Wa _ ?_;(repeat' first|exact tv|apply pr|intro hh));all_goals first|(refine Ob.mk (adK ?_ Pz).2;show(List.take K.L.length (List.drop 0 K.L)).length<=300000;rw[aah,aac];omega)|skip
  all_goals simp only[aah,aac]
  (refine ab.q hea [2,3] fun _ _=>Wp _ ?_;(repeat' first|exact tv|apply pr|intro hh));refine aM.intro hm (X:=Nat) (fun i=>i<=(om K l).2.length/\((om K l).2.take i).any wo=false) (fun i=>(om K l).2.length - i)
   (fun i=>[(0,.ptr 0 0),(7,.ptr 2 0),(8,.aL adh fun _=>(om K l).2),(10,.I (i:Int))])
   (fun i=>chF K++CA 3 (om K l).1) 0 [0,1,2,3] ⟨rfl,rfl,?_,?_⟩ ⟨aae _,rfl⟩ ?_
  .exact Vc
  .exact Vc
  rintro i ⟨hi,hia⟩;by_cases dp:i<(om K l).2.length
  .have uu:((om K l).2.take (i+1)).any wo=(((om K l).2.take i).any wo || wo ((om K l).2.getD ((i:Int)).toNat adh.bA)):=adR dp
   have bD:(om K l).2.getD ((i:Int)).toNat adh.bA∈(om K l).2:=getD_in adh.bA dp;rw[hia,Bool.false_or]at uu;(refine Wa _ ?_;(repeat' first|exact tv|apply pr|intro hh));all_goals first|exact Ob.mk ⟨by simp only[];omega,by simp only[];omega⟩|(exfalso;omega)|skip
   all_goals first|((refine ae.w () [0,1] _ ?_;(repeat' first|exact tv|apply pr)))|skip
   all_goals refine⟨i+1,[0,1,2,3],⟨rfl,rfl,?_,?_⟩,⟨by show i+1<=_;omega,?_⟩,by show _ - (i+1)<_ - i;omega⟩
   all_goals refine Vb _ ?_;repeat' first|exact tv|apply pr
   all_goals first|(rw[wr (by omega)];omega)|exact uu.trans (ad4 ‹_› hh)|skip
  have IL:i=(om K l).2.length:=by omega
  subst IL;rw[aac]at hia;exact absurd (hx.symm.trans hia) (by decide)
 | false =>
  rw[ZY (by rw[hx];decide)]at e;rw[e];(refine aa.q Tryz.func94 rfl fun S aw=>Wa _ ?_;(repeat' first|exact tv|apply pr|intro hh));all_goals first|(refine Ob.mk (adK ?_ Pz).2;show(List.take K.L.length (List.drop 0 K.L)).length<=300000;rw[aah,aac];omega)|skip
  all_goals simp only[aah,aac]
  (refine ab.q hea [2,3] fun _ _=>Wp _ ?_;(repeat' first|exact tv|apply pr|intro hh));refine aM.intro hm (X:=Nat) (fun i=>i<=(om K l).2.length/\((om K l).2.take i).any wo=false) (fun i=>(om K l).2.length - i)
   (fun i=>[(0,.ptr 0 0),(7,.ptr 2 0),(8,.aL adh fun _=>(om K l).2),(10,.I (i:Int))])
   (fun i=>chF K++CA 3 (om K l).1) 0 [0,1,2,3] ⟨rfl,rfl,?_,?_⟩ ⟨aae _,rfl⟩ ?_
  .exact Vc
  .exact Vc
  rintro i ⟨hi,hia⟩;by_cases dp:i<(om K l).2.length
  .have uu:((om K l).2.take (i+1)).any wo=(((om K l).2.take i).any wo || wo ((om K l).2.getD ((i:Int)).toNat adh.bA)):=adR dp
   have bD:(om K l).2.getD ((i:Int)).toNat adh.bA∈(om K l).2:=getD_in adh.bA dp;rw[hia,Bool.false_or]at uu;(refine Wa _ ?_;(repeat' first|exact tv|apply pr|intro hh));all_goals first|exact Ob.mk ⟨by simp only[];omega,by simp only[];omega⟩|(exfalso;omega)|skip
   all_goals first|(exfalso;exact absurd (List.any_eq_true.2 ⟨_,bD,ad9 hh⟩) (by rw[hx];decide))|(exfalso;exact absurd (List.any_eq_true.2 ⟨_,bD,aeu hh⟩) (by rw[hx];decide))|skip
   all_goals refine⟨i+1,[0,1,2,3],⟨rfl,rfl,?_,?_⟩,⟨by show i+1<=_;omega,?_⟩,by show _ - (i+1)<_ - i;omega⟩
   all_goals refine Vb _ ?_;repeat' first|exact tv|apply pr
   all_goals first|(rw[wr (by omega)];omega)|exact uu.trans (ad4 ‹_› hh)|skip
  have IL:i=(om K l).2.length:=by omega
  subst IL;rw[aac]at hia;(refine Wa _ ?_;(repeat' first|exact tv|apply pr|intro hh));all_goals try (exfalso;omega)
  (refine ae.w () [0,3] _ ?_;(repeat' first|exact tv|apply pr));all_goals first|exact Wu.1.symm|exact Wu.2.1.symm|exact Wu.2.2.symm|skip
theorem Cw (a b:Nm):MU Tryz.prog 95 [zB a,zB b] [] (.bool fun _=>decide (kQ b a)) []:=by
 (refine aa.q Tryz.func95 rfl fun S aw=>Wa _ ?_;(repeat' first|exact tv|apply pr|intro hh));all_goals refine ae.w () [] _ ?_;repeat' first|exact tv|apply pr
 .rw[ad0]
  have h1:kQ b a↔b.2<a.2:=⟨fun h=>h.elim (fun h=>absurd h ‹_›) (fun h=>h.2),fun h=>.inr ⟨hh.symm,h⟩⟩
  have h0:decide (kQ b a)=decide (b.2<a.2):=decide_eq_decide.2 h1;rw[h0];by_cases h2:a.2<b.2
  .have h3:¬b.2<a.2:=fun h=>List.lt_irrefl _ (List.lt_trans h2 h)
   simp[h2,h3]
  .by_cases h4:a.2=b.2
   .have h5:¬b.2<a.2:=by rw[h4];exact List.lt_irrefl _
    simp[h2,h4,h5]
   .have h5:b.2<a.2:=aaG fun h=>h4 (List.le_antisymm (List.not_lt.1 h) (List.not_lt.1 h2))
    simp[h2,h4,h5]
 .exact decide_eq_false fun h=>h.elim (fun h=>absurd h ‹_›) (fun h=>hh h.1.symm)
 .exact decide_eq_true (.inl hh)
def opB (o:OpB):AV:=.agg [.I o.1,.aL Zj fun _=>o.2.1,.I o.2.2.1,.I o.2.2.2.1,.I o.2.2.2.2.1,.I o.2.2.2.2.2.1,.I o.2.2.2.2.2.2]
def adj (K:Kt) (o:OpB):Kt :=
 if o.1=0 then(adf K o.2.1).1 else if o.1=1 then(adk K o.2.1).1
 else if o.1=2 then(if o.2.2.1<0\/1099511627776<o.2.2.1 then K else mq K (K.now+o.2.2.1))
 else if o.1=3 then(qQ K o.2.2.1 o.2.2.2).1 else K
theorem aev (K:Kt) (l:List adl):(adf K l).2.1.length<=8:=by
 unfold adf;split
 .exact aae _
 .rename_i h;unfold adq at h
  show(om K l).2.length<=8;rw[adm];omega
theorem aeJ (K:Kt) (l:List adl):(adk K l).2.1.length<=8:=by
 unfold adk;split
 .exact aae _
 .rename_i h;unfold adq at h
  have:=adm l K;split
  .show(om K l).2.length<=8;omega
  .show(om K l).2.length<=8;omega
theorem Small.afi {K:Kt} {m:Nat} (s:Small K m) (o:OpB):Small (adj K o) (m+8):=by
 have he:∀ l,¬adq l->Small (om K l).1 (m+8):=fun l h=>by unfold adq at h;exact(s.each l).up (by omega)
 unfold adj;split
 .unfold adf;split
  .exact s.up (by omega)
  .exact he _ ‹_›
 split
 .unfold adk;split
  .exact s.up (by omega)
  .split
   .exact s.up (by omega)
   .exact he _ ‹_›
 split
 .split
  .exact s.up (by omega)
  .exact(s.tick _).up (by omega)
 split
 .exact(s.set _ _).up (by omega)
 .exact s.up (by omega)
set_option maxHeartbeats 1000000 in
theorem afa {K:Kt} {ms m m' c:Nat} (s:Small K ms) (VQ:ms<=90000) (o:OpB) (hN:-9223372036854775808<=o.2.2.1/\o.2.2.1<=9223372036854775807) (h1:m<=900000) (h2:m+8<=m'):aa Tryz.prog 44 [.ptr 0 0,.ptr 1 0,opB o] (.bq (nn K m c)::CA 2 K) (Y:=Nat) (fun _=>True)
  (fun _=>.tt) (fun c'=>.bq (nn (adj K o) m' c')::CA 2 (adj K o)):=by
 have Zb:=s.now;have Pe:ke=1099511627776:=rfl;have hN1:=hN.1;have hN2:=hN.2;by_cases k0:o.1=0
 .have e:adj K o=(adf K o.2.1).1:=by unfold adj;rw[Z0 k0]
  have hto:=aek (adf K o.2.1).2.1 (adf K o.2.1).2.1 (by have:=aev K o.2.1;omega);rw[e];(refine aa.q Tryz.func44 rfl fun S aw=>Wa _ ?_;(repeat' first|exact tv|apply pr|intro hh));all_goals try (exfalso;omega)
  all_goals refine ab.q (adW (K:=K) (m:=m) (m':=m') (c:=c) o.2.1 (by omega) h2) [0] ?_;rintro c' _;refine Wp _ ?_;repeat' first|exact tv|apply pr|intro hh
  all_goals refine ab.q (aet K s (by omega) o.2.1) [1,2] fun _ _=>Wp _ ?_;repeat' first|exact tv|apply pr|intro hh
  all_goals refine ab.q hto [] fun _ _=>Wp _ ?_;repeat' first|exact tv|apply pr|intro hh
  all_goals first|(exact absurd ‹_=false› (by simp))|skip
  all_goals refine ae.w c' [0,1,2] _ ?_;repeat' first|exact tv|apply pr
  all_goals simp
 by_cases k1:o.1=1
 .have e:adj K o=(adk K o.2.1).1:=by unfold adj;rw[ZY k0,Z0 k1]
  have hto:=aek (adk K o.2.1).2.1 (adk K o.2.1).2.1 (by have:=aeJ K o.2.1;omega);rw[e];(refine aa.q Tryz.func44 rfl fun S aw=>Wa _ ?_;(repeat' first|exact tv|apply pr|intro hh));all_goals try (exfalso;omega)
  all_goals refine ab.q (aeN (K:=K) (m:=m) (m':=m') (c:=c) o.2.1 (by omega) h2) [0] ?_;rintro c' _;refine Wp _ ?_;repeat' first|exact tv|apply pr|intro hh
  all_goals refine ab.q (ae9 K s (by omega) o.2.1) [1,2] fun _ _=>Wp _ ?_;repeat' first|exact tv|apply pr|intro hh
  all_goals refine ab.q hto [] fun _ _=>Wp _ ?_;repeat' first|exact tv|apply pr|intro hh
  all_goals first|(exact absurd ‹_=false› (by simp))|(exact absurd rfl hh)|skip
  all_goals refine ae.w c' [0,1,2] _ ?_;repeat' first|exact tv|apply pr
  all_goals simp
 by_cases k2:o.1=2
 .by_cases hr:o.2.2.1<0\/1099511627776<o.2.2.1
  .have e:adj K o=K:=by unfold adj;rw[ZY k0,ZY k1,Z0 k2,Z0 hr]
   rw[e];(refine aa.q Tryz.func44 rfl fun S aw=>Wa _ ?_;(repeat' first|exact tv|apply pr|intro hh));all_goals try (exfalso;omega)
   all_goals refine ae.bq 0 (nn K m c) (nn K m' c) rfl (Vq (by omega)) ?_
   all_goals exact ae.z c [0,1,2]
  .have e:adj K o=mq K (K.now+o.2.2.1):=by unfold adj;rw[ZY k0,ZY k1,Z0 k2,ZY hr]
   have ew:IntKind.i64.wrap (K.now+o.2.2.1)=K.now+o.2.2.1:=wr (by omega);rw[e];(refine aa.q Tryz.func44 rfl fun S aw=>Wa _ ?_;(repeat' first|exact tv|apply pr|intro hh));all_goals try (exfalso;omega)
   all_goals simp only[ew]
   all_goals refine ab.q (W0 (K:=K) (m:=m) (m':=m') (c:=c) (K.now+o.2.2.1) (by omega)) [0] ?_;rintro c' _;refine Wp _ ?_;repeat' first|exact tv|apply pr|intro hh
   all_goals try simp only[ew]
   all_goals refine ab.q (aeV K (K.now+o.2.2.1)) [1,2] fun _ _=>Wp _ ?_;repeat' first|exact tv|apply pr|intro hh
   all_goals refine ae.w c' [0,1,2] _ ?_;repeat' first|exact tv|apply pr
   all_goals simp
 by_cases k3:o.1=3
 .have e:adj K o=(qQ K o.2.2.1 o.2.2.2).1:=by unfold adj;rw[ZY k0,ZY k1,ZY k2,Z0 k3]
  rw[e];(refine aa.q Tryz.func44 rfl fun S aw=>Wa _ ?_;(repeat' first|exact tv|apply pr|intro hh));all_goals try (exfalso;omega)
  all_goals refine ab.q (Zh (K:=K) (m:=m) (m':=m') (c:=c) o.2.2.1 o.2.2.2 (by omega)) [0] ?_;rintro c' _;refine Wp _ ?_;repeat' first|exact tv|apply pr|intro hh
  all_goals refine ab.q (ae7 K s (by omega) o.2.2.1 o.2.2.2) [1,2] fun _ _=>Wp _ ?_;repeat' first|exact tv|apply pr|intro hh
  all_goals first|(exact absurd rfl hh)|skip
  all_goals refine ae.w c' [0,1,2] _ ?_;repeat' first|exact tv|apply pr
  all_goals simp
 have e:adj K o=K:=by unfold adj;rw[ZY k0,ZY k1,ZY k2,ZY k3]
 rw[e];by_cases k4:o.1=4
 .refine aa.q Tryz.func44 rfl fun S aw=>Wa _ ?_;repeat' first|exact tv|apply pr|intro hh
  all_goals try (exfalso;omega)
  all_goals refine ab.q (W3 (K:=K) (m:=m) (m':=m') (c:=c) o.2.2.1 hN (by omega) (by omega)) [0] ?_;rintro y _;refine Wp _ ?_;repeat' first|exact tv|apply pr|intro hh
  all_goals exact ae.z y.1 [0,1,2]
 .refine aa.q Tryz.func44 rfl fun S aw=>Wa _ ?_;repeat' first|exact tv|apply pr|intro hh
  all_goals try (exfalso;omega)
  all_goals refine ae.bq 0 (nn K m c) (nn K m' c) rfl (Vq (by omega)) ?_
  all_goals exact ae.z c [0,1,2]
end Go.Proofs.YthnefnlhcijekaaGreat.En
set_option maxRecDepth 8000
namespace Go.Proofs.YthnefnlhcijekaaGreat.En
open Go Go.RowKit Fw Hi Ce
theorem aea {L:List Nm} {i:Nat} (after:Nm) (aF:Int) (h:i<L.length):QD (L.take (i+1)) after aF=if((QD (L.take i) after aF).length:Int)<aF/\kQ after (L.getD i (0,[]))then QD (L.take i) after aF++[L.getD i (0,[])]else QD (L.take i) after aF:=by
 unfold QD;rw[aaE,Z1 h,ac4,List.filter_append,ZZ,Z1 h,aby];by_cases hb:kQ after L[i]
 .have e:[L[i]].filter (fun x=>decide (kQ after x))=[L[i]]:=by simp[hb]
  rw[e];generalize (L.take i).filter (fun x=>decide (kQ after x))=F;have bf:(F.take aF.toNat).length=min aF.toNat F.length:=aak;by_cases hc:((F.take aF.toNat).length:Int)<aF
  .rw[Z0 ⟨hc,hb⟩,Z6 (l:=F) (by omega),Z6 (by rw[aab];simp;omega)]
  .rw[ZY (fun h=>hc h.1),List.take_append_of_le_length (by omega)]
 .have e:[L[i]].filter (fun x=>decide (kQ after x))=[]:=by simp[hb]
  rw[e,List.append_nil,ZY (fun h=>hb h.2)]
abbrev NmI:TypeId:=24
theorem aeW (K:Kt) {m:Nat} (s:Small K m) (Tn:m<=100000) (after:Nm) (aF:Int):MU Tryz.prog 45 [.ptr 0 0,zB after,.I aF] (chF K) (.aL uR fun _=>QD (eD K) after aF) (chF K):=by
 have Pz:Tryz.t24.bytes<=1000:=by decide
 have u7:=adF (K:=K);have hl:=s.len;(refine aa.q Tryz.func45 rfl fun S aw=>Wa _ ?_;(repeat' first|exact tv|apply pr|intro hh));(refine ab.q (ad2 K s Tn) [0,1] fun _ _=>Wp _ ?_;(repeat' first|exact tv|apply pr|intro hh));refine aM.nil NmI uR none [8] ?_;refine aM.intro hm (X:=Nat) (fun i=>i<=(eD K).length) (fun i=>(eD K).length - i)
  (fun i=>[(2,.I aF),(4,.ptr 2 0),(7,.aL uR fun _=>eD K),(8,.vec 3 2 (fun _=>0) fun _=>(QD ((eD K).take i) after aF).length),(9,.I (i:Int))])
  (fun i=>chF K++[.cells NmI [.I after.1,.str fun _=>after.2],.aq NmI uR fun _=>QD ((eD K).take i) after aF]) 0 [0,1,2,3] ⟨rfl,rfl,?_,?_⟩ (aae _) ?_
 .refine Vb _ ?_;repeat' first|exact tv|apply pr
  all_goals first|(unfold QD;simp;done)|skip
 .refine Vb _ ?_;repeat' first|exact tv|apply pr
  all_goals first|(unfold QD;simp;done)|skip
 intro i hi;have vX:(QD ((eD K).take i) after aF).length<=i:=by
  unfold QD;have h1:=acf (fun x=>decide (kQ after x)) ((eD K).take i);rw[aak]at h1 ⊢;omega
 by_cases dp:i<(eD K).length
 .have uu:QD ((eD K).take (i+1)) after aF=if((QD ((eD K).take i) after aF).length:Int)<aF/\kQ after ((eD K).getD ((i:Int)).toNat uR.bA)then QD ((eD K).take i) after aF++[(eD K).getD ((i:Int)).toNat uR.bA]else QD ((eD K).take i) after aF:=aea after aF dp
  have hbe:=Cw ((eD K).getD ((i:Int)).toNat uR.bA) after;by_cases hc:((QD ((eD K).take i) after aF).length:Int)<aF/\kQ after ((eD K).getD ((i:Int)).toNat uR.bA)
  .rw[Z0 hc]at uu
   rw[decide_eq_true hc.2]at hbe;(refine Wa _ ?_;(repeat' first|exact tv|apply pr|intro hh));all_goals first|exact Ob.mk ⟨by simp only[];omega,by simp only[];omega⟩|(exfalso;omega)|skip
   (refine ab.q hbe [] fun _ _=>Wp _ ?_;(repeat' first|exact tv|apply pr|intro hh));all_goals first|exact Ob.mk ⟨by simp only[];omega,by simp only[];omega⟩|(exfalso;omega)|skip
   all_goals first|(refine Ob.mk ⟨rfl,adK ?_ Pz⟩;show(QD ((eD K).take i) after aF).length+1<=300000;omega)|skip
   all_goals refine⟨i+1,[0,1,2,3],⟨rfl,rfl,?_,?_⟩,by show i+1<=_;omega,by show _ - (i+1)<_ - i;omega⟩
   all_goals refine Vb _ ?_;repeat' first|exact tv|apply pr
   all_goals first|(rw[wr (by omega)];omega)|(rw[uu,Z6 (Z8 _)];rfl)|(rw[uu,aab];rfl)|skip
  .rw[ZY hc]at uu
   (refine Wa _ ?_;(repeat' first|exact tv|apply pr|intro hh));all_goals first|exact Ob.mk ⟨by simp only[];omega,by simp only[];omega⟩|(exfalso;omega)|skip
   all_goals first|((refine ab.q hbe [] fun _ _=>Wp _ ?_;(repeat' first|exact tv|apply pr|intro hh)))|skip
   all_goals first|(exfalso;exact hc ⟨by assumption,by assumption⟩)|skip
   all_goals refine⟨i+1,[0,1,2,3],⟨rfl,rfl,?_,?_⟩,by show i+1<=_;omega,by show _ - (i+1)<_ - i;omega⟩
   all_goals refine Vb _ ?_;repeat' first|exact tv|apply pr
   all_goals first|(rw[wr (by omega)];omega)|(rw[uu])|skip
 have IL:i=(eD K).length:=by omega
 subst IL;(refine Wa _ ?_;(repeat' first|exact tv|apply pr|intro hh));all_goals try (exfalso;omega)
 (refine ae.gU 3 ?_;(conv=>whnf));(refine ae.w () [0,1] _ ?_;(repeat' first|exact tv|apply pr));rw[aah,aac,aac]
theorem aew {K:Kt} (h:RY K.L):(eD K).Pairwise kQ:=by
 unfold eD;rw[abI];exact h.sublist (acy ..)
theorem aex {K:Kt} (h:RY K.L) (o:OpB):RY (adj K o).L:=by
 unfold adj;split
 .unfold adf;split
  .exact h
  .exact adB _ h
 split
 .unfold adk;split
  .exact h
  .split
   .exact h
   .exact adB _ h
 split
 .split
  .exact h
  .exact aef h _
 split
 .unfold qQ;split
  .exact h.sublist (acy ..)
  .exact h
 .exact h
def Pos (L:Hs):Prop:=∀ x∈L,0<=x.1.1
theorem aeb {K:Kt} {nm:Nm} {w:Int} (h:Pos K.L):Pos (dV K nm w).1.L:=by
 unfold dV;split
 .rename_i h1
  split
  .exact h
  .intro x hx
   rcases xq hx with e|h2
   .subst e
    cases hb:fy nm && aU w with
    | false=>rw[(Ig hb).1]at h1;exact absurd h1.1 (by decide)
    | true=>rw[aai]at hb;exact(rA hb.1).1
   .exact h x h2
 .exact h
theorem adE:∀ (l:List adl) {K:Kt},Pos K.L->Pos (om K l).1.L
 | [],_,s=>s
 | a::r,K,s=>by rw[om];exact adE r (aeb s)
theorem aey {K:Kt} (h:Pos K.L) (o:OpB):Pos (adj K o).L:=by
 unfold adj;split
 .unfold adf;split
  .exact h
  .exact adE _ h
 split
 .unfold adk;split
  .exact h
  .split
   .exact h
   .exact adE _ h
 split
 .split
  .exact h
  .unfold mq;split <;> exact h
 split
 .unfold qQ;split
  .exact fun x hx=>h x (aa1.1 hx).1
  .exact h
 .exact h
theorem aec {K:Kt} (h:Pos K.L):(eD K).filter (fun y=>decide (kQ (-1,[]) y))=eD K:=by
 refine List.filter_eq_self.2 fun y hy=>?_;unfold eD at hy;obtain⟨x,hx,rfl⟩:=aas.1 hy;have:=h x (aa1.1 hx).1;exact decide_eq_true (.inl (show(-1:Int)<x.1.1 by omega))
theorem aez {L:List Nm} (hs:L.Pairwise kQ) {j:Nat} (h:j<L.length) {x:Nm} (hx:L.getD j (0,[])=x):L.filter (fun y=>decide (kQ x y))=L.drop (j+1):=by
 have hg:L[j]=x:=by rw[<-hx,ZZ,Z1 h];rfl
 have h1:=adz L x;have h2:=adA (x:=x) hs;have h3:¬j<adi L x:=fun h4=>by
  have:=(h2 j h).2 h4;rw[hx]at this;exact ig _ this
 have h5:¬adi L x<j:=fun h4=>by
  have h6:adi L x<L.length:=by omega
  have h7:=List.pairwise_iff_getElem.1 hs _ _ h6 h h4;rw[hg]at h7;have h9:L.getD (adi L x) (0,[])=L[adi L x]:=by rw[ZZ,Z1 h6];rfl
  exact absurd ((h2 _ h6).1 (by rw[h9];exact h7)) (Nat.lt_irrefl _)
 have e:adi L x=j:=by omega
 have h9:=adt (x:=x) hs;have fu:ads L x=true:=by unfold ads;rw[e];exact decide_eq_true ⟨h,hx⟩
 rw[fu,Z0 rfl,e]at h9;exact h9.symm
end Go.Proofs.YthnefnlhcijekaaGreat.En
set_option maxRecDepth 8000
namespace Go.Proofs.YthnefnlhcijekaaGreat.En
open Go Go.RowKit Fw Hi Ce
structure BpI (l:List OpB) (z:Nat×Kt×Nat):Prop where
 le:z.1<=l.length
 s:Small z.2.1 (9*z.1)
 srt:RY z.2.1.L
 pos:Pos z.2.1.L
structure BqI (L:List Nm) (M:Nat) (z:Nat×Nm):Prop where
 i:z.1<=70
 le:z.1*M<=L.length
 eq:L.filter (fun y=>decide (kQ z.2 y))=L.drop (z.1*M)
theorem aeK {L:List Nm} {after:Nm} {k:Nat} {aF:Int} (h:L.filter (fun y=>decide (kQ after y))=L.drop k):QD L after aF=(L.drop k).take aF.toNat:=by unfold QD;rw[h]
theorem EE {L:List Nm} {k M:Nat}:L.take k++(L.drop k).take M=L.take (k+M):=by rw[List.take_add]
def aeX (o:OpB):Prop:=-9223372036854775808<=o.2.2.1/\o.2.2.1<=9223372036854775807
set_option maxHeartbeats 2000000 in
theorem adS (n sd:Int) (l:List OpB) (aF:Int) (C3:-9223372036854775808<=aF/\aF<=9223372036854775807) (hN:∀ o∈l,aeX o):MU Tryz.prog 15 [Ir n sd,.aL ado fun _=>l,.I aF] [] .tt []:=by
 have Pz:Tryz.t24.bytes<=1000:=by decide
 have Kn:=ae3 l 20 (by omega);by_cases hf:aeE l 20;rotate_left
 .rw[decide_eq_false hf]at Kn
  by_cases hn:1<=n/\n<=64
  .refine aa.q Tryz.func15 rfl fun S aw=>Wa _ ?_;repeat' first|exact tv|apply pr|intro hh
   (refine ab.q (Zi n sd hn) [] fun _ _=>Wp _ ?_;(repeat' first|exact tv|apply pr|intro hh));(refine ab.q (aeM n sd hn) [] fun _ _=>Wp _ ?_;(repeat' first|exact tv|apply pr|intro hh));(refine ab.q Kn [] fun _ _=>Wp _ ?_;(repeat' first|exact tv|apply pr|intro hh));all_goals refine ab.q adD [] fun _ _=>Wp _ ?_;repeat' first|exact tv|apply pr|intro hh
   all_goals exact ae.z () []
  .refine aa.q Tryz.func15 rfl fun S aw=>Wa _ ?_;repeat' first|exact tv|apply pr|intro hh
   (refine ab.q (S7 n sd hn) [] fun _ _=>Wp _ ?_;(repeat' first|exact tv|apply pr|intro hh));(refine ab.q (adQ n sd hn) [] fun _ _=>Wp _ ?_;(repeat' first|exact tv|apply pr|intro hh));(refine ab.q Kn [] fun _ _=>Wp _ ?_;(repeat' first|exact tv|apply pr|intro hh));all_goals refine ab.q adD [] fun _ _=>Wp _ ?_;repeat' first|exact tv|apply pr|intro hh
   all_goals exact ae.z () []
 rw[decide_eq_true hf]at Kn;have hl20:=hf.1;by_cases hn:1<=n/\n<=64;rotate_left
 .refine aa.q Tryz.func15 rfl fun S aw=>Wa _ ?_;repeat' first|exact tv|apply pr|intro hh
  (refine ab.q (S7 n sd hn) [] fun _ _=>Wp _ ?_;(repeat' first|exact tv|apply pr|intro hh));(refine ab.q (adQ n sd hn) [] fun _ _=>Wp _ ?_;(repeat' first|exact tv|apply pr|intro hh));(refine ab.q Kn [] fun _ _=>Wp _ ?_;(repeat' first|exact tv|apply pr|intro hh));all_goals refine ab.q adD [] fun _ _=>Wp _ ?_;repeat' first|exact tv|apply pr|intro hh
  all_goals exact ae.z () []
 (refine aa.q Tryz.func15 rfl fun S aw=>Wa _ ?_;(repeat' first|exact tv|apply pr|intro hh));(refine ab.q (Zi n sd hn) [] fun _ _=>Wp _ ?_;(repeat' first|exact tv|apply pr|intro hh));(refine ab.q (aeM n sd hn) [] fun _ _=>Wp _ ?_;(repeat' first|exact tv|apply pr|intro hh));(refine ab.q Kn [] fun _ _=>Wp _ ?_;(repeat' first|exact tv|apply pr|intro hh));refine aM.intro hm (X:=Nat×Kt×Nat) (BpI l) (fun z=>l.length - z.1)
  (fun z=>[(1,.aL ado fun _=>l),(2,.I aF),(7,.ptr 0 0),(9,.ptr 1 0),(11,.I (z.1:Int))])
  (fun z=>.bq (nn z.2.1 (9*z.1) z.2.2)::CA 2 z.2.1) (0,W6 n,0) [1,2,3] ⟨rfl,rfl,?_,?_⟩ ⟨aae _,Small.zero hn,List.Pairwise.nil,fun x hx=>by cases hx⟩ ?_
 .exact Vc
 .exact Vc
 rintro⟨i,K,c⟩ hI;have hi:=hI.le;have hs:=hI.s;have Qi:=hI.srt;have Fo:=hI.pos;simp only[]at hi hs Qi Fo;by_cases dp:i<l.length
 .have OT:=afa (m:=9*i) (m':=9*(i+1)) (c:=c) hs (by omega) (l.getD ((i:Int)).toNat ado.bA) (hN _ (getD_in ado.bA dp)) (by omega) (by omega)
  have ZP:=(hs.afi (l.getD ((i:Int)).toNat ado.bA)).up (show 9*i+8<=9*(i+1) by omega);have uH:=aex Qi (l.getD ((i:Int)).toNat ado.bA);have Uy:=aey Fo (l.getD ((i:Int)).toNat ado.bA);(refine Wa _ ?_;(repeat' first|exact tv|apply pr|intro hh));all_goals first|exact Ob.mk ⟨by simp only[];omega,by simp only[];omega⟩|(exfalso;omega)|skip
  all_goals refine ab.q OT [0,1,2] ?_;rintro c' _;refine Wp _ ?_;repeat' first|exact tv|apply pr|intro hh
  all_goals refine⟨(i+1,adj K (l.getD ((i:Int)).toNat ado.bA),c'),[0,1,2],⟨rfl,rfl,?_,?_⟩,⟨dp,ZP,uH,Uy⟩,by show _ - (i+1)<_ - i;omega⟩
  all_goals refine Vb _ ?_;repeat' first|exact tv|apply pr
  all_goals first|(rw[wr (by omega)];omega)|skip
 have R5:=adF (K:=K);have wT:=hs.len;have Vy:=aew Qi;have MJ:=fun a=>aej (K:=K) (m:=9*i) (c:=c) a aF C3 Vy;have Jg:=Vp (K:=K) (m:=9*i) (c:=c);have K7:=fun a=>aeW K hs (by omega) a aF;have hnle:(eD K).length<=64\/True:=.inr trivial;by_cases hm1:aF<1
 .have e0:QD (eD K) (-1,[]) aF=[]:=by
   have:aF.toNat=0:=by omega
   unfold QD;rw[this];rfl
  have Zn:=MJ (-1,[]);rw[e0]at Zn;(refine Wa _ ?_;(repeat' first|exact tv|apply pr|intro hh));all_goals try (exfalso;omega)
  (refine ab.q Zn [0] fun _ _=>Wp _ ?_;(repeat' first|exact tv|apply pr|intro hh));all_goals refine ab.q adD [] fun _ _=>Wp _ ?_;repeat' first|exact tv|apply pr|intro hh
  all_goals exact ae.z () []
 have hM:(aF.toNat:Int)=aF:=by omega
 have VX:1<=aF.toNat:=by omega
 (refine Wa _ ?_;(repeat' first|exact tv|apply pr|intro hh));all_goals try (exfalso;omega)
 refine aM.nil NmI uR none [12] ?_;refine aM.intro hm (X:=Nat×Nm) (BqI (eD K) aF.toNat) (fun z=>70 - z.1)
  (fun z=>[(2,.I aF),(7,.ptr 0 0),(9,.ptr 1 0),(12,.vec 4 2 (fun _=>0) fun _=>((eD K).take (z.1*aF.toNat)).length),(13,.ptr 3 0),(14,.I (z.1:Int))])
  (fun z=>.bq (nn K (9*i) c)::CA 2 K++[.cells NmI [.I z.2.1,.str fun _=>z.2.2],.aq NmI uR fun _=>(eD K).take (z.1*aF.toNat)]) (0,(-1,[])) [0,1,2,3,4] ⟨rfl,rfl,?_,?_⟩ ⟨by show 0<=70;omega,by show 0*_<=_;omega,(aec Fo).trans (by show _=List.drop (0*_) _;rw[Nat.zero_mul];rfl)⟩ ?_
 .refine Vb _ ?_;repeat' first|exact tv|apply pr
  all_goals first|(rw[Nat.zero_mul];rfl)|skip
 .refine Vb _ ?_;repeat' first|exact tv|apply pr
  all_goals first|(rw[Nat.zero_mul];rfl)|skip
 rintro⟨j,a⟩ hJ;have hj:=hJ.i;have Tl:=hJ.le;have epg:=aeK (aF:=aF) hJ.eq;simp only[]at hj Tl epg;have vX:(QD (eD K) a aF).length=min aF.toNat ((eD K).length - j*aF.toNat):=by rw[epg,aak,aar]
 have hsa:=W7 (QD (eD K) a aF) (QD (eD K) a aF) (by omega);rw[decide_eq_true rfl]at hsa;have tL:=W7 (eD K) (eD K) (by omega);rw[decide_eq_true rfl]at tL;have SL:((eD K).take (j*aF.toNat)).length=j*aF.toNat:=by rw[aak];omega
 by_cases afm:j<70;rotate_left
 .have Zd:j=70:=by omega
  subst Zd;(refine Wa _ ?_;(repeat' first|exact tv|apply pr|intro hh));all_goals try (exfalso;omega)
  (refine ab.q Jg [0] ?_;rintro _ ⟨⟨q1,q2⟩,q3⟩;refine Wp _ ?_;(repeat' first|exact tv|apply pr|intro hh));exfalso;omega
 by_cases hbr:((QD (eD K) a aF).length:Int)<aF
 .have afc:(eD K).take (j*aF.toNat)++QD (eD K) a aF=eD K:=by
   rw[epg,EE,Z6 (by omega)]
  (refine Wa _ ?_;(repeat' first|exact tv|apply pr|intro hh));all_goals try (exfalso;omega)
  (refine ab.q (MJ a) [0] fun _ _=>Wp _ ?_;(repeat' first|exact tv|apply pr|intro hh));all_goals try (exfalso;omega)
  (refine ab.q (K7 a) [1,2] fun _ _=>Wp _ ?_;(repeat' first|exact tv|apply pr|intro hh));refine ab.q hsa [] fun _ _=>Wp _ ?_;repeat' first|exact tv|apply pr|intro hh
  .refine Ob.mk ⟨rfl,adK ?_ Pz⟩
   show((eD K).take (j*aF.toNat)).length+(QD (eD K) a aF).length<=300000;omega
  all_goals try (exfalso;omega)
  .have etl:((eD K).take (j*aF.toNat)).length+(QD (eD K) a aF).length=(eD K).length:=by rw[<-aab,afc]
   (refine ab.q Jg [0] ?_;rintro _ ⟨⟨q1,q2⟩,q3⟩;refine Wp _ ?_;(repeat' first|exact tv|apply pr|intro hh));refine ab.gU 4 ?_ tL.aA;(conv=>whnf);simp only[aac,aah,afc,etl];(refine ab.q tL [] fun _ _=>Wp _ ?_;(repeat' first|exact tv|apply pr|intro hh));all_goals refine ab.q adD [] fun _ _=>Wp _ ?_;repeat' first|exact tv|apply pr|intro hh
   all_goals exact ae.z () []
  all_goals (exfalso;have:=hbr;simp only[]at *;omega)
 .have HZ:(QD (eD K) a aF).length=aF.toNat:=by omega
  have Fx:j*aF.toNat+aF.toNat<=(eD K).length:=by omega
  have ZP:(j+1)*aF.toNat=j*aF.toNat+aF.toNat:=acJ _ _;have ew:IntKind.i64.wrap (((QD (eD K) a aF).length:Int) - 1)=((aF.toNat - 1:Nat):Int):=by rw[wr (by omega)];omega
  have hgx:(eD K).getD (j*aF.toNat+aF.toNat - 1) (0,[])=(QD (eD K) a aF).getD (((aF.toNat - 1:Nat):Int)).toNat uR.bA:=by
   rw[epg,Z4,ZZ,ZZ,List.getElem?_take_of_lt (by omega),aam];rw[show j*aF.toNat+(aF.toNat - 1)=j*aF.toNat+aF.toNat - 1 by omega];rfl
  have haf:=aez Vy (show j*aF.toNat+aF.toNat - 1<(eD K).length by omega) hgx;rw[show j*aF.toNat+aF.toNat - 1+1=(j+1)*aF.toNat by omega]at haf;have ett:(eD K).take (j*aF.toNat)++QD (eD K) a aF=(eD K).take ((j+1)*aF.toNat):=by rw[epg,EE,ZP]
  (refine Wa _ ?_;(repeat' first|exact tv|apply pr|intro hh));all_goals try (exfalso;omega)
  (refine ab.q (MJ a) [0] fun _ _=>Wp _ ?_;(repeat' first|exact tv|apply pr|intro hh));all_goals try (exfalso;omega)
  (refine ab.q (K7 a) [1,2] fun _ _=>Wp _ ?_;(repeat' first|exact tv|apply pr|intro hh));refine ab.q hsa [] fun _ _=>Wp _ ?_;repeat' first|exact tv|apply pr|intro hh
  .refine Ob.mk ⟨rfl,adK ?_ Pz⟩
   show((eD K).take (j*aF.toNat)).length+(QD (eD K) a aF).length<=300000;omega
  all_goals try (exfalso;omega)
  all_goals simp only[ew]
  all_goals first|exact Ob.mk ⟨by omega,by omega⟩|skip
  all_goals refine⟨(j+1,(QD (eD K) a aF).getD (((aF.toNat - 1:Nat):Int)).toNat uR.bA),[0,1,2,3,4],⟨rfl,rfl,?_,?_⟩,⟨afm,by show(j+1)*aF.toNat<=_;omega,haf⟩,by show 70 - (j+1)<70 - j;omega⟩
  all_goals refine Vb _ ?_;repeat' first|exact tv|apply pr
  all_goals first|(rw[wr (by omega)];omega)|(rw[aac,ett])|(rw[<-ett,aab])|skip
end Go.Proofs.YthnefnlhcijekaaGreat.En
namespace Go.Proofs.YthnefnlhcijekaaGreat.RBatchPages
open Go Go.ChangeShapes Go.WideShapes Go.ChangeAt Go.RowKit Fw
theorem own:ownKnob Tryz.prog.godebug=none:=by kernel_rfl
theorem laidOut:laidOutB Tryz.prog=true:=Si
theorem kids:Kids Tryz.prog (·<Tryz.prog.types.size):=Xa
theorem readable:∀ t∈Tryz.f15.params.toList,Tryz.prog.readableRec t=true/\t<Tryz.prog.types.size:=by
 have h:(Tryz.f15.params.toList.all fun t=>Tryz.prog.readableRec t && decide (t<Tryz.prog.types.size))=true:=by kernel_rfl
 intro t ht;have:=abb.1 h t ht;rw[aai,decide_eq_true_eq]at this;exact this
set_option maxRecDepth 100000 in
theorem lifted (os:Os) (started:os.Started) (H:Type) (enc:TypeId×Value->H) :
  ReturnsInHanded {} Tryz.checked os 15 .any (Rows.batchPagesSpec.pre6 enc Tryz.prog Tryz.f15 Rows.batchPagesRow.domain false) (Rows.batchPagesSpec.post enc Tryz.prog Tryz.f15 false true false false):=by
 refine returnsInHanded_of_change (C:=Tryz.checked) own started (by kernel_rfl) Tryz.func15
  (ChangeSpec.witness6 (enc:=enc) (C:=Tryz.checked) false ⟨#[],#[.agg #[.int .i64 0,.int .u64 0],.slice none 0 0,.int .i64 0],[]⟩ 8 (by kernel_rfl) (by kernel_rfl) (by kernel_rfl) (by kernel_rfl)) ?_
 intro W base args ds gs before afd hW hcnd _;have ln:∀ (j:Nat) t v,Tryz.f15.params[j]?=some t->args[j]?=some v->Value.okWide Tryz.prog W .any base t v:=afd;have Zq:DataW.Whole enc Tryz.prog Tryz.f15.params.toList Rows.batchPagesSpec.vars false W args.toList ds gs before:=hW;obtain⟨p,q,hA0,hV,_,_,_⟩:=Zq;have hA:DataW.TrodAll enc Tryz.prog W 0 (fun _=>true) true Tryz.f15.params.toList args.toList ds p:=hA0;rw[Tryz.params15]at hA ln;obtain⟨v0,v1,v2,d0,d1,d2,p0,p1,p2,rfl,rfl,rfl,h0,h1,h2⟩:=trodAll_three hA;obtain⟨rfl,rfl⟩:=trodVars_none hV;obtain⟨a0,af2,w0⟩:=OR (ty:=(.pair (.int .i64) (.int .u64))) kids rfl rfl (of_decide_eq_true (by kernel_rfl)) (by kernel_rfl) (ln 0 _ v0 rfl rfl) h0;obtain⟨a1,r1,w1⟩:=Se (ty:=(.list En.ado)) kids rfl rfl (of_decide_eq_true (by kernel_rfl)) (by kernel_rfl) (ln 1 _ v1 rfl rfl) h1;obtain⟨a2,r2,w2⟩:=Se (ty:=(.int .i64)) kids rfl rfl (of_decide_eq_true (by kernel_rfl)) (by kernel_rfl) (ln 2 _ v2 rfl rfl) h2;refine(S9 (aC:=[v0,v1,v2]) (En.adS a0.1 a0.2 a1 a2 (wf_i64 w2) (fun o ho=>(w1.2 o ho).2.2.1)) (fun _ _=>rfl) ⟨af2,r1.1,r2.1,trivial⟩).mono ?_;rintro e W' ⟨rfl,hb⟩;exact⟨_,rfl,Sg laidOut hW rfl rfl (by rfl) Tryz.underlying4 readable hb⟩
theorem aeA:Tryz.prog.inPlace 15=Rows.batchPagesRow.inPlace:=by kernel_rfl
theorem adx:Tryz.prog.unfollowed 15=Rows.batchPagesRow.unfollowed:=by kernel_rfl
theorem aed:Tryz.prog.recurses 15=Rows.batchPagesRow.recurses:=by unfold Program.recurses;rw[adx];first|exact Bool.true_or _|kernel_rfl
theorem aeY:Tryz.prog.varsNamed 15=Rows.batchPagesRow.named:=by kernel_rfl
theorem closed:joinedFacts Tryz.prog 15 Tryz.f15 Rows.batchPagesSpec Rows.batchPagesRow=true:=by
 unfold joinedFacts;rw[aeA,adx,aed,aeY,Si,Sj,Vt,Vu,Vv,Vw,W9];kernel_rfl
theorem holds:Rows.BatchPagesSaid :=
 OpenClaim.holds_of_wide 15 Tryz.f15 rfl rfl rfl rfl rfl rfl rfl ⟨rfl,rfl,rfl,rfl,rfl⟩ rfl rfl rfl rfl rfl (by kernel_rfl) Tryz.func15 closed
  (of_decide_eq_true (by kernel_rfl)) (by unfold Func.isWrapper;first|(rw[Z0 (by decide +kernel)];kernel_rfl)|(rw[ZY (by decide +kernel)];exact⟨rfl,rfl⟩))
  (fun os started H enc _=>lifted os started H enc)
end Go.Proofs.YthnefnlhcijekaaGreat.RBatchPages
#print axioms Go.Proofs.YthnefnlhcijekaaGreat.RBatchPages.holds
