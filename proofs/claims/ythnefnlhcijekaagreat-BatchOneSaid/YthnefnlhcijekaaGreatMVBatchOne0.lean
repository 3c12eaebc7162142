/- The law BatchOne holds at every input that its statement lets in; part 1 of its proof. -/
import Derived.Test.YthnefnlhcijekaaGreatMC6
set_option linter.unusedVariables false
set_option linter.unusedSimpArgs false
set_option maxRecDepth 8000
namespace Go.Proofs.YthnefnlhcijekaaGreat.En
open Go Go.RowKit Fw Hi Ce
section
variable {K:Kt} {m m':Nat}
theorem adX (s:Small K m):mq K 0=K:=by unfold mq;rw[ZY];have:=s.now;omega
end
theorem ad3 {n b:Nat} (hn:n<=300000) (hb:b<=1000):n<=140737488355328/\n*b<=140737488355328 :=
 ⟨by omega,aaA (Nat.mul_le_mul hn hb) (by decide)⟩
abbrev adi:=Int×List UInt8×Int
def aNm (a:adi):Nm:=(a.1,a.2.1)
def adj (K:Kt) (a:adi):Kt×L1:=dV K (aNm a) a.2.2
def QD:Kt->List adi->Kt×List L1
 | K,[]=>(K,[])
 | K,a::r=>((QD (adj K a).1 r).1,(adj K a).2::(QD (adj K a).1 r).2)
theorem adu (a:adi):∀ (l:List adi) (K:Kt),QD K (l++[a])=((adj (QD K l).1 a).1,(QD K l).2++[(adj (QD K l).1 a).2])
 | [],K=>rfl
 | b::r,K=>by rw[abp,QD,adu a r (adj K b).1];rfl
theorem adn {l:List adi} {i:Nat} (d:adi) (h:i<l.length) (K:Kt):QD K (l.take (i+1))=((adj (QD K (l.take i)).1 (l.getD i d)).1,(QD K (l.take i)).2++[(adj (QD K (l.take i)).1 (l.getD i d)).2]):=by
 rw[aaE,Z1 h,ac4,adu,ZZ,Z1 h];rfl
theorem adk:∀ (l:List adi) (K:Kt),(QD K l).2.length=l.length
 | [],_=>rfl
 | a::r,K=>by rw[QD,Z9,Z9,adk r]
theorem Small.each:∀ (l:List adi) {K:Kt} {m:Nat},Small K m->Small (QD K l).1 (m+l.length)
 | [],_,_,s=>s
 | a::r,K,m,s=>by
  have:=Small.each r (s.check (aNm a) a.2.2);rw[QD,Z9];exact this.up (by omega)
def adl (l:List adi):Prop:=l.length=0\/8<l.length
instance (l:List adi):Decidable (adl l):=inferInstanceAs (Decidable (_\/_))
def adg (K:Kt) (l:List adi):Kt×List L1×Int:=if adl l then(K,[],1)else((QD K l).1,(QD K l).2,0)
def wo (t:L1):Bool:=!decide (t.1=0) || !t.2.1
def adm (K:Kt) (l:List adi):Kt×List L1×Bool×Int :=
 if adl l then(K,[],false,1)else if(QD K l).2.any wo then(K,(QD K l).2,false,0)else((QD K l).1,(QD K l).2,true,0)
theorem adM (x y:Nm):rT x y<0↔kQ x y:=by rw[<-sk];simp[ltOf]
theorem adI (x y:Nm):rT x y=0↔x=y:=by
 have h:=(C6 x.2 y.2).2;unfold rT Ti.lY;constructor
 .intro h1
  by_cases ha:x.1<y.1
  .simp[ha]at h1
  .by_cases hb:y.1<x.1
   .simp[ha,hb]at h1
   .simp[ha,hb]at h1
    exact Prod.ext (by omega) (h.1 h1)
 .rintro rfl
  simp[h.2 rfl]
def ady (L:List Nm) (after:Nm) (aF:Int):List Nm:=(L.filter fun x=>decide (kQ after x)).take aF.toNat
def adh:List Nm->Nm->Nat
 | [],_=>0
 | a::r,x=>if kQ a x then adh r x+1 else 0
theorem adw:∀ (l:List Nm) (x:Nm),adh l x<=l.length
 | [],_=>Z8 _
 | a::r,x=>by
  unfold adh;split
  .exact Nat.succ_le_succ (adw r x)
  .exact aae _
theorem adx {x:Nm}:∀ {l:List Nm},l.Pairwise kQ->∀ j,j<l.length->(kQ (l.getD j (0,[])) x↔j<adh l x)
 | [],_,_,h=>absurd h (abW _)
 | a::r,hs,0,_=>by
  show kQ a x↔_;unfold adh;split
  .exact⟨fun _=>Nat.succ_pos _,fun _=>‹_›⟩
  .exact⟨fun h=>absurd h ‹_›,fun h=>absurd h (Nat.lt_irrefl _)⟩
 | a::r,hs,j+1,h=>by
  have rG:=abx.1 hs;have hj:j<r.length:=by simpa using h
  show kQ (r.getD j (0,[])) x↔_;have e:adh (a::r) x=if kQ a x then adh r x+1 else 0:=rfl;rw[adx rG.2 j hj,e];split
  .omega
  .rename_i hn
   refine⟨fun hc=>?_,fun hc=>absurd hc (abW _)⟩;exfalso;apply hn;have h1:=(adx rG.2 j hj).2 hc;have h2:kQ a (r.getD j (0,[])):=rG.1 _ (by rw[ZZ,Z1 hj];exact aax _);exact gj h2 h1
def ado (l:List Nm) (x:Nm):Bool:=decide (adh l x<l.length/\l.getD (adh l x) (0,[])=x)
theorem adr {x:Nm}:∀ {l:List Nm},l.Pairwise kQ->l.drop (if ado l x=true then adh l x+1 else adh l x)=l.filter fun y=>decide (kQ x y)
 | [],_=>by simp[ado,adh]
 | a::r,hs=>by
  have rG:=abx.1 hs;have ih:=adr (x:=x) rG.2;by_cases h:kQ a x
  .have e1:adh (a::r) x=adh r x+1:=by rw[adh,Z0 h]
   have e2:ado (a::r) x=ado r x:=by
    unfold ado;rw[e1,decide_eq_decide];show(adh r x+1<r.length+1/\r.getD (adh r x) (0,[])=x)↔_;rw[Nat.add_lt_add_iff_right]
   rw[e1,e2,List.filter_cons_of_neg (by simpa using pY h),<-ih];split <;> rfl
  .have e1:adh (a::r) x=0:=by rw[adh,ZY h]
   by_cases ha:a=x
   .subst ha
    have e2:ado (a::r) a=true:=by unfold ado;rw[e1];simp
    rw[e1,e2,Z0 rfl,List.filter_cons_of_neg (by simpa using ig a)];show r=_;exact(List.filter_eq_self.2 fun y hy=>by simpa using rG.1 y hy).symm
   .have hx:kQ x a:=aaG fun h2=>ha (jA h h2)
    have e2:ado (a::r) x=false:=by unfold ado;rw[e1];simp[ha]
    rw[e1,e2,ZY (by decide)];show a::r=_;refine(List.filter_eq_self.2 fun y hy=>?_).symm;rcases aaj.1 hy with e|h3
    .rw[e];simpa using hx
    .simpa using gj hx (rG.1 y h3)
end Go.Proofs.YthnefnlhcijekaaGreat.En
set_option maxRecDepth 8000
namespace Go.Proofs.YthnefnlhcijekaaGreat.En
open Go Go.RowKit Fw Hi Ce
abbrev adf:Ty:=.pair (.int .i64) (.pair .bool (.pair (.int .i64) (.pair (.int .i64) (.int .i64))))
abbrev adY:TypeId:=55
section
variable {K:Kt} {m m' c:Nat}
structure EaI (K:Kt) (l:List adi) (z:Nat×Nat×Kt×List L1):Prop where
 le:z.1<=l.length
 eq:QD K (l.take z.1)=(z.2.2.1,z.2.2.2)
theorem adz (l:List adi) (h1:m<=999900) (h2:m+8<=m'):aa Tryz.prog 19 [.ptr 0 0,.aL Zj fun _=>l] [.bq (nn K m c)] (Y:=Nat) (fun _=>True)
  (fun _=>.bQ [.aL adf fun _=>(adg K l).2.1,.I ((adg K l).2.2)]) (fun c'=>[.bq (nn (adg K l).1 m' c')]):=by
 have Pz:Tryz.t55.bytes<=1000:=by decide
 by_cases hb:adl l
 .have e:adg K l=(K,[],1):=by unfold adg;rw[Z0 hb]
  unfold adl at hb;rw[e];(refine aa.q Tryz.func19 rfl fun S aw=>Wa _ ?_;(repeat' first|exact tv|apply pr|intro hh));all_goals try (exfalso;omega)
  all_goals refine ae.bq 0 (nn K m c) (nn K m' c) rfl (Vq (by omega)) ?_
  all_goals exact ae.z c [0]
 have e:adg K l=((QD K l).1,(QD K l).2,0):=by unfold adg;rw[ZY hb]
 unfold adl at hb;rw[e];(refine aa.q Tryz.func19 rfl fun S aw=>Wa _ ?_;(repeat' first|exact tv|apply pr|intro hh));all_goals try (exfalso;omega)
 refine aM.nil adY adf none [6] ?_;refine aM.intro hm (X:=Nat×Nat×Kt×List L1) (EaI K l) (fun z=>l.length - z.1)
  (fun z=>[(0,.ptr 0 0),(21,.aL Zj fun _=>l),(22,.I (l.length:Int)),(23,.I (z.1:Int)),(6,.vec 1 5 (fun _=>0) fun _=>z.2.2.2.length)])
  (fun z=>[.bq (nn z.2.2.1 (m+z.1) z.2.1),.aq adY adf fun _=>z.2.2.2]) (0,c,K,[]) [0,1] ⟨rfl,rfl,?_,?_⟩ ⟨aae _,rfl⟩ ?_
 .exact Vc
 .exact Vc
 rintro⟨i,c1,aey,out⟩ hI;have hi:=hI.le;have he:=hI.eq;simp only[]at hi he;have D8:out.length=i:=by
  have:=adk (l.take i) K;rw[he,aak]at this;simp only[]at this;omega
 by_cases dp:i<l.length
 .have Wi:=Vo (K:=aey) (m:=m+i) (m':=m+(i+1)) (c:=c1) (aNm (l.getD i Zj.bA)) (l.getD i Zj.bA).2.2 (by omega) (by omega)
  have fR:=adn Zj.bA dp K;rw[he]at fR;(refine Wa _ ?_;(repeat' first|exact tv|apply pr|intro hh));all_goals first|exact Ob.mk ⟨by simp only[];omega,by simp only[];omega⟩|(exfalso;omega)|skip
  refine ab.q Wi [0] ?_;rintro c2 _;refine Wp _ ?_;repeat' first|exact tv|apply pr|intro hh
  .refine Ob.mk ⟨rfl,ad3 ?_ Pz⟩
   show out.length+1<=300000;omega
  all_goals refine⟨(i+1,c2,(dV aey (aNm (l.getD i Zj.bA)) (l.getD i Zj.bA).2.2).1,out++[(dV aey (aNm (l.getD i Zj.bA)) (l.getD i Zj.bA).2.2).2]),[0,1],⟨rfl,rfl,?_,?_⟩,⟨dp,fR⟩,by show _ - (i+1)<_ - i;omega⟩
  all_goals refine Vb _ ?_;repeat' first|exact tv|apply pr
  all_goals first|(rw[wr (by omega)];omega)|(rw[Z6 (Z8 _)];rfl)|(rw[aab];rfl)|skip
 have IL:i=l.length:=by omega
 subst IL;rw[aac]at he;rw[he];(refine Wa _ ?_;(repeat' first|exact tv|apply pr|intro hh));all_goals try (exfalso;omega)
 refine ae.bq 0 (nn aey (m+l.length) c1) (nn aey m' c1) rfl (Vq (by omega)) ?_;(refine ae.gU 1 ?_;(conv=>whnf));(refine ae.w c1 [0] _ ?_;(repeat' first|exact tv|apply pr));rw[aah,aac]
theorem adN (t:L1):MU Tryz.prog 48 [Ih t] [] (.bool fun _=>wo t) []:=by
 (refine aa.q Tryz.func48 rfl fun S aw=>Wa _ ?_;(repeat' first|exact tv|apply pr|intro hh));all_goals refine ae.w () [] _ ?_;repeat' first|exact tv|apply pr
 all_goals (unfold wo;simp_all)
theorem adO (l:List L1) (hl:l.length<=1000):aa Tryz.prog 102 [.aL adf fun _=>l,.fn (.func 48) [] []] [] (Y:=Int) (fun y=>decide (0<=y)=l.any wo)
  (fun y=>.int .i64 fun _=>y) (fun _=>[]):=by
 (refine aa.q Tryz.func102 rfl fun S aw=>Wa _ ?_;(repeat' first|exact tv|apply pr|intro hh));refine aM.intro hm (X:=Nat) (fun i=>i<=l.length/\(l.take i).any wo=false) (fun i=>l.length - i)
  (fun i=>[(8,.I (i:Int)),(7,.I (l.length:Int)),(6,.aL adf fun _=>l),(0,.aL adf fun _=>l),(1,.fn (.func 48) [] [])])
  (fun i=>[]) 0 [] ⟨rfl,rfl,?_,?_⟩ ⟨aae _,rfl⟩ ?_
 .exact Vc
 .exact Vc
 rintro i ⟨hi,ha⟩;(refine Wa _ ?_;(repeat' first|exact tv|apply pr|intro hh));all_goals try exact Ob.mk ⟨by simp only[];omega,by simp only[];omega⟩
 .have dp:i<l.length:=by omega
  have hg:l.getD i adf.bA∈l:=by rw[ZZ,Z1 dp];exact aax _
  have uu:(l.take (i+1)).any wo=wo (l.getD i adf.bA):=by
   rw[aaE,Z1 dp,ac4,List.any_append,ha,ZZ,Z1 dp];simp
  refine ab.q (adN (l.getD i adf.bA)) [] fun _ _=>Wp _ ?_;repeat' first|exact tv|apply pr|intro hh
  .refine ae.w (i:Int) [] _ ?_;repeat' first|exact tv|apply pr
   rw[decide_eq_true (by omega)];exact(List.any_eq_true.2 ⟨_,hg,hh⟩).symm
  .refine⟨i+1,[],⟨rfl,rfl,?_,?_⟩,⟨by show i+1<=_;omega,uu.trans hh⟩,by omega⟩
   .exact Vc
   .refine Vb _ ?_;repeat' first|exact tv|apply pr
    rw[wr (by omega)];omega
 .have IL:i=l.length:=by omega
  subst IL;rw[aac]at ha;(refine ae.w (-1) [] _ ?_;(repeat' first|exact tv|apply pr));rw[ha];rfl
theorem adA (l:List L1) (hl:l.length<=1000):MU Tryz.prog 47 [.aL adf fun _=>l,.fn (.func 48) [] []] [] (.bool fun _=>l.any wo) []:=by
 (refine aa.q Tryz.func47 rfl fun S aw=>Wa _ ?_;(repeat' first|exact tv|apply pr|intro hh));(refine ab.q (adO l hl) [] ?_;rintro y hy;refine Wp _ ?_;(repeat' first|exact tv|apply pr|intro hh));all_goals refine ae.w () [] _ ?_;repeat' first|exact tv|apply pr
 exact hy
theorem adS (l:List adi) (h1:m<=999800) (h2:m+8<=m'):aa Tryz.prog 20 [.ptr 0 0,.aL Zj fun _=>l] [.bq (nn K m c)] (Y:=Nat) (fun _=>True)
  (fun _=>.bQ [.aL adf fun _=>(adm K l).2.1,.bool fun _=>(adm K l).2.2.1,.I ((adm K l).2.2.2)]) (fun c'=>[.bq (nn (adm K l).1 m' c')]):=by
 have hea:=fun c=>adz (K:=K) (m:=m) (m':=m') (c:=c) l (by omega) h2;by_cases hb:adl l
 .have e:adm K l=(K,[],false,1):=by unfold adm;rw[Z0 hb]
  have e2:adg K l=(K,[],1):=by unfold adg;rw[Z0 hb]
  simp only[e2]at hea;rw[e];(refine aa.q Tryz.func20 rfl fun S aw=>Wa _ ?_;(repeat' first|exact tv|apply pr|intro hh));(refine ab.q (W4 (K:=K) (m:=m) (c:=c)) [0] ?_;rintro d _;refine Wp _ ?_;(repeat' first|exact tv|apply pr|intro hh));(refine ab.q (hea d) [1] ?_;rintro d2 _;refine Wp _ ?_;(repeat' first|exact tv|apply pr|intro hh));all_goals refine ae.bq 0 (nn K m c) (nn K m' c) rfl (Vq (by omega)) ?_
  all_goals exact ae.z c [0]
 have e2:adg K l=((QD K l).1,(QD K l).2,0):=by unfold adg;rw[ZY hb]
 have La:=adk l K;simp only[e2]at hea;have O8:=adA (QD K l).2 (by unfold adl at hb;omega);cases ha:(QD K l).2.any wo with
 | true =>
  have e:adm K l=(K,(QD K l).2,false,0):=by unfold adm;rw[ZY hb,ha];rfl
  rw[ha]at O8;rw[e];(refine aa.q Tryz.func20 rfl fun S aw=>Wa _ ?_;(repeat' first|exact tv|apply pr|intro hh));(refine ab.q (W4 (K:=K) (m:=m) (c:=c)) [0] ?_;rintro d _;refine Wp _ ?_;(repeat' first|exact tv|apply pr|intro hh));(refine ab.q (hea d) [1] ?_;rintro d2 _;refine Wp _ ?_;(repeat' first|exact tv|apply pr|intro hh));all_goals refine ab.q O8 [] fun _ _=>Wp _ ?_;repeat' first|exact tv|apply pr|intro hh
  all_goals refine ae.bq 0 (nn K m c) (nn K m' c) rfl (Vq (by omega)) ?_
  all_goals exact ae.z c [0]
 | false =>
  have e:adm K l=((QD K l).1,(QD K l).2,true,0):=by unfold adm;rw[ZY hb,ha];rfl
  rw[ha]at O8;rw[e];(refine aa.q Tryz.func20 rfl fun S aw=>Wa _ ?_;(repeat' first|exact tv|apply pr|intro hh));(refine ab.q (W4 (K:=K) (m:=m) (c:=c)) [0] ?_;rintro d _;refine Wp _ ?_;(repeat' first|exact tv|apply pr|intro hh));(refine ab.q (hea d) [1] ?_;rintro d2 _;refine Wp _ ?_;(repeat' first|exact tv|apply pr|intro hh));all_goals refine ab.q O8 [] fun _ _=>Wp _ ?_;repeat' first|exact tv|apply pr|intro hh
  all_goals refine ab.q (hea c) [0] ?_;rintro d3 _;refine Wp _ ?_;repeat' first|exact tv|apply pr|intro hh
  all_goals exact ae.z d3 [0]
theorem ads (x y:Nm):MU Tryz.prog 49 [zB x,zB y] [] (.I (rT x y)) []:=by
 (refine aa.q Tryz.func49 rfl fun S aw=>Wa _ ?_;(repeat' first|exact tv|apply pr|intro hh));(refine ab.q (Ti.tB x.1 y.1) [] fun _ _=>Wp _ ?_;(repeat' first|exact tv|apply pr|intro hh));all_goals refine ab.q (KR x.2 y.2) [] fun _ _=>Wp _ ?_;repeat' first|exact tv|apply pr|intro hh
 all_goals refine ab.q (Ti.orM (Ti.lY x.1 y.1) (p8 x.2 y.2)) [2] fun _ _=>Wp _ ?_;repeat' first|exact tv|apply pr|intro hh
 all_goals exact ae.z () []
theorem ad4 (l:List Nm) (hs:l.Pairwise kQ) (hl:l.length<=1000) (x:Nm):MU Tryz.prog 53 [.aL uR fun _=>l,zB x,.fn (.func 49) [] []] [] (.bQ [.I (adh l x:Int),.bool fun _=>ado l x]) []:=by
 have ES:=adw l x;(refine aa.q Tryz.func53 rfl fun S aw=>Wa _ ?_;(repeat' first|exact tv|apply pr|intro hh));refine aM.intro hm (X:=Nat×Nat) (fun z=>z.1<=adh l x/\adh l x<=z.2/\z.2<=l.length) (fun z=>z.2 - z.1)
  (fun z=>[(0,.aL uR fun _=>l),(2,.fn (.func 49) [] []),(4,.ptr 0 0),(8,.I (l.length:Int)),(9,.I (z.1:Int)),(10,.I (z.2:Int))])
  (fun z=>[.cells 24 [.I x.1,.str fun _=>x.2]]) (0,l.length) [0] ⟨rfl,rfl,?_,?_⟩ ⟨aae _,ES,Z8 _⟩ ?_
 .exact Vc
 .exact Vc
 rintro⟨a,b⟩ ⟨h1,h2,h3⟩;simp only[]at h1 h2 h3;by_cases rB:a<b
 .have ad5:IntKind.i64.wrap (Int.fdiv (IntKind.u64.wrap (IntKind.i64.wrap ((a:Int)+(b:Int)))) (2 ^ min (Int.toNat 1) IntKind.u64.bits))=(((a+b) / 2:Nat):Int):=by
   rw[wr (x:=(a:Int)+(b:Int)) (by omega),uQ (by omega)];show IntKind.i64.wrap (Int.fdiv ((a:Int)+(b:Int)) 2)=_;rw[abA _ (by omega),wr (by omega)];omega
  have hm1:a<=(a+b) / 2/\(a+b) / 2<b:=by omega
  have IB:=adx (x:=x) hs ((a+b) / 2) (by omega);have hcp:=adM (l.getD ((((a+b) / 2:Nat):Int)).toNat uR.bA) x;(refine Wa _ ?_;(repeat' first|exact tv|apply pr|intro hh));all_goals try (exfalso;omega)
  all_goals simp only[ad5]
  all_goals first|exact Ob.mk (by decide)|exact Ob.mk ⟨by omega,by omega⟩|skip
  refine ab.q (ads (l.getD ((((a+b) / 2:Nat):Int)).toNat uR.bA) x) [] fun _ _=>Wp _ ?_;repeat' first|exact tv|apply pr|intro hh
  .refine⟨((a+b) / 2+1,b),[0],⟨rfl,rfl,?_,?_⟩,⟨IB.1 (hcp.1 hh),h2,h3⟩,by show b - ((a+b) / 2+1)<b - a;omega⟩
   .exact Vc
   .refine Vb _ ?_;repeat' first|exact tv|apply pr
    rw[wr (by omega)];omega
  .refine⟨(a,(a+b) / 2),[0],⟨rfl,rfl,?_,?_⟩,⟨h1,Nat.not_lt.1 fun h=>hh (hcp.2 (IB.2 h)),by show(a+b) / 2<=_;omega⟩,by show(a+b) / 2 - a<b - a;omega⟩
   .exact Vc
   .exact Vc
 .have WX:a=adh l x:=by omega
  subst WX;have II:=adI (l.getD ((adh l x:Int)).toNat uR.bA) x;(refine Wa _ ?_;(repeat' first|exact tv|apply pr|intro hh));all_goals first|(exfalso;omega)|exact Ob.mk ⟨by simp only[];omega,by simp only[];omega⟩|skip
  .refine ab.q (ads (l.getD ((adh l x:Int)).toNat uR.bA) x) [] fun _ _=>Wp _ ?_;repeat' first|exact tv|apply pr|intro hh
   (refine ae.w () [] _ ?_;(repeat' first|exact tv|apply pr));unfold ado;rw[abX,beq_iff_eq,decide_eq_true_eq,II];exact⟨fun h=>⟨by omega,h⟩,fun h=>h.2⟩
  .refine ae.w () [] _ ?_;repeat' first|exact tv|apply pr
   unfold ado;exact decide_eq_false fun h=>by omega
theorem adB (i n:Nat) (aF:Int) (h1:i<=10000) (h2:n<=10000):(if IntKind.i64.wrap ((i:Int)+(if(n:Int)<(if 0>aF then 0 else aF)then(n:Int)else(if 0>aF then 0 else aF)))<(n:Int)then IntKind.i64.wrap ((i:Int)+(if(n:Int)<(if 0>aF then 0 else aF)then(n:Int)else(if 0>aF then 0 else aF)))else(n:Int))
  = ((min (i+min aF.toNat n) n:Nat):Int):=by
 have e:(if(n:Int)<(if 0>aF then 0 else aF)then(n:Int)else(if 0>aF then 0 else aF))=((min aF.toNat n:Nat):Int):=by
  by_cases h:0>aF
  .rw[Z0 h,ZY (by omega)];omega
  .rw[ZY h];split <;> omega
 rw[e,wr (by omega)];split <;> omega
theorem adC (l:List Nm) (i:Nat) (aF:Int) (hi:i<=l.length):List.drop i (List.take (min (i+min aF.toNat l.length) l.length) l)=(l.drop i).take aF.toNat:=by
 rw[List.drop_take,List.take_eq_take_iff,aar];omega
theorem adT (after:Nm) (aF:Int) (C3:-9223372036854775808<=aF/\aF<=9223372036854775807) (Qi:(eD K).Pairwise kQ):MU Tryz.prog 21 [.ptr 0 0,zB after,.I aF] [.bq (nn K m c)] (.aL uR fun _=>ady (eD K) after aF) [.bq (nn K m c)]:=by
 have had:=adr (x:=after) Qi;have ES:=adw (eD K) after;(refine aa.q Tryz.func21 rfl fun S aw=>Wa _ ?_;(repeat' first|exact tv|apply pr|intro hh));(refine ab.q (Vp (K:=K) (m:=m) (c:=c)) [0] ?_;rintro _ ⟨⟨q1,q2⟩,q3⟩;refine Wp _ ?_;(repeat' first|exact tv|apply pr|intro hh));have Az:=ad4 (eD K) Qi (by omega) after;cases kj:ado (eD K) after with
 | true =>
  rw[kj]at Az had;rw[Z0 rfl]at had;have bf:adh (eD K) after<(eD K).length:=(of_decide_eq_true (show decide (_/\_)=true from kj)).1;have ei:IntKind.i64.wrap ((adh (eD K) after:Int)+1)=((adh (eD K) after+1:Nat):Int):=by rw[wr (by omega)];omega
  have aez:=adB (adh (eD K) after+1) (eD K).length aF (by omega) (by omega);have ec:=adC (eD K) (adh (eD K) after+1) aF (by omega);(refine ab.q Az [] fun _ _=>Wp _ ?_;(repeat' first|exact tv|apply pr|intro hh));all_goals simp only[ei,aez]
  .exact Ob.mk ⟨by omega,by omega,by omega⟩
  .refine ae.w () [0] _ ?_;repeat' first|exact tv|apply pr
   rw[ady,<-had,Z4,Z4,ec]
 | false =>
  rw[kj]at Az had;rw[ZY (by decide)]at had;have aez:=adB (adh (eD K) after) (eD K).length aF (by omega) (by omega);have ec:=adC (eD K) (adh (eD K) after) aF (by omega);(refine ab.q Az [] fun _ _=>Wp _ ?_;(repeat' first|exact tv|apply pr|intro hh));all_goals simp only[aez]
  .exact Ob.mk ⟨by omega,by omega,by omega⟩
  .refine ae.w () [0] _ ?_;repeat' first|exact tv|apply pr
   rw[ady,<-had,Z4,Z4,ec]
end
end Go.Proofs.YthnefnlhcijekaaGreat.En
set_option maxRecDepth 8000
namespace Go.Proofs.YthnefnlhcijekaaGreat.En
open Go Go.RowKit Fw Hi Ce
abbrev om:Ty:=.pair (.int .i64) (.pair (.list Zj) (.pair (.int .i64) UI))
abbrev OpB:=Int×List adi×Int×ay
def okB (o:OpB):Prop:=o.2.1.length<=12/\∀ a∈o.2.1,a.2.1.length<=60
instance (o:OpB):Decidable (okB o):=inferInstanceAs (Decidable (_/\_))
def adP (l:List OpB) (aF:Int):Prop:=(l.length:Int)<=aF/\∀ o∈l,okB o
instance (l:List OpB) (aF:Int):Decidable (adP l aF):=inferInstanceAs (Decidable (_/\_))
theorem getD_in {α:Type} {l:List α} {i:Nat} (d:α) (h:i<l.length):l.getD i d∈l:=by rw[ZZ,Z1 h];exact aax _
theorem adD {α:Type} {l:List α} {p:α->Prop} (d:α) (h:∀ j,j<l.length->p (l.getD j d)):∀ o∈l,p o:=fun o ho=>by
 obtain⟨j,hj⟩:=aaa.1 ho;have:=h j (Z2.1 hj).1;rw[ZZ,hj]at this;exact this
theorem adZ (l:List OpB) (aF:Int) (dJ:aF<=1000):MU Tryz.prog 17 [.aL om fun _=>l,.I aF] [] (.bool fun _=>decide (adP l aF)) []:=by
 by_cases h0:(l.length:Int)<=aF;rotate_left
 .rw[decide_eq_false fun h=>h0 h.1]
  (refine aa.q Tryz.func17 rfl fun S aw=>Wa _ ?_;(repeat' first|exact tv|apply pr|intro hh));all_goals try (exfalso;omega)
  all_goals exact ae.z () []
 (refine aa.q Tryz.func17 rfl fun S aw=>Wa _ ?_;(repeat' first|exact tv|apply pr|intro hh));all_goals try (exfalso;omega)
 refine aM.intro hm (X:=Nat) (fun i=>i<=l.length/\∀ j,j<i->okB (l.getD j om.bA)) (fun i=>l.length - i)
  (fun i=>[(0,.aL om fun _=>l),(5,.I (i:Int))]) (fun i=>[]) 0 [] ⟨rfl,rfl,?_,?_⟩ ⟨aae _,fun j hj=>absurd hj (abW j)⟩ ?_
 .exact Vc
 .exact Vc
 rintro i ⟨hi,jG⟩;by_cases dp:i<l.length;rotate_left
 .have IL:i=l.length:=by omega
  subst IL;rw[decide_eq_true (show adP l aF from⟨h0,adD om.bA jG⟩)];(refine Wa _ ?_;(repeat' first|exact tv|apply pr|intro hh));all_goals try (exfalso;omega)
  exact ae.z () []
 have C3:=getD_in om.bA dp;by_cases Qp:(l.getD ((i:Int)).toNat om.bA).2.1.length<=12;rotate_left
 .rw[decide_eq_false fun h=>Qp (h.2 _ C3).1]
  (refine Wa _ ?_;(repeat' first|exact tv|apply pr|intro hh));all_goals first|exact Ob.mk ⟨by simp only[];omega,by simp only[];omega⟩|(exfalso;omega)|skip
  exact ae.z () []
 (refine Wa _ ?_;(repeat' first|exact tv|apply pr|intro hh));all_goals first|exact Ob.mk ⟨by simp only[];omega,by simp only[];omega⟩|(exfalso;omega)|skip
 refine aM.intro hm (X:=Nat) (fun k=>k<=(l.getD ((i:Int)).toNat om.bA).2.1.length/\∀ j,j<k->((l.getD ((i:Int)).toNat om.bA).2.1.getD j Zj.bA).2.1.length<=60) (fun k=>(l.getD ((i:Int)).toNat om.bA).2.1.length - k)
  (fun k=>[(0,.aL om fun _=>l),(5,.I (i:Int)),(6,.I (k:Int))]) (fun k=>[]) 0 [] ⟨rfl,rfl,?_,?_⟩ ⟨aae _,fun j hj=>absurd hj (abW j)⟩ ?_
 .exact Vc
 .exact Vc
 rintro k ⟨hk,hka⟩;(refine Wa _ ?_;(repeat' first|exact tv|apply pr|intro hh));all_goals first|exact Ob.mk ⟨by simp only[];omega,by simp only[];omega⟩|skip
 .have Af:=getD_in Zj.bA (show k<(l.getD ((i:Int)).toNat om.bA).2.1.length by omega)
  rw[decide_eq_false fun h=>absurd ((h.2 _ C3).2 _ Af) (by have:=hh;simp only[Z4]at this ⊢;omega)];exact ae.z () []
 .refine⟨k+1,[],⟨rfl,rfl,?_,?_⟩,⟨by show k+1<=_;omega,fun j hj=>?_⟩,by show _ - (k+1)<_ - k;omega⟩
  .exact Vc
  .refine Vb _ ?_;repeat' first|exact tv|apply pr
   rw[wr (by omega)];omega
  .by_cases e:j=k
   .subst e
    have:=hh;simp only[Z4]at this ⊢;omega
   .exact hka j (by omega)
 .have Wu:k=(l.getD ((i:Int)).toNat om.bA).2.1.length:=by omega
  subst Wu;refine⟨i+1,[],⟨rfl,rfl,?_,?_⟩,⟨by show i+1<=_;omega,fun j hj=>?_⟩,by show _ - (i+1)<_ - i;omega⟩
  .exact Vc
  .refine Vb _ ?_;repeat' first|exact tv|apply pr
   rw[wr (by omega)];omega
  .by_cases e:j=i
   .subst e;exact⟨Qp,adD Zj.bA hka⟩
   .exact jG j (by omega)
def lbP:ay:=(2,2,10,0)
def lbK (L:Hs):Kt:=⟨9,0,LV.set 0 (true,lbP,1),L⟩
def lbB:Hs:=[((0,[97]),[(0,1)]),((0,[98]),[(0,1)])]
def lbC:Hs:=[((0,[97]),[(0,1),(0,1)]),((0,[98]),[(0,1)]),((0,[99]),[(0,2)])]
def a97 (n:Int):adi:=(0,[97],n)
theorem lb1:qQ (W6 9) 0 lbP=(lbK [],1,0):=by kernel_rfl
theorem lb2:adm (lbK []) [a97 1,a97 2]=(lbK [],(QD (lbK []) [a97 1,a97 2]).2,false,0):=by kernel_rfl
theorem lb3:adg (lbK []) [a97 1,a97 2,(0,[98],1)]=(lbK lbB,(QD (lbK []) [a97 1,a97 2,(0,[98],1)]).2,0):=by kernel_rfl
theorem lb4:adm (lbK lbB) [a97 1,(0,[99],2)]=(lbK lbC,(QD (lbK lbB) [a97 1,(0,[99],2)]).2,true,0):=by kernel_rfl
theorem lb5:adg (lbK lbC) []=(lbK lbC,[],1):=by kernel_rfl
theorem lb6:ady (eD (lbK lbC)) (0,[]) 2=[(0,[97]),(0,[98])]:=by kernel_rfl
theorem lb7:ady (eD (lbK lbC)) (0,[98]) 2=[(0,[99])]:=by kernel_rfl
theorem lb8:(eD (lbK lbC)).Pairwise kQ:=by
 have e:eD (lbK lbC)=[(0,[97]),(0,[98]),(0,[99])]:=by kernel_rfl
 rw[e];decide
end Go.Proofs.YthnefnlhcijekaaGreat.En
set_option maxRecDepth 8000
namespace Go.Proofs.YthnefnlhcijekaaGreat.En
open Go Go.RowKit Fw Hi Ce
def lt1:List L1:=[(0,true,1,0,10),(0,false,1,10,10)]
def lt2:List L1:=[(0,true,1,0,10),(0,false,1,10,10),(0,true,1,0,10)]
def lt3:List L1:=[(0,true,0,0,10),(0,true,0,0,10)]
theorem le1:(QD (lbK []) [a97 1,a97 2]).2=lt1:=by kernel_rfl
theorem le2:(QD (lbK []) [a97 1,a97 2,(0,[98],1)]).2=lt2:=by kernel_rfl
theorem le3:(QD (lbK lbB) [a97 1,(0,[99],2)]).2=lt3:=by kernel_rfl
set_option maxHeartbeats 1000000 in
theorem adF:MU Tryz.prog 18 [] [] .tt []:=by
 have h1:=fun c=>Zh (K:=W6 9) (m:=0) (m':=1) (c:=c) 0 lbP (by omega);have h2:=fun c=>adS (K:=lbK []) (m:=1) (m':=9) (c:=c) [a97 1,a97 2] (by omega) (by omega);have h3:=fun c=>adz (K:=lbK []) (m:=9) (m':=17) (c:=c) [a97 1,a97 2,(0,[98],1)] (by omega) (by omega);have h4:=fun c=>adS (K:=lbK lbB) (m:=17) (m':=25) (c:=c) [a97 1,(0,[99],2)] (by omega) (by omega);have h5:=fun c=>adz (K:=lbK lbC) (m:=25) (m':=33) (c:=c) [] (by omega) (by omega);have h6:=fun c=>adT (K:=lbK lbC) (m:=33) (c:=c) (0,[]) 2 (by omega) lb8;have h7:=fun c=>adT (K:=lbK lbC) (m:=33) (c:=c) (0,[98]) 2 (by omega) lb8;simp only[lb1]at h1;simp only[lb2,le1]at h2;simp only[lb3,le2]at h3;simp only[lb4,le3]at h4;simp only[lb5]at h5;simp only[lb6]at h6;simp only[lb7]at h7;unfold lt1 at h2;unfold lt2 at h3;unfold lt3 at h4;(refine aa.q Tryz.func18 rfl fun S aw=>Wa _ ?_;(repeat' first|exact tv|apply pr|intro hh));(refine ab.q (Zi 9 0 (by omega)) [] fun _ _=>Wp _ ?_;(repeat' first|exact tv|apply pr|intro hh));(refine ab.q (h1 0) [0] ?_;rintro c1 _;refine Wp _ ?_;(repeat' first|exact tv|apply pr|intro hh));refine ab.gU 1 ?_ (h2 c1).aA;(conv=>whnf);(refine ab.q (h2 c1) [0] ?_;rintro c2 _;refine Wp _ ?_;(repeat' first|exact tv|apply pr|intro hh));refine ab.gU 2 ?_ (h3 c2).aA;(conv=>whnf);(refine ab.q (h3 c2) [0] ?_;rintro c3 _;refine Wp _ ?_;(repeat' first|exact tv|apply pr|intro hh));refine ab.gU 3 ?_ (h4 c3).aA;(conv=>whnf);(refine ab.q (h4 c3) [0] ?_;rintro aeA _;refine Wp _ ?_;(repeat' first|exact tv|apply pr|intro hh));(refine ab.q (h5 aeA) [0] ?_;rintro aeB _;refine Wp _ ?_;(repeat' first|exact tv|apply pr|intro hh));(refine ab.q (h6 aeB) [0] fun _ _=>Wp _ ?_;(repeat' first|exact tv|apply pr|intro hh));(refine ab.q (h7 aeB) [0] fun _ _=>Wp _ ?_;(repeat' first|exact tv|apply pr|intro hh));exact ae.z () []
end Go.Proofs.YthnefnlhcijekaaGreat.En
set_option maxRecDepth 8000
namespace Go.Proofs.YthnefnlhcijekaaGreat.En
open Go Go.RowKit Fw Hi Ce
theorem Small.adg {K:Kt} {m:Nat} (s:Small K m) (l:List adi):Small (adg K l).1 (m+8):=by
 unfold En.adg;split
 .exact s.up (by omega)
 .rename_i h;unfold adl at h
  exact(s.each l).up (by omega)
end Go.Proofs.YthnefnlhcijekaaGreat.En
set_option maxRecDepth 8000
namespace Go.Proofs.YthnefnlhcijekaaGreat.En
open Go Go.RowKit Fw Hi Ce
theorem adt {d:L1} {d':adi}:∀ (l:List adi) (K:Kt) (j:Nat),j<l.length->(QD K l).2.getD j d=(adj (QD K (l.take j)).1 (l.getD j d')).2
 | [],_,_,h=>absurd h (abW _)
 | a::r,K,0,_=>rfl
 | a::r,K,j+1,h=>adt r (adj K a).1 j (by simpa using h)
theorem adG (K:Kt) {l:List adi} (h:¬adl l):adm K (l.take 1)=if wo ((QD K l).2.getD 0 adf.bA)=true then(K,[(QD K l).2.getD 0 adf.bA],false,0)else((QD K (l.take 1)).1,[(QD K l).2.getD 0 adf.bA],true,0):=by
 cases l with
 | nil=>exact absurd (.inl rfl) h
 | cons a r =>
  have e:(QD K (a::r)).2.getD 0 adf.bA=(adj K a).2:=rfl;have e2:(a::r).take 1=[a]:=rfl;have e3:QD K [a]=((adj K a).1,[(adj K a).2]):=rfl;have e4:[(adj K a).2].any wo=wo (adj K a).2:=by simp
  rw[e,e2];unfold adm;rw[ZY (by unfold adl;simp),e3,e4]
structure OnI (K:Kt) (l:List adi) (z:Nat×Nat×Kt):Prop where
 le:z.1<=l.length
 eq:(QD K (l.take z.1)).1=z.2.2
structure BoI (l:List OpB) (z:Nat×Kt×Nat×Nat):Prop where
 le:z.1<=l.length
 s:Small z.2.1 (9*z.1)
 m:z.2.2.1<=1+12*z.1
set_option maxHeartbeats 2000000 in
theorem adJ (n sd:Int) (p:ay) (l:List OpB):MU Tryz.prog 5 [Ir n sd,aI p,.aL om fun _=>l] [] .tt []:=by
 have Pe:ke=1099511627776:=rfl;have Kn:=adZ l 20 (by omega);by_cases hn:1<=n/\n<=64;rotate_left
 .by_cases hf:adP l 20
  all_goals first|rw[decide_eq_true hf]at Kn|rw[decide_eq_false hf]at Kn
  all_goals (refine aa.q Tryz.func5 rfl fun S aw=>?_;(conv=>whnf))
  all_goals refine Wa _ ?_;repeat' first|exact tv|apply pr|intro hh
  all_goals refine ab.q (S7 n sd hn) [] fun _ _=>Wp _ ?_;repeat' first|exact tv|apply pr|intro hh
  all_goals refine ab.q Kn [] fun _ _=>Wp _ ?_;repeat' first|exact tv|apply pr|intro hh
  all_goals refine ab.q adF [] fun _ _=>Wp _ ?_;repeat' first|exact tv|apply pr|intro hh
  all_goals exact ae.z () []
 by_cases hf:adP l 20;rotate_left
 .rw[decide_eq_false hf]at Kn
  (refine aa.q Tryz.func5 rfl fun S aw=>Wa _ ?_;(repeat' first|exact tv|apply pr|intro hh));(refine ab.q (Zi n sd hn) [] fun _ _=>Wp _ ?_;(repeat' first|exact tv|apply pr|intro hh));(refine ab.q Kn [] fun _ _=>Wp _ ?_;(repeat' first|exact tv|apply pr|intro hh));all_goals refine ab.q adF [] fun _ _=>Wp _ ?_;repeat' first|exact tv|apply pr|intro hh
  all_goals exact ae.z () []
 rw[decide_eq_true hf]at Kn;have hl20:=hf.1;have DH:=Zh (K:=W6 n) (m:=0) (m':=1) (c:=0) 0 p (by omega);have Nw:=(Small.zero hn).set 0 p;(refine aa.q Tryz.func5 rfl fun S aw=>Wa _ ?_;(repeat' first|exact tv|apply pr|intro hh));(refine ab.q (Zi n sd hn) [] fun _ _=>Wp _ ?_;(repeat' first|exact tv|apply pr|intro hh));(refine ab.q Kn [] fun _ _=>Wp _ ?_;(repeat' first|exact tv|apply pr|intro hh));(refine ab.q DH [2] ?_;rintro c0 _;refine Wp _ ?_;(repeat' first|exact tv|apply pr|intro hh));refine aM.intro hm (X:=Nat×Kt×Nat×Nat) (BoI l) (fun z=>l.length - z.1)
  (fun z=>[(2,.aL om fun _=>l),(7,.ptr 0 0),(9,.I (z.1:Int))])
  (fun z=>[.bq (nn z.2.1 z.2.2.1 z.2.2.2)]) (0,_,1,c0) [2] ⟨rfl,rfl,?_,?_⟩ ⟨aae _,Nw,Z8 _⟩ ?_
 .exact Vc
 .exact Vc
 rintro⟨i,K,m,c⟩ hI;have hi:=hI.le;have hs:=hI.s;have Rx:=hI.m;simp only[]at hi hs Rx;have Zb:=hs.now;by_cases dp:i<l.length;rotate_left
 .refine Wa _ ?_;repeat' first|exact tv|apply pr|intro hh
  all_goals try (exfalso;omega)
  all_goals refine ab.q adF [] fun _ _=>Wp _ ?_;repeat' first|exact tv|apply pr|intro hh
  all_goals exact ae.z () []
 by_cases hr:0<=(l.getD ((i:Int)).toNat om.bA).2.2.1/\(l.getD ((i:Int)).toNat om.bA).2.2.1<=1048576
 .have ew:IntKind.i64.wrap (K.now+(l.getD ((i:Int)).toNat om.bA).2.2.1)=K.now+(l.getD ((i:Int)).toNat om.bA).2.2.1:=wr (by omega)
  have ht0:=W0 (K:=K) (m:=m) (m':=m+1) (c:=c) 0 (by omega);rw[adX hs]at ht0;have ht1:=fun c=>W0 (K:=K) (m:=m+1) (m':=m+2) (c:=c) (K.now+(l.getD ((i:Int)).toNat om.bA).2.2.1) (by omega);(refine Wa _ ?_;(repeat' first|exact tv|apply pr|intro hh));all_goals first|exact Ob.mk ⟨by simp only[];omega,by simp only[];omega⟩|(exfalso;omega)|skip
  all_goals refine ab.q ht0 [0] ?_;rintro c1 _;refine Wp _ ?_;repeat' first|exact tv|apply pr|intro hh
  all_goals first|exact Ob.mk ⟨by simp only[];omega,by simp only[];omega⟩|(exfalso;omega)|skip
  all_goals simp only[ew]
  (refine ab.q (ht1 c1) [0] ?_;rintro aeC _;refine Wp _ ?_;(repeat' first|exact tv|apply pr|intro hh));have hsx:Small (mq K (K.now+(l.getD ((i:Int)).toNat om.bA).2.2.1)) (9*i):=hs.tick _;have hex:=(hsx.adg (l.getD ((i:Int)).toNat om.bA).2.1).up (show 9*i+8<=9*(i+1) by omega);have hcp:=W4 (K:=(mq K (K.now+(l.getD ((i:Int)).toNat om.bA).2.2.1))) (m:=(m+2)) (c:=aeC);have hea:=adz (K:=(mq K (K.now+(l.getD ((i:Int)).toNat om.bA).2.2.1))) (m:=(m+2)) (m':=(m+2)+8) (c:=aeC) (l.getD ((i:Int)).toNat om.bA).2.1 (by omega) (by omega);by_cases hb:adl (l.getD ((i:Int)).toNat om.bA).2.1
  .have e1:adg (mq K (K.now+(l.getD ((i:Int)).toNat om.bA).2.2.1)) (l.getD ((i:Int)).toNat om.bA).2.1=((mq K (K.now+(l.getD ((i:Int)).toNat om.bA).2.2.1)),[],1):=by unfold adg;rw[Z0 hb]
   rw[e1]at hea hex;all_goals refine ab.q hcp [0] ?_;rintro aeD _;refine Wp _ ?_;repeat' first|exact tv|apply pr|intro hh
   all_goals refine ab.q hcp [0] ?_;rintro aeE _;refine Wp _ ?_;repeat' first|exact tv|apply pr|intro hh
   all_goals first|exact Ob.mk ⟨by simp only[];omega,by simp only[];omega⟩|(exfalso;omega)|skip
   all_goals refine ab.q hea [0] ?_;rintro aeF _;refine Wp _ ?_;repeat' first|exact tv|apply pr|intro hh
   all_goals refine⟨(i+1,(mq K (K.now+(l.getD ((i:Int)).toNat om.bA).2.2.1)),(m+2)+8,aeF),[0],⟨rfl,rfl,?_,?_⟩,⟨dp,hex,by show(m+2)+8<=_;omega⟩,by show _ - (i+1)<_ - i;omega⟩
   all_goals refine Vb _ ?_;repeat' first|exact tv|apply pr
   all_goals first|(rw[wr (by omega)];omega)|skip
  have e1:adg (mq K (K.now+(l.getD ((i:Int)).toNat om.bA).2.2.1)) (l.getD ((i:Int)).toNat om.bA).2.1=((QD (mq K (K.now+(l.getD ((i:Int)).toNat om.bA).2.2.1)) (l.getD ((i:Int)).toNat om.bA).2.1).1,(QD (mq K (K.now+(l.getD ((i:Int)).toNat om.bA).2.2.1)) (l.getD ((i:Int)).toNat om.bA).2.1).2,0):=by unfold adg;rw[ZY hb]
  have EM:=adk (l.getD ((i:Int)).toNat om.bA).2.1 (mq K (K.now+(l.getD ((i:Int)).toNat om.bA).2.2.1));have Aj:=fun c=>adS (K:=(mq K (K.now+(l.getD ((i:Int)).toNat om.bA).2.2.1))) (m:=(m+2)) (m':=(m+2)+8) (c:=c) ((l.getD ((i:Int)).toNat om.bA).2.1.take 1) (by omega) (by omega);simp only[adG (mq K (K.now+(l.getD ((i:Int)).toNat om.bA).2.2.1)) hb]at Aj;unfold adl at hb;rw[e1]at hea hex;(refine ab.q hcp [0] ?_;rintro aeD _;refine Wp _ ?_;(repeat' first|exact tv|apply pr|intro hh));(refine ab.q hcp [0] ?_;rintro aeE _;refine Wp _ ?_;(repeat' first|exact tv|apply pr|intro hh));all_goals first|exact Ob.mk ⟨by simp only[];omega,by simp only[];omega⟩|(exfalso;omega)|skip
  (refine ab.q hea [0] ?_;rintro aeF _;refine Wp _ ?_;(repeat' first|exact tv|apply pr|intro hh));refine aM.intro hm (X:=Nat×Nat×Kt) (OnI (mq K (K.now+(l.getD ((i:Int)).toNat om.bA).2.2.1)) (l.getD ((i:Int)).toNat om.bA).2.1) (fun z=>(l.getD ((i:Int)).toNat om.bA).2.1.length - z.1)
   (fun z=>[(2,.aL om fun _=>l),(7,.ptr 0 0),(9,.I (i:Int)),(10,.ptr 1 0),(11,.ptr 2 0),(12,.aL adf fun _=>(QD (mq K (K.now+(l.getD ((i:Int)).toNat om.bA).2.2.1)) (l.getD ((i:Int)).toNat om.bA).2.1).2),(14,.I (z.1:Int))])
   (fun z=>[.bq (nn (QD (mq K (K.now+(l.getD ((i:Int)).toNat om.bA).2.2.1)) (l.getD ((i:Int)).toNat om.bA).2.1).1 ((m+2)+8) aeF),.bq (nn z.2.2 ((m+2)+z.1) z.2.1),.bq (nn (mq K (K.now+(l.getD ((i:Int)).toNat om.bA).2.2.1)) (m+2) aeE)]) (0,aeD,(mq K (K.now+(l.getD ((i:Int)).toNat om.bA).2.2.1))) [0,1,2] ⟨rfl,rfl,?_,?_⟩ ⟨aae _,rfl⟩ ?_
  .exact Vc
  .exact Vc
  rintro⟨j,ck1,aey⟩ hJ;have hj:=hJ.le;have Zd:=hJ.eq;simp only[]at hj Zd;by_cases q8:j<(l.getD ((i:Int)).toNat om.bA).2.1.length
  .have Wi:=Vo (K:=aey) (m:=(m+2)+j) (m':=(m+2)+(j+1)) (c:=ck1) (aNm ((l.getD ((i:Int)).toNat om.bA).2.1.getD ((j:Int)).toNat Zj.bA)) ((l.getD ((i:Int)).toNat om.bA).2.1.getD ((j:Int)).toNat Zj.bA).2.2 (by omega) (by omega)
   have cL:(QD (mq K (K.now+(l.getD ((i:Int)).toNat om.bA).2.2.1)) (l.getD ((i:Int)).toNat om.bA).2.1).2.getD ((j:Int)).toNat adf.bA=(dV aey (aNm ((l.getD ((i:Int)).toNat om.bA).2.1.getD ((j:Int)).toNat Zj.bA)) ((l.getD ((i:Int)).toNat om.bA).2.1.getD ((j:Int)).toNat Zj.bA).2.2).2:=by
    have:=adt (d:=adf.bA) (d':=Zj.bA) (l.getD ((i:Int)).toNat om.bA).2.1 (mq K (K.now+(l.getD ((i:Int)).toNat om.bA).2.2.1)) j q8;rw[Zd]at this;exact this
   have fR:(QD (mq K (K.now+(l.getD ((i:Int)).toNat om.bA).2.2.1)) ((l.getD ((i:Int)).toNat om.bA).2.1.take (j+1))).1=(dV aey (aNm ((l.getD ((i:Int)).toNat om.bA).2.1.getD ((j:Int)).toNat Zj.bA)) ((l.getD ((i:Int)).toNat om.bA).2.1.getD ((j:Int)).toNat Zj.bA).2.2).1:=by
    rw[adn Zj.bA q8,Zd];rfl
   (refine Wa _ ?_;(repeat' first|exact tv|apply pr|intro hh));all_goals first|exact Ob.mk ⟨by simp only[];omega,by simp only[];omega⟩|(exfalso;omega)|skip
   all_goals refine ab.q Wi [1] ?_;rintro ck2 _;refine Wp _ ?_;repeat' first|exact tv|apply pr|intro hh
   all_goals first|exact Ob.mk ⟨by simp only[];omega,by simp only[];omega⟩|(exfalso;omega)|skip
   all_goals first|(exact absurd cL.symm ((Gk _ rfl _ _).1 hh))|skip
   all_goals refine⟨(j+1,ck2,(dV aey (aNm ((l.getD ((i:Int)).toNat om.bA).2.1.getD ((j:Int)).toNat Zj.bA)) ((l.getD ((i:Int)).toNat om.bA).2.1.getD ((j:Int)).toNat Zj.bA).2.2).1),[0,1,2],⟨rfl,rfl,?_,?_⟩,⟨q8,fR⟩,by show _ - (j+1)<_ - j;omega⟩
   all_goals refine Vb _ ?_;repeat' first|exact tv|apply pr
   all_goals first|(rw[wr (by omega)];omega)|skip
  cases sI:wo ((QD (mq K (K.now+(l.getD ((i:Int)).toNat om.bA).2.2.1)) (l.getD ((i:Int)).toNat om.bA).2.1).2.getD (Int.toNat 0) adf.bA)with
  | true =>
   have ht:((QD (mq K (K.now+(l.getD ((i:Int)).toNat om.bA).2.2.1)) (l.getD ((i:Int)).toNat om.bA).2.1).2.getD (Int.toNat 0) adf.bA).1=0->((QD (mq K (K.now+(l.getD ((i:Int)).toNat om.bA).2.2.1)) (l.getD ((i:Int)).toNat om.bA).2.1).2.getD (Int.toNat 0) adf.bA).2.1=false:=fun h=>by
    unfold wo at sI;rw[decide_eq_true h]at sI;simpa using sI
   simp only[show Int.toNat 0=0 from rfl]at sI;simp only[sI,if_true]at Aj;(refine Wa _ ?_;(repeat' first|exact tv|apply pr|intro hh));all_goals first|exact Ob.mk ⟨by simp only[];omega,by simp only[];omega⟩|(exfalso;omega)|skip
   all_goals refine ab.q (Aj aeE) [2] ?_;rintro cm2 _;refine Wp _ ?_;repeat' first|exact tv|apply pr|intro hh
   all_goals first|exact Ob.mk ⟨by simp only[];omega,by simp only[];omega⟩|(exfalso;omega)|skip
   all_goals first|(exact absurd rfl hh)|(exact absurd rfl ((Gk _ rfl _ _).1 hh))|(exfalso;have h9:=ht ‹_›;rw[h9]at hh;exact absurd hh (by decide))|skip
   all_goals refine⟨(i+1,(QD (mq K (K.now+(l.getD ((i:Int)).toNat om.bA).2.2.1)) (l.getD ((i:Int)).toNat om.bA).2.1).1,(m+2)+8,aeF),[0],⟨rfl,rfl,?_,?_⟩,⟨dp,hex,by show(m+2)+8<=_;omega⟩,by show _ - (i+1)<_ - i;omega⟩
   all_goals refine Vb _ ?_;repeat' first|exact tv|apply pr
   all_goals first|(rw[wr (by omega)];omega)|skip
  | false =>
   have ht:((QD (mq K (K.now+(l.getD ((i:Int)).toNat om.bA).2.2.1)) (l.getD ((i:Int)).toNat om.bA).2.1).2.getD (Int.toNat 0) adf.bA).1=0/\((QD (mq K (K.now+(l.getD ((i:Int)).toNat om.bA).2.2.1)) (l.getD ((i:Int)).toNat om.bA).2.1).2.getD (Int.toNat 0) adf.bA).2.1=true:=by
    unfold wo at sI;simpa using sI
   have ht1:=ht.1;have qW:=ht.2;simp only[show Int.toNat 0=0 from rfl]at sI;simp only[sI,if_false,Bool.false_eq_true]at Aj;(refine Wa _ ?_;(repeat' first|exact tv|apply pr|intro hh));all_goals first|exact Ob.mk ⟨by simp only[];omega,by simp only[];omega⟩|(exfalso;omega)|skip
   all_goals refine ab.q (Aj aeE) [2] ?_;rintro cm2 _;refine Wp _ ?_;repeat' first|exact tv|apply pr|intro hh
   all_goals first|exact Ob.mk ⟨by simp only[];omega,by simp only[];omega⟩|(exfalso;omega)|skip
   all_goals first|(exact absurd rfl hh)|(exact absurd rfl ((Gk _ rfl _ _).1 hh))|(exact absurd ht1 ‹_›)|(exfalso;rw[qW]at hh;exact absurd hh (by decide))|skip
   all_goals refine⟨(i+1,(QD (mq K (K.now+(l.getD ((i:Int)).toNat om.bA).2.2.1)) (l.getD ((i:Int)).toNat om.bA).2.1).1,(m+2)+8,aeF),[0],⟨rfl,rfl,?_,?_⟩,⟨dp,hex,by show(m+2)+8<=_;omega⟩,by show _ - (i+1)<_ - i;omega⟩
   all_goals refine Vb _ ?_;repeat' first|exact tv|apply pr
   all_goals first|(rw[wr (by omega)];omega)|skip
 .refine Wa _ ?_;repeat' first|exact tv|apply pr|intro hh
  all_goals first|exact Ob.mk ⟨by simp only[];omega,by simp only[];omega⟩|(exfalso;omega)|skip
  all_goals
   have hsx:Small K (9*i):=hs;have hex:=(hsx.adg (l.getD ((i:Int)).toNat om.bA).2.1).up (show 9*i+8<=9*(i+1) by omega);have hcp:=W4 (K:=K) (m:=m) (c:=c);have hea:=adz (K:=K) (m:=m) (m':=m+8) (c:=c) (l.getD ((i:Int)).toNat om.bA).2.1 (by omega) (by omega);by_cases hb:adl (l.getD ((i:Int)).toNat om.bA).2.1
   .have e1:adg K (l.getD ((i:Int)).toNat om.bA).2.1=(K,[],1):=by unfold adg;rw[Z0 hb]
    rw[e1]at hea hex;all_goals refine ab.q hcp [0] ?_;rintro aeD _;refine Wp _ ?_;repeat' first|exact tv|apply pr|intro hh
    all_goals refine ab.q hcp [0] ?_;rintro aeE _;refine Wp _ ?_;repeat' first|exact tv|apply pr|intro hh
    all_goals first|exact Ob.mk ⟨by simp only[];omega,by simp only[];omega⟩|(exfalso;omega)|skip
    all_goals refine ab.q hea [0] ?_;rintro aeF _;refine Wp _ ?_;repeat' first|exact tv|apply pr|intro hh
    all_goals refine⟨(i+1,K,m+8,aeF),[0],⟨rfl,rfl,?_,?_⟩,⟨dp,hex,by show m+8<=_;omega⟩,by show _ - (i+1)<_ - i;omega⟩
    all_goals refine Vb _ ?_;repeat' first|exact tv|apply pr
    all_goals first|(rw[wr (by omega)];omega)|skip
   have e1:adg K (l.getD ((i:Int)).toNat om.bA).2.1=((QD K (l.getD ((i:Int)).toNat om.bA).2.1).1,(QD K (l.getD ((i:Int)).toNat om.bA).2.1).2,0):=by unfold adg;rw[ZY hb]
   have EM:=adk (l.getD ((i:Int)).toNat om.bA).2.1 K;have Aj:=fun c=>adS (K:=K) (m:=m) (m':=m+8) (c:=c) ((l.getD ((i:Int)).toNat om.bA).2.1.take 1) (by omega) (by omega);simp only[adG K hb]at Aj;unfold adl at hb;rw[e1]at hea hex;(refine ab.q hcp [0] ?_;rintro aeD _;refine Wp _ ?_;(repeat' first|exact tv|apply pr|intro hh));(refine ab.q hcp [0] ?_;rintro aeE _;refine Wp _ ?_;(repeat' first|exact tv|apply pr|intro hh));all_goals first|exact Ob.mk ⟨by simp only[];omega,by simp only[];omega⟩|(exfalso;omega)|skip
   (refine ab.q hea [0] ?_;rintro aeF _;refine Wp _ ?_;(repeat' first|exact tv|apply pr|intro hh));refine aM.intro hm (X:=Nat×Nat×Kt) (OnI K (l.getD ((i:Int)).toNat om.bA).2.1) (fun z=>(l.getD ((i:Int)).toNat om.bA).2.1.length - z.1)
    (fun z=>[(2,.aL om fun _=>l),(7,.ptr 0 0),(9,.I (i:Int)),(10,.ptr 1 0),(11,.ptr 2 0),(12,.aL adf fun _=>(QD K (l.getD ((i:Int)).toNat om.bA).2.1).2),(14,.I (z.1:Int))])
    (fun z=>[.bq (nn (QD K (l.getD ((i:Int)).toNat om.bA).2.1).1 (m+8) aeF),.bq (nn z.2.2 (m+z.1) z.2.1),.bq (nn K m aeE)]) (0,aeD,K) [0,1,2] ⟨rfl,rfl,?_,?_⟩ ⟨aae _,rfl⟩ ?_
   .exact Vc
   .exact Vc
   rintro⟨j,ck1,aey⟩ hJ;have hj:=hJ.le;have Zd:=hJ.eq;simp only[]at hj Zd;by_cases q8:j<(l.getD ((i:Int)).toNat om.bA).2.1.length
   .have Wi:=Vo (K:=aey) (m:=m+j) (m':=m+(j+1)) (c:=ck1) (aNm ((l.getD ((i:Int)).toNat om.bA).2.1.getD ((j:Int)).toNat Zj.bA)) ((l.getD ((i:Int)).toNat om.bA).2.1.getD ((j:Int)).toNat Zj.bA).2.2 (by omega) (by omega)
    have cL:(QD K (l.getD ((i:Int)).toNat om.bA).2.1).2.getD ((j:Int)).toNat adf.bA=(dV aey (aNm ((l.getD ((i:Int)).toNat om.bA).2.1.getD ((j:Int)).toNat Zj.bA)) ((l.getD ((i:Int)).toNat om.bA).2.1.getD ((j:Int)).toNat Zj.bA).2.2).2:=by
     have:=adt (d:=adf.bA) (d':=Zj.bA) (l.getD ((i:Int)).toNat om.bA).2.1 K j q8;rw[Zd]at this;exact this
    have fR:(QD K ((l.getD ((i:Int)).toNat om.bA).2.1.take (j+1))).1=(dV aey (aNm ((l.getD ((i:Int)).toNat om.bA).2.1.getD ((j:Int)).toNat Zj.bA)) ((l.getD ((i:Int)).toNat om.bA).2.1.getD ((j:Int)).toNat Zj.bA).2.2).1:=by
     rw[adn Zj.bA q8,Zd];rfl
    (refine Wa _ ?_;(repeat' first|exact tv|apply pr|intro hh));all_goals first|exact Ob.mk ⟨by simp only[];omega,by simp only[];omega⟩|(exfalso;omega)|skip
    all_goals refine ab.q Wi [1] ?_;rintro ck2 _;refine Wp _ ?_;repeat' first|exact tv|apply pr|intro hh
    all_goals first|exact Ob.mk ⟨by simp only[];omega,by simp only[];omega⟩|(exfalso;omega)|skip
    all_goals first|(exact absurd cL.symm ((Gk _ rfl _ _).1 hh))|skip
    all_goals refine⟨(j+1,ck2,(dV aey (aNm ((l.getD ((i:Int)).toNat om.bA).2.1.getD ((j:Int)).toNat Zj.bA)) ((l.getD ((i:Int)).toNat om.bA).2.1.getD ((j:Int)).toNat Zj.bA).2.2).1),[0,1,2],⟨rfl,rfl,?_,?_⟩,⟨q8,fR⟩,by show _ - (j+1)<_ - j;omega⟩
    all_goals refine Vb _ ?_;repeat' first|exact tv|apply pr
    all_goals first|(rw[wr (by omega)];omega)|skip
   cases sI:wo ((QD K (l.getD ((i:Int)).toNat om.bA).2.1).2.getD (Int.toNat 0) adf.bA)with
   | true =>
    have ht:((QD K (l.getD ((i:Int)).toNat om.bA).2.1).2.getD (Int.toNat 0) adf.bA).1=0->((QD K (l.getD ((i:Int)).toNat om.bA).2.1).2.getD (Int.toNat 0) adf.bA).2.1=false:=fun h=>by
     unfold wo at sI;rw[decide_eq_true h]at sI;simpa using sI
    simp only[show Int.toNat 0=0 from rfl]at sI;simp only[sI,if_true]at Aj;(refine Wa _ ?_;(repeat' first|exact tv|apply pr|intro hh));all_goals first|exact Ob.mk ⟨by simp only[];omega,by simp only[];omega⟩|(exfalso;omega)|skip
    all_goals refine ab.q (Aj aeE) [2] ?_;rintro cm2 _;refine Wp _ ?_;repeat' first|exact tv|apply pr|intro hh
    all_goals first|exact Ob.mk ⟨by simp only[];omega,by simp only[];omega⟩|(exfalso;omega)|skip
    all_goals first|(exact absurd rfl hh)|(exact absurd rfl ((Gk _ rfl _ _).1 hh))|(exfalso;have h9:=ht ‹_›;rw[h9]at hh;exact absurd hh (by decide))|skip
    all_goals refine⟨(i+1,(QD K (l.getD ((i:Int)).toNat om.bA).2.1).1,m+8,aeF),[0],⟨rfl,rfl,?_,?_⟩,⟨dp,hex,by show m+8<=_;omega⟩,by show _ - (i+1)<_ - i;omega⟩
    all_goals refine Vb _ ?_;repeat' first|exact tv|apply pr
    all_goals first|(rw[wr (by omega)];omega)|skip
   | false =>
    have ht:((QD K (l.getD ((i:Int)).toNat om.bA).2.1).2.getD (Int.toNat 0) adf.bA).1=0/\((QD K (l.getD ((i:Int)).toNat om.bA).2.1).2.getD (Int.toNat 0) adf.bA).2.1=true:=by
     unfold wo at sI;simpa using sI
    have ht1:=ht.1;have qW:=ht.2;simp only[show Int.toNat 0=0 from rfl]at sI;simp only[sI,if_false,Bool.false_eq_true]at Aj;(refine Wa _ ?_;(repeat' first|exact tv|apply pr|intro hh));all_goals first|exact Ob.mk ⟨by simp only[];omega,by simp only[];omega⟩|(exfalso;omega)|skip
    all_goals refine ab.q (Aj aeE) [2] ?_;rintro cm2 _;refine Wp _ ?_;repeat' first|exact tv|apply pr|intro hh
    all_goals first|exact Ob.mk ⟨by simp only[];omega,by simp only[];omega⟩|(exfalso;omega)|skip
    all_goals first|(exact absurd rfl hh)|(exact absurd rfl ((Gk _ rfl _ _).1 hh))|(exact absurd ht1 ‹_›)|(exfalso;rw[qW]at hh;exact absurd hh (by decide))|skip
    all_goals refine⟨(i+1,(QD K (l.getD ((i:Int)).toNat om.bA).2.1).1,m+8,aeF),[0],⟨rfl,rfl,?_,?_⟩,⟨dp,hex,by show m+8<=_;omega⟩,by show _ - (i+1)<_ - i;omega⟩
    all_goals refine Vb _ ?_;repeat' first|exact tv|apply pr
    all_goals first|(rw[wr (by omega)];omega)|skip
end Go.Proofs.YthnefnlhcijekaaGreat.En
namespace Go.Proofs.YthnefnlhcijekaaGreat.RBatchOne
open Go Go.ChangeShapes Go.WideShapes Go.ChangeAt Go.RowKit Fw
theorem own:ownKnob Tryz.prog.godebug=none:=by kernel_rfl
theorem laidOut:laidOutB Tryz.prog=true:=Si
theorem kids:Kids Tryz.prog (·<Tryz.prog.types.size):=Xa
theorem readable:∀ t∈Tryz.f5.params.toList,Tryz.prog.readableRec t=true/\t<Tryz.prog.types.size:=by
 have h:(Tryz.f5.params.toList.all fun t=>Tryz.prog.readableRec t && decide (t<Tryz.prog.types.size))=true:=by kernel_rfl
 intro t ht;have:=abb.1 h t ht;rw[aai,decide_eq_true_eq]at this;exact this
set_option maxRecDepth 100000 in
theorem lifted (os:Os) (started:os.Started) (H:Type) (enc:TypeId×Value->H) :
  ReturnsInHanded {} Tryz.checked os 5 .any (Rows.batchOneSpec.pre6 enc Tryz.prog Tryz.f5 Rows.batchOneRow.domain false) (Rows.batchOneSpec.post enc Tryz.prog Tryz.f5 false true false false):=by
 refine returnsInHanded_of_change (C:=Tryz.checked) own started (by kernel_rfl) Tryz.func5
  (ChangeSpec.witness6 (enc:=enc) (C:=Tryz.checked) false ⟨#[],#[.agg #[.int .i64 0,.int .u64 0],.agg #[.int .i64 0,.int .i64 0,.int .i64 0,.int .i64 0],.slice none 0 0],[]⟩ 8 (by kernel_rfl) (by kernel_rfl) (by kernel_rfl) (by kernel_rfl)) ?_
 intro W base args ds gs before ad2 hW hcnd _;have ln:∀ (j:Nat) t v,Tryz.f5.params[j]?=some t->args[j]?=some v->Value.okWide Tryz.prog W .any base t v:=ad2;have Zq:DataW.Whole enc Tryz.prog Tryz.f5.params.toList Rows.batchOneSpec.vars false W args.toList ds gs before:=hW;obtain⟨p,q,hA0,hV,_,_,_⟩:=Zq;have hA:DataW.TrodAll enc Tryz.prog W 0 (fun _=>true) true Tryz.f5.params.toList args.toList ds p:=hA0;rw[Tryz.params5]at hA ln;obtain⟨v0,v1,v2,d0,d1,d2,p0,p1,p2,rfl,rfl,rfl,h0,h1,h2⟩:=trodAll_three hA;obtain⟨rfl,rfl⟩:=trodVars_none hV;obtain⟨a0,aeG,w0⟩:=OR (ty:=(.pair (.int .i64) (.int .u64))) kids rfl rfl (of_decide_eq_true (by kernel_rfl)) (by kernel_rfl) (ln 0 _ v0 rfl rfl) h0;obtain⟨a1,r1,w1⟩:=OR (ty:=Hi.UI) kids rfl rfl (of_decide_eq_true (by kernel_rfl)) (by kernel_rfl) (ln 1 _ v1 rfl rfl) h1;obtain⟨a2,r2,w2⟩:=Se (ty:=(.list En.om)) kids rfl rfl (of_decide_eq_true (by kernel_rfl)) (by kernel_rfl) (ln 2 _ v2 rfl rfl) h2;refine(S9 (aC:=[v0,v1,v2]) (En.adJ a0.1 a0.2 a1 a2) (fun _ _=>rfl) ⟨aeG,r1,r2.1,trivial⟩).mono ?_;rintro e W' ⟨rfl,hb⟩;exact⟨_,rfl,Sg laidOut hW rfl rfl (by rfl) Tryz.underlying4 readable hb⟩
theorem adQ:Tryz.prog.inPlace 5=Rows.batchOneRow.inPlace:=by kernel_rfl
theorem adp:Tryz.prog.unfollowed 5=Rows.batchOneRow.unfollowed:=by kernel_rfl
theorem adK:Tryz.prog.recurses 5=Rows.batchOneRow.recurses:=by unfold Program.recurses;rw[adp];first|exact Bool.true_or _|kernel_rfl
theorem adV:Tryz.prog.varsNamed 5=Rows.batchOneRow.named:=by kernel_rfl
theorem closed:joinedFacts Tryz.prog 5 Tryz.f5 Rows.batchOneSpec Rows.batchOneRow=true:=by
 unfold joinedFacts;rw[adQ,adp,adK,adV,Si,Sj,Vt,Vu,Vv,Vw,W9];kernel_rfl
theorem holds:Rows.BatchOneSaid :=
 OpenClaim.holds_of_wide 5 Tryz.f5 rfl rfl rfl rfl rfl rfl rfl ⟨rfl,rfl,rfl,rfl,rfl⟩ rfl rfl rfl rfl rfl (by kernel_rfl) Tryz.func5 closed
  (of_decide_eq_true (by kernel_rfl)) (by unfold Func.isWrapper;first|(rw[Z0 (by decide +kernel)];kernel_rfl)|(rw[ZY (by decide +kernel)];exact⟨rfl,rfl⟩))
  (fun os started H enc _=>lifted os started H enc)
end Go.Proofs.YthnefnlhcijekaaGreat.RBatchOne
#print axioms Go.Proofs.YthnefnlhcijekaaGreat.RBatchOne.holds
