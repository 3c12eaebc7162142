/- The law BatchNil holds at every input that its statement lets in; part 1 of its proof. -/
import Derived.Test.YthnefnlhcijekaaGreatMB6
import Derived.OpenShut
import Derived.JoinedCond
set_option linter.unusedVariables false
set_option linter.unusedSimpArgs false
namespace Go.Proofs.YthnefnlhcijekaaGreat.Ce
open Go Go.RowKit Fw Hi Po
theorem Uf (p:ax) (d:Cell):wN p d 0=d.2.2.1.sum:=rfl
end Go.Proofs.YthnefnlhcijekaaGreat.Ce
set_option maxRecDepth 8000
namespace Go.Proofs.YthnefnlhcijekaaGreat.En
open Go Go.RowKit Fw Hi Ce Bt Eb
theorem aaH:aa Tryz.prog 28 [.bZ] [] (Y:=Unit) (fun _=>True)
  (fun _=>.aG vv fun _=>[]) (fun _=>[]):=by
 (refine aa.q Tryz.func28 rfl fun S ao=>Wa _ ?_;(repeat' first|exact tv|apply pr|intro hh))
 all_goals exact ae.z () []
end Go.Proofs.YthnefnlhcijekaaGreat.En
set_option maxRecDepth 8000
namespace Go.Proofs.YthnefnlhcijekaaGreat.En
open Go Go.RowKit Fw Hi Ce Bt Eb
theorem aaO:aa Tryz.prog 25 [.bZ] [] (Y:=Unit) (fun _=>True)
  (fun _=>.bZ) (fun _=>[]):=by
 (refine aa.q Tryz.func25 rfl fun S ao=>Wa _ ?_;(repeat' first|exact tv|apply pr|intro hh))
 all_goals exact ae.z () []
end Go.Proofs.YthnefnlhcijekaaGreat.En
namespace Go.Proofs.YthnefnlhcijekaaGreat.Fw
open Go Go.RowKit Go.ChangeShapes Go.WideShapes
theorem wf_i64 {n:Int} (h:LP (.int .i64) n):-9223372036854775808≤n∧n≤9223372036854775807:=h
section
variable {H:Type} {sv:TypeId×Value→H} {P:Program} {W:World} {base:Nat} {sp:Nat→Bool} {held:Bool}
end
end Go.Proofs.YthnefnlhcijekaaGreat.Fw
namespace Go.Proofs.YthnefnlhcijekaaGreat.En
open Go Go.RowKit Fw Hi Ce
theorem aa4 {n b:Nat} (hn:n≤300000) (hb:b≤1000):n≤140737488355328∧n*b≤140737488355328 :=
 ⟨by omega,abW (Nat.mul_le_mul hn hb) (by decide)⟩
abbrev aaa:=Int×List UInt8×Int
def aNm (a:aaa):Nm:=(a.1,a.2.1)
def aae (K:Kt) (a:aaa):Kt×DN:=cz K (aNm a) a.2.2
def oU:Kt→List aaa→Kt×List DN
 | K,[]=>(K,[])
 | K,a::r=>((oU (aae K a).1 r).1,(aae K a).2::(oU (aae K a).1 r).2)
theorem aap (a:aaa):∀ (l:List aaa) (K:Kt),oU K (l++[a])=((aae (oU K l).1 a).1,(oU K l).2++[(aae (oU K l).1 a).2])
 | [],K=>rfl
 | b::r,K=>by rw[acR,oU,aap a r (aae K b).1];rfl
theorem aaA {l:List aaa} {i:Nat} (d:aaa) (h:i<l.length) (K:Kt):oU K (l.take (i+1))=((aae (oU K (l.take i)).1 (l.getD i d)).1,(oU K (l.take i)).2++[(aae (oU K (l.take i)).1 (l.getD i d)).2]):=by
 rw[abY,abj h,aer,aap,abi,abj h];rfl
theorem aaj:∀ (l:List aaa) (K:Kt),(oU K l).2.length=l.length
 | [],_=>rfl
 | a::r,K=>by rw[oU,abt,abt,aaj r]
def aat (l:List aaa):Prop:=l.length=0∨8<l.length
instance (l:List aaa):Decidable (aat l):=inferInstanceAs (Decidable (_∨_))
def aab (K:Kt) (l:List aaa):Kt×List DN×Int:=if aat l then(K,[],1)else((oU K l).1,(oU K l).2,0)
def w7 (t:DN):Bool:=!decide (t.1=0) || !t.2.1
def aag (K:Kt) (l:List aaa):Kt×List DN×Bool×Int :=
 if aat l then(K,[],false,1)else if(oU K l).2.any w7 then(K,(oU K l).2,false,0)else((oU K l).1,(oU K l).2,true,0)
theorem aaI (x y:Nm):su x y<0↔jR x y:=by rw[←sO];simp[ltOf]
theorem aaB (x y:Nm):su x y=0↔x=y:=by
 have h:=(DS x.2 y.2).2
 unfold su Ti.mE
 constructor
 ·intro h1
  by_cases ha:x.1<y.1
  ·simp[ha]at h1
  ·by_cases hb:y.1<x.1
   ·simp[ha,hb]at h1
   ·simp[ha,hb]at h1
    exact Prod.ext (by omega) (h.1 h1)
 ·rintro rfl
  simp[h.2 rfl]
def aau (L:List Nm) (after:Nm) (aB:Int):List Nm:=(L.filter fun x=>decide (jR after x)).take aB.toNat
def RD:List Nm→Nm→Nat
 | [],_=>0
 | a::r,x=>if jR a x then RD r x+1 else 0
theorem aar:∀ (l:List Nm) (x:Nm),RD l x≤l.length
 | [],_=>abr _
 | a::r,x=>by
  unfold RD;split
  ·exact Nat.succ_le_succ (aar r x)
  ·exact abw _
theorem aas {x:Nm}:∀ {l:List Nm},l.Pairwise jR→∀ j,j<l.length→(jR (l.getD j (0,[])) x↔j<RD l x)
 | [],_,_,h=>absurd h (ac8 _)
 | a::r,hs,0,_=>by
  show jR a x↔_
  unfold RD;split
  ·exact⟨fun _=>Nat.succ_pos _,fun _=>‹_›⟩
  ·exact⟨fun h=>absurd h ‹_›,fun h=>absurd h (Nat.lt_irrefl _)⟩
 | a::r,hs,j+1,h=>by
  have pc:=acQ.1 hs
  have hj:j<r.length:=by simpa using h
  show jR (r.getD j (0,[])) x↔_
  have e:RD (a::r) x=if jR a x then RD r x+1 else 0:=rfl
  rw[aas pc.2 j hj,e]
  split
  ·omega
  ·rename_i hn
   refine⟨fun hc=>?_,fun hc=>absurd hc (ac8 _)⟩
   exfalso;apply hn
   have h1:=(aas pc.2 j hj).2 hc
   have h2:jR a (r.getD j (0,[])):=pc.1 _ (by rw[abi,abj hj];exact abO _)
   exact eT h2 h1
def aad (l:List Nm) (x:Nm):Bool:=decide (RD l x<l.length∧l.getD (RD l x) (0,[])=x)
theorem aak {x:Nm}:∀ {l:List Nm},l.Pairwise jR→l.drop (if aad l x=true then RD l x+1 else RD l x)=l.filter fun y=>decide (jR x y)
 | [],_=>by simp[aad,RD]
 | a::r,hs=>by
  have pc:=acQ.1 hs
  have ih:=aak (x:=x) pc.2
  by_cases h:jR a x
  ·have e1:RD (a::r) x=RD r x+1:=by rw[RD,if_pos h]
   have e2:aad (a::r) x=aad r x:=by
    unfold aad;rw[e1,decide_eq_decide]
    show(RD r x+1<r.length+1∧r.getD (RD r x) (0,[])=x)↔_
    rw[Nat.add_lt_add_iff_right]
   rw[e1,e2,List.filter_cons_of_neg (by simpa using qu h),←ih]
   split <;> rfl
  ·have e1:RD (a::r) x=0:=by rw[RD,if_neg h]
   by_cases ha:a=x
   ·subst ha
    have e2:aad (a::r) a=true:=by unfold aad;rw[e1];simp
    rw[e1,e2,if_pos rfl,List.filter_cons_of_neg (by simpa using iH a)]
    show r=_
    exact(List.filter_eq_self.2 fun y hy=>by simpa using pc.1 y hy).symm
   ·have hx:jR x a:=abV fun h2=>ha (gJ h h2)
    have e2:aad (a::r) x=false:=by unfold aad;rw[e1];simp[ha]
    rw[e1,e2,if_neg (by decide)]
    show a::r=_
    refine(List.filter_eq_self.2 fun y hy=>?_).symm
    rcases abE.1 hy with e|h3
    ·rw[e];simpa using hx
    ·simpa using eT hx (pc.1 y h3)
end Go.Proofs.YthnefnlhcijekaaGreat.En
set_option maxRecDepth 8000
namespace Go.Proofs.YthnefnlhcijekaaGreat.En
open Go Go.RowKit Fw Hi Ce
abbrev aac:Ty:=.pair (.int .i64) (.pair .bool (.pair (.int .i64) (.pair (.int .i64) (.int .i64))))
abbrev aaW:TypeId:=55
section
variable {K:Kt} {m m' c:Nat}
theorem aaz (l:List aaa):aa Tryz.prog 19 [.bZ,.aG WC fun _=>l] [] (Y:=Unit) (fun _=>True) (fun _=>.bM [.aG aac fun _=>[],.int .i64 fun _=>1]) (fun _=>[]):=by
 (refine aa.q Tryz.func19 rfl fun S ao=>Wa _ ?_;(repeat' first|exact tv|apply pr|intro hh))
 all_goals exact ae.z () []
structure EaI (K:Kt) (l:List aaa) (z:Nat×Nat×Kt×List DN):Prop where
 le:z.1≤l.length
 eq:oU K (l.take z.1)=(z.2.2.1,z.2.2.2)
theorem aaJ (l:List aaa) (h1:m≤999900) (h2:m+8≤m'):aa Tryz.prog 19 [.ptr 0 0,.aG WC fun _=>l] [.bg (dY K m c)] (Y:=Nat) (fun _=>True)
  (fun _=>.bM [.aG aac fun _=>(aab K l).2.1,.int .i64 fun _=>(aab K l).2.2]) (fun c'=>[.bg (dY (aab K l).1 m' c')]):=by
 have Qw:Tryz.t55.bytes≤1000:=by decide
 by_cases hb:aat l
 ·have e:aab K l=(K,[],1):=by unfold aab;rw[if_pos hb]
  unfold aat at hb
  rw[e]
  (refine aa.q Tryz.func19 rfl fun S ao=>Wa _ ?_;(repeat' first|exact tv|apply pr|intro hh))
  all_goals first|(exfalso;omega)|skip
  all_goals refine ae.bg 0 (dY K m c) (dY K m' c) rfl (ye (by omega)) ?_
  all_goals exact ae.z c [0]
 have e:aab K l=((oU K l).1,(oU K l).2,0):=by unfold aab;rw[if_neg hb]
 unfold aat at hb
 rw[e]
 (refine aa.q Tryz.func19 rfl fun S ao=>Wa _ ?_;(repeat' first|exact tv|apply pr|intro hh))
 all_goals first|(exfalso;omega)|skip
 refine aH.nil aaW aac none [6] ?_
 refine aH.intro hm (X:=Nat×Nat×Kt×List DN) (EaI K l) (fun z=>l.length - z.1)
  (fun z=>[(0,.ptr 0 0),(21,.aG WC fun _=>l),(22,.int .i64 fun _=>(l.length:Int)),(23,.int .i64 fun _=>(z.1:Int)),(6,.vec 1 5 (fun _=>0) fun _=>z.2.2.2.length)])
  (fun z=>[.bg (dY z.2.2.1 (m+z.1) z.2.1),.au aaW aac fun _=>z.2.2.2]) (0,c,K,[]) [0,1] ⟨rfl,rfl,?_,?_⟩ ⟨abw _,rfl⟩ ?_
 ·exact Vc
 ·exact Vc
 rintro⟨i,c1,aeM,out⟩ hI
 have hi:=hI.le
 have he:=hI.eq
 simp only[]at hi he
 have BB:out.length=i:=by
  have:=aaj (l.take i) K
  rw[he,aby]at this
  simp only[]at this;omega
 by_cases dp:i<l.length
 ·have XC:=pb (K:=aeM) (m:=m+i) (m':=m+(i+1)) (c:=c1) (aNm (l.getD i WC.a8)) (l.getD i WC.a8).2.2 (by omega) (by omega)
  have dm:=aaA WC.a8 dp K
  rw[he]at dm
  (refine Wa _ ?_;(repeat' first|exact tv|apply pr|intro hh))
  all_goals first|exact Ob.mk ⟨by simp only[];omega,by simp only[];omega⟩|(exfalso;omega)|skip
  (refine ab.q XC [0] ?_;rintro c2 _;refine Wp _ ?_;(repeat' first|exact tv|apply pr|intro hh))
  ·refine Ob.mk ⟨rfl,aa4 ?_ Qw⟩
   show out.length+1≤300000
   omega
  all_goals refine⟨(i+1,c2,(cz aeM (aNm (l.getD i WC.a8)) (l.getD i WC.a8).2.2).1,out++[(cz aeM (aNm (l.getD i WC.a8)) (l.getD i WC.a8).2.2).2]),[0,1],⟨rfl,rfl,?_,?_⟩,⟨dp,dm⟩,by show _ - (i+1)<_ - i;omega⟩
  all_goals (refine Vb _ ?_;(repeat' first|exact tv|apply pr))
  all_goals first|(rw[wr (by omega)];omega)|(rw[abo (abr _)];rfl)|(rw[abp];rfl)|skip
 have JF:i=l.length:=by omega
 subst JF
 rw[abv]at he
 rw[he]
 (refine Wa _ ?_;(repeat' first|exact tv|apply pr|intro hh))
 all_goals first|(exfalso;omega)|skip
 refine ae.bg 0 (dY aeM (m+l.length) c1) (dY aeM m' c1) rfl (ye (by omega)) ?_
 (refine ae.im 1 ?_;(conv=>whnf))
 (refine ae.w c1 [0] _ ?_;(repeat' first|exact tv|apply pr))
 rw[abA,abv]
theorem aaK (t:DN):aa Tryz.prog 48 [uU t] [] (Y:=Unit) (fun _=>True) (fun _=>.bool fun _=>w7 t) (fun _=>[]):=by
 (refine aa.q Tryz.func48 rfl fun S ao=>Wa _ ?_;(repeat' first|exact tv|apply pr|intro hh))
 all_goals ((refine ae.w () [] _ ?_;(repeat' first|exact tv|apply pr)))
 all_goals (unfold w7;simp_all)
theorem aaL (l:List DN) (hl:l.length≤1000):aa Tryz.prog 102 [.aG aac fun _=>l,.fn (.func 48) [] []] [] (Y:=Int) (fun y=>decide (0≤y)=l.any w7)
  (fun y=>.int .i64 fun _=>y) (fun _=>[]):=by
 (refine aa.q Tryz.func102 rfl fun S ao=>Wa _ ?_;(repeat' first|exact tv|apply pr|intro hh))
 refine aH.intro hm (X:=Nat) (fun i=>i≤l.length∧(l.take i).any w7=false) (fun i=>l.length - i)
  (fun i=>[(8,.int .i64 fun _=>(i:Int)),(7,.int .i64 fun _=>(l.length:Int)),(6,.aG aac fun _=>l),(0,.aG aac fun _=>l),(1,.fn (.func 48) [] [])])
  (fun i=>[]) 0 [] ⟨rfl,rfl,?_,?_⟩ ⟨abw _,rfl⟩ ?_
 ·exact Vc
 ·exact Vc
 rintro i ⟨hi,ha⟩
 (refine Wa _ ?_;(repeat' first|exact tv|apply pr|intro hh))
 all_goals try exact Ob.mk ⟨by simp only[];omega,by simp only[];omega⟩
 ·have dp:i<l.length:=by omega
  have hg:l.getD i aac.a8∈l:=by rw[abi,abj dp];exact abO _
  have uX:(l.take (i+1)).any w7=w7 (l.getD i aac.a8):=by
   rw[abY,abj dp,aer,List.any_append,ha,abi,abj dp];simp
  (refine ab.q (aaK (l.getD i aac.a8)) [] fun _ _=>Wp _ ?_;(repeat' first|exact tv|apply pr|intro hh))
  ·(refine ae.w (i:Int) [] _ ?_;(repeat' first|exact tv|apply pr))
   rw[decide_eq_true (by omega)]
   exact(List.any_eq_true.2 ⟨_,hg,hh⟩).symm
  ·refine⟨i+1,[],⟨rfl,rfl,?_,?_⟩,⟨by show i+1≤_;omega,uX.trans hh⟩,by omega⟩
   ·exact Vc
   ·(refine Vb _ ?_;(repeat' first|exact tv|apply pr))
    rw[wr (by omega)];omega
 ·have JF:i=l.length:=by omega
  subst JF
  rw[abv]at ha
  (refine ae.w (-1) [] _ ?_;(repeat' first|exact tv|apply pr))
  rw[ha];rfl
theorem aav (l:List DN) (hl:l.length≤1000):aa Tryz.prog 47 [.aG aac fun _=>l,.fn (.func 48) [] []] [] (Y:=Unit) (fun _=>True)
  (fun _=>.bool fun _=>l.any w7) (fun _=>[]):=by
 (refine aa.q Tryz.func47 rfl fun S ao=>Wa _ ?_;(repeat' first|exact tv|apply pr|intro hh))
 (refine ab.q (aaL l hl) [] ?_;rintro y hy;refine Wp _ ?_;(repeat' first|exact tv|apply pr|intro hh))
 all_goals ((refine ae.w () [] _ ?_;(repeat' first|exact tv|apply pr)))
 exact hy
theorem aaS (l:List aaa):aa Tryz.prog 20 [.bZ,.aG WC fun _=>l] [] (Y:=Unit) (fun _=>True) (fun _=>.bM [.aG aac fun _=>[],.ff,.int .i64 fun _=>1]) (fun _=>[]):=by
 (refine aa.q Tryz.func20 rfl fun S ao=>Wa _ ?_;(repeat' first|exact tv|apply pr|intro hh))
 (refine ab.q aaO [] fun _ _=>Wp _ ?_;(repeat' first|exact tv|apply pr|intro hh))
 (refine ab.q (aaz l) [] fun _ _=>Wp _ ?_;(repeat' first|exact tv|apply pr|intro hh))
 all_goals exact ae.z () []
theorem aaX (l:List aaa) (h1:m≤999800) (h2:m+8≤m'):aa Tryz.prog 20 [.ptr 0 0,.aG WC fun _=>l] [.bg (dY K m c)] (Y:=Nat) (fun _=>True)
  (fun _=>.bM [.aG aac fun _=>(aag K l).2.1,.bool fun _=>(aag K l).2.2.1,.int .i64 fun _=>(aag K l).2.2.2]) (fun c'=>[.bg (dY (aag K l).1 m' c')]):=by
 have hea:=fun c=>aaJ (K:=K) (m:=m) (m':=m') (c:=c) l (by omega) h2
 by_cases hb:aat l
 ·have e:aag K l=(K,[],false,1):=by unfold aag;rw[if_pos hb]
  have e2:aab K l=(K,[],1):=by unfold aab;rw[if_pos hb]
  simp only[e2]at hea
  rw[e]
  (refine aa.q Tryz.func20 rfl fun S ao=>Wa _ ?_;(repeat' first|exact tv|apply pr|intro hh))
  (refine ab.q (Tl (K:=K) (m:=m) (c:=c)) [0] ?_;rintro d _;refine Wp _ ?_;(repeat' first|exact tv|apply pr|intro hh))
  (refine ab.q (hea d) [1] ?_;rintro d2 _;refine Wp _ ?_;(repeat' first|exact tv|apply pr|intro hh))
  all_goals refine ae.bg 0 (dY K m c) (dY K m' c) rfl (ye (by omega)) ?_
  all_goals exact ae.z c [0]
 have e2:aab K l=((oU K l).1,(oU K l).2,0):=by unfold aab;rw[if_neg hb]
 have L4:=aaj l K
 simp only[e2]at hea
 have P8:=aav (oU K l).2 (by unfold aat at hb;omega)
 cases ha:(oU K l).2.any w7 with
 | true =>
  have e:aag K l=(K,(oU K l).2,false,0):=by unfold aag;rw[if_neg hb,ha];rfl
  rw[ha]at P8
  rw[e]
  (refine aa.q Tryz.func20 rfl fun S ao=>Wa _ ?_;(repeat' first|exact tv|apply pr|intro hh))
  (refine ab.q (Tl (K:=K) (m:=m) (c:=c)) [0] ?_;rintro d _;refine Wp _ ?_;(repeat' first|exact tv|apply pr|intro hh))
  (refine ab.q (hea d) [1] ?_;rintro d2 _;refine Wp _ ?_;(repeat' first|exact tv|apply pr|intro hh))
  all_goals ((refine ab.q P8 [] fun _ _=>Wp _ ?_;(repeat' first|exact tv|apply pr|intro hh)))
  all_goals refine ae.bg 0 (dY K m c) (dY K m' c) rfl (ye (by omega)) ?_
  all_goals exact ae.z c [0]
 | false =>
  have e:aag K l=((oU K l).1,(oU K l).2,true,0):=by unfold aag;rw[if_neg hb,ha];rfl
  rw[ha]at P8
  rw[e]
  (refine aa.q Tryz.func20 rfl fun S ao=>Wa _ ?_;(repeat' first|exact tv|apply pr|intro hh))
  (refine ab.q (Tl (K:=K) (m:=m) (c:=c)) [0] ?_;rintro d _;refine Wp _ ?_;(repeat' first|exact tv|apply pr|intro hh))
  (refine ab.q (hea d) [1] ?_;rintro d2 _;refine Wp _ ?_;(repeat' first|exact tv|apply pr|intro hh))
  all_goals ((refine ab.q P8 [] fun _ _=>Wp _ ?_;(repeat' first|exact tv|apply pr|intro hh)))
  all_goals ((refine ab.q (hea c) [0] ?_;rintro d3 _;refine Wp _ ?_;(repeat' first|exact tv|apply pr|intro hh)))
  all_goals exact ae.z d3 [0]
theorem aam (x y:Nm):aa Tryz.prog 49 [uR x,uR y] [] (Y:=Unit) (fun _=>True) (fun _=>.int .i64 fun _=>su x y) (fun _=>[]):=by
 (refine aa.q Tryz.func49 rfl fun S ao=>Wa _ ?_;(repeat' first|exact tv|apply pr|intro hh))
 (refine ab.q (Ti.uc x.1 y.1) [] fun _ _=>Wp _ ?_;(repeat' first|exact tv|apply pr|intro hh))
 all_goals ((refine ab.q (LI x.2 y.2) [] fun _ _=>Wp _ ?_;(repeat' first|exact tv|apply pr|intro hh)))
 all_goals ((refine ab.q (Ti.orM (Ti.mE x.1 y.1) (qD x.2 y.2)) [2] fun _ _=>Wp _ ?_;(repeat' first|exact tv|apply pr|intro hh)))
 all_goals exact ae.z () []
theorem aaY (l:List Nm) (hs:l.Pairwise jR) (hl:l.length≤1000) (x:Nm):aa Tryz.prog 53 [.aG vv fun _=>l,uR x,.fn (.func 49) [] []] [] (Y:=Unit) (fun _=>True)
  (fun _=>.bM [.int .i64 fun _=>(RD l x:Int),.bool fun _=>aad l x]) (fun _=>[]):=by
 have FM:=aar l x
 (refine aa.q Tryz.func53 rfl fun S ao=>Wa _ ?_;(repeat' first|exact tv|apply pr|intro hh))
 refine aH.intro hm (X:=Nat×Nat) (fun z=>z.1≤RD l x∧RD l x≤z.2∧z.2≤l.length) (fun z=>z.2 - z.1)
  (fun z=>[(0,.aG vv fun _=>l),(2,.fn (.func 49) [] []),(4,.ptr 0 0),(8,.int .i64 fun _=>(l.length:Int)),(9,.int .i64 fun _=>(z.1:Int)),(10,.int .i64 fun _=>(z.2:Int))])
  (fun z=>[.cells 24 [.int .i64 fun _=>x.1,.str fun _=>x.2]]) (0,l.length) [0] ⟨rfl,rfl,?_,?_⟩ ⟨abw _,FM,abr _⟩ ?_
 ·exact Vc
 ·exact Vc
 rintro⟨a,b⟩ ⟨h1,h2,h3⟩
 simp only[]at h1 h2 h3
 by_cases r8:a<b
 ·have aa5:IntKind.i64.wrap (Int.fdiv (IntKind.u64.wrap (IntKind.i64.wrap ((a:Int)+(b:Int)))) (2 ^ min (Int.toNat 1) IntKind.u64.bits))=(((a+b) / 2:Nat):Int):=by
   rw[wr (x:=(a:Int)+(b:Int)) (by omega),vt (by omega)]
   show IntKind.i64.wrap (Int.fdiv ((a:Int)+(b:Int)) 2)=_
   rw[ac0 _ (by omega),wr (by omega)];omega
  have hm1:a≤(a+b) / 2∧(a+b) / 2<b:=by omega
  have Js:=aas (x:=x) hs ((a+b) / 2) (by omega)
  have hcp:=aaI (l.getD ((((a+b) / 2:Nat):Int)).toNat vv.a8) x
  (refine Wa _ ?_;(repeat' first|exact tv|apply pr|intro hh))
  all_goals first|(exfalso;omega)|skip
  all_goals simp only[aa5]
  all_goals first|exact Ob.mk (by decide)|exact Ob.mk ⟨by omega,by omega⟩|skip
  (refine ab.q (aam (l.getD ((((a+b) / 2:Nat):Int)).toNat vv.a8) x) [] fun _ _=>Wp _ ?_;(repeat' first|exact tv|apply pr|intro hh))
  ·refine⟨((a+b) / 2+1,b),[0],⟨rfl,rfl,?_,?_⟩,⟨Js.1 (hcp.1 hh),h2,h3⟩,by show b - ((a+b) / 2+1)<b - a;omega⟩
   ·exact Vc
   ·(refine Vb _ ?_;(repeat' first|exact tv|apply pr))
    rw[wr (by omega)];omega
  ·refine⟨(a,(a+b) / 2),[0],⟨rfl,rfl,?_,?_⟩,⟨h1,Nat.not_lt.1 fun h=>hh (hcp.2 (Js.2 h)),by show(a+b) / 2≤_;omega⟩,by show(a+b) / 2 - a<b - a;omega⟩
   ·exact Vc
   ·exact Vc
 ·have Yc:a=RD l x:=by omega
  subst Yc
  have JC:=aaB (l.getD ((RD l x:Int)).toNat vv.a8) x
  (refine Wa _ ?_;(repeat' first|exact tv|apply pr|intro hh))
  all_goals first|(exfalso;omega)|exact Ob.mk ⟨by simp only[];omega,by simp only[];omega⟩|skip
  ·(refine ab.q (aam (l.getD ((RD l x:Int)).toNat vv.a8) x) [] fun _ _=>Wp _ ?_;(repeat' first|exact tv|apply pr|intro hh))
   (refine ae.w () [] _ ?_;(repeat' first|exact tv|apply pr))
   unfold aad
   rw[acP,beq_iff_eq,decide_eq_true_eq,JC]
   exact⟨fun h=>⟨by omega,h⟩,fun h=>h.2⟩
  ·(refine ae.w () [] _ ?_;(repeat' first|exact tv|apply pr))
   unfold aad
   exact decide_eq_false fun h=>by omega
theorem aao (i n:Nat) (aB:Int) (h1:i≤10000) (h2:n≤10000):(if IntKind.i64.wrap ((i:Int)+(if(n:Int)<(if 0>aB then 0 else aB)then(n:Int)else(if 0>aB then 0 else aB)))<(n:Int)then IntKind.i64.wrap ((i:Int)+(if(n:Int)<(if 0>aB then 0 else aB)then(n:Int)else(if 0>aB then 0 else aB)))else(n:Int))
  = ((min (i+min aB.toNat n) n:Nat):Int):=by
 have e:(if(n:Int)<(if 0>aB then 0 else aB)then(n:Int)else(if 0>aB then 0 else aB))=((min aB.toNat n:Nat):Int):=by
  by_cases h:0>aB
  ·rw[if_pos h,if_neg (by omega)];omega
  ·rw[if_neg h];split <;> omega
 rw[e,wr (by omega)]
 split <;> omega
theorem aaw (l:List Nm) (i:Nat) (aB:Int) (hi:i≤l.length):List.drop i (List.take (min (i+min aB.toNat l.length) l.length) l)=(l.drop i).take aB.toNat:=by
 rw[List.drop_take,List.take_eq_take_iff,abG];omega
theorem aaR (after:Nm) (aB:Int) (AJ:-9223372036854775808≤aB∧aB≤9223372036854775807) (Rg:(dT K).Pairwise jR):aa Tryz.prog 21 [.ptr 0 0,uR after,.int .i64 fun _=>aB] [.bg (dY K m c)] (Y:=Unit) (fun _=>True)
  (fun _=>.aG vv fun _=>aau (dT K) after aB) (fun _=>[.bg (dY K m c)]):=by
 have had:=aak (x:=after) Rg
 have FM:=aar (dT K) after
 (refine aa.q Tryz.func21 rfl fun S ao=>Wa _ ?_;(repeat' first|exact tv|apply pr|intro hh))
 (refine ab.q (Jj (K:=K) (m:=m) (c:=c)) [0] ?_;rintro _ ⟨⟨q1,q2⟩,q3⟩;refine Wp _ ?_;(repeat' first|exact tv|apply pr|intro hh))
 have y9:=aaY (dT K) Rg (by omega) after
 cases kJ:aad (dT K) after with
 | true =>
  rw[kJ]at y9 had
  rw[if_pos rfl]at had
  have bm:RD (dT K) after<(dT K).length:=(of_decide_eq_true (show decide (_∧_)=true from kJ)).1
  have ei:IntKind.i64.wrap ((RD (dT K) after:Int)+1)=((RD (dT K) after+1:Nat):Int):=by rw[wr (by omega)];omega
  have aeN:=aao (RD (dT K) after+1) (dT K).length aB (by omega) (by omega)
  have ec:=aaw (dT K) (RD (dT K) after+1) aB (by omega)
  (refine ab.q y9 [] fun _ _=>Wp _ ?_;(repeat' first|exact tv|apply pr|intro hh))
  all_goals simp only[ei,aeN]
  ·exact Ob.mk ⟨by omega,by omega,by omega⟩
  ·(refine ae.w () [0] _ ?_;(repeat' first|exact tv|apply pr))
   rw[aau,←had,abm,abm,ec]
 | false =>
  rw[kJ]at y9 had
  rw[if_neg (by decide)]at had
  have aeN:=aao (RD (dT K) after) (dT K).length aB (by omega) (by omega)
  have ec:=aaw (dT K) (RD (dT K) after) aB (by omega)
  (refine ab.q y9 [] fun _ _=>Wp _ ?_;(repeat' first|exact tv|apply pr|intro hh))
  all_goals simp only[aeN]
  ·exact Ob.mk ⟨by omega,by omega,by omega⟩
  ·(refine ae.w () [0] _ ?_;(repeat' first|exact tv|apply pr))
   rw[aau,←had,abm,abm,ec]
theorem aaP (after:Nm) (aB:Int) (AJ:-9223372036854775808≤aB∧aB≤9223372036854775807):aa Tryz.prog 21 [.bZ,uR after,.int .i64 fun _=>aB] [] (Y:=Unit) (fun _=>True)
  (fun _=>.aG vv fun _=>[]) (fun _=>[]):=by
 have y9:=aaY [] List.Pairwise.nil (by decide) after
 simp only[show RD [] after=0 from rfl,show aad [] after=false from rfl]at y9
 have aeN:=aao 0 0 aB (by omega) (by omega)
 (refine aa.q Tryz.func21 rfl fun S ao=>Wa _ ?_;(repeat' first|exact tv|apply pr|intro hh))
 (refine ab.q aaH [] fun _ _=>Wp _ ?_;(repeat' first|exact tv|apply pr|intro hh))
 all_goals ((refine ab.q y9 [] fun _ _=>Wp _ ?_;(repeat' first|exact tv|apply pr|intro hh)))
 all_goals first|(refine Ob.mk ?_;simp only[abP,aeN];exact⟨by omega,by omega,by omega⟩)|skip
 all_goals ((refine ae.w () [] _ ?_;(repeat' first|exact tv|apply pr)))
 all_goals simp
end
end Go.Proofs.YthnefnlhcijekaaGreat.En
set_option maxRecDepth 8000
namespace Go.Proofs.YthnefnlhcijekaaGreat.En
open Go Go.RowKit Fw Hi Ce
abbrev aah:Ty:=.pair (.int .i64) (.pair (.list WC) (.pair (.int .i64) Sq))
abbrev OpB:=Int×List aaa×Int×ax
def okB (o:OpB):Prop:=o.2.1.length≤12∧∀ a∈o.2.1,a.2.1.length≤60
instance (o:OpB):Decidable (okB o):=inferInstanceAs (Decidable (_∧_))
def aaQ (l:List OpB) (aB:Int):Prop:=(l.length:Int)≤aB∧∀ o∈l,okB o
instance (l:List OpB) (aB:Int):Decidable (aaQ l aB):=inferInstanceAs (Decidable (_∧_))
theorem getD_in {α:Type} {l:List α} {i:Nat} (d:α) (h:i<l.length):l.getD i d∈l:=by rw[abi,abj h];exact abO _
theorem aax {α:Type} {l:List α} {p:α→Prop} (d:α) (h:∀ j,j<l.length→p (l.getD j d)):∀ o∈l,p o:=fun o ho=>by
 obtain⟨j,hj⟩:=abu.1 ho
 have:=h j (abk.1 hj).1
 rw[abi,hj]at this
 exact this
theorem aa0 (l:List OpB) (aB:Int) (dH:aB≤1000):aa Tryz.prog 17 [.aG aah fun _=>l,.int .i64 fun _=>aB] [] (Y:=Unit) (fun _=>True) (fun _=>.bool fun _=>decide (aaQ l aB)) (fun _=>[]):=by
 by_cases h0:(l.length:Int)≤aB
 rotate_left
 ·rw[decide_eq_false fun h=>h0 h.1]
  (refine aa.q Tryz.func17 rfl fun S ao=>Wa _ ?_;(repeat' first|exact tv|apply pr|intro hh))
  all_goals first|(exfalso;omega)|skip
  all_goals exact ae.z () []
 (refine aa.q Tryz.func17 rfl fun S ao=>Wa _ ?_;(repeat' first|exact tv|apply pr|intro hh))
 all_goals first|(exfalso;omega)|skip
 refine aH.intro hm (X:=Nat) (fun i=>i≤l.length∧∀ j,j<i→okB (l.getD j aah.a8)) (fun i=>l.length - i)
  (fun i=>[(0,.aG aah fun _=>l),(5,.int .i64 fun _=>(i:Int))]) (fun i=>[]) 0 [] ⟨rfl,rfl,?_,?_⟩ ⟨abw _,fun j hj=>absurd hj (ac8 j)⟩ ?_
 ·exact Vc
 ·exact Vc
 rintro i ⟨hi,iy⟩
 by_cases dp:i<l.length
 rotate_left
 ·have JF:i=l.length:=by omega
  subst JF
  rw[decide_eq_true (show aaQ l aB from⟨h0,aax aah.a8 iy⟩)]
  (refine Wa _ ?_;(repeat' first|exact tv|apply pr|intro hh))
  all_goals first|(exfalso;omega)|skip
  exact ae.z () []
 have AJ:=getD_in aah.a8 dp
 by_cases Mh:(l.getD ((i:Int)).toNat aah.a8).2.1.length≤12
 rotate_left
 ·rw[decide_eq_false fun h=>Mh (h.2 _ AJ).1]
  (refine Wa _ ?_;(repeat' first|exact tv|apply pr|intro hh))
  all_goals first|exact Ob.mk ⟨by simp only[];omega,by simp only[];omega⟩|(exfalso;omega)|skip
  exact ae.z () []
 (refine Wa _ ?_;(repeat' first|exact tv|apply pr|intro hh))
 all_goals first|exact Ob.mk ⟨by simp only[];omega,by simp only[];omega⟩|(exfalso;omega)|skip
 refine aH.intro hm (X:=Nat) (fun k=>k≤(l.getD ((i:Int)).toNat aah.a8).2.1.length∧∀ j,j<k→((l.getD ((i:Int)).toNat aah.a8).2.1.getD j WC.a8).2.1.length≤60) (fun k=>(l.getD ((i:Int)).toNat aah.a8).2.1.length - k)
  (fun k=>[(0,.aG aah fun _=>l),(5,.int .i64 fun _=>(i:Int)),(6,.int .i64 fun _=>(k:Int))]) (fun k=>[]) 0 [] ⟨rfl,rfl,?_,?_⟩ ⟨abw _,fun j hj=>absurd hj (ac8 j)⟩ ?_
 ·exact Vc
 ·exact Vc
 rintro k ⟨hk,hka⟩
 (refine Wa _ ?_;(repeat' first|exact tv|apply pr|intro hh))
 all_goals first|exact Ob.mk ⟨by simp only[];omega,by simp only[];omega⟩|skip
 ·have AZ:=getD_in WC.a8 (show k<(l.getD ((i:Int)).toNat aah.a8).2.1.length by omega)
  rw[decide_eq_false fun h=>absurd ((h.2 _ AJ).2 _ AZ) (by have:=hh;simp only[abm]at this ⊢;omega)]
  exact ae.z () []
 ·refine⟨k+1,[],⟨rfl,rfl,?_,?_⟩,⟨by show k+1≤_;omega,fun j hj=>?_⟩,by show _ - (k+1)<_ - k;omega⟩
  ·exact Vc
  ·(refine Vb _ ?_;(repeat' first|exact tv|apply pr))
   rw[wr (by omega)];omega
  ·by_cases e:j=k
   ·subst e
    have:=hh
    simp only[abm]at this ⊢
    omega
   ·exact hka j (by omega)
 ·have XL:k=(l.getD ((i:Int)).toNat aah.a8).2.1.length:=by omega
  subst XL
  refine⟨i+1,[],⟨rfl,rfl,?_,?_⟩,⟨by show i+1≤_;omega,fun j hj=>?_⟩,by show _ - (i+1)<_ - i;omega⟩
  ·exact Vc
  ·(refine Vb _ ?_;(repeat' first|exact tv|apply pr))
   rw[wr (by omega)];omega
  ·by_cases e:j=i
   ·subst e;exact⟨Mh,aax WC.a8 hka⟩
   ·exact iy j (by omega)
def lbP:ax:=(2,2,10,0)
def lbK (L:Hs):Kt:=⟨9,0,Lt.set 0 (true,lbP,1),L⟩
def lbB:Hs:=[((0,[97]),[(0,1)]),((0,[98]),[(0,1)])]
def lbC:Hs:=[((0,[97]),[(0,1),(0,1)]),((0,[98]),[(0,1)]),((0,[99]),[(0,2)])]
def a97 (n:Int):aaa:=(0,[97],n)
theorem lb1:kH (PK 9) 0 lbP=(lbK [],1,0):=by kernel_rfl
theorem lb2:aag (lbK []) [a97 1,a97 2]=(lbK [],(oU (lbK []) [a97 1,a97 2]).2,false,0):=by kernel_rfl
theorem lb3:aab (lbK []) [a97 1,a97 2,(0,[98],1)]=(lbK lbB,(oU (lbK []) [a97 1,a97 2,(0,[98],1)]).2,0):=by kernel_rfl
theorem lb4:aag (lbK lbB) [a97 1,(0,[99],2)]=(lbK lbC,(oU (lbK lbB) [a97 1,(0,[99],2)]).2,true,0):=by kernel_rfl
theorem lb5:aab (lbK lbC) []=(lbK lbC,[],1):=by kernel_rfl
theorem lb6:aau (dT (lbK lbC)) (0,[]) 2=[(0,[97]),(0,[98])]:=by kernel_rfl
theorem lb7:aau (dT (lbK lbC)) (0,[98]) 2=[(0,[99])]:=by kernel_rfl
theorem lb8:(dT (lbK lbC)).Pairwise jR:=by
 have e:dT (lbK lbC)=[(0,[97]),(0,[98]),(0,[99])]:=by kernel_rfl
 rw[e];decide
end Go.Proofs.YthnefnlhcijekaaGreat.En
set_option maxRecDepth 8000
namespace Go.Proofs.YthnefnlhcijekaaGreat.En
open Go Go.RowKit Fw Hi Ce
def lt1:List DN:=[(0,true,1,0,10),(0,false,1,10,10)]
def lt2:List DN:=[(0,true,1,0,10),(0,false,1,10,10),(0,true,1,0,10)]
def lt3:List DN:=[(0,true,0,0,10),(0,true,0,0,10)]
theorem le1:(oU (lbK []) [a97 1,a97 2]).2=lt1:=by kernel_rfl
theorem le2:(oU (lbK []) [a97 1,a97 2,(0,[98],1)]).2=lt2:=by kernel_rfl
theorem le3:(oU (lbK lbB) [a97 1,(0,[99],2)]).2=lt3:=by kernel_rfl
set_option maxHeartbeats 1000000 in
theorem aay:aa Tryz.prog 18 [] [] (Y:=Unit) (fun _=>True) (fun _=>.tt) (fun _=>[]):=by
 have h1:=fun c=>Tk (K:=PK 9) (m:=0) (m':=1) (c:=c) 0 lbP (by omega)
 have h2:=fun c=>aaX (K:=lbK []) (m:=1) (m':=9) (c:=c) [a97 1,a97 2] (by omega) (by omega)
 have h3:=fun c=>aaJ (K:=lbK []) (m:=9) (m':=17) (c:=c) [a97 1,a97 2,(0,[98],1)] (by omega) (by omega)
 have h4:=fun c=>aaX (K:=lbK lbB) (m:=17) (m':=25) (c:=c) [a97 1,(0,[99],2)] (by omega) (by omega)
 have h5:=fun c=>aaJ (K:=lbK lbC) (m:=25) (m':=33) (c:=c) [] (by omega) (by omega)
 have h6:=fun c=>aaR (K:=lbK lbC) (m:=33) (c:=c) (0,[]) 2 (by omega) lb8
 have h7:=fun c=>aaR (K:=lbK lbC) (m:=33) (c:=c) (0,[98]) 2 (by omega) lb8
 simp only[lb1]at h1
 simp only[lb2,le1]at h2
 simp only[lb3,le2]at h3
 simp only[lb4,le3]at h4
 simp only[lb5]at h5
 simp only[lb6]at h6
 simp only[lb7]at h7
 unfold lt1 at h2
 unfold lt2 at h3
 unfold lt3 at h4
 (refine aa.q Tryz.func18 rfl fun S ao=>Wa _ ?_;(repeat' first|exact tv|apply pr|intro hh))
 (refine ab.q (WB 9 0 (by omega)) [] fun _ _=>Wp _ ?_;(repeat' first|exact tv|apply pr|intro hh))
 (refine ab.q (h1 0) [0] ?_;rintro c1 _;refine Wp _ ?_;(repeat' first|exact tv|apply pr|intro hh))
 refine ab.im 1 ?_ (h2 c1).aA
 (conv=>whnf)
 (refine ab.q (h2 c1) [0] ?_;rintro c2 _;refine Wp _ ?_;(repeat' first|exact tv|apply pr|intro hh))
 refine ab.im 2 ?_ (h3 c2).aA
 (conv=>whnf)
 (refine ab.q (h3 c2) [0] ?_;rintro c3 _;refine Wp _ ?_;(repeat' first|exact tv|apply pr|intro hh))
 refine ab.im 3 ?_ (h4 c3).aA
 (conv=>whnf)
 (refine ab.q (h4 c3) [0] ?_;rintro c4 _;refine Wp _ ?_;(repeat' first|exact tv|apply pr|intro hh))
 (refine ab.q (h5 c4) [0] ?_;rintro c5 _;refine Wp _ ?_;(repeat' first|exact tv|apply pr|intro hh))
 (refine ab.q (h6 c5) [0] fun _ _=>Wp _ ?_;(repeat' first|exact tv|apply pr|intro hh))
 (refine ab.q (h7 c5) [0] fun _ _=>Wp _ ?_;(repeat' first|exact tv|apply pr|intro hh))
 exact ae.z () []
end Go.Proofs.YthnefnlhcijekaaGreat.En
set_option maxRecDepth 8000
namespace Go.Proofs.YthnefnlhcijekaaGreat.En
open Go Go.RowKit Fw Hi Ce
theorem aaC (l:List aaa) (after:Nm) (aB:Int) (AJ:-9223372036854775808≤aB∧aB≤9223372036854775807):aa Tryz.prog 3 [.aG WC fun _=>l,uR after,.int .i64 fun _=>aB] [] (Y:=Unit) (fun _=>True) (fun _=>.tt) (fun _=>[]):=by
 have Lj:=aa0 [(0,l,0,0,0,0,0)] 1 (by omega)
 by_cases hf:aaQ [(0,l,0,0,0,0,0)] 1
 rotate_left
 ·rw[decide_eq_false hf]at Lj
  (refine aa.q Tryz.func3 rfl fun S ao=>Wa _ ?_;(repeat' first|exact tv|apply pr|intro hh))
  refine ab.im 1 ?_ Lj.aA
  (conv=>whnf)
  (refine ab.q Lj [] fun _ _=>Wp _ ?_;(repeat' first|exact tv|apply pr|intro hh))
  all_goals ((refine ab.q aay [] fun _ _=>Wp _ ?_;(repeat' first|exact tv|apply pr|intro hh)))
  all_goals exact ae.z () []
 rw[decide_eq_true hf]at Lj
 (refine aa.q Tryz.func3 rfl fun S ao=>Wa _ ?_;(repeat' first|exact tv|apply pr|intro hh))
 refine ab.im 1 ?_ Lj.aA
 (conv=>whnf)
 (refine ab.q Lj [] fun _ _=>Wp _ ?_;(repeat' first|exact tv|apply pr|intro hh))
 all_goals first|((refine ab.q aay [] fun _ _=>Wp _ ?_;(repeat' first|exact tv|apply pr|intro hh)))|skip
 all_goals first|((refine ae.w () [] _ ?_;(repeat' first|exact tv|apply pr)))|skip
 all_goals ((refine ab.q (aaz l) [] fun _ _=>Wp _ ?_;(repeat' first|exact tv|apply pr|intro hh)))
 all_goals ((refine ab.q (aaS l) [] fun _ _=>Wp _ ?_;(repeat' first|exact tv|apply pr|intro hh)))
 all_goals ((refine ab.q (aaP after aB AJ) [] fun _ _=>Wp _ ?_;(repeat' first|exact tv|apply pr|intro hh)))
 all_goals ((refine ab.q aay [] fun _ _=>Wp _ ?_;(repeat' first|exact tv|apply pr|intro hh)))
 all_goals exact ae.z () []
end Go.Proofs.YthnefnlhcijekaaGreat.En
namespace Go.Proofs.YthnefnlhcijekaaGreat.RBatchNil
open Go Go.ChangeShapes Go.WideShapes Go.ChangeAt Go.RowKit Fw
theorem own:ownKnob Tryz.prog.godebug=none:=by kernel_rfl
theorem laidOut:laidOutB Tryz.prog=true:=Tx
theorem kids:Kids Tryz.prog (·<Tryz.prog.types.size):=Ym
theorem readable:∀ t∈Tryz.f3.params.toList,Tryz.prog.readableRec t=true∧t<Tryz.prog.types.size:=by
 have h:(Tryz.f3.params.toList.all fun t=>Tryz.prog.readableRec t && decide (t<Tryz.prog.types.size))=true:=by kernel_rfl
 intro t ht
 have:=acA.1 h t ht
 rw[abD,decide_eq_true_eq]at this
 exact this
set_option maxRecDepth 100000 in
theorem lifted (os:Os) (started:os.Started) (H:Type) (enc:TypeId×Value→H) :
  ReturnsInHanded {} Tryz.checked os 3 .any (Rows.batchNilSpec.pre6 enc Tryz.prog Tryz.f3 Rows.batchNilRow.domain false) (Rows.batchNilSpec.post enc Tryz.prog Tryz.f3 false true false false):=by
 refine returnsInHanded_of_change (C:=Tryz.checked) own started (by kernel_rfl) Tryz.func3
  (ChangeSpec.witness6 (enc:=enc) (C:=Tryz.checked) false ⟨#[],#[.slice none 0 0,.agg #[.int .i64 0,.string .empty],.int .i64 0],[]⟩ 8 (by kernel_rfl) (by kernel_rfl) (by kernel_rfl) (by kernel_rfl)) ?_
 intro W base args ds gs before aa2 hW hcnd _
 have lP:∀ (j:Nat) t v,Tryz.f3.params[j]?=some t→args[j]?=some v→Value.okWide Tryz.prog W .any base t v:=aa2
 have hW':DataW.Whole enc Tryz.prog Tryz.f3.params.toList Rows.batchNilSpec.vars false W args.toList ds gs before:=hW
 obtain⟨p,q,hA0,hV,_,_,_⟩:=hW'
 have hA:DataW.TrodAll enc Tryz.prog W 0 (fun _=>true) true Tryz.f3.params.toList args.toList ds p:=hA0
 rw[Tryz.params3]at hA lP
 obtain⟨v0,v1,v2,d0,d1,d2,p0,p1,p2,rfl,rfl,rfl,h0,h1,h2⟩:=trodAll_three hA
 obtain⟨rfl,rfl⟩:=trodVars_none hV
 obtain⟨a0,aeO,w0⟩:=Tt (ty:=(.list En.WC)) kids rfl rfl (of_decide_eq_true (by kernel_rfl)) (by kernel_rfl) (lP 0 _ v0 rfl rfl) h0
 obtain⟨a1,r1,w1⟩:=PQ (ty:=En.vv) kids rfl rfl (of_decide_eq_true (by kernel_rfl)) (by kernel_rfl) (lP 1 _ v1 rfl rfl) h1
 obtain⟨a2,r2,w2⟩:=Tt (ty:=(.int .i64)) kids rfl rfl (of_decide_eq_true (by kernel_rfl)) (by kernel_rfl) (lP 2 _ v2 rfl rfl) h2
 refine(Ul (aD:=[v0,v1,v2]) (En.aaC a0 a1 a2 (wf_i64 w2)) (fun _ _=>rfl) ⟨aeO.1,r1,r2.1,trivial⟩).mono ?_
 rintro e W' ⟨rfl,hb⟩
 exact⟨_,rfl,Tv laidOut hW rfl rfl (by rfl) Tryz.underlying4 readable hb⟩
theorem aaM:Tryz.prog.inPlace 3=Rows.batchNilRow.inPlace:=by kernel_rfl
theorem aaf:Tryz.prog.unfollowed 3=Rows.batchNilRow.unfollowed:=by kernel_rfl
theorem aaF:Tryz.prog.recurses 3=Rows.batchNilRow.recurses:=by unfold Program.recurses;rw[aaf];first|exact Bool.true_or _|kernel_rfl
theorem aaT:Tryz.prog.varsNamed 3=Rows.batchNilRow.named:=by kernel_rfl
theorem closed:joinedFacts Tryz.prog 3 Tryz.f3 Rows.batchNilSpec Rows.batchNilRow=true:=by
 unfold joinedFacts
 rw[aaM,aaf,aaF,aaT,Tx,Tz,WO,WQ,WR,WS,Yl]
 kernel_rfl
theorem holds:Rows.BatchNilSaid :=
 OpenClaim.holds_of_wide 3 Tryz.f3 rfl rfl rfl rfl rfl rfl rfl ⟨rfl,rfl,rfl,rfl,rfl⟩ rfl rfl rfl rfl rfl (by kernel_rfl) Tryz.func3 closed
  (of_decide_eq_true (by kernel_rfl)) (by unfold Func.isWrapper;first|(rw[if_pos (by decide +kernel)];kernel_rfl)|(rw[if_neg (by decide +kernel)];exact⟨rfl,rfl⟩))
  (fun os started H enc _=>lifted os started H enc)
end Go.Proofs.YthnefnlhcijekaaGreat.RBatchNil
#print axioms Go.Proofs.YthnefnlhcijekaaGreat.RBatchNil.holds
