/- The law EngineWork holds at every input that its statement lets in; part 1 of its proof. -/
import Derived.Test.YthnefnlhcijekaaGreatMB6
import Derived.OpenShut
import Derived.JoinedCond
set_option linter.unusedVariables false
set_option linter.unusedSimpArgs false
namespace Go.Proofs.YthnefnlhcijekaaGreat.Ce
open Go Go.RowKit Fw Hi Po
theorem Uf (p:ax) (d:Cell):wN p d 0=d.2.2.1.sum:=rfl
end Go.Proofs.YthnefnlhcijekaaGreat.Ce
namespace Go.Proofs.YthnefnlhcijekaaGreat.Fw
open Go Go.RowKit Go.ChangeShapes Go.WideShapes
theorem wf_i64 {n:Int} (h:LP (.int .i64) n):-9223372036854775808≤n∧n≤9223372036854775807:=h
section
variable {H:Type} {sv:TypeId×Value→H} {P:Program} {W:World} {base:Nat} {sp:Nat→Bool} {held:Bool}
end
end Go.Proofs.YthnefnlhcijekaaGreat.Fw
set_option maxRecDepth 8000
namespace Go.Proofs.YthnefnlhcijekaaGreat.En
open Go Go.RowKit Fw Hi Ce
structure WkI (l:List Jl) (z:Nat×Kt×Nat):Prop where
 le:z.1≤l.length
 s:Small z.2.1 (2*z.1)
set_option maxHeartbeats 1000000 in
theorem aaa (n sd:Int) (l:List Jl) (aB:Int) (AJ:-9223372036854775808≤aB∧aB≤9223372036854775807) (hN:∀ o∈l,aaE o):aa Tryz.prog 8 [Jh n sd,.aG To fun _=>l,.int .i64 fun _=>aB] [] (Y:=Unit) (fun _=>True) (fun _=>.tt) (fun _=>[]):=by
 have Lj:=aaD l 60 (by omega)
 have O9:j5=1099511627776:=rfl
 by_cases hn:1≤n∧n≤64
 rotate_left
 ·by_cases hf:PM l 60
  all_goals first|rw[decide_eq_true hf]at Lj|rw[decide_eq_false hf]at Lj
  all_goals (refine aa.q Tryz.func8 rfl fun S ao=>?_;(conv=>whnf))
  all_goals (refine Wa _ ?_;(repeat' first|exact tv|apply pr|intro hh))
  all_goals ((refine ab.q (LM n sd hn) [] fun _ _=>Wp _ ?_;(repeat' first|exact tv|apply pr|intro hh)))
  all_goals ((refine ab.q Lj [] fun _ _=>Wp _ ?_;(repeat' first|exact tv|apply pr|intro hh)))
  all_goals ((refine ab.q Mk [] fun _ _=>Wp _ ?_;(repeat' first|exact tv|apply pr|intro hh)))
  all_goals exact ae.z () []
 by_cases hf:PM l 60
 rotate_left
 ·rw[decide_eq_false hf]at Lj
  (refine aa.q Tryz.func8 rfl fun S ao=>Wa _ ?_;(repeat' first|exact tv|apply pr|intro hh))
  (refine ab.q (WB n sd hn) [] fun _ _=>Wp _ ?_;(repeat' first|exact tv|apply pr|intro hh))
  (refine ab.q Lj [] fun _ _=>Wp _ ?_;(repeat' first|exact tv|apply pr|intro hh))
  all_goals ((refine ab.q Mk [] fun _ _=>Wp _ ?_;(repeat' first|exact tv|apply pr|intro hh)))
  all_goals exact ae.z () []
 rw[decide_eq_true hf]at Lj
 have hl60:=hf.1
 (refine aa.q Tryz.func8 rfl fun S ao=>Wa _ ?_;(repeat' first|exact tv|apply pr|intro hh))
 (refine ab.q (WB n sd hn) [] fun _ _=>Wp _ ?_;(repeat' first|exact tv|apply pr|intro hh))
 (refine ab.q Lj [] fun _ _=>Wp _ ?_;(repeat' first|exact tv|apply pr|intro hh))
 refine aH.intro hm (X:=Nat×Kt×Nat) (WkI l) (fun z=>l.length - z.1)
  (fun z=>[(1,.aG To fun _=>l),(2,.int .i64 fun _=>aB),(7,.ptr 0 0),(9,.int .i64 fun _=>(z.1:Int))])
  (fun z=>[.bg (dY z.2.1 (2*z.1) z.2.2)]) (0,PK n,0) [1] ⟨rfl,rfl,?_,?_⟩ ⟨abw _,Small.zero hn⟩ ?_
 ·exact Vc
 ·exact Vc
 rintro⟨i,K,c⟩ hI
 have hi:=hI.le
 have hs:=hI.s
 simp only[]at hi hs
 by_cases dp:i<l.length
 ·have hto:=Yf (m:=2*i) (m':=2*(i+1)) (c:=c) hs (l.getD ((i:Int)).toNat To.a8) (hN _ (Tr dp)) (by omega) (by omega)
  have hsm:=(hs.say (l.getD ((i:Int)).toNat To.a8)).up (show 2*i+1≤2*(i+1) by omega)
  (refine Wa _ ?_;(repeat' first|exact tv|apply pr|intro hh))
  all_goals first|exact Ob.mk ⟨by simp only[];omega,by simp only[];omega⟩|(exfalso;omega)|skip
  all_goals ((refine ab.q hto [0] ?_;rintro c' _;refine Wp _ ?_;(repeat' first|exact tv|apply pr|intro hh)))
  all_goals refine⟨(i+1,(gT K (l.getD ((i:Int)).toNat To.a8)).1,c'),[0],⟨rfl,rfl,?_,?_⟩,⟨dp,hsm⟩,by show _ - (i+1)<_ - i;omega⟩
  all_goals (refine Vb _ ?_;(repeat' first|exact tv|apply pr))
  all_goals first|(rw[wr (by omega)];omega)|skip
 have ma:=Yg (dT K) (dT K)
 (refine Wa _ ?_;(repeat' first|exact tv|apply pr|intro hh))
 all_goals try (exfalso;omega)
 (refine ab.q (Jj (K:=K) (m:=2*i) (c:=c)) [0] ?_;rintro _ ⟨⟨q1,q2⟩,q3⟩;refine Wp _ ?_;(repeat' first|exact tv|apply pr|intro hh))
 (refine ab.q (PI (K:=K) (m:=2*i) (c:=c)) [0] fun _ _=>Wp _ ?_;(repeat' first|exact tv|apply pr|intro hh))
 (refine ab.q (MZ (K:=K) (m:=2*i) (m':=2*i+1) (c:=c) aB AJ (by omega) (by omega)) [0] ?_;rintro y hy;refine Wp _ ?_;(repeat' first|exact tv|apply pr|intro hh))
 all_goals have u6:=hy.lo
 all_goals have Us:y.2≤(if 0>aB then 0 else aB):=by have:=hy.hi;split <;> omega
 all_goals have hle:=hy.le
 all_goals have LZ:=hy.bF.lo
 all_goals first|(exact absurd hh (Int.not_lt.2 Us))|skip
 all_goals try (exfalso;omega)
 all_goals ((refine ab.q (PI (K:=K) (m:=2*i+1) (c:=y.1)) [0] fun _ _=>Wp _ ?_;(repeat' first|exact tv|apply pr|intro hh)))
 all_goals try (exfalso;omega)
 all_goals ((refine ab.q (PI (K:=K) (m:=2*i+1) (c:=y.1)) [0] fun _ _=>Wp _ ?_;(repeat' first|exact tv|apply pr|intro hh)))
 all_goals try (exfalso;omega)
 all_goals ((refine ab.q (Jj (K:=K) (m:=2*i+1) (c:=y.1)) [0] fun _ _=>Wp _ ?_;(repeat' first|exact tv|apply pr|intro hh)))
 all_goals ((refine ab.q (ma (by omega)) [] fun _ _=>Wp _ ?_;(repeat' first|exact tv|apply pr|intro hh)))
 all_goals first|(exact absurd ‹_=false› (by simp))|skip
 all_goals ((refine ab.q (MZ (K:=K) (m:=2*i+1) (m':=2*i+2) (c:=y.1) 1000 (by omega) (by omega) (by omega)) [0] ?_;rintro u hu;refine Wp _ ?_;(repeat' first|exact tv|apply pr|intro hh)))
 all_goals have iy:=hu.all (by omega)
 all_goals ((refine ab.q (PI (K:=K) (m:=2*i+2) (c:=u.1)) [0] fun _ _=>Wp _ ?_;(repeat' first|exact tv|apply pr|intro hh)))
 all_goals try (exfalso;omega)
 all_goals ((refine ab.q (Jj (K:=K) (m:=2*i+2) (c:=u.1)) [0] fun _ _=>Wp _ ?_;(repeat' first|exact tv|apply pr|intro hh)))
 all_goals ((refine ab.q (ma (by omega)) [] fun _ _=>Wp _ ?_;(repeat' first|exact tv|apply pr|intro hh)))
 all_goals first|(exact absurd ‹_=false› (by simp))|skip
 all_goals ((refine ab.q Mk [] fun _ _=>Wp _ ?_;(repeat' first|exact tv|apply pr|intro hh)))
 all_goals exact ae.z () []
end Go.Proofs.YthnefnlhcijekaaGreat.En
namespace Go.Proofs.YthnefnlhcijekaaGreat.REngineWork
open Go Go.ChangeShapes Go.WideShapes Go.ChangeAt Go.RowKit Fw
theorem own:ownKnob Tryz.prog.godebug=none:=by kernel_rfl
theorem laidOut:laidOutB Tryz.prog=true:=Tx
theorem kids:Kids Tryz.prog (·<Tryz.prog.types.size):=Ym
theorem readable:∀ t∈Tryz.f8.params.toList,Tryz.prog.readableRec t=true∧t<Tryz.prog.types.size:=by
 have h:(Tryz.f8.params.toList.all fun t=>Tryz.prog.readableRec t && decide (t<Tryz.prog.types.size))=true:=by kernel_rfl
 intro t ht
 have:=acA.1 h t ht
 rw[abD,decide_eq_true_eq]at this
 exact this
set_option maxRecDepth 100000 in
theorem lifted (os:Os) (started:os.Started) (H:Type) (enc:TypeId×Value→H) :
  ReturnsInHanded {} Tryz.checked os 8 .any (Rows.engineWorkSpec.pre6 enc Tryz.prog Tryz.f8 Rows.engineWorkRow.domain false) (Rows.engineWorkSpec.post enc Tryz.prog Tryz.f8 false true false false):=by
 refine returnsInHanded_of_change (C:=Tryz.checked) own started (by kernel_rfl) Tryz.func8
  (ChangeSpec.witness6 (enc:=enc) (C:=Tryz.checked) false ⟨#[],#[.agg #[.int .i64 0,.int .u64 0],.slice none 0 0,.int .i64 0],[]⟩ 8 (by kernel_rfl) (by kernel_rfl) (by kernel_rfl) (by kernel_rfl)) ?_
 intro W base args ds gs before aad hW hcnd _
 have lP:∀ (j:Nat) t v,Tryz.f8.params[j]?=some t→args[j]?=some v→Value.okWide Tryz.prog W .any base t v:=aad
 have hW':DataW.Whole enc Tryz.prog Tryz.f8.params.toList Rows.engineWorkSpec.vars false W args.toList ds gs before:=hW
 obtain⟨p,q,hA0,hV,_,_,_⟩:=hW'
 have hA:DataW.TrodAll enc Tryz.prog W 0 (fun _=>true) true Tryz.f8.params.toList args.toList ds p:=hA0
 rw[Tryz.params8]at hA lP
 obtain⟨v0,v1,v2,d0,d1,d2,p0,p1,p2,rfl,rfl,rfl,h0,h1,h2⟩:=trodAll_three hA
 obtain⟨rfl,rfl⟩:=trodVars_none hV
 obtain⟨a0,aaj,w0⟩:=PQ (ty:=(.pair (.int .i64) (.int .u64))) kids rfl rfl (of_decide_eq_true (by kernel_rfl)) (by kernel_rfl) (lP 0 _ v0 rfl rfl) h0
 obtain⟨a1,r1,w1⟩:=Tt (ty:=(.list En.To)) kids rfl rfl (of_decide_eq_true (by kernel_rfl)) (by kernel_rfl) (lP 1 _ v1 rfl rfl) h1
 obtain⟨a2,r2,w2⟩:=Tt (ty:=(.int .i64)) kids rfl rfl (of_decide_eq_true (by kernel_rfl)) (by kernel_rfl) (lP 2 _ v2 rfl rfl) h2
 refine(Ul (aD:=[v0,v1,v2]) (En.aaa a0.1 a0.2 a1 a2 (wf_i64 w2) (fun o ho=>(w1.2 o ho).2.2.1)) (fun _ _=>rfl) ⟨aaj,r1.1,r2.1,trivial⟩).mono ?_
 rintro e W' ⟨rfl,hb⟩
 exact⟨_,rfl,Tv laidOut hW rfl rfl (by rfl) Tryz.underlying4 readable hb⟩
theorem aab:Tryz.prog.inPlace 8=Rows.engineWorkRow.inPlace:=by kernel_rfl
theorem oU:Tryz.prog.unfollowed 8=Rows.engineWorkRow.unfollowed:=by kernel_rfl
theorem RD:Tryz.prog.recurses 8=Rows.engineWorkRow.recurses:=by unfold Program.recurses;rw[oU];first|exact Bool.true_or _|kernel_rfl
theorem aac:Tryz.prog.varsNamed 8=Rows.engineWorkRow.named:=by kernel_rfl
theorem closed:joinedFacts Tryz.prog 8 Tryz.f8 Rows.engineWorkSpec Rows.engineWorkRow=true:=by
 unfold joinedFacts
 rw[aab,oU,RD,aac,Tx,Tz,WO,WQ,WR,WS,Yl]
 kernel_rfl
theorem holds:Rows.EngineWorkSaid :=
 OpenClaim.holds_of_wide 8 Tryz.f8 rfl rfl rfl rfl rfl rfl rfl ⟨rfl,rfl,rfl,rfl,rfl⟩ rfl rfl rfl rfl rfl (by kernel_rfl) Tryz.func8 closed
  (of_decide_eq_true (by kernel_rfl)) (by unfold Func.isWrapper;first|(rw[if_pos (by decide +kernel)];kernel_rfl)|(rw[if_neg (by decide +kernel)];exact⟨rfl,rfl⟩))
  (fun os started H enc _=>lifted os started H enc)
end Go.Proofs.YthnefnlhcijekaaGreat.REngineWork
#print axioms Go.Proofs.YthnefnlhcijekaaGreat.REngineWork.holds
