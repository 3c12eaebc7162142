/- The law EngineSeeds holds at every input that its statement lets in; part 1 of its proof. -/
import Derived.Test.YthnefnlhcijekaaGreatMB6
set_option linter.unusedVariables false
set_option linter.unusedSimpArgs false
namespace Go.Proofs.YthnefnlhcijekaaGreat.Ce
open Go Go.RowKit Fw Hi Po
theorem Uf (p:ax) (d:Cell):wN p d 0=d.2.2.1.sum:=rfl
end Go.Proofs.YthnefnlhcijekaaGreat.Ce
namespace Go.Proofs.YthnefnlhcijekaaGreat.En
open Go Go.RowKit Fw Hi Ce
section
variable {K:Kt} {m:Nat} {nm key:Nm} {w v:Int} {p:ax} {o:Jl}
theorem RD (h:o.1=7):(gT K o).1=K:=by
 unfold gT
 rw[if_neg (by omega),if_neg (by omega),if_neg (by omega),if_neg (by omega),if_neg (by omega),if_neg (by omega),if_neg (by omega)]
end
end Go.Proofs.YthnefnlhcijekaaGreat.En
set_option maxRecDepth 8000
namespace Go.Proofs.YthnefnlhcijekaaGreat.En
open Go Go.RowKit Fw Hi Ce
structure SdI (l:List Jl) (z:Nat×Kt×Nat×Nat×Nat):Prop where
 le:z.1≤l.length
 s:Small z.2.1 (2*z.1)
 m:z.2.2.2.1≤2*z.1
set_option maxHeartbeats 1000000 in
theorem aac (n aao s1:Int) (l:List Jl) (hN:∀ o∈l,aaE o):aa Tryz.prog 6 [.int .i64 fun _=>n,.agg [.int .u64 fun _=>aao,.int .u64 fun _=>s1],.aG To fun _=>l] [] (Y:=Unit) (fun _=>True) (fun _=>.tt) (fun _=>[]):=by
 have Lj:=aaD l 60 (by omega)
 by_cases hf:PM l 60
 rotate_left
 ·rw[decide_eq_false hf]at Lj
  (refine aa.q Tryz.func6 rfl fun S ao=>Wa _ ?_;(repeat' first|exact tv|apply pr|intro hh))
  (refine ab.q Lj [] fun _ _=>Wp _ ?_;(repeat' first|exact tv|apply pr|intro hh))
  all_goals ((refine ab.q Mk [] fun _ _=>Wp _ ?_;(repeat' first|exact tv|apply pr|intro hh)))
  all_goals exact ae.z () []
 rw[decide_eq_true hf]at Lj
 by_cases hn:1≤n∧n≤64
 rotate_left
 ·(refine aa.q Tryz.func6 rfl fun S ao=>Wa _ ?_;(repeat' first|exact tv|apply pr|intro hh))
  (refine ab.q Lj [] fun _ _=>Wp _ ?_;(repeat' first|exact tv|apply pr|intro hh))
  all_goals ((refine ab.q (LM n aao hn) [] fun _ _=>Wp _ ?_;(repeat' first|exact tv|apply pr|intro hh)))
  all_goals ((refine ab.q (LM n s1 hn) [] fun _ _=>Wp _ ?_;(repeat' first|exact tv|apply pr|intro hh)))
  all_goals ((refine ab.q Mk [] fun _ _=>Wp _ ?_;(repeat' first|exact tv|apply pr|intro hh)))
  all_goals exact ae.z () []
 have hl60:=hf.1
 (refine aa.q Tryz.func6 rfl fun S ao=>Wa _ ?_;(repeat' first|exact tv|apply pr|intro hh))
 (refine ab.q Lj [] fun _ _=>Wp _ ?_;(repeat' first|exact tv|apply pr|intro hh))
 all_goals ((refine ab.q (WB n aao hn) [] fun _ _=>Wp _ ?_;(repeat' first|exact tv|apply pr|intro hh)))
 all_goals ((refine ab.q (WB n s1 hn) [] fun _ _=>Wp _ ?_;(repeat' first|exact tv|apply pr|intro hh)))
 refine aH.intro hm (X:=Nat×Kt×Nat×Nat×Nat) (SdI l) (fun z=>l.length - z.1)
  (fun z=>[(2,.aG To fun _=>l),(7,.ptr 0 0),(9,.ptr 1 0),(11,.int .i64 fun _=>(z.1:Int))])
  (fun z=>[.bg (dY z.2.1 (2*z.1) z.2.2.1),.bg (dY z.2.1 z.2.2.2.1 z.2.2.2.2)]) (0,PK n,0,0,0) [1,2] ⟨rfl,rfl,?_,?_⟩ ⟨abw _,Small.zero hn,abw _⟩ ?_
 ·exact Vc
 ·exact Vc
 rintro⟨i,K,c,aap,ch⟩ hI
 have hi:=hI.le
 have hs:=hI.s
 have hmh:=hI.m
 simp only[]at hi hs hmh
 by_cases dp:i<l.length
 ·have hto:=Yf (m:=2*i) (m':=2*(i+1)) (c:=c) hs (l.getD ((i:Int)).toNat To.a8) (hN _ (Tr dp)) (by omega) (by omega)
  have hth:=Yf (m:=aap) (m':=2*(i+1)) (c:=ch) hs (l.getD ((i:Int)).toNat To.a8) (hN _ (Tr dp)) (by omega) (by omega)
  have hsm:=(hs.say (l.getD ((i:Int)).toNat To.a8)).up (show 2*i+1≤2*(i+1) by omega)
  by_cases h7:(l.getD ((i:Int)).toNat To.a8).1=7
  ·rw[RD h7]at hto hsm
   (refine Wa _ ?_;(repeat' first|exact tv|apply pr|intro hh))
   all_goals first|exact Ob.mk ⟨by simp only[];omega,by simp only[];omega⟩|(exfalso;omega)|skip
   all_goals ((refine ab.q hto [0] ?_;rintro c' _;refine Wp _ ?_;(repeat' first|exact tv|apply pr|intro hh)))
   all_goals first|exact Ob.mk ⟨by simp only[];omega,by simp only[];omega⟩|(exfalso;omega)|skip
   all_goals refine⟨(i+1,K,c',aap,ch),[0,1],⟨rfl,rfl,?_,?_⟩,⟨dp,hsm,by show aap≤_;omega⟩,by show _ - (i+1)<_ - i;omega⟩
   all_goals (refine Vb _ ?_;(repeat' first|exact tv|apply pr))
   all_goals first|(rw[wr (by omega)];omega)|skip
  ·(refine Wa _ ?_;(repeat' first|exact tv|apply pr|intro hh))
   all_goals first|exact Ob.mk ⟨by simp only[];omega,by simp only[];omega⟩|(exfalso;omega)|skip
   all_goals ((refine ab.q hto [0] ?_;rintro c' _;refine Wp _ ?_;(repeat' first|exact tv|apply pr|intro hh)))
   all_goals first|exact Ob.mk ⟨by simp only[];omega,by simp only[];omega⟩|(exfalso;omega)|skip
   all_goals ((refine ab.q hth [1] ?_;rintro c2 _;refine Wp _ ?_;(repeat' first|exact tv|apply pr|intro hh)))
   all_goals first|(exact absurd rfl ((G8 _ rfl _ _).1 hh))|(exact absurd rfl hh)|skip
   all_goals ((refine ab.q (Jj (K:=(gT K (l.getD ((i:Int)).toNat To.a8)).1) (m:=2*(i+1)) (c:=c')) [0] ?_;rintro _ ⟨⟨q1,q2⟩,q3⟩;refine Wp _ ?_;(repeat' first|exact tv|apply pr|intro hh)))
   all_goals ((refine ab.q (Jj (K:=(gT K (l.getD ((i:Int)).toNat To.a8)).1) (m:=2*(i+1)) (c:=c2)) [1] fun _ _=>Wp _ ?_;(repeat' first|exact tv|apply pr|intro hh)))
   all_goals ((refine ab.q (Yg (dT (gT K (l.getD ((i:Int)).toNat To.a8)).1) (dT (gT K (l.getD ((i:Int)).toNat To.a8)).1) (by omega)) [] fun _ _=>Wp _ ?_;(repeat' first|exact tv|apply pr|intro hh)))
   all_goals first|(exact absurd ‹_=false› (by simp))|skip
   all_goals refine⟨(i+1,(gT K (l.getD ((i:Int)).toNat To.a8)).1,c',2*(i+1),c2),[0,1],⟨rfl,rfl,?_,?_⟩,⟨dp,hsm,abr _⟩,by show _ - (i+1)<_ - i;omega⟩
   all_goals (refine Vb _ ?_;(repeat' first|exact tv|apply pr))
   all_goals first|(rw[wr (by omega)];omega)|skip
 (refine Wa _ ?_;(repeat' first|exact tv|apply pr|intro hh))
 all_goals first|(exfalso;omega)|skip
 all_goals ((refine ab.q Mk [] fun _ _=>Wp _ ?_;(repeat' first|exact tv|apply pr|intro hh)))
 all_goals exact ae.z () []
end Go.Proofs.YthnefnlhcijekaaGreat.En
namespace Go.Proofs.YthnefnlhcijekaaGreat.REngineSeeds
open Go Go.ChangeShapes Go.WideShapes Go.ChangeAt Go.RowKit Fw
theorem own:ownKnob Tryz.prog.godebug=none:=by kernel_rfl
theorem laidOut:laidOutB Tryz.prog=true:=Tx
theorem kids:Kids Tryz.prog (·<Tryz.prog.types.size):=Ym
theorem readable:∀ t∈Tryz.f6.params.toList,Tryz.prog.readableRec t=true∧t<Tryz.prog.types.size:=by
 have h:(Tryz.f6.params.toList.all fun t=>Tryz.prog.readableRec t && decide (t<Tryz.prog.types.size))=true:=by kernel_rfl
 intro t ht
 have:=acA.1 h t ht
 rw[abD,decide_eq_true_eq]at this
 exact this
set_option maxRecDepth 100000 in
theorem lifted (os:Os) (started:os.Started) (H:Type) (enc:TypeId×Value→H) :
  ReturnsInHanded {} Tryz.checked os 6 .any (Rows.engineSeedsSpec.pre6 enc Tryz.prog Tryz.f6 Rows.engineSeedsRow.domain false) (Rows.engineSeedsSpec.post enc Tryz.prog Tryz.f6 false true false false):=by
 refine returnsInHanded_of_change (C:=Tryz.checked) own started (by kernel_rfl) Tryz.func6
  (ChangeSpec.witness6 (enc:=enc) (C:=Tryz.checked) false ⟨#[],#[.int .i64 0,.agg #[.int .u64 0,.int .u64 0],.slice none 0 0],[]⟩ 8 (by kernel_rfl) (by kernel_rfl) (by kernel_rfl) (by kernel_rfl)) ?_
 intro W base args ds gs before aae hW hcnd _
 have lP:∀ (j:Nat) t v,Tryz.f6.params[j]?=some t→args[j]?=some v→Value.okWide Tryz.prog W .any base t v:=aae
 have hW':DataW.Whole enc Tryz.prog Tryz.f6.params.toList Rows.engineSeedsSpec.vars false W args.toList ds gs before:=hW
 obtain⟨p,q,hA0,hV,_,_,_⟩:=hW'
 have hA:DataW.TrodAll enc Tryz.prog W 0 (fun _=>true) true Tryz.f6.params.toList args.toList ds p:=hA0
 rw[Tryz.params6]at hA lP
 obtain⟨v0,v1,v2,d0,d1,d2,p0,p1,p2,rfl,rfl,rfl,h0,h1,h2⟩:=trodAll_three hA
 obtain⟨rfl,rfl⟩:=trodVars_none hV
 obtain⟨a0,aaq,w0⟩:=Tt (ty:=(.int .i64)) kids rfl rfl (of_decide_eq_true (by kernel_rfl)) (by kernel_rfl) (lP 0 _ v0 rfl rfl) h0
 obtain⟨a1,r1,w1⟩:=PQ (ty:=(.pair (.int .u64) (.int .u64))) kids rfl rfl (of_decide_eq_true (by kernel_rfl)) (by kernel_rfl) (lP 1 _ v1 rfl rfl) h1
 obtain⟨a2,r2,w2⟩:=Tt (ty:=(.list En.To)) kids rfl rfl (of_decide_eq_true (by kernel_rfl)) (by kernel_rfl) (lP 2 _ v2 rfl rfl) h2
 refine(Ul (aD:=[v0,v1,v2]) (En.aac a0 a1.1 a1.2 a2 (fun o ho=>(w2.2 o ho).2.2.1)) (fun _ _=>rfl) ⟨aaq.1,r1,r2.1,trivial⟩).mono ?_
 rintro e W' ⟨rfl,hb⟩
 exact⟨_,rfl,Tv laidOut hW rfl rfl (by rfl) Tryz.underlying4 readable hb⟩
theorem aab:Tryz.prog.inPlace 6=Rows.engineSeedsRow.inPlace:=by kernel_rfl
theorem oU:Tryz.prog.unfollowed 6=Rows.engineSeedsRow.unfollowed:=by kernel_rfl
theorem aaa:Tryz.prog.recurses 6=Rows.engineSeedsRow.recurses:=by unfold Program.recurses;rw[oU];first|exact Bool.true_or _|kernel_rfl
theorem aad:Tryz.prog.varsNamed 6=Rows.engineSeedsRow.named:=by kernel_rfl
theorem closed:joinedFacts Tryz.prog 6 Tryz.f6 Rows.engineSeedsSpec Rows.engineSeedsRow=true:=by
 unfold joinedFacts
 rw[aab,oU,aaa,aad,Tx,Tz,WO,WQ,WR,WS,Yl]
 kernel_rfl
theorem holds:Rows.EngineSeedsSaid :=
 OpenClaim.holds_of_wide 6 Tryz.f6 rfl rfl rfl rfl rfl rfl rfl ⟨rfl,rfl,rfl,rfl,rfl⟩ rfl rfl rfl rfl rfl (by kernel_rfl) Tryz.func6 closed
  (of_decide_eq_true (by kernel_rfl)) (by unfold Func.isWrapper;first|(rw[if_pos (by decide +kernel)];kernel_rfl)|(rw[if_neg (by decide +kernel)];exact⟨rfl,rfl⟩))
  (fun os started H enc _=>lifted os started H enc)
end Go.Proofs.YthnefnlhcijekaaGreat.REngineSeeds
#print axioms Go.Proofs.YthnefnlhcijekaaGreat.REngineSeeds.holds
