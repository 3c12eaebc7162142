/- The law EngineClock holds at every input that its statement lets in; part 1 of its proof. -/
import Derived.Test.YthnefnlhcijekaaGreatMB6
set_option linter.unusedVariables false
set_option linter.unusedSimpArgs false
namespace Go.Proofs.YthnefnlhcijekaaGreat.Ce
open Go Go.RowKit Fw Hi Po
theorem Uf (p:ax) (d:Cell):wN p d 0=d.2.2.1.sum:=rfl
end Go.Proofs.YthnefnlhcijekaaGreat.Ce
namespace Go.Proofs.YthnefnlhcijekaaGreat.En
open Go Go.RowKit Fw Hi Ce
section
variable {K:Kt} {m:Nat} {nm key:Nm} {w v:Int} {p:ax} {o:Jl}
theorem aaa:(cz K nm w).1.n=K.n∧(cz K nm w).1.now=K.now∧(cz K nm w).1.bk=K.bk:=by
 unfold cz;split
 ·split <;> exact⟨rfl,rfl,rfl⟩
 ·exact⟨rfl,rfl,rfl⟩
theorem aae (h2:o.1≠2) (h3:o.1≠3):(gT K o).1.now=K.now:=by
 unfold gT
 split
 ·exact aaa.2.1
 split
 ·rfl
 first|rw[if_neg h2,if_neg h3]|skip
 split
 ·unfold kH;split <;> rfl
 split
 ·unfold o9;split <;> rfl
 split
 ·unfold cK;split
  ·split <;> rfl
  ·rfl
 ·rfl
end
end Go.Proofs.YthnefnlhcijekaaGreat.En
set_option maxRecDepth 8000
namespace Go.Proofs.YthnefnlhcijekaaGreat.En
open Go Go.RowKit Fw Hi Ce
structure ClI (l:List Jl) (z:Nat×Kt×Nat):Prop where
 le:z.1≤l.length
 s:Small z.2.1 (2*z.1)
theorem aab {K:Kt} {m:Nat} (s:Small K m) (t:Int) (h:0≤t∧t≤1099511627776):(dW K t).now=max K.now t:=by
 have O9:j5=1099511627776:=rfl
 unfold dW;split
 ·show t=_;omega
 ·show K.now=_;omega
theorem RD {K:Kt} {m:Nat} (s:Small K m) (t:Int) (h:¬(0≤t∧t≤1099511627776)):dW K t=K:=by
 have O9:j5=1099511627776:=rfl
 have:=s.now
 unfold dW;rw[if_neg (by omega)]
set_option maxHeartbeats 1000000 in
theorem aaf (n sd:Int) (l:List Jl) (hN:∀ o∈l,aaE o):aa Tryz.prog 11 [Jh n sd,.aG To fun _=>l] [] (Y:=Unit) (fun _=>True) (fun _=>.tt) (fun _=>[]):=by
 have Lj:=aaD l 60 (by omega)
 have O9:j5=1099511627776:=rfl
 by_cases hn:1≤n∧n≤64
 rotate_left
 ·by_cases hf:PM l 60
  all_goals first|rw[decide_eq_true hf]at Lj|rw[decide_eq_false hf]at Lj
  all_goals (refine aa.q Tryz.func11 rfl fun S ao=>?_;(conv=>whnf))
  all_goals (refine Wa _ ?_;(repeat' first|exact tv|apply pr|intro hh))
  all_goals ((refine ab.q (LM n sd hn) [] fun _ _=>Wp _ ?_;(repeat' first|exact tv|apply pr|intro hh)))
  all_goals ((refine ab.q Lj [] fun _ _=>Wp _ ?_;(repeat' first|exact tv|apply pr|intro hh)))
  all_goals ((refine ab.q Mk [] fun _ _=>Wp _ ?_;(repeat' first|exact tv|apply pr|intro hh)))
  all_goals exact ae.z () []
 by_cases hf:PM l 60
 rotate_left
 ·rw[decide_eq_false hf]at Lj
  (refine aa.q Tryz.func11 rfl fun S ao=>Wa _ ?_;(repeat' first|exact tv|apply pr|intro hh))
  (refine ab.q (WB n sd hn) [] fun _ _=>Wp _ ?_;(repeat' first|exact tv|apply pr|intro hh))
  (refine ab.q Lj [] fun _ _=>Wp _ ?_;(repeat' first|exact tv|apply pr|intro hh))
  all_goals ((refine ab.q Mk [] fun _ _=>Wp _ ?_;(repeat' first|exact tv|apply pr|intro hh)))
  all_goals exact ae.z () []
 rw[decide_eq_true hf]at Lj
 have hl60:=hf.1
 (refine aa.q Tryz.func11 rfl fun S ao=>Wa _ ?_;(repeat' first|exact tv|apply pr|intro hh))
 (refine ab.q (WB n sd hn) [] fun _ _=>Wp _ ?_;(repeat' first|exact tv|apply pr|intro hh))
 (refine ab.q Lj [] fun _ _=>Wp _ ?_;(repeat' first|exact tv|apply pr|intro hh))
 refine aH.intro hm (X:=Nat×Kt×Nat) (ClI l) (fun z=>l.length - z.1)
  (fun z=>[(1,.aG To fun _=>l),(5,.ptr 0 0),(7,.int .i64 fun _=>z.2.1.now),(8,.int .i64 fun _=>(z.1:Int))])
  (fun z=>[.bg (dY z.2.1 (2*z.1) z.2.2)]) (0,PK n,0) [1] ⟨rfl,rfl,?_,?_⟩ ⟨abw _,Small.zero hn⟩ ?_
 ·exact Vc
 ·exact Vc
 rintro⟨i,K,c⟩ hI
 have hi:=hI.le
 have hs:=hI.s
 simp only[]at hi hs
 by_cases dp:i<l.length
 ·have hto:=Yf (m:=2*i) (m':=2*(i+1)) (c:=c) hs (l.getD ((i:Int)).toNat To.a8) (hN _ (Tr dp)) (by omega) (by omega)
  have hsm:=(hs.say (l.getD ((i:Int)).toNat To.a8)).up (show 2*i+1≤2*(i+1) by omega)
  have dm:=(hs.tick (l.getD ((i:Int)).toNat To.a8).2.2.1).up (show 2*i≤2*(i+1) by omega)
  have HP:=wG (K:=K) (m:=2*i) (m':=2*(i+1)) (c:=c) (l.getD ((i:Int)).toNat To.a8).2.2.1 (by omega)
  by_cases h23:(l.getD ((i:Int)).toNat To.a8).1=2∨(l.getD ((i:Int)).toNat To.a8).1=3
  ·by_cases hr:0≤(l.getD ((i:Int)).toNat To.a8).2.2.1∧(l.getD ((i:Int)).toNat To.a8).2.2.1≤1099511627776
   ·have mc:=aab hs _ hr
    (refine Wa _ ?_;(repeat' first|exact tv|apply pr|intro hh))
    all_goals first|exact Ob.mk ⟨by simp only[];omega,by simp only[];omega⟩|(exfalso;omega)|skip
    all_goals ((refine ab.q HP [0] ?_;rintro c' _;refine Wp _ ?_;(repeat' first|exact tv|apply pr|intro hh)))
    all_goals first|(exfalso;omega)|skip
    all_goals refine⟨(i+1,dW K (l.getD ((i:Int)).toNat To.a8).2.2.1,c'),[0],⟨rfl,rfl,?_,?_⟩,⟨dp,dm⟩,by show _ - (i+1)<_ - i;omega⟩
    all_goals (refine Vb _ ?_;(repeat' first|exact tv|apply pr))
    all_goals first|(rw[wr (by omega)];omega)|exact hh.symm|skip
   ·have hsa:=RD hs _ hr
    (refine Wa _ ?_;(repeat' first|exact tv|apply pr|intro hh))
    all_goals first|exact Ob.mk ⟨by simp only[];omega,by simp only[];omega⟩|(exfalso;omega)|skip
    all_goals ((refine ab.q HP [0] ?_;rintro c' _;refine Wp _ ?_;(repeat' first|exact tv|apply pr|intro hh)))
    all_goals first|(rw[hsa]at hh;exfalso;omega)|skip
    all_goals refine⟨(i+1,dW K (l.getD ((i:Int)).toNat To.a8).2.2.1,c'),[0],⟨rfl,rfl,?_,?_⟩,⟨dp,dm⟩,by show _ - (i+1)<_ - i;omega⟩
    all_goals (refine Vb _ ?_;(repeat' first|exact tv|apply pr))
    all_goals first|(rw[wr (by omega)];omega)|(rw[hsa])|skip
  ·have Wt:=aae (K:=K) (o:=l.getD ((i:Int)).toNat To.a8) (by omega) (by omega)
   (refine Wa _ ?_;(repeat' first|exact tv|apply pr|intro hh))
   all_goals first|exact Ob.mk ⟨by simp only[];omega,by simp only[];omega⟩|(exfalso;omega)|skip
   all_goals ((refine ab.q hto [0] ?_;rintro c' _;refine Wp _ ?_;(repeat' first|exact tv|apply pr|intro hh)))
   all_goals refine⟨(i+1,(gT K (l.getD ((i:Int)).toNat To.a8)).1,c'),[0],⟨rfl,rfl,?_,?_⟩,⟨dp,hsm⟩,by show _ - (i+1)<_ - i;omega⟩
   all_goals (refine Vb _ ?_;(repeat' first|exact tv|apply pr))
   all_goals first|(rw[wr (by omega)];omega)|exact Wt.symm|skip
 ·have ZX:=fun c=>wG (K:=K) (m:=2*i) (m':=2*i+1) (c:=c) 0 (by omega)
  have TU:=fun c=>wG (K:=K) (m:=2*i+1) (m':=2*i+2) (c:=c) (-1) (by omega)
  simp only[Tn hs]at ZX
  simp only[RD hs (-1) (by omega)]at TU
  (refine Wa _ ?_;(repeat' first|exact tv|apply pr|intro hh))
  all_goals first|(exfalso;omega)|skip
  (refine ab.q (ZX c) [0] ?_;rintro c1 _;refine Wp _ ?_;(repeat' first|exact tv|apply pr|intro hh))
  all_goals first|(exfalso;omega)|skip
  all_goals ((refine ab.q (TU c1) [0] ?_;rintro c2 _;refine Wp _ ?_;(repeat' first|exact tv|apply pr|intro hh)))
  all_goals first|(exfalso;omega)|skip
  all_goals ((refine ab.q Mk [] fun _ _=>Wp _ ?_;(repeat' first|exact tv|apply pr|intro hh)))
  all_goals exact ae.z () []
end Go.Proofs.YthnefnlhcijekaaGreat.En
namespace Go.Proofs.YthnefnlhcijekaaGreat.REngineClock
open Go Go.ChangeShapes Go.WideShapes Go.ChangeAt Go.RowKit Fw
theorem own:ownKnob Tryz.prog.godebug=none:=by kernel_rfl
theorem laidOut:laidOutB Tryz.prog=true:=Tx
theorem kids:Kids Tryz.prog (·<Tryz.prog.types.size):=Ym
theorem readable:∀ t∈Tryz.f11.params.toList,Tryz.prog.readableRec t=true∧t<Tryz.prog.types.size:=by
 have h:(Tryz.f11.params.toList.all fun t=>Tryz.prog.readableRec t && decide (t<Tryz.prog.types.size))=true:=by kernel_rfl
 intro t ht
 have:=acA.1 h t ht
 rw[abD,decide_eq_true_eq]at this
 exact this
set_option maxRecDepth 100000 in
theorem lifted (os:Os) (started:os.Started) (H:Type) (enc:TypeId×Value→H) :
  ReturnsInHanded {} Tryz.checked os 11 .any (Rows.engineClockSpec.pre6 enc Tryz.prog Tryz.f11 Rows.engineClockRow.domain false) (Rows.engineClockSpec.post enc Tryz.prog Tryz.f11 false true false false):=by
 refine returnsInHanded_of_change (C:=Tryz.checked) own started (by kernel_rfl) Tryz.func11
  (ChangeSpec.witness6 (enc:=enc) (C:=Tryz.checked) false ⟨#[],#[.agg #[.int .i64 0,.int .u64 0],.slice none 0 0],[]⟩ 8 (by kernel_rfl) (by kernel_rfl) (by kernel_rfl) (by kernel_rfl)) ?_
 intro W base args ds gs before aah hW hcnd _
 have lP:∀ (j:Nat) t v,Tryz.f11.params[j]?=some t→args[j]?=some v→Value.okWide Tryz.prog W .any base t v:=aah
 have hW':DataW.Whole enc Tryz.prog Tryz.f11.params.toList Rows.engineClockSpec.vars false W args.toList ds gs before:=hW
 obtain⟨p,q,hA0,hV,_,_,_⟩:=hW'
 have hA:DataW.TrodAll enc Tryz.prog W 0 (fun _=>true) true Tryz.f11.params.toList args.toList ds p:=hA0
 rw[Tryz.params11]at hA lP
 obtain⟨v0,v1,d0,d1,p0,p1,rfl,rfl,rfl,h0,h1⟩:=trodAll_two hA
 obtain⟨rfl,rfl⟩:=trodVars_none hV
 obtain⟨a0,aar,w0⟩:=PQ (ty:=(.pair (.int .i64) (.int .u64))) kids rfl rfl (of_decide_eq_true (by kernel_rfl)) (by kernel_rfl) (lP 0 _ v0 rfl rfl) h0
 obtain⟨a1,r1,w1⟩:=Tt (ty:=(.list En.To)) kids rfl rfl (of_decide_eq_true (by kernel_rfl)) (by kernel_rfl) (lP 1 _ v1 rfl rfl) h1
 refine(Ul (aD:=[v0,v1]) (En.aaf a0.1 a0.2 a1 (fun o ho=>(w1.2 o ho).2.2.1)) (fun _ _=>rfl) ⟨aar,r1.1,trivial⟩).mono ?_
 rintro e W' ⟨rfl,hb⟩
 exact⟨_,rfl,Tv laidOut hW rfl rfl (by rfl) Tryz.underlying4 readable hb⟩
theorem aad:Tryz.prog.inPlace 11=Rows.engineClockRow.inPlace:=by kernel_rfl
theorem oU:Tryz.prog.unfollowed 11=Rows.engineClockRow.unfollowed:=by kernel_rfl
theorem aac:Tryz.prog.recurses 11=Rows.engineClockRow.recurses:=by unfold Program.recurses;rw[oU];first|exact Bool.true_or _|kernel_rfl
theorem aag:Tryz.prog.varsNamed 11=Rows.engineClockRow.named:=by kernel_rfl
theorem closed:joinedFacts Tryz.prog 11 Tryz.f11 Rows.engineClockSpec Rows.engineClockRow=true:=by
 unfold joinedFacts
 rw[aad,oU,aac,aag,Tx,Tz,WO,WQ,WR,WS,Yl]
 kernel_rfl
theorem holds:Rows.EngineClockSaid :=
 OpenClaim.holds_of_wide 11 Tryz.f11 rfl rfl rfl rfl rfl rfl rfl ⟨rfl,rfl,rfl,rfl,rfl⟩ rfl rfl rfl rfl rfl (by kernel_rfl) Tryz.func11 closed
  (of_decide_eq_true (by kernel_rfl)) (by unfold Func.isWrapper;first|(rw[if_pos (by decide +kernel)];kernel_rfl)|(rw[if_neg (by decide +kernel)];exact⟨rfl,rfl⟩))
  (fun os started H enc _=>lifted os started H enc)
end Go.Proofs.YthnefnlhcijekaaGreat.REngineClock
#print axioms Go.Proofs.YthnefnlhcijekaaGreat.REngineClock.holds
