/- The law EngineNil holds at every input that its statement lets in; part 1 of its proof. -/
import Derived.Test.YthnefnlhcijekaaGreatMB6
set_option linter.unusedVariables false
set_option linter.unusedSimpArgs false
namespace Go.Proofs.YthnefnlhcijekaaGreat.Ce
open Go Go.RowKit Fw Hi Po
theorem Uf (p:ax) (d:Cell):wN p d 0=d.2.2.1.sum:=rfl
end Go.Proofs.YthnefnlhcijekaaGreat.Ce
set_option maxRecDepth 8000
namespace Go.Proofs.YthnefnlhcijekaaGreat.En
open Go Go.RowKit Fw Hi Ce Bt Eb
open Wh (aS dt eA cU cV)
theorem RD (nm:Nm) (w:Int):aa Tryz.prog 69 [.bZ,qC nm w] [] (Y:=Unit) (fun _=>True)
  (fun _=>yb (0,0,0,0) 0 0 false (0,0,[],[]) (1,zeroV)) (fun _=>[]):=by
 (refine aa.q Tryz.func69 rfl fun S ao=>Wa _ ?_;(repeat' first|exact tv|apply pr|intro hh))
 all_goals try ((refine ab.q (Am nm) [] fun _ _=>Wp _ ?_;(repeat' first|exact tv|apply pr|intro hh)))
 all_goals exact ae.z () []
theorem aai (nm:Nm) (w:Int):aa Tryz.prog 34 [.bZ,qC nm w] [] (Y:=Unit) (fun _=>True) (fun _=>uU (1,zeroV)) (fun _=>[]):=by
 (refine aa.q Tryz.func34 rfl fun S ao=>Wa _ ?_;(repeat' first|exact tv|apply pr|intro hh))
 (refine ab.q (RD nm w) [] fun _ _=>Wp _ ?_;(repeat' first|exact tv|apply pr|intro hh))
 exact ae.z () []
end Go.Proofs.YthnefnlhcijekaaGreat.En
set_option maxRecDepth 8000
namespace Go.Proofs.YthnefnlhcijekaaGreat.En
open Go Go.RowKit Fw Hi Ce Bt Eb
theorem aae:aa Tryz.prog 28 [.bZ] [] (Y:=Unit) (fun _=>True)
  (fun _=>.aG vv fun _=>[]) (fun _=>[]):=by
 (refine aa.q Tryz.func28 rfl fun S ao=>Wa _ ?_;(repeat' first|exact tv|apply pr|intro hh))
 all_goals exact ae.z () []
end Go.Proofs.YthnefnlhcijekaaGreat.En
set_option maxRecDepth 8000
namespace Go.Proofs.YthnefnlhcijekaaGreat.En
open Go Go.RowKit Fw Hi Ce Bt Eb
open Wh (aS dt eA cU cV)
theorem aaj (aB:Int):aa Tryz.prog 36 [.bZ,.int .i64 fun _=>aB] [] (Y:=Unit) (fun _=>True)
  (fun _=>.int .i64 fun _=>0) (fun _=>[]):=by
 (refine aa.q Tryz.func36 rfl fun S ao=>Wa _ ?_;(repeat' first|exact tv|apply pr|intro hh))
 all_goals exact ae.z () []
end Go.Proofs.YthnefnlhcijekaaGreat.En
set_option maxRecDepth 8000
namespace Go.Proofs.YthnefnlhcijekaaGreat.En
open Go Go.RowKit Fw Hi Ce Bt Eb
theorem aak:aa Tryz.prog 25 [.bZ] [] (Y:=Unit) (fun _=>True)
  (fun _=>.bZ) (fun _=>[]):=by
 (refine aa.q Tryz.func25 rfl fun S ao=>Wa _ ?_;(repeat' first|exact tv|apply pr|intro hh))
 all_goals exact ae.z () []
end Go.Proofs.YthnefnlhcijekaaGreat.En
set_option maxRecDepth 8000
namespace Go.Proofs.YthnefnlhcijekaaGreat.En
open Go Go.RowKit Fw Hi Ce Bt Eb
theorem aaf (nm:Nm) (w:Int):aa Tryz.prog 29 [.bZ,qC nm w] [] (Y:=Unit) (fun _=>True) (fun _=>uU (1,zeroV)) (fun _=>[]):=by
 (refine aa.q Tryz.func29 rfl fun S ao=>Wa _ ?_;(repeat' first|exact tv|apply pr|intro hh))
 (refine ab.q (RD nm w) [] fun _ _=>Wp _ ?_;(repeat' first|exact tv|apply pr|intro hh))
 all_goals exact ae.z () []
theorem aap (id:Int) (p:ax):aa Tryz.prog 24 [.bZ,.int .i64 fun _=>id,aI p] [] (Y:=Unit) (fun _=>True) (fun _=>.bM [.int .i64 fun _=>0,.int .i64 fun _=>1]) (fun _=>[]):=by
 (refine aa.q Tryz.func24 rfl fun S ao=>Wa _ ?_;(repeat' first|exact tv|apply pr|intro hh))
 all_goals exact ae.z () []
theorem aaa (id:Int):aa Tryz.prog 41 [.bZ,.int .i64 fun _=>id] [] (Y:=Unit) (fun _=>True) (fun _=>.bM [aI (0,0,0,0),.int .i64 fun _=>0,.int .i64 fun _=>1]) (fun _=>[]):=by
 (refine aa.q Tryz.func41 rfl fun S ao=>Wa _ ?_;(repeat' first|exact tv|apply pr|intro hh))
 all_goals exact ae.z () []
theorem aab (id:Int):aa Tryz.prog 43 [.bZ,.int .i64 fun _=>id] [] (Y:=Unit) (fun _=>True) (fun _=>.int .i64 fun _=>1) (fun _=>[]):=by
 (refine aa.q Tryz.func43 rfl fun S ao=>Wa _ ?_;(repeat' first|exact tv|apply pr|intro hh))
 all_goals exact ae.z () []
theorem aac (nm:Nm):aa Tryz.prog 37 [.bZ,uR nm] [] (Y:=Unit) (fun _=>True) (fun _=>.int .i64 fun _=>1) (fun _=>[]):=by
 (refine aa.q Tryz.func37 rfl fun S ao=>Wa _ ?_;(repeat' first|exact tv|apply pr|intro hh))
 all_goals exact ae.z () []
theorem aam (t:Int):aa Tryz.prog 23 [.bZ,.int .i64 fun _=>t] [] (Y:=Unit) (fun _=>True) (fun _=>.int .i64 fun _=>0) (fun _=>[]):=by
 (refine aa.q Tryz.func23 rfl fun S ao=>Wa _ ?_;(repeat' first|exact tv|apply pr|intro hh))
 all_goals exact ae.z () []
theorem aag:aa Tryz.prog 35 [.bZ] [] (Y:=Unit) (fun _=>True) (fun _=>.int .i64 fun _=>0) (fun _=>[]):=by
 (refine aa.q Tryz.func35 rfl fun S ao=>Wa _ ?_;(repeat' first|exact tv|apply pr|intro hh))
 all_goals exact ae.z () []
end Go.Proofs.YthnefnlhcijekaaGreat.En
set_option maxRecDepth 8000
namespace Go.Proofs.YthnefnlhcijekaaGreat.En
open Go Go.RowKit Fw Hi Ce
theorem aao (o:Jl):aa Tryz.prog 13 [WD o] [] (Y:=Unit) (fun _=>True) (fun _=>.tt) (fun _=>[]):=by
 (refine aa.q Tryz.func13 rfl fun S ao=>Wa _ ?_;(repeat' first|exact tv|apply pr|intro hh))
 ·(refine ab.q Mk [] fun _ _=>Wp _ ?_;(repeat' first|exact tv|apply pr|intro hh))
  exact ae.z () []
 (refine ab.q (aap o.2.1.1 o.2.2.2) [] fun _ _=>Wp _ ?_;(repeat' first|exact tv|apply pr|intro hh))
 (refine ab.q (aaa o.2.1.1) [] fun _ _=>Wp _ ?_;(repeat' first|exact tv|apply pr|intro hh))
 (refine ab.q (aaf (DW o) (oW o)) [] fun _ _=>Wp _ ?_;(repeat' first|exact tv|apply pr|intro hh))
 all_goals ((refine ab.q (aai (DW o) (oW o)) [] fun _ _=>Wp _ ?_;(repeat' first|exact tv|apply pr|intro hh)))
 all_goals ((refine ab.q (aab o.2.1.1) [] fun _ _=>Wp _ ?_;(repeat' first|exact tv|apply pr|intro hh)))
 all_goals ((refine ab.q (Tp (DW o) (oW o)) [] fun _ _=>Wp _ ?_;(repeat' first|exact tv|apply pr|intro hh)))
 all_goals ((refine ab.q (aac (DW o)) [] fun _ _=>Wp _ ?_;(repeat' first|exact tv|apply pr|intro hh)))
 all_goals ((refine ab.q (aam o.2.2.1) [] fun _ _=>Wp _ ?_;(repeat' first|exact tv|apply pr|intro hh)))
 all_goals ((refine ab.q aae [] fun _ _=>Wp _ ?_;(repeat' first|exact tv|apply pr|intro hh)))
 all_goals ((refine ab.q aag [] fun _ _=>Wp _ ?_;(repeat' first|exact tv|apply pr|intro hh)))
 all_goals ((refine ab.q (aaj o.2.2.1) [] fun _ _=>Wp _ ?_;(repeat' first|exact tv|apply pr|intro hh)))
 all_goals ((refine ab.q aak [] fun _ _=>Wp _ ?_;(repeat' first|exact tv|apply pr|intro hh)))
 all_goals ((refine ab.q Mk [] fun _ _=>Wp _ ?_;(repeat' first|exact tv|apply pr|intro hh)))
 all_goals exact ae.z () []
end Go.Proofs.YthnefnlhcijekaaGreat.En
namespace Go.Proofs.YthnefnlhcijekaaGreat.REngineNil
open Go Go.ChangeShapes Go.WideShapes Go.ChangeAt Go.RowKit Fw
theorem own:ownKnob Tryz.prog.godebug=none:=by kernel_rfl
theorem laidOut:laidOutB Tryz.prog=true:=Tx
theorem kids:Kids Tryz.prog (·<Tryz.prog.types.size):=Ym
theorem readable:∀ t∈Tryz.f13.params.toList,Tryz.prog.readableRec t=true∧t<Tryz.prog.types.size:=by
 have h:(Tryz.f13.params.toList.all fun t=>Tryz.prog.readableRec t && decide (t<Tryz.prog.types.size))=true:=by kernel_rfl
 intro t ht
 have:=acA.1 h t ht
 rw[abD,decide_eq_true_eq]at this
 exact this
set_option maxRecDepth 100000 in
theorem lifted (os:Os) (started:os.Started) (H:Type) (enc:TypeId×Value→H) :
  ReturnsInHanded {} Tryz.checked os 13 .any (Rows.engineNilSpec.pre6 enc Tryz.prog Tryz.f13 Rows.engineNilRow.domain false) (Rows.engineNilSpec.post enc Tryz.prog Tryz.f13 false true false false):=by
 refine returnsInHanded_of_change (C:=Tryz.checked) own started (by kernel_rfl) Tryz.func13
  (ChangeSpec.witness6 (enc:=enc) (C:=Tryz.checked) false ⟨#[],#[.agg #[.int .i64 0,.int .i64 0,.string .empty,.int .i64 0,.int .i64 0,.int .i64 0,.int .i64 0,.int .i64 0,.int .i64 0]],[]⟩ 8 (by kernel_rfl) (by kernel_rfl) (by kernel_rfl) (by kernel_rfl)) ?_
 intro W base args ds gs before aar hW hcnd _
 have lP:∀ (j:Nat) t v,Tryz.f13.params[j]?=some t→args[j]?=some v→Value.okWide Tryz.prog W .any base t v:=aar
 have hW':DataW.Whole enc Tryz.prog Tryz.f13.params.toList Rows.engineNilSpec.vars false W args.toList ds gs before:=hW
 obtain⟨p,q,hA0,hV,_,_,_⟩:=hW'
 have hA:DataW.TrodAll enc Tryz.prog W 0 (fun _=>true) true Tryz.f13.params.toList args.toList ds p:=hA0
 rw[Tryz.params13]at hA lP
 obtain⟨v0,d0,rfl,rfl,h0⟩:=trodAll_one hA
 obtain⟨rfl,rfl⟩:=trodVars_none hV
 obtain⟨a0,aau,w0⟩:=PQ (ty:=En.To) kids rfl rfl (of_decide_eq_true (by kernel_rfl)) (by kernel_rfl) (lP 0 _ v0 rfl rfl) h0
 refine(Ul (aD:=[v0]) (En.aao a0) (fun _ _=>rfl) ⟨aau,trivial⟩).mono ?_
 rintro e W' ⟨rfl,hb⟩
 exact⟨_,rfl,Tv laidOut hW rfl rfl (by rfl) Tryz.underlying4 readable hb⟩
theorem aah:Tryz.prog.inPlace 13=Rows.engineNilRow.inPlace:=by kernel_rfl
theorem oU:Tryz.prog.unfollowed 13=Rows.engineNilRow.unfollowed:=by kernel_rfl
theorem aad:Tryz.prog.recurses 13=Rows.engineNilRow.recurses:=by unfold Program.recurses;rw[oU];first|exact Bool.true_or _|kernel_rfl
theorem aaq:Tryz.prog.varsNamed 13=Rows.engineNilRow.named:=by kernel_rfl
theorem closed:joinedFacts Tryz.prog 13 Tryz.f13 Rows.engineNilSpec Rows.engineNilRow=true:=by
 unfold joinedFacts
 rw[aah,oU,aad,aaq,Tx,Tz,WO,WQ,WR,WS,Yl]
 kernel_rfl
theorem holds:Rows.EngineNilSaid :=
 OpenClaim.holds_of_wide 13 Tryz.f13 rfl rfl rfl rfl rfl rfl rfl ⟨rfl,rfl,rfl,rfl,rfl⟩ rfl rfl rfl rfl rfl (by kernel_rfl) Tryz.func13 closed
  (of_decide_eq_true (by kernel_rfl)) (by unfold Func.isWrapper;first|(rw[if_pos (by decide +kernel)];kernel_rfl)|(rw[if_neg (by decide +kernel)];exact⟨rfl,rfl⟩))
  (fun os started H enc _=>lifted os started H enc)
end Go.Proofs.YthnefnlhcijekaaGreat.REngineNil
#print axioms Go.Proofs.YthnefnlhcijekaaGreat.REngineNil.holds
