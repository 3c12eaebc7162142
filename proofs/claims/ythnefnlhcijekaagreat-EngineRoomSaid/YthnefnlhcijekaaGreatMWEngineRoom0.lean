/- The law EngineRoom holds at every input that its statement lets in; part 1 of its proof. -/
import Derived.Test.YthnefnlhcijekaaGreatMB6
set_option linter.unusedVariables false
set_option linter.unusedSimpArgs false
namespace Go.Proofs.YthnefnlhcijekaaGreat.Ce
open Go Go.RowKit Fw Hi Po
theorem Uf (p:ax) (d:Cell):wN p d 0=d.2.2.1.sum:=rfl
end Go.Proofs.YthnefnlhcijekaaGreat.Ce
namespace Go.Proofs.YthnefnlhcijekaaGreat.En
open Go Go.RowKit Fw Hi Ce
section
variable {K:Kt} {m:Nat} {nm key:Nm} {w v:Int} {p:ax} {o:Jl}
theorem aaa:(cz K nm w).1.n=K.n∧(cz K nm w).1.now=K.now∧(cz K nm w).1.bk=K.bk:=by
 unfold cz;split
 ·split <;> exact⟨rfl,rfl,rfl⟩
 ·exact⟨rfl,rfl,rfl⟩
theorem aac (h:Qg K.L):Qg (cz K nm w).1.L:=by
 unfold cz;split
 ·split
  ·exact h
  ·exact DJ h
 ·exact h
theorem RD (h:Qg K.L) (t:Int):Qg (dW K t).L:=by unfold dW;split <;> exact h
theorem aag (h:Qg K.L) (o:Jl):Qg (gT K o).1.L:=by
 unfold gT
 split
 ·exact aac h
 split
 ·exact h
 split
 ·exact RD h _
 split
 ·split
  ·exact h
  ·exact RD h _
 split
 ·unfold kH;split
  ·exact h.sublist (adz ..)
  ·exact h
 split
 ·unfold o9;split
  ·exact h.sublist (adz ..)
  ·exact h
 split
 ·unfold cK;split
  ·split
   ·exact h
   ·exact h.sublist (Az _ _)
  ·exact h
 ·exact h
theorem aad:(eY K nm w).2.1.1=0∨(eY K nm w).2.1.1=1∨(eY K nm w).2.1.1=5:=by
 unfold eY;split
 ·cases cx K.bk nm.1 with
  | none=>exact .inr (.inr rfl)
  | some _=>exact .inl rfl
 ·exact .inr (.inl rfl)
theorem aah (s:Small K m) (hs:Qg K.L) (h:(eY K nm w).2.1.1=0):(eY K nm w).2.2=decide (nm∈dT K):=by
 cases hb:fe nm && aU w with
 | false=>rw[(Ao hb).1]at h;exact absurd h (by decide)
 | true =>
  rw[abD]at hb
  cases hc:cx K.bk nm.1 with
  | none=>rw[(wF hb.1 hb.2 hc).1]at h;exact absurd h (by decide)
  | some pv =>
   obtain⟨p,v⟩:=pv
   rw[look_ok hb.1 hb.2 hc]
   show(!Hi.neutral p (aR K.L nm) K.now)=decide (nm∈dT K)
   by_cases hm:nm∈dT K
   ·rw[decide_eq_true hm]
    unfold dT at hm
    obtain⟨x,hx,e⟩:=abR.1 hm
    subst e
    obtain⟨hx,hq⟩:=acr.1 hx
    rw[uK hs hx]
    unfold Px at hq;rw[hc]at hq;exact hq
   ·rw[decide_eq_false hm]
    cases hq:Hi.neutral p (aR K.L nm) K.now with
    | true=>rfl
    | false =>
     exfalso;apply hm
     by_cases h0:aR K.L nm=[]
     ·rw[h0]at hq
      have f:=(x7 (x8 s.bk hc).1).later s.now.1 s.now.2
      unfold Hi.neutral at hq;rw[f.fits]at hq
      have e0:counts p [] K.now=0:=by unfold counts;split <;> rfl
      rw[e0]at hq;exact absurd hq (by decide)
     ·unfold dT
      refine abR.2 ⟨_,acr.2 ⟨DK h0,?_⟩,rfl⟩
      unfold Px;rw[hc];simp only[hq];rfl
theorem aai (s:Small K m) (hs:Qg K.L) (nm:Nm) (w:Int) :
  ((cz K nm w).2.1=7↔(eY K nm w).2.1.1=0∧(eY K nm w).2.1.2.1=true∧K.n≤(dT K).length∧nm∉dT K) ∧
  ((cz K nm w).2.1≠7→(cz K nm w).2=(eY K nm w).2.1)∧((cz K nm w).2.1=7→cz K nm w=(K,(7,zeroV))):=by
 have hl:=aad (K:=K) (nm:=nm) (w:=w)
 unfold cz
 by_cases h:(eY K nm w).2.1.1=0∧(eY K nm w).2.1.2.1=true
 ·rw[if_pos h]
  have hi:=aah s hs h.1
  by_cases h2:(eY K nm w).2.2=false∧K.n≤(dT K).length
  ·rw[if_pos h2]
   refine⟨⟨fun _=>⟨h.1,h.2,h2.2,fun hm=>?_⟩,fun _=>rfl⟩,fun h3=>absurd rfl h3,fun _=>rfl⟩
   rw[h2.1,decide_eq_true hm]at hi
   cases hi
  ·rw[if_neg h2]
   refine⟨⟨fun h3=>?_,fun h3=>?_⟩,fun _=>rfl,fun h3=>?_⟩
   ·exfalso;change (eY K nm w).2.1.1=7 at h3;omega
   ·exfalso;exact h2 ⟨by rw[hi,decide_eq_false h3.2.2.2],h3.2.2.1⟩
   ·exfalso;change (eY K nm w).2.1.1=7 at h3;omega
 ·rw[if_neg h]
  refine⟨⟨fun h3=>?_,fun h3=>absurd ⟨h3.1,h3.2.1⟩ h⟩,fun _=>rfl,fun h3=>?_⟩
  ·exfalso;change (eY K nm w).2.1.1=7 at h3;omega
  ·exfalso;change (eY K nm w).2.1.1=7 at h3;omega
theorem aak (o:Jl):(gT K o).1.n=K.n:=by
 unfold gT
 split
 ·exact aaa.1
 split
 ·rfl
 split
 ·unfold dW;split <;> rfl
 split
 ·split
  ·rfl
  ·unfold dW;split <;> rfl
 split
 ·unfold kH;split <;> rfl
 split
 ·unfold o9;split <;> rfl
 split
 ·unfold cK;split
  ·split <;> rfl
  ·rfl
 ·rfl
end
end Go.Proofs.YthnefnlhcijekaaGreat.En
set_option maxRecDepth 8000
namespace Go.Proofs.YthnefnlhcijekaaGreat.En
open Go Go.RowKit Fw Hi Ce
structure RoI (n:Int) (l:List Jl) (z:Nat×Kt×Nat):Prop where
 le:z.1≤l.length
 s:Small z.2.1 (2*z.1)
 srt:Qg z.2.1.L
 n:z.2.1.n=n
theorem aab {L:List Nm} {k:Nat} (nm:Nm) (h:k<L.length):decide (nm∈L.take (k+1))=(decide (nm∈L.take k) || decide (L.getD k (0,[])=nm)):=by
 rw[abY,abj h,aer,abi,abj h,acY,acP]
 simp only[ab1,acO,decide_eq_true_eq,adm]
 rw[eq_comm (a:=nm)]
set_option maxHeartbeats 2000000 in
theorem aam (n sd:Int) (l:List Jl) (hN:∀ o∈l,aaE o):aa Tryz.prog 7 [Jh n sd,.aG To fun _=>l] [] (Y:=Unit) (fun _=>True) (fun _=>.tt) (fun _=>[]):=by
 have Lj:=aaD l 60 (by omega)
 have O9:j5=1099511627776:=rfl
 by_cases hn:1≤n∧n≤64
 rotate_left
 ·by_cases hf:PM l 60
  all_goals first|rw[decide_eq_true hf]at Lj|rw[decide_eq_false hf]at Lj
  all_goals (refine aa.q Tryz.func7 rfl fun S ao=>?_;(conv=>whnf))
  all_goals (refine Wa _ ?_;(repeat' first|exact tv|apply pr|intro hh))
  all_goals ((refine ab.q (LM n sd hn) [] fun _ _=>Wp _ ?_;(repeat' first|exact tv|apply pr|intro hh)))
  all_goals ((refine ab.q Lj [] fun _ _=>Wp _ ?_;(repeat' first|exact tv|apply pr|intro hh)))
  all_goals ((refine ab.q Mk [] fun _ _=>Wp _ ?_;(repeat' first|exact tv|apply pr|intro hh)))
  all_goals exact ae.z () []
 by_cases hf:PM l 60
 rotate_left
 ·rw[decide_eq_false hf]at Lj
  (refine aa.q Tryz.func7 rfl fun S ao=>Wa _ ?_;(repeat' first|exact tv|apply pr|intro hh))
  (refine ab.q (WB n sd hn) [] fun _ _=>Wp _ ?_;(repeat' first|exact tv|apply pr|intro hh))
  (refine ab.q Lj [] fun _ _=>Wp _ ?_;(repeat' first|exact tv|apply pr|intro hh))
  all_goals ((refine ab.q Mk [] fun _ _=>Wp _ ?_;(repeat' first|exact tv|apply pr|intro hh)))
  all_goals exact ae.z () []
 rw[decide_eq_true hf]at Lj
 have hl60:=hf.1
 (refine aa.q Tryz.func7 rfl fun S ao=>Wa _ ?_;(repeat' first|exact tv|apply pr|intro hh))
 (refine ab.q (WB n sd hn) [] fun _ _=>Wp _ ?_;(repeat' first|exact tv|apply pr|intro hh))
 (refine ab.q Lj [] fun _ _=>Wp _ ?_;(repeat' first|exact tv|apply pr|intro hh))
 refine aH.intro hm (X:=Nat×Kt×Nat) (RoI n l) (fun z=>l.length - z.1)
  (fun z=>[(1,.aG To fun _=>l),(2,.ptr 0 0),(5,.ptr 1 0),(7,.int .i64 fun _=>(z.1:Int))])
  (fun z=>[.cells 43 [.int .i64 fun _=>n,.int .u64 fun _=>sd],.bg (dY z.2.1 (2*z.1) z.2.2)]) (0,PK n,0) [0,1] ⟨rfl,rfl,?_,?_⟩ ⟨abw _,Small.zero hn,List.Pairwise.nil,rfl⟩ ?_
 ·exact Vc
 ·exact Vc
 rintro⟨i,K,c⟩ hI
 have hi:=hI.le
 have hs:=hI.s
 have Rg:=hI.srt
 have X9:=hI.n
 simp only[]at hi hs Rg X9
 by_cases dp:i<l.length
 rotate_left
 ·(refine Wa _ ?_;(repeat' first|exact tv|apply pr|intro hh))
  all_goals first|(exfalso;omega)|skip
  all_goals ((refine ab.q Mk [] fun _ _=>Wp _ ?_;(repeat' first|exact tv|apply pr|intro hh)))
  all_goals exact ae.z () []
 have hto:=Yf (m:=2*i) (m':=2*(i+1)) (c:=c) hs (l.getD ((i:Int)).toNat To.a8) (hN _ (Tr dp)) (by omega) (by omega)
 have hsm:=(hs.say (l.getD ((i:Int)).toNat To.a8)).up (show 2*i+1≤2*(i+1) by omega)
 have uq:=(aak (K:=K) (l.getD ((i:Int)).toNat To.a8)).trans X9
 have Er:=aag Rg (l.getD ((i:Int)).toNat To.a8)
 by_cases h0:(l.getD ((i:Int)).toNat To.a8).1=0
 rotate_left
 ·(refine Wa _ ?_;(repeat' first|exact tv|apply pr|intro hh))
  all_goals first|exact Ob.mk ⟨by simp only[];omega,by simp only[];omega⟩|(exfalso;omega)|skip
  all_goals ((refine ab.q hto [1] ?_;rintro c' _;refine Wp _ ?_;(repeat' first|exact tv|apply pr|intro hh)))
  all_goals refine⟨(i+1,(gT K (l.getD ((i:Int)).toNat To.a8)).1,c'),[0,1],⟨rfl,rfl,?_,?_⟩,⟨dp,hsm,Er,uq⟩,by show _ - (i+1)<_ - i;omega⟩
  all_goals (refine Vb _ ?_;(repeat' first|exact tv|apply pr))
  all_goals first|(rw[wr (by omega)];omega)|skip
 have rQ:(gT K (l.getD ((i:Int)).toNat To.a8)).1=(cz K (DW (l.getD ((i:Int)).toNat To.a8)) (oW (l.getD ((i:Int)).toNat To.a8))).1:=by unfold gT;rw[if_pos h0]
 rw[rQ]at hsm uq Er
 have YN:=aai hs Rg (DW (l.getD ((i:Int)).toNat To.a8)) (oW (l.getD ((i:Int)).toNat To.a8))
 have XC:=pb (K:=K) (m:=2*i) (m':=2*(i+1)) (c:=c) (DW (l.getD ((i:Int)).toNat To.a8)) (oW (l.getD ((i:Int)).toNat To.a8)) (by omega) (by omega)
 have XN:=MY (K:=K) (m:=2*i) (c:=c) (DW (l.getD ((i:Int)).toNat To.a8)) (oW (l.getD ((i:Int)).toNat To.a8)) (by omega)
 (refine Wa _ ?_;(repeat' first|exact tv|apply pr|intro hh))
 all_goals first|exact Ob.mk ⟨by simp only[];omega,by simp only[];omega⟩|(exfalso;omega)|skip
 all_goals ((refine ab.q (Jj (K:=K) (m:=2*i) (c:=c)) [1] ?_;rintro _ ⟨⟨q1,q2⟩,q3⟩;refine Wp _ ?_;(repeat' first|exact tv|apply pr|intro hh)))
 refine aH.intro hm (X:=Nat) (fun k=>k≤(dT K).length) (fun k=>(dT K).length - k)
  (fun k=>[(1,.aG To fun _=>l),(2,.ptr 0 0),(5,.ptr 1 0),(7,.int .i64 fun _=>(i:Int)),(8,.aG vv fun _=>dT K),(9,.bool fun _=>decide (DW (l.getD ((i:Int)).toNat To.a8)∈(dT K).take k)),(10,.int .i64 fun _=>(k:Int))])
  (fun k=>[.cells 43 [.int .i64 fun _=>n,.int .u64 fun _=>sd],.bg (dY K (2*i) c)]) 0 [0,1] ⟨rfl,rfl,?_,?_⟩ (abw _) ?_
 ·exact Vc
 ·exact Vc
 intro k hk
 by_cases oS:k<(dT K).length
 ·have uX:=aab (DW (l.getD ((i:Int)).toNat To.a8)) oS
  (refine Wa _ ?_;(repeat' first|exact tv|apply pr|intro hh))
  all_goals first|exact Ob.mk ⟨by simp only[];omega,by simp only[];omega⟩|(exfalso;omega)|skip
  all_goals try ((refine ab.q (Tp (DW (l.getD ((i:Int)).toNat To.a8)) (oW (l.getD ((i:Int)).toNat To.a8))) [] fun _ _=>Wp _ ?_;(repeat' first|exact tv|apply pr|intro hh)))
  all_goals first|exact Ob.mk ⟨by simp only[];omega,by simp only[];omega⟩|(exfalso;omega)|skip
  all_goals refine⟨k+1,[0,1],⟨rfl,rfl,?_,?_⟩,by show k+1≤_;omega,by show _ - (k+1)<_ - k;omega⟩
  all_goals (refine Vb _ ?_;(repeat' first|exact tv|apply pr))
  all_goals first|(rw[wr (by omega)];omega)|(rw[uX,decide_eq_true hh];rfl)|(rw[uX,decide_eq_false hh,Bool.false_or,acP,nk _ rfl,decide_eq_true_eq];exact Iff.rfl)|skip
 have XL:k=(dT K).length:=by omega
 subst XL
 rw[abv]
 by_cases h7:(cz K (DW (l.getD ((i:Int)).toNat To.a8)) (oW (l.getD ((i:Int)).toNat To.a8))).2.1=7
 ·obtain⟨r1,r2,r3,r4⟩:=YN.1.1 h7
  have h8:=YN.2.2 h7
  have el:(eY K (DW (l.getD ((i:Int)).toNat To.a8)) (oW (l.getD ((i:Int)).toNat To.a8))).2.1=(0,true,(eY K (DW (l.getD ((i:Int)).toNat To.a8)) (oW (l.getD ((i:Int)).toNat To.a8))).2.1.2.2):=Prod.ext r1 (Prod.ext r2 rfl)
  rw[h8]at XC hsm uq Er
  rw[el]at XN
  rw[decide_eq_false r4]
  (refine Wa _ ?_;(repeat' first|exact tv|apply pr|intro hh))
  all_goals first|exact Ob.mk ⟨by simp only[];omega,by simp only[];omega⟩|(exfalso;omega)|skip
  all_goals ((refine ab.q XN [1] fun _ _=>Wp _ ?_;(repeat' first|exact tv|apply pr|intro hh)))
  all_goals first|exact Ob.mk ⟨by simp only[];omega,by simp only[];omega⟩|(exfalso;omega)|skip
  all_goals ((refine ab.q XC [1] ?_;rintro c' _;refine Wp _ ?_;(repeat' first|exact tv|apply pr|intro hh)))
  all_goals first|(exfalso;omega)|skip
  all_goals ((refine ab.q (Jj (K:=K) (m:=2*(i+1)) (c:=c')) [1] fun _ _=>Wp _ ?_;(repeat' first|exact tv|apply pr|intro hh)))
  all_goals ((refine ab.q (Yg (dT K) (dT K) (by omega)) [] fun _ _=>Wp _ ?_;(repeat' first|exact tv|apply pr|intro hh)))
  all_goals first|(exact absurd ‹_=false› (by simp))|skip
  all_goals refine⟨(i+1,K,c'),[0,1],⟨rfl,rfl,?_,?_⟩,⟨dp,hsm,Er,uq⟩,by show _ - (i+1)<_ - i;omega⟩
  all_goals (refine Vb _ ?_;(repeat' first|exact tv|apply pr))
  all_goals first|(rw[wr (by omega)];omega)|skip
 ·have hv:=YN.2.1 h7
  have hv7:(eY K (DW (l.getD ((i:Int)).toNat To.a8)) (oW (l.getD ((i:Int)).toNat To.a8))).2.1.1≠7:=by rw[←hv];exact h7
  have cu:¬((eY K (DW (l.getD ((i:Int)).toNat To.a8)) (oW (l.getD ((i:Int)).toNat To.a8))).2.1.1=0∧(eY K (DW (l.getD ((i:Int)).toNat To.a8)) (oW (l.getD ((i:Int)).toNat To.a8))).2.1.2.1=true∧K.n≤(dT K).length∧(DW (l.getD ((i:Int)).toNat To.a8))∉dT K):=fun h=>h7 (YN.1.2 h)
  rw[hv]at XC
  have hq:((eY K (DW (l.getD ((i:Int)).toNat To.a8)) (oW (l.getD ((i:Int)).toNat To.a8))).2.1.1 == 7)=false:=beq_eq_false_iff_ne.2 hv7
  by_cases kJ:(DW (l.getD ((i:Int)).toNat To.a8))∈dT K
  ·rw[decide_eq_true kJ]
   (refine Wa _ ?_;(repeat' first|exact tv|apply pr|intro hh))
   all_goals first|exact Ob.mk ⟨by simp only[];omega,by simp only[];omega⟩|(exfalso;omega)|skip
   all_goals ((refine ab.q XN [1] fun _ _=>Wp _ ?_;(repeat' first|exact tv|apply pr|intro hh)))
   all_goals first|exact Ob.mk ⟨by simp only[];omega,by simp only[];omega⟩|(exfalso;omega)|skip
   all_goals ((refine ab.q XC [1] ?_;rintro c' _;refine Wp _ ?_;(repeat' first|exact tv|apply pr|intro hh)))
   all_goals first|(exfalso;omega)|(exact absurd ‹_› hv7)|(exfalso;exact cu ⟨by assumption,by assumption,by omega,by assumption⟩)|skip
   all_goals first|(exact absurd hq hh)|(exact absurd hq ‹¬_›)|(exfalso;rw[hq]at hh;exact absurd hh (by decide))|skip
   all_goals first|(exact absurd rfl ((G8 _ rfl _ _).1 hh))|(exact absurd rfl hh)|skip
   all_goals refine⟨(i+1,(cz K (DW (l.getD ((i:Int)).toNat To.a8)) (oW (l.getD ((i:Int)).toNat To.a8))).1,c'),[0,1],⟨rfl,rfl,?_,?_⟩,⟨dp,hsm,Er,uq⟩,by show _ - (i+1)<_ - i;omega⟩
   all_goals (refine Vb _ ?_;(repeat' first|exact tv|apply pr))
   all_goals first|(rw[wr (by omega)];omega)|skip
  ·rw[decide_eq_false kJ]
   (refine Wa _ ?_;(repeat' first|exact tv|apply pr|intro hh))
   all_goals first|exact Ob.mk ⟨by simp only[];omega,by simp only[];omega⟩|(exfalso;omega)|skip
   all_goals ((refine ab.q XN [1] fun _ _=>Wp _ ?_;(repeat' first|exact tv|apply pr|intro hh)))
   all_goals first|exact Ob.mk ⟨by simp only[];omega,by simp only[];omega⟩|(exfalso;omega)|skip
   all_goals ((refine ab.q XC [1] ?_;rintro c' _;refine Wp _ ?_;(repeat' first|exact tv|apply pr|intro hh)))
   all_goals first|(exfalso;omega)|(exact absurd ‹_› hv7)|(exfalso;exact cu ⟨by assumption,by assumption,by omega,by assumption⟩)|skip
   all_goals first|(exact absurd hq hh)|(exact absurd hq ‹¬_›)|(exfalso;rw[hq]at hh;exact absurd hh (by decide))|skip
   all_goals first|(exact absurd rfl ((G8 _ rfl _ _).1 hh))|(exact absurd rfl hh)|skip
   all_goals refine⟨(i+1,(cz K (DW (l.getD ((i:Int)).toNat To.a8)) (oW (l.getD ((i:Int)).toNat To.a8))).1,c'),[0,1],⟨rfl,rfl,?_,?_⟩,⟨dp,hsm,Er,uq⟩,by show _ - (i+1)<_ - i;omega⟩
   all_goals (refine Vb _ ?_;(repeat' first|exact tv|apply pr))
   all_goals first|(rw[wr (by omega)];omega)|skip
end Go.Proofs.YthnefnlhcijekaaGreat.En
namespace Go.Proofs.YthnefnlhcijekaaGreat.REngineRoom
open Go Go.ChangeShapes Go.WideShapes Go.ChangeAt Go.RowKit Fw
theorem own:ownKnob Tryz.prog.godebug=none:=by kernel_rfl
theorem laidOut:laidOutB Tryz.prog=true:=Tx
theorem kids:Kids Tryz.prog (·<Tryz.prog.types.size):=Ym
theorem readable:∀ t∈Tryz.f7.params.toList,Tryz.prog.readableRec t=true∧t<Tryz.prog.types.size:=by
 have h:(Tryz.f7.params.toList.all fun t=>Tryz.prog.readableRec t && decide (t<Tryz.prog.types.size))=true:=by kernel_rfl
 intro t ht
 have:=acA.1 h t ht
 rw[abD,decide_eq_true_eq]at this
 exact this
set_option maxRecDepth 100000 in
theorem lifted (os:Os) (started:os.Started) (H:Type) (enc:TypeId×Value→H) :
  ReturnsInHanded {} Tryz.checked os 7 .any (Rows.engineRoomSpec.pre6 enc Tryz.prog Tryz.f7 Rows.engineRoomRow.domain false) (Rows.engineRoomSpec.post enc Tryz.prog Tryz.f7 false true false false):=by
 refine returnsInHanded_of_change (C:=Tryz.checked) own started (by kernel_rfl) Tryz.func7
  (ChangeSpec.witness6 (enc:=enc) (C:=Tryz.checked) false ⟨#[],#[.agg #[.int .i64 0,.int .u64 0],.slice none 0 0],[]⟩ 8 (by kernel_rfl) (by kernel_rfl) (by kernel_rfl) (by kernel_rfl)) ?_
 intro W base args ds gs before aao hW hcnd _
 have lP:∀ (j:Nat) t v,Tryz.f7.params[j]?=some t→args[j]?=some v→Value.okWide Tryz.prog W .any base t v:=aao
 have hW':DataW.Whole enc Tryz.prog Tryz.f7.params.toList Rows.engineRoomSpec.vars false W args.toList ds gs before:=hW
 obtain⟨p,q,hA0,hV,_,_,_⟩:=hW'
 have hA:DataW.TrodAll enc Tryz.prog W 0 (fun _=>true) true Tryz.f7.params.toList args.toList ds p:=hA0
 rw[Tryz.params7]at hA lP
 obtain⟨v0,v1,d0,d1,p0,p1,rfl,rfl,rfl,h0,h1⟩:=trodAll_two hA
 obtain⟨rfl,rfl⟩:=trodVars_none hV
 obtain⟨a0,aaw,w0⟩:=PQ (ty:=(.pair (.int .i64) (.int .u64))) kids rfl rfl (of_decide_eq_true (by kernel_rfl)) (by kernel_rfl) (lP 0 _ v0 rfl rfl) h0
 obtain⟨a1,r1,w1⟩:=Tt (ty:=(.list En.To)) kids rfl rfl (of_decide_eq_true (by kernel_rfl)) (by kernel_rfl) (lP 1 _ v1 rfl rfl) h1
 refine(Ul (aD:=[v0,v1]) (En.aam a0.1 a0.2 a1 (fun o ho=>(w1.2 o ho).2.2.1)) (fun _ _=>rfl) ⟨aaw,r1.1,trivial⟩).mono ?_
 rintro e W' ⟨rfl,hb⟩
 exact⟨_,rfl,Tv laidOut hW rfl rfl (by rfl) Tryz.underlying4 readable hb⟩
theorem aaf:Tryz.prog.inPlace 7=Rows.engineRoomRow.inPlace:=by kernel_rfl
theorem oU:Tryz.prog.unfollowed 7=Rows.engineRoomRow.unfollowed:=by kernel_rfl
theorem aae:Tryz.prog.recurses 7=Rows.engineRoomRow.recurses:=by unfold Program.recurses;rw[oU];first|exact Bool.true_or _|kernel_rfl
theorem aaj:Tryz.prog.varsNamed 7=Rows.engineRoomRow.named:=by kernel_rfl
theorem closed:joinedFacts Tryz.prog 7 Tryz.f7 Rows.engineRoomSpec Rows.engineRoomRow=true:=by
 unfold joinedFacts
 rw[aaf,oU,aae,aaj,Tx,Tz,WO,WQ,WR,WS,Yl]
 kernel_rfl
theorem holds:Rows.EngineRoomSaid :=
 OpenClaim.holds_of_wide 7 Tryz.f7 rfl rfl rfl rfl rfl rfl rfl ⟨rfl,rfl,rfl,rfl,rfl⟩ rfl rfl rfl rfl rfl (by kernel_rfl) Tryz.func7 closed
  (of_decide_eq_true (by kernel_rfl)) (by unfold Func.isWrapper;first|(rw[if_pos (by decide +kernel)];kernel_rfl)|(rw[if_neg (by decide +kernel)];exact⟨rfl,rfl⟩))
  (fun os started H enc _=>lifted os started H enc)
end Go.Proofs.YthnefnlhcijekaaGreat.REngineRoom
#print axioms Go.Proofs.YthnefnlhcijekaaGreat.REngineRoom.holds
