/- The law EngineForgets holds at every input that its statement lets in; part 1 of its proof. -/
import Derived.Test.YthnefnlhcijekaaGreatMB6
set_option linter.unusedVariables false
set_option linter.unusedSimpArgs false
namespace Go.Proofs.YthnefnlhcijekaaGreat.Ce
open Go Go.RowKit Fw Hi Po
theorem Uf (p:ax) (d:Cell):wN p d 0=d.2.2.1.sum:=rfl
end Go.Proofs.YthnefnlhcijekaaGreat.Ce
namespace Go.Proofs.YthnefnlhcijekaaGreat.En
open Go Go.RowKit Fw Hi Ce
section
variable {K:Kt} {m:Nat} {nm key:Nm} {w v:Int} {p:ax} {o:Jl}
theorem aac:(cz K nm w).1.n=K.n∧(cz K nm w).1.now=K.now∧(cz K nm w).1.bk=K.bk:=by
 unfold cz;split
 ·split <;> exact⟨rfl,rfl,rfl⟩
 ·exact⟨rfl,rfl,rfl⟩
theorem aaj (h:Qg K.L):Qg (cz K nm w).1.L:=by
 unfold cz;split
 ·split
  ·exact h
  ·exact DJ h
 ·exact h
theorem aaf (h:Qg K.L) (t:Int):Qg (dW K t).L:=by unfold dW;split <;> exact h
theorem aar (h:Qg K.L) (o:Jl):Qg (gT K o).1.L:=by
 unfold gT
 split
 ·exact aaj h
 split
 ·exact h
 split
 ·exact aaf h _
 split
 ·split
  ·exact h
  ·exact aaf h _
 split
 ·unfold kH;split
  ·exact h.sublist (adz ..)
  ·exact h
 split
 ·unfold o9;split
  ·exact h.sublist (adz ..)
  ·exact h
 split
 ·unfold cK;split
  ·split
   ·exact h
   ·exact h.sublist (Az _ _)
  ·exact h
 ·exact h
theorem aad (n:Int) (p:ax):kH (PK n) 0 p=if aQ p then(⟨n,0,Lt.set 0 (true,p,1),[]⟩,1,0)else(PK n,0,1):=by
 by_cases hp:aQ p
 ·have e:iG Lt 0 p=(Lt.set 0 (true,p,1),1,0):=by unfold iG;rw[if_pos ⟨by decide,hp⟩];rfl
  rw[if_pos hp];unfold kH;rw[show(PK n).bk=Lt from rfl,e];rfl
 ·have e:iG Lt 0 p=(Lt,0,1):=by unfold iG;rw[if_neg (fun h=>hp h.2)]
  rw[if_neg hp];unfold kH;rw[show(PK n).bk=Lt from rfl,e];rfl
theorem aas (p:ax):cx (Lt.set 0 (true,p,1)) 0=some (p,1):=by
 unfold cx
 rw[if_pos ⟨by decide,by decide,rfl⟩];rfl
theorem aak {l:List a7}:∀ {L:Hs},(∀ x∈L,jR nm x.1)→j7 L nm l=(nm,l)::L
 | [],_=>rfl
 | x::r,h=>by
  have hx:=h x (abq ..)
  rw[j7,if_neg (qu hx),if_neg fun e=>by rw[e]at hx;exact iH _ hx]
theorem aae {l:List a7}:∀ {L:Hs},Qg L→nP (j7 L key l) nm=if key=nm then nP L nm else j7 (nP L nm) key l
 | [],_=>by
  by_cases h:key=nm
  ·subst h;rw[if_pos rfl];simp[j7,nP,iH]
  ·rw[if_neg h];simp[j7,nP,h]
 | x::r,hs=>by
  have pc:=acQ.1 hs
  by_cases h1:jR x.1 key
  ·have hk:¬x.1=key:=fun e=>by rw[e]at h1;exact iH _ h1
   rw[j7,if_pos h1,nP,nP]
   by_cases h2:jR x.1 nm
   ·rw[if_pos h2,if_pos h2,aae pc.2]
    split
    ·rfl
    ·rw[j7,if_pos h1]
   ·rw[if_neg h2,if_neg h2]
    by_cases h3:x.1=nm
    ·rw[if_pos h3,if_pos h3,if_neg fun e=>hk (h3.trans e.symm)]
    ·rw[if_neg h3,if_neg h3,if_neg (fun e=>h2 (by rw[←e];exact h1)),j7,if_pos h1]
  ·by_cases hk:x.1=key
   ·rw[j7,if_neg h1,if_pos hk,nP,nP]
    subst hk
    by_cases h2:jR x.1 nm
    ·rw[if_pos h2,if_pos h2,if_neg (fun e=>by rw[e]at h2;exact iH _ h2),j7,if_neg (iH _),if_pos rfl]
    ·rw[if_neg h2,if_neg h2]
     by_cases h3:x.1=nm
     ·rw[if_pos h3,if_pos h3,if_pos h3]
     ·rw[if_neg h3,if_neg h3,if_neg h3,j7,if_neg (iH _),if_pos rfl]
   ·have h4:jR key x.1:=abV fun h=>hk (gJ h1 h)
    rw[j7,if_neg h1,if_neg hk,nP]
    by_cases h2:jR key nm
    ·have bE:¬key=nm:=fun e=>by rw[e]at h2;exact iH _ h2
     rw[if_pos h2,if_neg bE,aak]
     intro y hy
     rcases abE.1 ((sM (x::r) nm).subset hy)with e|hy2
     ·rw[e];exact h4
     ·exact eT h4 (pc.1 y hy2)
    ·rw[if_neg h2]
     by_cases h3:key=nm
     ·rw[if_pos h3,if_pos h3,nP,if_neg (by rw[←h3];exact h1),if_neg (by rw[←h3];exact hk)]
     ·have h5:jR nm key:=abV fun h=>h3 (gJ h2 h)
      have h6:jR nm x.1:=eT h5 h4
      rw[if_neg h3,if_neg h3,nP,if_neg (qu h6),if_neg (fun e=>by rw[e]at h6;exact iH _ h6),j7,if_neg h1,if_neg hk]
def RD (K:Kt) (nm:Nm):Kt:={ K with L:=nP K.L nm }
theorem aaa:(dT K).length≤K.L.length:=by unfold dT;rw[ab4];exact adI ..
theorem aag (hs:Qg K.L) (hr:(K.L.length:Int)<K.n) (bE:key≠nm):cz (RD K nm) key w=(RD (cz K key w).1 nm,(cz K key w).2):=by
 have hl:eY (RD K nm) key w=eY K key w:=by
  unfold eY RD
  simp only[mW hs,if_neg bE]
 have r1:=aaa (K:=K)
 have r2:=aaa (K:=RD K nm)
 have r3:(RD K nm).L.length≤K.L.length:=(sM K.L nm).length_le
 have e1:¬((eY K key w).2.2=false∧(RD K nm).n≤(dT (RD K nm)).length):=fun h=>by have:=h.2;change K.n≤_ at this;omega
 have e2:¬((eY K key w).2.2=false∧K.n≤(dT K).length):=fun h=>by have:=h.2;omega
 unfold cz
 rw[hl,if_neg e1,if_neg e2]
 split
 ·unfold RD
  simp only[aae hs,if_neg bE]
 ·rfl
theorem aah (hs:Qg K.L):RD (cz K nm w).1 nm=RD K nm:=by
 unfold cz;split
 ·split
  ·rfl
  ·unfold RD
   simp only[aae hs,if_true]
 ·rfl
theorem aai (t:Int):dW (RD K nm) t=RD (dW K t) nm:=by
 unfold dW
 show(if K.now<t∧t≤j5 then _ else _)=_
 split <;> rfl
theorem aat (hs:Qg K.L) (hr:(K.L.length:Int)<K.n) (h4:o.1≠4) (h5:o.1≠5) (h6:o.1≠6) (h0:o.1≠0∨DW o≠nm):(gT (RD K nm) o).1=RD (gT K o).1 nm:=by
 unfold gT
 by_cases k0:o.1=0
 ·rw[if_pos k0,if_pos k0]
  exact congrArg Prod.fst (aag hs hr (h0.resolve_left fun h=>h k0))
 rw[if_neg k0,if_neg k0]
 by_cases k1:o.1=1
 ·rw[if_pos k1,if_pos k1]
 rw[if_neg k1,if_neg k1]
 by_cases k2:o.1=2
 ·rw[if_pos k2,if_pos k2];exact aai _
 rw[if_neg k2,if_neg k2]
 by_cases k3:o.1=3
 ·rw[if_pos k3,if_pos k3]
  by_cases aaQ:o.2.2.1<0∨1099511627776<o.2.2.1
  ·rw[if_pos aaQ,if_pos aaQ]
  ·rw[if_neg aaQ,if_neg aaQ];exact aai _
 rw[if_neg k3,if_neg k3,if_neg h4,if_neg h4,if_neg h5,if_neg h5,if_neg h6,if_neg h6]
theorem aaw (o:Jl):(gT K o).1.n=K.n:=by
 unfold gT
 split
 ·exact aac.1
 split
 ·rfl
 split
 ·unfold dW;split <;> rfl
 split
 ·split
  ·rfl
  ·unfold dW;split <;> rfl
 split
 ·unfold kH;split <;> rfl
 split
 ·unfold o9;split <;> rfl
 split
 ·unfold cK;split
  ·split <;> rfl
  ·rfl
 ·rfl
end
end Go.Proofs.YthnefnlhcijekaaGreat.En
set_option maxRecDepth 8000
namespace Go.Proofs.YthnefnlhcijekaaGreat.En
open Go Go.RowKit Fw Hi Ce
structure FoI (p:ax) (l:List Jl) (z:Nat×Kt×Nat×Nat×Nat×Nat):Prop where
 le:z.1≤l.length
 s:Small z.2.1 z.1
 srt:Qg z.2.1.L
 n:z.2.1.n=64
 cur:cx z.2.1.bk 0=some (p,1)
 aaR:z.2.2.1≤1+2*z.1
 aaS:z.2.2.2.2.1≤1+2*z.1
structure FpI (l:List Jl) (z:Nat×Kt×Nat×Nat×Nat×Nat):Prop where
 le:z.1≤l.length
 aaR:z.2.2.1≤200+z.1
 aaS:z.2.2.2.2.1≤200+z.1
def oU (o:Jl):Jl:=(o.1,(0,o.2.1.2.1,o.2.1.2.2),o.2.2.1,o.2.2.2)
theorem aau {K:Kt} {o:Jl} (h4:o.1≠4) (h5:o.1≠5):(gT K o).1.bk=K.bk:=by
 unfold gT
 split
 ·exact aac.2.2
 split
 ·rfl
 split
 ·unfold dW;split <;> rfl
 split
 ·split
  ·rfl
  ·unfold dW;split <;> rfl
 first|rw[if_neg h4,if_neg h5]|skip
 split
 ·unfold cK;split
  ·split <;> rfl
  ·rfl
 ·rfl
theorem Small.dl {K:Kt} {m:Nat} (s:Small K m) (nm:Nm):Small (RD K nm) m:=s.sub (Az K.L nm)
set_option maxHeartbeats 2000000 in
theorem aao (p:ax) (l:List Jl) (key:List UInt8) (hN:∀ o∈l,aaE o):aa Tryz.prog 10 [aI p,.aG To fun _=>l,.str fun _=>key] [] (Y:=Unit) (fun _=>True) (fun _=>.tt) (fun _=>[]):=by
 have Lj:=aaD l 50 (by omega)
 have O9:j5=1099511627776:=rfl
 have qG:=WB 64 1 (by omega)
 have hnh:=WB 64 2 (by omega)
 by_cases hf:PM l 50∧1≤key.length∧key.length≤32
 rotate_left
 ·by_cases Zj:PM l 50
  all_goals first|rw[decide_eq_true Zj]at Lj|rw[decide_eq_false Zj]at Lj
  all_goals (refine aa.q Tryz.func10 rfl fun S ao=>?_;(conv=>whnf))
  all_goals (refine Wa _ ?_;(repeat' first|exact tv|apply pr|intro hh))
  all_goals ((refine ab.q qG [] fun _ _=>Wp _ ?_;(repeat' first|exact tv|apply pr|intro hh)))
  all_goals ((refine ab.q hnh [] fun _ _=>Wp _ ?_;(repeat' first|exact tv|apply pr|intro hh)))
  all_goals ((refine ab.q Lj [] fun _ _=>Wp _ ?_;(repeat' first|exact tv|apply pr|intro hh)))
  all_goals first|(exfalso;exact hf ⟨Zj,by omega,by omega⟩)|skip
  all_goals ((refine ab.q Mk [] fun _ _=>Wp _ ?_;(repeat' first|exact tv|apply pr|intro hh)))
  all_goals exact ae.z () []
 obtain⟨Zj,vh,yR⟩:=hf
 rw[decide_eq_true Zj]at Lj
 have hl50:=Zj.1
 have dm:=fun c=>Tk (K:=PK 64) (m:=0) (m':=1) (c:=c) 0 p (by omega)
 simp only[aad]at dm
 by_cases hp:aQ p
 rotate_left
 ·simp only[if_neg hp]at dm
  (refine aa.q Tryz.func10 rfl fun S ao=>Wa _ ?_;(repeat' first|exact tv|apply pr|intro hh))
  (refine ab.q qG [] fun _ _=>Wp _ ?_;(repeat' first|exact tv|apply pr|intro hh))
  (refine ab.q hnh [] fun _ _=>Wp _ ?_;(repeat' first|exact tv|apply pr|intro hh))
  (refine ab.q Lj [] fun _ _=>Wp _ ?_;(repeat' first|exact tv|apply pr|intro hh))
  all_goals first|(exfalso;omega)|skip
  all_goals ((refine ab.q (dm 0) [1] ?_;rintro c1 _;refine Wp _ ?_;(repeat' first|exact tv|apply pr|intro hh)))
  all_goals ((refine ab.q (dm 0) [2] ?_;rintro c2 _;refine Wp _ ?_;(repeat' first|exact tv|apply pr|intro hh)))
  all_goals ((refine ab.q Mk [] fun _ _=>Wp _ ?_;(repeat' first|exact tv|apply pr|intro hh)))
  all_goals exact ae.z () []
 simp only[if_pos hp]at dm
 have Oq:Small (kH (PK 64) 0 p).1 0:=(Small.zero (n:=64) (by omega)).set 0 p
 rw[aad,if_pos hp]at Oq
 (refine aa.q Tryz.func10 rfl fun S ao=>Wa _ ?_;(repeat' first|exact tv|apply pr|intro hh))
 (refine ab.q qG [] fun _ _=>Wp _ ?_;(repeat' first|exact tv|apply pr|intro hh))
 (refine ab.q hnh [] fun _ _=>Wp _ ?_;(repeat' first|exact tv|apply pr|intro hh))
 (refine ab.q Lj [] fun _ _=>Wp _ ?_;(repeat' first|exact tv|apply pr|intro hh))
 all_goals first|(exfalso;omega)|skip
 all_goals ((refine ab.q (dm 0) [1] ?_;rintro c1 _;refine Wp _ ?_;(repeat' first|exact tv|apply pr|intro hh)))
 all_goals ((refine ab.q (dm 0) [2] ?_;rintro c2 _;refine Wp _ ?_;(repeat' first|exact tv|apply pr|intro hh)))
 refine aH.intro hm (X:=Nat×Kt×Nat×Nat×Nat×Nat) (FoI p l) (fun z=>l.length - z.1)
  (fun z=>[(1,.aG To fun _=>l),(2,.str fun _=>key),(7,.ptr 0 0),(9,.ptr 1 0),(13,.int .i64 fun _=>(z.1:Int))])
  (fun z=>[.bg (dY z.2.1 z.2.2.1 z.2.2.2.1),.bg (dY (RD z.2.1 (0,key)) z.2.2.2.2.1 z.2.2.2.2.2)]) (0,_,1,c1,1,c2) [1,2] ⟨rfl,rfl,?_,?_⟩ ⟨abw _,Oq,List.Pairwise.nil,rfl,aas p,abr _,abr _⟩ ?_
 ·exact Vc
 ·exact Vc
 rintro⟨i,K,aaR,aaT,aaS,ch⟩ hI
 have hi:=hI.le
 have hs:=hI.s
 have Rg:=hI.srt
 have hn:=hI.n
 have Uj:=hI.cur
 have hmg:=hI.aaR
 have hmh:=hI.aaS
 simp only[]at hi hs Rg hn Uj hmg hmh
 have L4:=hs.len
 by_cases dp:i<l.length
 ·have hoN:aaE (oU (l.getD ((i:Int)).toNat To.a8)):=(hN _ (Tr dp):aaE (l.getD ((i:Int)).toNat To.a8))
  by_cases aap:(l.getD ((i:Int)).toNat To.a8).1=4∨(l.getD ((i:Int)).toNat To.a8).1=5∨(l.getD ((i:Int)).toNat To.a8).1=6
  ·(refine Wa _ ?_;(repeat' first|exact tv|apply pr|intro hh))
   all_goals first|exact Ob.mk ⟨by simp only[];omega,by simp only[];omega⟩|(exfalso;omega)|skip
   all_goals refine⟨(i+1,K,aaR,aaT,aaS,ch),[0,1],⟨rfl,rfl,?_,?_⟩,⟨dp,hs.up (by omega),Rg,hn,Uj,by show aaR≤_;omega,by show aaS≤_;omega⟩,by show _ - (i+1)<_ - i;omega⟩
   all_goals (refine Vb _ ?_;(repeat' first|exact tv|apply pr))
   all_goals first|(rw[wr (by omega)];omega)|skip
  have hto:=Yf (m:=aaR) (m':=aaR+2) (c:=aaT) hs (oU (l.getD ((i:Int)).toNat To.a8)) hoN (by omega) (by omega)
  have hth:=Yf (m:=aaS) (m':=aaS+2) (c:=ch) (hs.dl (0,key)) (oU (l.getD ((i:Int)).toNat To.a8)) hoN (by omega) (by omega)
  have hsm:=hs.say (oU (l.getD ((i:Int)).toNat To.a8))
  have uq:=(aaw (K:=K) (oU (l.getD ((i:Int)).toNat To.a8))).trans hn
  have Er:=aar Rg (oU (l.getD ((i:Int)).toNat To.a8))
  have Bj:cx (gT K (oU (l.getD ((i:Int)).toNat To.a8))).1.bk 0=some (p,1):=by rw[aau (o:=oU (l.getD ((i:Int)).toNat To.a8)) (fun e=>aap (.inl e)) (fun e=>aap (.inr (.inl e)))];exact Uj
  by_cases yZ:(l.getD ((i:Int)).toNat To.a8).1≠0∨(l.getD ((i:Int)).toNat To.a8).2.1.2.1≠key
  ·have Em:=aat (K:=K) (nm:=(0,key)) (o:=oU (l.getD ((i:Int)).toNat To.a8)) Rg (by omega) (fun e=>aap (.inl e)) (fun e=>aap (.inr (.inl e))) (fun e=>aap (.inr (.inr e))) (yZ.imp id fun h e=>h (congrArg (fun x:Nm=>x.2) e))
   rw[Em]at hth
   (refine Wa _ ?_;(repeat' first|exact tv|apply pr|intro hh))
   all_goals first|exact Ob.mk ⟨by simp only[];omega,by simp only[];omega⟩|(exfalso;omega)|skip
   all_goals ((refine ab.q hto [0] ?_;rintro c3 _;refine Wp _ ?_;(repeat' first|exact tv|apply pr|intro hh)))
   all_goals first|(exfalso;exact yZ.elim (fun h=>h ‹_›) (fun h=>h ‹_›))|skip
   all_goals ((refine ab.q hth [1] ?_;rintro c4 _;refine Wp _ ?_;(repeat' first|exact tv|apply pr|intro hh)))
   all_goals refine⟨(i+1,(gT K (oU (l.getD ((i:Int)).toNat To.a8))).1,aaR+2,c3,aaS+2,c4),[0,1],⟨rfl,rfl,?_,?_⟩,⟨dp,hsm,Er,uq,Bj,by show aaR+2≤_;omega,by show aaS+2≤_;omega⟩,by show _ - (i+1)<_ - i;omega⟩
   all_goals (refine Vb _ ?_;(repeat' first|exact tv|apply pr))
   all_goals first|(rw[wr (by omega)];omega)|skip
  ·have e0:(l.getD ((i:Int)).toNat To.a8).1=0:=abV fun h=>yZ (.inl h)
   have ek:(l.getD ((i:Int)).toNat To.a8).2.1.2.1=key:=abV fun h=>yZ (.inr h)
   have hde:RD (gT K (oU (l.getD ((i:Int)).toNat To.a8))).1 (0,key)=RD K (0,key):=by
    have e:(gT K (oU (l.getD ((i:Int)).toNat To.a8))).1=(cz K (0,key) (l.getD ((i:Int)).toNat To.a8).2.1.2.2).1:=by
     unfold gT
     rw[if_pos (show(oU (l.getD ((i:Int)).toNat To.a8)).1=0 from e0)]
     show(cz K (0,(l.getD ((i:Int)).toNat To.a8).2.1.2.1) _).1=_
     rw[ek];rfl
    rw[e];exact aah Rg
   (refine Wa _ ?_;(repeat' first|exact tv|apply pr|intro hh))
   all_goals first|exact Ob.mk ⟨by simp only[];omega,by simp only[];omega⟩|(exfalso;omega)|skip
   all_goals ((refine ab.q hto [0] ?_;rintro c3 _;refine Wp _ ?_;(repeat' first|exact tv|apply pr|intro hh)))
   all_goals first|(exfalso;exact absurd ek ‹_›)|(exfalso;exact absurd e0 ‹_›)|skip
   all_goals refine⟨(i+1,(gT K (oU (l.getD ((i:Int)).toNat To.a8))).1,aaR+2,c3,aaS,ch),[0,1],⟨rfl,rfl,?_,?_⟩,⟨dp,hsm,Er,uq,Bj,by show aaR+2≤_;omega,by show aaS≤_;omega⟩,by show _ - (i+1)<_ - i;omega⟩
   all_goals (refine Vb _ ?_;(repeat' first|exact tv|apply pr))
   all_goals first|(rw[wr (by omega)];omega)|(rw[hde])|skip
 have WX:=yd (K:=K) (m:=aaR) (m':=aaR+1) (c:=aaT) (0,key) (by omega) (by omega)
 have hfe:cK K (0,key)=(RD K (0,key),0):=by
  have ao:fe (0,key)=true:=by
   unfold fe
   have bE:key≠[]:=fun e=>by rw[e]at vh;exact absurd vh (by decide)
   simp[bE,yR]
  unfold cK
  rw[if_pos ao,Uj];rfl
 rw[hfe]at WX
 have hd:=hs.dl (0,key)
 have FP:=aaa (K:=RD K (0,key))
 have Em:=hd.len
 (refine Wa _ ?_;(repeat' first|exact tv|apply pr|intro hh))
 all_goals first|(exfalso;omega)|skip
 all_goals ((refine ab.q WX [0] ?_;rintro c3 _;refine Wp _ ?_;(repeat' first|exact tv|apply pr|intro hh)))
 all_goals ((refine ab.q (Jj (K:=RD K (0,key)) (m:=aaR+1) (c:=c3)) [0] fun _ _=>Wp _ ?_;(repeat' first|exact tv|apply pr|intro hh)))
 all_goals ((refine ab.q (Jj (K:=RD K (0,key)) (m:=aaS) (c:=ch)) [1] fun _ _=>Wp _ ?_;(repeat' first|exact tv|apply pr|intro hh)))
 all_goals ((refine ab.q (Yg (dT (RD K (0,key))) (dT (RD K (0,key))) (by omega)) [] fun _ _=>Wp _ ?_;(repeat' first|exact tv|apply pr|intro hh)))
 all_goals first|(exact absurd ‹_=false› (by simp))|skip
 refine aH.intro hm (X:=Nat×Kt×Nat×Nat×Nat×Nat) (FpI l) (fun z=>l.length - z.1)
  (fun z=>[(1,.aG To fun _=>l),(7,.ptr 0 0),(9,.ptr 1 0),(15,.int .i64 fun _=>(z.1:Int))])
  (fun z=>[.bg (dY z.2.1 z.2.2.1 z.2.2.2.1),.bg (dY z.2.1 z.2.2.2.2.1 z.2.2.2.2.2)]) (0,RD K (0,key),aaR+1,c3,aaS,ch) [0,1] ⟨rfl,rfl,?_,?_⟩ ⟨abw _,by show aaR+1≤_;omega,by show aaS≤_;omega⟩ ?_
 ·exact Vc
 ·exact Vc
 rintro⟨j,aaU,aaV,aaW,aaX,aaY⟩ hJ
 have hj:=hJ.le
 have hng:=hJ.aaR
 have hnh:=hJ.aaS
 simp only[]at hj hng hnh
 by_cases rN:j<l.length
 ·have Zm:=pb (K:=aaU) (m:=aaV) (m':=aaV+1) (c:=aaW) (0,(l.getD ((j:Int)).toNat To.a8).2.1.2.1) (l.getD ((j:Int)).toNat To.a8).2.1.2.2 (by omega) (by omega)
  have XC:=pb (K:=aaU) (m:=aaX) (m':=aaX+1) (c:=aaY) (0,(l.getD ((j:Int)).toNat To.a8).2.1.2.1) (l.getD ((j:Int)).toNat To.a8).2.1.2.2 (by omega) (by omega)
  (refine Wa _ ?_;(repeat' first|exact tv|apply pr|intro hh))
  all_goals first|exact Ob.mk ⟨by simp only[];omega,by simp only[];omega⟩|(exfalso;omega)|skip
  all_goals ((refine ab.q Zm [0] ?_;rintro c5 _;refine Wp _ ?_;(repeat' first|exact tv|apply pr|intro hh)))
  all_goals ((refine ab.q XC [1] ?_;rintro c6 _;refine Wp _ ?_;(repeat' first|exact tv|apply pr|intro hh)))
  all_goals first|(exact absurd rfl ((G8 _ rfl _ _).1 hh))|(exact absurd rfl hh)|skip
  all_goals refine⟨(j+1,(cz aaU (0,(l.getD ((j:Int)).toNat To.a8).2.1.2.1) (l.getD ((j:Int)).toNat To.a8).2.1.2.2).1,aaV+1,c5,aaX+1,c6),[0,1],⟨rfl,rfl,?_,?_⟩,⟨rN,by show aaV+1≤_;omega,by show aaX+1≤_;omega⟩,by show _ - (j+1)<_ - j;omega⟩
  all_goals (refine Vb _ ?_;(repeat' first|exact tv|apply pr))
  all_goals first|(rw[wr (by omega)];omega)|skip
 (refine Wa _ ?_;(repeat' first|exact tv|apply pr|intro hh))
 all_goals first|(exfalso;omega)|skip
 all_goals ((refine ab.q Mk [] fun _ _=>Wp _ ?_;(repeat' first|exact tv|apply pr|intro hh)))
 all_goals exact ae.z () []
end Go.Proofs.YthnefnlhcijekaaGreat.En
namespace Go.Proofs.YthnefnlhcijekaaGreat.REngineForgets
open Go Go.ChangeShapes Go.WideShapes Go.ChangeAt Go.RowKit Fw
theorem own:ownKnob Tryz.prog.godebug=none:=by kernel_rfl
theorem laidOut:laidOutB Tryz.prog=true:=Tx
theorem kids:Kids Tryz.prog (·<Tryz.prog.types.size):=Ym
theorem readable:∀ t∈Tryz.f10.params.toList,Tryz.prog.readableRec t=true∧t<Tryz.prog.types.size:=by
 have h:(Tryz.f10.params.toList.all fun t=>Tryz.prog.readableRec t && decide (t<Tryz.prog.types.size))=true:=by kernel_rfl
 intro t ht
 have:=acA.1 h t ht
 rw[abD,decide_eq_true_eq]at this
 exact this
set_option maxRecDepth 100000 in
theorem lifted (os:Os) (started:os.Started) (H:Type) (enc:TypeId×Value→H) :
  ReturnsInHanded {} Tryz.checked os 10 .any (Rows.engineForgetsSpec.pre6 enc Tryz.prog Tryz.f10 Rows.engineForgetsRow.domain false) (Rows.engineForgetsSpec.post enc Tryz.prog Tryz.f10 false true false false):=by
 refine returnsInHanded_of_change (C:=Tryz.checked) own started (by kernel_rfl) Tryz.func10
  (ChangeSpec.witness6 (enc:=enc) (C:=Tryz.checked) false ⟨#[],#[.agg #[.int .i64 0,.int .i64 0,.int .i64 0,.int .i64 0],.slice none 0 0,.string .empty],[]⟩ 8 (by kernel_rfl) (by kernel_rfl) (by kernel_rfl) (by kernel_rfl)) ?_
 intro W base args ds gs before aay hW hcnd _
 have lP:∀ (j:Nat) t v,Tryz.f10.params[j]?=some t→args[j]?=some v→Value.okWide Tryz.prog W .any base t v:=aay
 have hW':DataW.Whole enc Tryz.prog Tryz.f10.params.toList Rows.engineForgetsSpec.vars false W args.toList ds gs before:=hW
 obtain⟨p,q,hA0,hV,_,_,_⟩:=hW'
 have hA:DataW.TrodAll enc Tryz.prog W 0 (fun _=>true) true Tryz.f10.params.toList args.toList ds p:=hA0
 rw[Tryz.params10]at hA lP
 obtain⟨v0,v1,v2,d0,d1,d2,p0,p1,p2,rfl,rfl,rfl,h0,h1,h2⟩:=trodAll_three hA
 obtain⟨rfl,rfl⟩:=trodVars_none hV
 obtain⟨a0,aaZ,w0⟩:=PQ (ty:=Hi.Sq) kids rfl rfl (of_decide_eq_true (by kernel_rfl)) (by kernel_rfl) (lP 0 _ v0 rfl rfl) h0
 obtain⟨a1,r1,w1⟩:=Tt (ty:=(.list En.To)) kids rfl rfl (of_decide_eq_true (by kernel_rfl)) (by kernel_rfl) (lP 1 _ v1 rfl rfl) h1
 obtain⟨a2,r2,w2⟩:=Tt (ty:=.str) kids rfl rfl (of_decide_eq_true (by kernel_rfl)) (by kernel_rfl) (lP 2 _ v2 rfl rfl) h2
 refine(Ul (aD:=[v0,v1,v2]) (En.aao a0 a1 a2 (fun o ho=>(w1.2 o ho).2.2.1)) (fun _ _=>rfl) ⟨aaZ,r1.1,r2.1,trivial⟩).mono ?_
 rintro e W' ⟨rfl,hb⟩
 exact⟨_,rfl,Tv laidOut hW rfl rfl (by rfl) Tryz.underlying4 readable hb⟩
theorem aaq:Tryz.prog.inPlace 10=Rows.engineForgetsRow.inPlace:=by kernel_rfl
theorem aab:Tryz.prog.unfollowed 10=Rows.engineForgetsRow.unfollowed:=by kernel_rfl
theorem aam:Tryz.prog.recurses 10=Rows.engineForgetsRow.recurses:=by unfold Program.recurses;rw[aab];first|exact Bool.true_or _|kernel_rfl
theorem aav:Tryz.prog.varsNamed 10=Rows.engineForgetsRow.named:=by kernel_rfl
theorem closed:joinedFacts Tryz.prog 10 Tryz.f10 Rows.engineForgetsSpec Rows.engineForgetsRow=true:=by
 unfold joinedFacts
 rw[aaq,aab,aam,aav,Tx,Tz,WO,WQ,WR,WS,Yl]
 kernel_rfl
theorem holds:Rows.EngineForgetsSaid :=
 OpenClaim.holds_of_wide 10 Tryz.f10 rfl rfl rfl rfl rfl rfl rfl ⟨rfl,rfl,rfl,rfl,rfl⟩ rfl rfl rfl rfl rfl (by kernel_rfl) Tryz.func10 closed
  (of_decide_eq_true (by kernel_rfl)) (by unfold Func.isWrapper;first|(rw[if_pos (by decide +kernel)];kernel_rfl)|(rw[if_neg (by decide +kernel)];exact⟨rfl,rfl⟩))
  (fun os started H enc _=>lifted os started H enc)
end Go.Proofs.YthnefnlhcijekaaGreat.REngineForgets
#print axioms Go.Proofs.YthnefnlhcijekaaGreat.REngineForgets.holds
