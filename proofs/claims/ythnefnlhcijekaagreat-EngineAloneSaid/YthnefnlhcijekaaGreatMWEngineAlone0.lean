/- The law EngineAlone holds at every input that its statement lets in; part 1 of its proof. -/
import Derived.Test.YthnefnlhcijekaaGreatMB6
set_option linter.unusedVariables false
set_option linter.unusedSimpArgs false
namespace Go.Proofs.YthnefnlhcijekaaGreat.Po
open Go Go.RowKit Fw Hi
theorem oU (p:ax) (hp:aQ p) (w:Int) (hw:1≤w∧w≤1048576):aa Tryz.prog 98 [aI p,.int .i64 fun _=>w] [] (Y:=Unit) (fun _=>True) (fun _=>.int .i64 fun _=>ak p w) (fun _=>[]):=by
 have hb:=jM hp hw
 (refine aa.q Tryz.func98 rfl fun S ao=>Wb _ ?_;(repeat' first|exact tv|apply pr|intro hh))
 ·(refine ae.w () [] _ ?_;(repeat' first|exact tv|apply pr))
  unfold ak at hb ⊢
  rw[if_pos hh]at hb ⊢
  exact wr (by omega)
 ·(refine ae.w () [] _ ?_;(repeat' first|exact tv|apply pr))
  unfold ak
  rw[if_neg hh]
end Go.Proofs.YthnefnlhcijekaaGreat.Po
namespace Go.Proofs.YthnefnlhcijekaaGreat.Ce
open Go Go.RowKit Fw Hi Po
theorem Uf (p:ax) (d:Cell):wN p d 0=d.2.2.1.sum:=rfl
end Go.Proofs.YthnefnlhcijekaaGreat.Ce
namespace Go.Proofs.YthnefnlhcijekaaGreat.Hi
open Go Go.RowKit Fw Po
theorem aao (p:ax) (l:List a7) (t:Int) (hl:l.length≤1000000):aa Tryz.prog 96 [aI p,.aG bQ fun _=>l,.int .i64 fun _=>t] [] (Y:=Unit) (fun _=>True) (fun _=>.bool fun _=>fits p l t) (fun _=>[]):=by
  by_cases hp:aQ p
  · (refine aa.q Tryz.func96 rfl fun S ao=>Wb _ ?_;(repeat' first|exact tv|apply pr|intro hh))
    refine ab.intro (js p) [] rfl rfl ?_ ?_ ?_
    · exact Vc
    · exact Vc
    intro y hy
    rw[if_pos hp]
    clear y hy
    (refine Wa _ ?_;(repeat' first|exact tv|apply pr|intro hh))
    have A9:0<l.length→(l.getD (IntKind.i64.wrap ((l.length:Int) - 1)).toNat bQ.a8)=l.getD (l.length - 1) (0,0):=fun h=>by
      rw[wr (by omega),show((l.length:Int) - 1).toNat=l.length - 1 by omega];rfl
    (refine ab.q (Om l (by omega)) [] fun _ _=>Wp _ ?_;(repeat' first|exact tv|apply pr|intro hh))
    · refine Ob.mk ?_
      have e:IntKind.i64.wrap ((l.length:Int) - 1)=(l.length:Int) - 1:=wr (by omega)
      simp only[e];omega
    · rw[A9 (by omega)]at hh
      (refine ae.w () [] _ ?_;(repeat' first|exact tv|apply pr))
      have:=xX (l:=l) (by omega) t
      have hh:t<(l.getD (l.length - 1) (0,0)).1:=hh
      have hf:lf l t=false:=by rw[this];exact decide_eq_false (by omega)
      simp[fits,hf]
    all_goals first
      | ((refine ae.w () [] _ ?_;(repeat' first|exact tv|apply pr));simp[fits, *];done)
      | ((refine ae.w () [] _ ?_;(repeat' first|exact tv|apply pr));have:¬(0≤t∧t≤1099511627776):=by omega
         simp[fits];omega)
      | skip
    all_goals
      have u6:lf l t=true:=by
        by_cases h0:0<l.length
        · rw[xX h0]
          first
            | exact absurd h0 (by omega)
            | (rw[A9 h0]at hh
               have hh:¬t<(l.getD (l.length - 1) (0,0)).1:=hh
               exact decide_eq_true (by omega))
        · have:l=[]:=acg (by omega)
          rw[this];rfl
      have zV:may l=true:=by assumption
      have Pm:fits p l t=fw p l l.length:=by
        unfold fits
        rw[u6,zV,decide_eq_true hp,decide_eq_true (show(0:Int)≤t by omega),decide_eq_true (show t≤1099511627776 by omega)]
        rfl
      clear u6 A9 hh
      refine aH.intro hm (X:=Nat) (fun i=>i≤l.length∧fw p l i=true) (fun i=>l.length - i)
        (fun i=>[(43,.int .i64 fun _=>(i:Int)),(42,.int .i64 fun _=>(l.length:Int)),(41,.aG bQ fun _=>l),(3,.ptr 0 0),(1,.aG bQ fun _=>l)])
        (fun i=>[.cells 27 [.int .i64 fun _=>p.1,.int .i64 fun _=>p.2.1,.int .i64 fun _=>p.2.2.1,.int .i64 fun _=>p.2.2.2]]) 0 [0] ⟨rfl,rfl,?_,?_⟩ ⟨abw _,rfl⟩ (fun i hi=>?_)
      · exact Vc
      · exact Vc
      · obtain⟨hi,Ug⟩:=hi
        have kO:l.getD (i:Int).toNat bQ.a8=l.getD i (0,0):=rfl
        (refine Wb _ ?_;(repeat' first|exact tv|apply pr|intro hh))
        all_goals (try simp only[kO]at *)
        · (refine Ob.mk ?_;(try simp only[Ty.a8,abx,ab8,abm,acD,acL,aby,abG,abp,abM,abt,abP,abC,ab4,true_and,and_true]);omega)
        · refine Ob.mk ?_
          have e:=IK i (n:=l.length) (by omega) (by omega)
          simp only[e];omega
        · have gi:i<l.length:=by omega
          have e:=IK i gi (by omega)
          have e0:List.drop (Int.toNat 0) (List.take ((i+1:Nat):Int).toNat l)=l.take (i+1):=rfl
          simp only[e,e0]
          have hH:=zZ zV hl gi
          have hT:=IN zV gi
          have dm:fw p l (i+1)=decide (counts p (l.take (i+1)) (l.getD i (0,0)).1≤ak p p.2.1):=by rw[fw,Ug,adM]
          (refine ab.q (sL p (l.take (i+1)) (l.getD i (0,0)).1 hp hH (by omega)) [] fun _ _=>Wp _ ?_;(repeat' first|exact tv|apply pr|intro hh))
          (refine ab.q (oU p hp p.2.1 hp.bK) [] fun _ _=>Wp _ ?_;(repeat' first|exact tv|apply pr|intro hh))
          · have hs:=z1 (i:=i+1) (p:=p) (l:=l) (by rw[dm];exact decide_eq_false (by omega)) l.length gi
            (refine ae.w () [] _ ?_;(repeat' first|exact tv|apply pr))
            rw[Pm,hs]
          · refine⟨i+1,[0],⟨rfl,rfl,?_,?_⟩,⟨gi,by rw[dm];exact decide_eq_true (by omega)⟩,by omega⟩
            · exact Vc
            · (refine Vb _ ?_;(repeat' first|exact tv|apply pr))
              exact IK i gi (by omega)
        · have e:i=l.length:=by omega
          (refine ae.w () [] _ ?_;(repeat' first|exact tv|apply pr))
          rw[Pm,←e,Ug]
  · (refine aa.q Tryz.func96 rfl fun S ao=>Wb _ ?_;(repeat' first|exact tv|apply pr|intro hh))
    refine ab.intro (js p) [] rfl rfl ?_ ?_ ?_
    · exact Vc
    · exact Vc
    intro y hy
    rw[if_neg hp]
    (refine Wa _ ?_;(repeat' first|exact tv|apply pr|intro hh))
    (refine ae.w () [] _ ?_;(repeat' first|exact tv|apply pr))
    simp[fits,hp]
theorem aae (p:ax) (l:List a7) (t aB:Int) (hp:aQ p) (hl:lg l t) (ht:0≤t∧t≤1099511627776):aa Tryz.prog 101 [aI p,.aG bQ fun _=>l,.int .i64 fun _=>t,.int .i64 fun _=>aB] [] (Y:=Unit) (fun _=>True) (fun _=>.int .i64 fun _=>wait p l t aB) (fun _=>[]):=by
 have hW:=hp.aK
 (refine aa.q Tryz.func101 rfl fun S ao=>Wb _ ?_;(repeat' first|exact tv|apply pr|intro hh))
 refine aH.intro hm (X:=Int×Int) (fun x=>0≤x.1∧x.1≤x.2∧x.2≤p.2.2.1∧(x.1=0∨aB<counts p l (t+(x.1 - 1)))∧(x.2=p.2.2.1∨counts p l (t+x.2)≤aB)) (fun x=>(x.2 - x.1).toNat)
  (fun x=>[(9,.int .i64 fun _=>x.1),(10,.int .i64 fun _=>x.2),(4,.ptr 0 0),(1,.aG bQ fun _=>l),(2,.int .i64 fun _=>t),(3,.int .i64 fun _=>aB)])
  (fun i=>[.cells 27 [.int .i64 fun _=>p.1,.int .i64 fun _=>p.2.1,.int .i64 fun _=>p.2.2.1,.int .i64 fun _=>p.2.2.2]]) (0,p.2.2.1) [0] ⟨rfl,rfl,?_,?_⟩ ⟨by simp,by simp;omega,by simp,.inl rfl,.inl rfl⟩ (fun x hx=>?_)
 ·exact Vc
 ·exact Vc
 ·obtain⟨a,b⟩:=x
  simp only[]at hx
  obtain⟨h0,h1,h2,h3,h4⟩:=hx
  have e1:IntKind.i64.wrap (a+b)=a+b:=wr (by omega)
  have hh0:0≤(a+b).tdiv 2:=ad0 (by omega) (by omega)
  have Z7:(a+b).tdiv 2=(a+b) / 2:=abL (by omega)
  have e2:IntKind.i64.wrap ((a+b).tdiv 2)=(a+b) / 2:=by rw[Z7];exact wr (by omega)
  have e3:IntKind.i64.wrap (t+(a+b) / 2)=t+(a+b) / 2:=wr (by omega)
  (refine Wb _ ?_;(repeat' first|exact tv|apply pr|intro hh))
  all_goals (try simp only[e1,e2,e3])
  ·exact Ob.mk (by decide)
  ·(refine ab.q (sL p l (t+(a+b) / 2) hp (hl.up (by omega)) (by omega)) [] fun _ _=>Wp _ ?_;(repeat' first|exact tv|apply pr|intro hh))
   ·refine⟨(a,(a+b) / 2),[0],⟨rfl,rfl,?_,?_⟩,⟨h0,?_,?_,h3,.inr hh⟩,?_⟩
    ·exact Vc
    ·exact Vc
    ·simp only[];omega
    ·simp only[];omega
    ·simp only[];omega
   ·refine⟨((a+b) / 2+1,b),[0],⟨rfl,rfl,?_,?_⟩,⟨?_,?_,h2,.inr ?_,h4⟩,?_⟩
    ·exact Vc
    ·(refine Vb _ ?_;(repeat' first|exact tv|apply pr))
     exact wr (by omega)
    ·simp only[];omega
    ·simp only[];omega
    ·simp only[]
     rw[show t+((a+b) / 2+1 - 1)=t+(a+b) / 2 by omega];omega
    ·simp only[];omega
  ·have e:a=b:=by omega
   subst e
   (refine ae.w () [] _ ?_;(repeat' first|exact tv|apply pr))
   exact(KZ hp hl h0 h2 h3 h4).symm
theorem aar (p:ax) (l:List a7) (t w:Int) (hl:l.length≤999999):aa Tryz.prog 46 [aI p,.aG bQ fun _=>l,.int .i64 fun _=>t,.int .i64 fun _=>w] [] (Y:=Unit) (fun _=>True) (fun _=>.bM [.aG bQ fun _=>(ask p l t w).1,mN (ask p l t w).2]) (fun _=>[]):=by
 (refine aa.q Tryz.func46 rfl fun S ao=>Wb _ ?_;(repeat' first|exact tv|apply pr|intro hh))
 (refine ab.q (aao p l t (by omega)) [] fun _ _=>Wp _ ?_;(repeat' first|exact tv|apply pr|intro hh))
 ·(refine ab.q (eP w) [] fun _ _=>Wp _ ?_;(repeat' first|exact tv|apply pr|intro hh))
  ·have ha:ask p l t w=(l,false,0,0,0):=by
    unfold ask;rw[hh,Bool.and_false];rfl
   (refine ae.w () [] _ ?_;(repeat' first|exact tv|apply pr))
   all_goals rw[ha]
  ·obtain⟨h1,h2,h3,h4,h5⟩:=z6 ‹_› (by omega)
   have hw:1≤w∧w≤1048576:=by simpa [aU]using hh
   have Lj:(fits p l t && aU w)=true:=by rw[‹fits p l t=true›,hh];rfl
   clear hh
   have Qe:=jM h1 hw
   have qP:=lh h1 h5
   have Ux:=jM h1 h1.bK
   have Ll:=jM h1 (w:=1) (by omega)
   have e1:IntKind.i64.wrap (counts p l t+ak p w)=counts p l t+ak p w:=wr (by omega)
   have e3:IntKind.i64.wrap (ak p p.2.1 - ak p w)=ak p p.2.1 - ak p w:=wr (by omega)
   (refine ab.q (oU p h1 p.2.1 h1.bK) [] fun _ _=>Wp _ ?_;(repeat' first|exact tv|apply pr|intro hh))
   (refine ab.q (sL p l t h1 h5 (by omega)) [] fun _ _=>Wp _ ?_;(repeat' first|exact tv|apply pr|intro hh))
   (refine ab.q (oU p h1 w hw) [] fun _ _=>Wp _ ?_;(repeat' first|exact tv|apply pr|intro hh))
   all_goals (try simp only[e1]at hh ⊢)
   ·refine ab.im 4 ?_ (DD [[(t,w)]] (by simp) (by simp)).aA
    (conv=>whnf)
    have e:((((List.take 2 (List.drop 0 [l,List.take 1 (List.drop 0 [(t,w)])]))):List (List a7)))=[l,[(t,w)]]:=rfl
    have lK:lg (l++[(t,w)]) t:=⟨fun x hx=>by
     rcases ab1.1 hx with hx|hx
     ·exact h5.tick x hx
     ·simp at hx;subst hx;simp;omega,fun x hx=>by
     rcases ab1.1 hx with hx|hx
     ·exact h5.weight x hx
     ·simp at hx;subst hx;exact hw,by simp;omega⟩
    have ef:[l,[(t,w)]].flatten=l++[(t,w)]:=by simp
    (refine ab.q (DD [l,[(t,w)]] (by rw[ef];have:=lK.len;simp at this ⊢;omega) (by simp)) [] fun _ _=>Wp _ ?_;(repeat' first|exact tv|apply pr|intro hh))
    rw[ef]
    have Pu:=lh h1 lK
    have e5:(List.take (l++[(t,w)]).length (List.drop 0 (l++[(t,w)])))=l++[(t,w)]:=by rw[abA,abv]
    refine ab.im 5 ?_ (sL p l t h1 h5 (by omega)).aA
    (conv=>whnf)
    simp only[e5]
    have ha:ask p l t w=(l++[(t,w)],true,(max 0 (ak p p.2.1 - counts p (l++[(t,w)]) t)).tdiv (ak p 1),0,wait p (l++[(t,w)]) t 0):=by
     unfold ask;rw[if_pos Lj];simp only[if_pos hh,decide_eq_true hh]
    (refine ab.q (sL p (l++[(t,w)]) t h1 lK (by omega)) [] fun _ _=>Wp _ ?_;(repeat' first|exact tv|apply pr|intro hh))
    (refine ab.q (oU p h1 1 (by omega)) [] fun _ _=>Wp _ ?_;(repeat' first|exact tv|apply pr|intro hh))
    ·exact Ob.mk (by simp only[];omega)
    (refine ab.q (aae p (l++[(t,w)]) t 0 h1 lK (by omega)) [] fun _ _=>Wp _ ?_;(repeat' first|exact tv|apply pr|intro hh))
    (refine ae.w () [] _ ?_;(repeat' first|exact tv|apply pr))
    all_goals rw[ha]
    exact ly (by omega) Pu Ll.1
   ·have hn:¬counts p l t+ak p w≤ak p p.2.1:=by rw[←e1];assumption
    have ha:ask p l t w=(l,false,(max 0 (ak p p.2.1 - counts p l t)).tdiv (ak p 1),2199023255552,wait p l t 0):=by
     unfold ask;rw[if_pos Lj];simp only[if_neg hn,decide_eq_false hn,if_pos hh]
    (refine ab.q (sL p l t h1 h5 (by omega)) [] fun _ _=>Wp _ ?_;(repeat' first|exact tv|apply pr|intro hh))
    (refine ab.q (oU p h1 1 (by omega)) [] fun _ _=>Wp _ ?_;(repeat' first|exact tv|apply pr|intro hh))
    ·exact Ob.mk (by simp only[];omega)
    (refine ab.q (aae p l t 0 h1 h5 (by omega)) [] fun _ _=>Wp _ ?_;(repeat' first|exact tv|apply pr|intro hh))
    (refine ae.w () [] _ ?_;(repeat' first|exact tv|apply pr))
    all_goals rw[ha]
    exact ly (by omega) qP Ll.1
   ·have hn:¬counts p l t+ak p w≤ak p p.2.1:=by rw[←e1];assumption
    have ha:ask p l t w=(l,false,(max 0 (ak p p.2.1 - counts p l t)).tdiv (ak p 1),wait p l t (ak p p.2.1 - ak p w),wait p l t 0):=by
     unfold ask;rw[if_pos Lj];simp only[if_neg hn,decide_eq_false hn,if_neg hh]
    (refine ab.q (oU p h1 w hw) [] fun _ _=>Wp _ ?_;(repeat' first|exact tv|apply pr|intro hh))
    simp only[e3]
    (refine ab.q (aae p l t (ak p p.2.1 - ak p w) h1 h5 (by omega)) [] fun _ _=>Wp _ ?_;(repeat' first|exact tv|apply pr|intro hh))
    (refine ab.q (sL p l t h1 h5 (by omega)) [] fun _ _=>Wp _ ?_;(repeat' first|exact tv|apply pr|intro hh))
    (refine ab.q (oU p h1 1 (by omega)) [] fun _ _=>Wp _ ?_;(repeat' first|exact tv|apply pr|intro hh))
    ·exact Ob.mk (by simp only[];omega)
    (refine ab.q (aae p l t 0 h1 h5 (by omega)) [] fun _ _=>Wp _ ?_;(repeat' first|exact tv|apply pr|intro hh))
    (refine ae.w () [] _ ?_;(repeat' first|exact tv|apply pr))
    all_goals rw[ha]
    exact ly (by omega) qP Ll.1
 ·have ha:ask p l t w=(l,false,0,0,0):=by
   unfold ask;rw[hh,Bool.false_and];rfl
  (refine ae.w () [] _ ?_;(repeat' first|exact tv|apply pr))
  all_goals rw[ha]
end Go.Proofs.YthnefnlhcijekaaGreat.Hi
namespace Go.Proofs.YthnefnlhcijekaaGreat.En
open Go Go.RowKit Fw Hi Ce
section
variable {K:Kt} {m:Nat} {nm key:Nm} {w v:Int} {p:ax} {o:Jl}
theorem aad:(cz K nm w).1.n=K.n∧(cz K nm w).1.now=K.now∧(cz K nm w).1.bk=K.bk:=by
 unfold cz;split
 ·split <;> exact⟨rfl,rfl,rfl⟩
 ·exact⟨rfl,rfl,rfl⟩
theorem aaf (h:Qg K.L):Qg (cz K nm w).1.L:=by
 unfold cz;split
 ·split
  ·exact h
  ·exact DJ h
 ·exact h
theorem aah (h:Qg K.L) (t:Int):Qg (dW K t).L:=by unfold dW;split <;> exact h
theorem aab (hs:Qg K.L) (hb:cx K.bk nm.1=some (p,v)) :
  ((cz K nm w).2.1=0→(cz K nm w).2.2=(Hi.ask p (aR K.L nm) K.now w).2∧aR (cz K nm w).1.L nm=(Hi.ask p (aR K.L nm) K.now w).1)∧((cz K nm w).2.1≠0→(cz K nm w).1=K):=by
 cases aal:fe nm && aU w with
 | false=>rw[(Ao aal).2];exact⟨fun h=>absurd (show(1:Int)=0 from h) (by decide),fun _=>rfl⟩
 | true =>
  rw[abD]at aal
  have hc:=kB aal.1 aal.2 hb
  cases ha:(Hi.ask p (aR K.L nm) K.now w).2.1 with
  | false=>rw[hc.1 ha];exact⟨fun _=>⟨rfl,(O0 ha).symm⟩,fun h=>absurd rfl h⟩
  | true =>
   by_cases hf:Full K p nm
   ·rw[hc.2.1 ha hf];exact⟨fun h=>absurd (show(7:Int)=0 from h) (by decide),fun _=>rfl⟩
   ·rw[hc.2.2 ha hf];exact⟨fun _=>⟨rfl,by rw[uL hs,if_pos rfl]⟩,fun h=>absurd rfl h⟩
theorem aac (hs:Qg K.L) (bE:nm≠key):aR (cz K nm w).1.L key=aR K.L key:=by
 unfold cz;split
 ·split
  ·rfl
  ·show aR (j7 _ _ _) key=_
   rw[uL hs,if_neg (Ne.symm bE)]
 ·rfl
theorem aaa (n:Int) (p:ax):kH (PK n) 0 p=if aQ p then(⟨n,0,Lt.set 0 (true,p,1),[]⟩,1,0)else(PK n,0,1):=by
 by_cases hp:aQ p
 ·have e:iG Lt 0 p=(Lt.set 0 (true,p,1),1,0):=by unfold iG;rw[if_pos ⟨by decide,hp⟩];rfl
  rw[if_pos hp];unfold kH;rw[show(PK n).bk=Lt from rfl,e];rfl
 ·have e:iG Lt 0 p=(Lt,0,1):=by unfold iG;rw[if_neg (fun h=>hp h.2)]
  rw[if_neg hp];unfold kH;rw[show(PK n).bk=Lt from rfl,e];rfl
theorem aaj (p:ax):cx (Lt.set 0 (true,p,1)) 0=some (p,1):=by
 unfold cx
 rw[if_pos ⟨by decide,by decide,rfl⟩];rfl
end
end Go.Proofs.YthnefnlhcijekaaGreat.En
set_option maxRecDepth 8000
namespace Go.Proofs.YthnefnlhcijekaaGreat.En
open Go Go.RowKit Fw Hi Ce
structure AlI (p:ax) (l:List Jl) (z:Nat×Kt×Nat×Nat):Prop where
 le:z.1≤l.length
 s:Small z.2.1 (2*z.1)
 srt:Qg z.2.1.L
 cur:cx z.2.1.bk 0=some (p,1)
 m:z.2.2.1≤1+2*z.1
theorem aap {p:ax} (hp:aQ p):Small (kH (PK 64) 0 p).1 0:=(Small.zero (n:=64) (by omega)).set 0 p
set_option maxHeartbeats 2000000 in
theorem aak (p:ax) (l:List Jl) (key:List UInt8) (hN:∀ o∈l,aaE o):aa Tryz.prog 16 [aI p,.aG To fun _=>l,.str fun _=>key] [] (Y:=Unit) (fun _=>True) (fun _=>.tt) (fun _=>[]):=by
 have Lj:=aaD l 60 (by omega)
 have O9:j5=1099511627776:=rfl
 have qG:=WB 64 5 (by omega)
 by_cases hf:PM l 60
 rotate_left
 ·rw[decide_eq_false hf]at Lj
  (refine aa.q Tryz.func16 rfl fun S ao=>Wa _ ?_;(repeat' first|exact tv|apply pr|intro hh))
  (refine ab.q qG [] fun _ _=>Wp _ ?_;(repeat' first|exact tv|apply pr|intro hh))
  (refine ab.q Lj [] fun _ _=>Wp _ ?_;(repeat' first|exact tv|apply pr|intro hh))
  all_goals ((refine ab.q Mk [] fun _ _=>Wp _ ?_;(repeat' first|exact tv|apply pr|intro hh)))
  all_goals exact ae.z () []
 rw[decide_eq_true hf]at Lj
 have hl60:=hf.1
 have dm:=Tk (K:=PK 64) (m:=0) (m':=1) (c:=0) 0 p (by omega)
 rw[aaa]at dm
 by_cases hp:aQ p
 rotate_left
 ·rw[if_neg hp]at dm
  (refine aa.q Tryz.func16 rfl fun S ao=>Wa _ ?_;(repeat' first|exact tv|apply pr|intro hh))
  (refine ab.q qG [] fun _ _=>Wp _ ?_;(repeat' first|exact tv|apply pr|intro hh))
  (refine ab.q Lj [] fun _ _=>Wp _ ?_;(repeat' first|exact tv|apply pr|intro hh))
  all_goals first|((refine ab.q Mk [] fun _ _=>Wp _ ?_;(repeat' first|exact tv|apply pr|intro hh)))|skip
  all_goals first|((refine ae.w () [] _ ?_;(repeat' first|exact tv|apply pr)))|skip
  all_goals ((refine ab.q dm [1] ?_;rintro c1 _;refine Wp _ ?_;(repeat' first|exact tv|apply pr|intro hh)))
  all_goals ((refine ab.q Mk [] fun _ _=>Wp _ ?_;(repeat' first|exact tv|apply pr|intro hh)))
  all_goals exact ae.z () []
 rw[if_pos hp]at dm
 (refine aa.q Tryz.func16 rfl fun S ao=>Wa _ ?_;(repeat' first|exact tv|apply pr|intro hh))
 (refine ab.q qG [] fun _ _=>Wp _ ?_;(repeat' first|exact tv|apply pr|intro hh))
 (refine ab.q Lj [] fun _ _=>Wp _ ?_;(repeat' first|exact tv|apply pr|intro hh))
 all_goals first|((refine ab.q Mk [] fun _ _=>Wp _ ?_;(repeat' first|exact tv|apply pr|intro hh)))|skip
 all_goals first|((refine ae.w () [] _ ?_;(repeat' first|exact tv|apply pr)))|skip
 (refine ab.q dm [1] ?_;rintro c1 _;refine Wp _ ?_;(repeat' first|exact tv|apply pr|intro hh))
 have Oq:=aap hp
 rw[aaa,if_pos hp]at Oq
 refine aH.intro hm (X:=Nat×Kt×Nat×Nat) (AlI p l) (fun z=>l.length - z.1)
  (fun z=>[(1,.aG To fun _=>l),(2,.str fun _=>key),(3,.ptr 0 0),(7,.ptr 1 0),(11,.aG bQ fun _=>aR z.2.1.L (0,key)),(12,.int .i64 fun _=>z.2.1.now),(13,.int .i64 fun _=>(z.1:Int))])
  (fun z=>[.cells 27 [.int .i64 fun _=>p.1,.int .i64 fun _=>p.2.1,.int .i64 fun _=>p.2.2.1,.int .i64 fun _=>p.2.2.2],.bg (dY z.2.1 z.2.2.1 z.2.2.2)]) (0,_,1,c1) [0,1] ⟨rfl,rfl,?_,?_⟩ ⟨abw _,Oq,List.Pairwise.nil,aaj p,abr _⟩ ?_
 ·exact Vc
 ·exact Vc
 rintro⟨i,K,m,c⟩ hI
 have hi:=hI.le
 have hs:=hI.s
 have Rg:=hI.srt
 have Uj:=hI.cur
 have SA:=hI.m
 simp only[]at hi hs Rg Uj SA
 by_cases dp:i<l.length
 rotate_left
 ·(refine Wa _ ?_;(repeat' first|exact tv|apply pr|intro hh))
  all_goals first|(exfalso;omega)|skip
  all_goals ((refine ab.q Mk [] fun _ _=>Wp _ ?_;(repeat' first|exact tv|apply pr|intro hh)))
  all_goals exact ae.z () []
 have hoN:=hN _ (Tr dp)
 have Wt:=hs.now
 by_cases h01:(l.getD ((i:Int)).toNat To.a8).1=0∨(l.getD ((i:Int)).toNat To.a8).1=1
 ·have XC:=pb (K:=K) (m:=m) (m':=m+1) (c:=c) (0,(l.getD ((i:Int)).toNat To.a8).2.1.2.1) (l.getD ((i:Int)).toNat To.a8).2.1.2.2 (by omega) (by omega)
  have hsm:=(hs.check (0,(l.getD ((i:Int)).toNat To.a8).2.1.2.1) (l.getD ((i:Int)).toNat To.a8).2.1.2.2).up (show 2*i+1≤2*(i+1) by omega)
  have Er:=aaf (nm:=(0,(l.getD ((i:Int)).toNat To.a8).2.1.2.1)) (w:=(l.getD ((i:Int)).toNat To.a8).2.1.2.2) Rg
  have XL:=aad (K:=K) (nm:=(0,(l.getD ((i:Int)).toNat To.a8).2.1.2.1)) (w:=(l.getD ((i:Int)).toNat To.a8).2.1.2.2)
  have Bj:cx (cz K (0,(l.getD ((i:Int)).toNat To.a8).2.1.2.1) (l.getD ((i:Int)).toNat To.a8).2.1.2.2).1.bk 0=some (p,1):=by rw[XL.2.2];exact Uj
  have A4:=aab (nm:=(0,(l.getD ((i:Int)).toNat To.a8).2.1.2.1)) (w:=(l.getD ((i:Int)).toNat To.a8).2.1.2.2) Rg Uj
  have qQ:=hs.at_ (0,key)
  have aas:=aar p (aR K.L (0,key)) K.now (l.getD ((i:Int)).toNat To.a8).2.1.2.2 (by omega)
  by_cases JD:(l.getD ((i:Int)).toNat To.a8).2.1.2.1=key∧(cz K (0,(l.getD ((i:Int)).toNat To.a8).2.1.2.1) (l.getD ((i:Int)).toNat To.a8).2.1.2.2).2.1=0
  ·have T5:=A4.1 JD.2
   have ek:aR K.L (0,(l.getD ((i:Int)).toNat To.a8).2.1.2.1)=aR K.L (0,key):=by rw[JD.1]
   have hv:(cz K (0,(l.getD ((i:Int)).toNat To.a8).2.1.2.1) (l.getD ((i:Int)).toNat To.a8).2.1.2.2).2.2=(Hi.ask p (aR K.L (0,key)) K.now (l.getD ((i:Int)).toNat To.a8).2.1.2.2).2:=T5.1.trans (by rw[ek])
   have hx:aR (cz K (0,(l.getD ((i:Int)).toNat To.a8).2.1.2.1) (l.getD ((i:Int)).toNat To.a8).2.1.2.2).1.L (0,key)=(Hi.ask p (aR K.L (0,key)) K.now (l.getD ((i:Int)).toNat To.a8).2.1.2.2).1:=(congrArg (fun k=>aR (cz K (0,(l.getD ((i:Int)).toNat To.a8).2.1.2.1) (l.getD ((i:Int)).toNat To.a8).2.1.2.2).1.L (0,k)) JD.1.symm).trans (T5.2.trans (by rw[ek]))
   (refine Wa _ ?_;(repeat' first|exact tv|apply pr|intro hh))
   all_goals first|exact Ob.mk ⟨by simp only[];omega,by simp only[];omega⟩|(exfalso;omega)|skip
   all_goals ((refine ab.q XC [1] ?_;rintro c' _;refine Wp _ ?_;(repeat' first|exact tv|apply pr|intro hh)))
   all_goals first|(exfalso;exact absurd JD.1 ‹_›)|(exfalso;exact absurd JD.2 ‹_›)|skip
   all_goals ((refine ab.q aas [] fun _ _=>Wp _ ?_;(repeat' first|exact tv|apply pr|intro hh)))
   all_goals first|(exact absurd hv ((G8 _ rfl _ _).1 hh))|skip
   all_goals refine⟨(i+1,(cz K (0,(l.getD ((i:Int)).toNat To.a8).2.1.2.1) (l.getD ((i:Int)).toNat To.a8).2.1.2.2).1,m+1,c'),[0,1],⟨rfl,rfl,?_,?_⟩,⟨dp,hsm,Er,Bj,by show m+1≤_;omega⟩,by show _ - (i+1)<_ - i;omega⟩
   all_goals (refine Vb _ ?_;(repeat' first|exact tv|apply pr))
   all_goals first|(rw[wr (by omega)];omega)|exact hx.symm|exact XL.2.1.symm|skip
  ·have ma:aR (cz K (0,(l.getD ((i:Int)).toNat To.a8).2.1.2.1) (l.getD ((i:Int)).toNat To.a8).2.1.2.2).1.L (0,key)=aR K.L (0,key):=by
    by_cases hk:(l.getD ((i:Int)).toNat To.a8).2.1.2.1=key
    ·rw[A4.2 fun h=>JD ⟨hk,h⟩]
    ·exact aac Rg fun e=>hk (congrArg Prod.snd e)
   (refine Wa _ ?_;(repeat' first|exact tv|apply pr|intro hh))
   all_goals first|exact Ob.mk ⟨by simp only[];omega,by simp only[];omega⟩|(exfalso;omega)|skip
   all_goals ((refine ab.q XC [1] ?_;rintro c' _;refine Wp _ ?_;(repeat' first|exact tv|apply pr|intro hh)))
   all_goals first|(exfalso;exact JD ⟨Classical.not_not.1 ‹_›,Classical.not_not.1 ‹_›⟩)|skip
   all_goals first|(exfalso;exact JD ⟨by assumption,by assumption⟩)|skip
   all_goals refine⟨(i+1,(cz K (0,(l.getD ((i:Int)).toNat To.a8).2.1.2.1) (l.getD ((i:Int)).toNat To.a8).2.1.2.2).1,m+1,c'),[0,1],⟨rfl,rfl,?_,?_⟩,⟨dp,hsm,Er,Bj,by show m+1≤_;omega⟩,by show _ - (i+1)<_ - i;omega⟩
   all_goals (refine Vb _ ?_;(repeat' first|exact tv|apply pr))
   all_goals first|(rw[wr (by omega)];omega)|exact ma.symm|exact XL.2.1.symm|skip
 by_cases h23:(l.getD ((i:Int)).toNat To.a8).1=2∨(l.getD ((i:Int)).toNat To.a8).1=3
 ·by_cases hr:0≤(l.getD ((i:Int)).toNat To.a8).2.2.1∧(l.getD ((i:Int)).toNat To.a8).2.2.1≤1073741824
  ·have ew:IntKind.i64.wrap (K.now+(l.getD ((i:Int)).toNat To.a8).2.2.1)=K.now+(l.getD ((i:Int)).toNat To.a8).2.2.1:=wr (by omega)
   have wL:=wG (K:=K) (m:=m) (m':=m+1) (c:=c) (K.now+(l.getD ((i:Int)).toNat To.a8).2.2.1) (by omega)
   have hsm:=(hs.tick (K.now+(l.getD ((i:Int)).toNat To.a8).2.2.1)).up (show 2*i≤2*(i+1) by omega)
   have Er:=aah Rg (K.now+(l.getD ((i:Int)).toNat To.a8).2.2.1)
   have hL:(dW K (K.now+(l.getD ((i:Int)).toNat To.a8).2.2.1)).L=K.L:=by unfold dW;split <;> rfl
   have hb:(dW K (K.now+(l.getD ((i:Int)).toNat To.a8).2.2.1)).bk=K.bk:=by unfold dW;split <;> rfl
   (refine Wa _ ?_;(repeat' first|exact tv|apply pr|intro hh))
   all_goals first|exact Ob.mk ⟨by simp only[];omega,by simp only[];omega⟩|(exfalso;omega)|skip
   all_goals simp only[ew]
   all_goals ((refine ab.q wL [1] ?_;rintro c' _;refine Wp _ ?_;(repeat' first|exact tv|apply pr|intro hh)))
   all_goals refine⟨(i+1,dW K (K.now+(l.getD ((i:Int)).toNat To.a8).2.2.1),m+1,c'),[0,1],⟨rfl,rfl,?_,?_⟩,⟨dp,hsm,Er,by rw[hb];exact Uj,by show m+1≤_;omega⟩,by show _ - (i+1)<_ - i;omega⟩
   all_goals (refine Vb _ ?_;(repeat' first|exact tv|apply pr))
   all_goals first|(rw[wr (by omega)];omega)|(rw[hL])|skip
  ·(refine Wa _ ?_;(repeat' first|exact tv|apply pr|intro hh))
   all_goals first|exact Ob.mk ⟨by simp only[];omega,by simp only[];omega⟩|(exfalso;omega)|skip
   all_goals refine⟨(i+1,K,m,c),[0,1],⟨rfl,rfl,?_,?_⟩,⟨dp,hs.up (by omega),Rg,Uj,by show m≤_;omega⟩,by show _ - (i+1)<_ - i;omega⟩
   all_goals (refine Vb _ ?_;(repeat' first|exact tv|apply pr))
   all_goals first|(rw[wr (by omega)];omega)|skip
 by_cases h7:(l.getD ((i:Int)).toNat To.a8).1=7
 ·have hwo:=MZ (K:=K) (m:=m) (m':=m+1) (c:=c) (l.getD ((i:Int)).toNat To.a8).2.2.1 hoN (by omega) (by omega)
  (refine Wa _ ?_;(repeat' first|exact tv|apply pr|intro hh))
  all_goals first|exact Ob.mk ⟨by simp only[];omega,by simp only[];omega⟩|(exfalso;omega)|skip
  all_goals ((refine ab.q hwo [1] ?_;rintro y _;refine Wp _ ?_;(repeat' first|exact tv|apply pr|intro hh)))
  all_goals refine⟨(i+1,K,m+1,y.1),[0,1],⟨rfl,rfl,?_,?_⟩,⟨dp,hs.up (by omega),Rg,Uj,by show m+1≤_;omega⟩,by show _ - (i+1)<_ - i;omega⟩
  all_goals (refine Vb _ ?_;(repeat' first|exact tv|apply pr))
  all_goals first|(rw[wr (by omega)];omega)|skip
 ·(refine Wa _ ?_;(repeat' first|exact tv|apply pr|intro hh))
  all_goals first|exact Ob.mk ⟨by simp only[];omega,by simp only[];omega⟩|(exfalso;omega)|skip
  all_goals refine⟨(i+1,K,m,c),[0,1],⟨rfl,rfl,?_,?_⟩,⟨dp,hs.up (by omega),Rg,Uj,by show m≤_;omega⟩,by show _ - (i+1)<_ - i;omega⟩
  all_goals (refine Vb _ ?_;(repeat' first|exact tv|apply pr))
  all_goals first|(rw[wr (by omega)];omega)|skip
end Go.Proofs.YthnefnlhcijekaaGreat.En
namespace Go.Proofs.YthnefnlhcijekaaGreat.REngineAlone
open Go Go.ChangeShapes Go.WideShapes Go.ChangeAt Go.RowKit Fw
theorem own:ownKnob Tryz.prog.godebug=none:=by kernel_rfl
theorem laidOut:laidOutB Tryz.prog=true:=Tx
theorem kids:Kids Tryz.prog (·<Tryz.prog.types.size):=Ym
theorem readable:∀ t∈Tryz.f16.params.toList,Tryz.prog.readableRec t=true∧t<Tryz.prog.types.size:=by
 have h:(Tryz.f16.params.toList.all fun t=>Tryz.prog.readableRec t && decide (t<Tryz.prog.types.size))=true:=by kernel_rfl
 intro t ht
 have:=acA.1 h t ht
 rw[abD,decide_eq_true_eq]at this
 exact this
set_option maxRecDepth 100000 in
theorem lifted (os:Os) (started:os.Started) (H:Type) (enc:TypeId×Value→H) :
  ReturnsInHanded {} Tryz.checked os 16 .any (Rows.engineAloneSpec.pre6 enc Tryz.prog Tryz.f16 Rows.engineAloneRow.domain false) (Rows.engineAloneSpec.post enc Tryz.prog Tryz.f16 false true false false):=by
 refine returnsInHanded_of_change (C:=Tryz.checked) own started (by kernel_rfl) Tryz.func16
  (ChangeSpec.witness6 (enc:=enc) (C:=Tryz.checked) false ⟨#[],#[.agg #[.int .i64 0,.int .i64 0,.int .i64 0,.int .i64 0],.slice none 0 0,.string .empty],[]⟩ 8 (by kernel_rfl) (by kernel_rfl) (by kernel_rfl) (by kernel_rfl)) ?_
 intro W base args ds gs before aaq hW hcnd _
 have lP:∀ (j:Nat) t v,Tryz.f16.params[j]?=some t→args[j]?=some v→Value.okWide Tryz.prog W .any base t v:=aaq
 have hW':DataW.Whole enc Tryz.prog Tryz.f16.params.toList Rows.engineAloneSpec.vars false W args.toList ds gs before:=hW
 obtain⟨p,q,hA0,hV,_,_,_⟩:=hW'
 have hA:DataW.TrodAll enc Tryz.prog W 0 (fun _=>true) true Tryz.f16.params.toList args.toList ds p:=hA0
 rw[Tryz.params16]at hA lP
 obtain⟨v0,v1,v2,d0,d1,d2,p0,p1,p2,rfl,rfl,rfl,h0,h1,h2⟩:=trodAll_three hA
 obtain⟨rfl,rfl⟩:=trodVars_none hV
 obtain⟨a0,aaC,w0⟩:=PQ (ty:=Hi.Sq) kids rfl rfl (of_decide_eq_true (by kernel_rfl)) (by kernel_rfl) (lP 0 _ v0 rfl rfl) h0
 obtain⟨a1,r1,w1⟩:=Tt (ty:=(.list En.To)) kids rfl rfl (of_decide_eq_true (by kernel_rfl)) (by kernel_rfl) (lP 1 _ v1 rfl rfl) h1
 obtain⟨a2,r2,w2⟩:=Tt (ty:=.str) kids rfl rfl (of_decide_eq_true (by kernel_rfl)) (by kernel_rfl) (lP 2 _ v2 rfl rfl) h2
 refine(Ul (aD:=[v0,v1,v2]) (En.aak a0 a1 a2 (fun o ho=>(w1.2 o ho).2.2.1)) (fun _ _=>rfl) ⟨aaC,r1.1,r2.1,trivial⟩).mono ?_
 rintro e W' ⟨rfl,hb⟩
 exact⟨_,rfl,Tv laidOut hW rfl rfl (by rfl) Tryz.underlying4 readable hb⟩
theorem aai:Tryz.prog.inPlace 16=Rows.engineAloneRow.inPlace:=by kernel_rfl
theorem RD:Tryz.prog.unfollowed 16=Rows.engineAloneRow.unfollowed:=by kernel_rfl
theorem aag:Tryz.prog.recurses 16=Rows.engineAloneRow.recurses:=by unfold Program.recurses;rw[RD];first|exact Bool.true_or _|kernel_rfl
theorem aam:Tryz.prog.varsNamed 16=Rows.engineAloneRow.named:=by kernel_rfl
theorem closed:joinedFacts Tryz.prog 16 Tryz.f16 Rows.engineAloneSpec Rows.engineAloneRow=true:=by
 unfold joinedFacts
 rw[aai,RD,aag,aam,Tx,Tz,WO,WQ,WR,WS,Yl]
 kernel_rfl
theorem holds:Rows.EngineAloneSaid :=
 OpenClaim.holds_of_wide 16 Tryz.f16 rfl rfl rfl rfl rfl rfl rfl ⟨rfl,rfl,rfl,rfl,rfl⟩ rfl rfl rfl rfl rfl (by kernel_rfl) Tryz.func16 closed
  (of_decide_eq_true (by kernel_rfl)) (by unfold Func.isWrapper;first|(rw[if_pos (by decide +kernel)];kernel_rfl)|(rw[if_neg (by decide +kernel)];exact⟨rfl,rfl⟩))
  (fun os started H enc _=>lifted os started H enc)
end Go.Proofs.YthnefnlhcijekaaGreat.REngineAlone
#print axioms Go.Proofs.YthnefnlhcijekaaGreat.REngineAlone.holds
