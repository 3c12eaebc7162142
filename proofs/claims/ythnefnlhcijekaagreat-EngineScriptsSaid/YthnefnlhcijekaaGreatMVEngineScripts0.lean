/- The law EngineScripts holds at every input that its statement lets in; part 1 of its proof. -/
import Derived.Test.YthnefnlhcijekaaGreatMC6
set_option linter.unusedVariables false
set_option linter.unusedSimpArgs false
namespace Go.Proofs.YthnefnlhcijekaaGreat.Hi
open Go Go.RowKit Fw Po
theorem QH (l:List bc) (hl:l.length<=1000000):MU Tryz.prog 150 [.aL dz fun _=>l] [] (.bool fun _=>may l) []:=by
 (refine aa.q Tryz.func150 rfl fun S aw=>Wb _ ?_;(repeat' first|exact tv|apply pr|intro hh));refine aM.intro hm (X:=Nat) (fun i=>i<=l.length/\may l=kY (ml l i) (l.drop i)) (fun i=>l.length - i)
   (fun i=>[(8,.I (i:Int)),(7,.I (l.length:Int)),(6,.aL dz fun _=>l),(3,.I (ml l i))]) (fun i=>[]) 0 [] ⟨rfl,rfl,?_,?_⟩ ⟨aae _,rfl⟩ (fun i hi=>?_)
 .exact Vc
 .exact Vc
 .obtain⟨hi,uA⟩:=hi
  have HR:=fun h=>uA.trans (Ov (l:=l) (i:=i) h);generalize hx:l.getD i (0,0)=x at HR;have qg:l.getD (i:Int).toNat dz.bA=x:=hx;(refine Wb _ ?_;(repeat' first|exact tv|apply pr|intro hh));all_goals (try simp only[qg]at *)
  ·(refine Ob.mk ?_;(try simp only[Ty.bA,aaf,aa6,Z4,acs,acz,aak,aar,aab,aaz,Z9,aay,aao,aba,true_and,and_true]);omega)
  .refine ab.q (eK x.2) [] fun _ _=>Wp _ ?_;repeat' first|exact tv|apply pr|intro hh
   rotate_left
   .have r8:i<l.length:=by omega
    refine⟨i+1,[],⟨rfl,rfl,?_,?_⟩,⟨r8,?_⟩,by omega⟩
    .exact Vc
    .refine Vb _ ?_;repeat' first|exact tv|apply pr
     all_goals first|exact RR i r8 (by omega)|skip
     show x.1=(l.getD i (0,0)).1;rw[hx]
    .rw[HR r8,hh]
     simp;omega
   .refine ae.w () [] _ ?_;repeat' first|exact tv|apply pr
    rw[HR (by omega),hh];simp
  .refine ae.w () [] _ ?_;repeat' first|exact tv|apply pr
   rw[HR (by omega)];simp;omega
  .refine ae.w () [] _ ?_;repeat' first|exact tv|apply pr
   rw[HR (by omega)];simp;omega
  .have e:i=l.length:=by omega
   (refine ae.w () [] _ ?_;(repeat' first|exact tv|apply pr));rw[uA,e,List.drop_length];rfl
theorem adl (q:Int->Bool):∀ (l:List bc) (i:Nat),i<l.length->bB q (l.take (i+1))=bB q (l.take i)+(if q (l.getD i (0,0)).1 then(l.getD i (0,0)).2 else 0)
 | [],i,h=>by simp at h
 | x::r,0,h=>by simp[bB]
 | x::r,i+1,h=>by
  have ih:=adl q r i (by simpa using h);have e:(x::r).getD (i+1) (0,0)=r.getD i (0,0):=by simp
  rw[e];simp only[abg,bB,ih];omega
theorem ot.take {l:List bc} {t:Int} (q:ot l t) (i:Nat):ot (l.take i) t:=q.sub (fun h hh=>aa5 hh) (by have:=q.len;rw[aak];omega)
def chC (p:ay) (t s:Int):List Chunk:=[.cells 27 [.I p.1,.I p.2.1,.I p.2.2.1,.I p.2.2.2],.cells 3 [.I t],.cells 3 [.I s]]
theorem aeF (p:ay) (t s x:Int) (ht:0<=t/\t<=1125899906842624) (hs:1<=s/\s<=1048576) (hx:0<=x/\x<=1125899906842624) (hW:1<=p.2.2.1/\p.2.2.1<=1048576) (hB:0<=p.2.2.2/\p.2.2.2<=16):MU Tryz.prog 155 [.I x,.ptr 2 0,.ptr 1 0] (chC p t s) (.bool fun _=>decide (x.tdiv s=t.tdiv s)) (chC p t s):=by
 have b1:=oy (a:=t) (s:=s) ht.1 (by omega) hs.1;have b2:=oy (a:=x) (s:=s) hx.1 (by omega) hs.1;(refine aa.q Tryz.func155 rfl fun S aw=>Wb _ ?_;(repeat' first|exact tv|apply pr|intro hh));all_goals first|(refine Ob.mk ?_;simp only[];omega)|skip
 (refine ae.w () [0,1,2] _ ?_;(repeat' first|exact tv|apply pr));all_goals simp(disch:=omega) only[wr]
 all_goals first|(rw[abX];simp;done)|skip
theorem aeq (p:ay) (t s:Int) (l:List bc) (hl:ot l 1125899906842624) (ht:0<=t/\t<=1125899906842624) (hs:1<=s/\s<=1048576) (hW:1<=p.2.2.1/\p.2.2.1<=1048576) (hB:0<=p.2.2.2/\p.2.2.2<=16):MU Tryz.prog 154 [.aL dz fun _=>l,.fn (.func 155) [] [.ptr 2 0,.ptr 1 0]] (chC p t s) (.int .i64 fun _=>bB (fun x=>decide (x.tdiv s=t.tdiv s)) l) (chC p t s):=by
 (refine aa.q Tryz.func154 rfl fun S aw=>Wb _ ?_;(repeat' first|exact tv|apply pr|intro hh));have hlen:=hl.len;refine aM.intro hm (X:=Nat) (fun i=>i<=l.length) (fun i=>l.length - i)
  (fun i=>[(10,.I (i:Int)),(9,.I (l.length:Int)),(8,.aL dz fun _=>l),(5,.int .i64 fun _=>bB (fun x=>decide (x.tdiv s=t.tdiv s)) (l.take i)),(1,.fn (.func 155) [] [.ptr 2 0,.ptr 1 0])]) (fun i=>chC p t s) 0 [0,1,2] ⟨rfl,rfl,?_,?_⟩ (aae _) (fun i hi=>?_)
 .exact Vc
 .exact Vc
 .have hb:=js (q:=fun x=>decide (x.tdiv s=t.tdiv s)) _ (hl.take i)
  have mC:((l.take i).length:Int)<=1000000:=by rw[aak];omega
  have fR:=adl (fun x=>decide (x.tdiv s=t.tdiv s)) l i;have bD:i<l.length->l.getD i (0,0)∈l:=fun h=>by rw[ZZ,Z1 h];exact aax h
  generalize hx:l.getD i (0,0)=x at fR bD;have qg:l.getD (i:Int).toNat dz.bA=x:=hx;generalize hn:bB (fun x=>decide (x.tdiv s=t.tdiv s)) (l.take i)=n at hb fR;(refine Wb _ ?_;(repeat' first|exact tv|apply pr|intro hh));all_goals (try simp only[qg]at *)
  ·(refine Ob.mk ?_;(try simp only[Ty.bA,aaf,aa6,Z4,acs,acz,aak,aar,aab,aaz,Z9,aay,aao,aba,true_and,and_true]);omega)
  .have r8:i<l.length:=by omega
   have qW:=hl.tick x (bD r8);have O7:=hl.weight x (bD r8);(refine ab.q (aeF p t s x.1 ht hs qW hW hB) [0,1,2] fun _ _=>Wp _ ?_;(repeat' first|exact tv|apply pr|intro hh));all_goals (refine⟨i+1,[0,1,2],⟨rfl,rfl,?_,?_⟩,r8,by omega⟩)
   all_goals refine Vb _ ?_;repeat' first|exact tv|apply pr
   all_goals first|exact RR i r8 (by omega)|(rw[fR r8,ZY (by simpa using hh),acv];done)|(rw[fR r8,Z0 (by simpa using hh)];exact wr (by omega))
  .have e:i=l.length:=by omega
   (refine ae.w () [0,1,2] _ ?_;(repeat' first|exact tv|apply pr));rw[<-hn,e,aac]
theorem aeG (p:ay) (t s x:Int) (ht:0<=t/\t<=1125899906842624) (hs:1<=s/\s<=1048576) (hx:0<=x/\x<=1125899906842624) (hW:1<=p.2.2.1/\p.2.2.1<=1048576) (hB:0<=p.2.2.2/\p.2.2.2<=16):MU Tryz.prog 156 [.I x,.ptr 2 0,.ptr 1 0,.ptr 0 0] (chC p t s) (.bool fun _=>decide (t.tdiv s - p.2.2.2<x.tdiv s)) (chC p t s):=by
 have b1:=oy (a:=t) (s:=s) ht.1 (by omega) hs.1;have b2:=oy (a:=x) (s:=s) hx.1 (by omega) hs.1;(refine aa.q Tryz.func156 rfl fun S aw=>Wb _ ?_;(repeat' first|exact tv|apply pr|intro hh));all_goals first|(refine Ob.mk ?_;simp only[];omega)|skip
 (refine ae.w () [0,1,2] _ ?_;(repeat' first|exact tv|apply pr));all_goals simp(disch:=omega) only[wr]
 all_goals first|(rw[abX];simp;done)|skip
theorem aer (p:ay) (t s:Int) (l:List bc) (hl:ot l 1125899906842624) (ht:0<=t/\t<=1125899906842624) (hs:1<=s/\s<=1048576) (hW:1<=p.2.2.1/\p.2.2.1<=1048576) (hB:0<=p.2.2.2/\p.2.2.2<=16):MU Tryz.prog 154 [.aL dz fun _=>l,.fn (.func 156) [] [.ptr 2 0,.ptr 1 0,.ptr 0 0]] (chC p t s) (.int .i64 fun _=>bB (fun x=>decide (t.tdiv s - p.2.2.2<x.tdiv s)) l) (chC p t s):=by
 (refine aa.q Tryz.func154 rfl fun S aw=>Wb _ ?_;(repeat' first|exact tv|apply pr|intro hh));have hlen:=hl.len;refine aM.intro hm (X:=Nat) (fun i=>i<=l.length) (fun i=>l.length - i)
  (fun i=>[(10,.I (i:Int)),(9,.I (l.length:Int)),(8,.aL dz fun _=>l),(5,.int .i64 fun _=>bB (fun x=>decide (t.tdiv s - p.2.2.2<x.tdiv s)) (l.take i)),(1,.fn (.func 156) [] [.ptr 2 0,.ptr 1 0,.ptr 0 0])]) (fun i=>chC p t s) 0 [0,1,2] ⟨rfl,rfl,?_,?_⟩ (aae _) (fun i hi=>?_)
 .exact Vc
 .exact Vc
 .have hb:=js (q:=fun x=>decide (t.tdiv s - p.2.2.2<x.tdiv s)) _ (hl.take i)
  have mC:((l.take i).length:Int)<=1000000:=by rw[aak];omega
  have fR:=adl (fun x=>decide (t.tdiv s - p.2.2.2<x.tdiv s)) l i;have bD:i<l.length->l.getD i (0,0)∈l:=fun h=>by rw[ZZ,Z1 h];exact aax h
  generalize hx:l.getD i (0,0)=x at fR bD;have qg:l.getD (i:Int).toNat dz.bA=x:=hx;generalize hn:bB (fun x=>decide (t.tdiv s - p.2.2.2<x.tdiv s)) (l.take i)=n at hb fR;(refine Wb _ ?_;(repeat' first|exact tv|apply pr|intro hh));all_goals (try simp only[qg]at *)
  ·(refine Ob.mk ?_;(try simp only[Ty.bA,aaf,aa6,Z4,acs,acz,aak,aar,aab,aaz,Z9,aay,aao,aba,true_and,and_true]);omega)
  .have r8:i<l.length:=by omega
   have qW:=hl.tick x (bD r8);have O7:=hl.weight x (bD r8);(refine ab.q (aeG p t s x.1 ht hs qW hW hB) [0,1,2] fun _ _=>Wp _ ?_;(repeat' first|exact tv|apply pr|intro hh));all_goals (refine⟨i+1,[0,1,2],⟨rfl,rfl,?_,?_⟩,r8,by omega⟩)
   all_goals refine Vb _ ?_;repeat' first|exact tv|apply pr
   all_goals first|exact RR i r8 (by omega)|(rw[fR r8,ZY (by simpa using hh),acv];done)|(rw[fR r8,Z0 (by simpa using hh)];exact wr (by omega))
  .have e:i=l.length:=by omega
   (refine ae.w () [0,1,2] _ ?_;(repeat' first|exact tv|apply pr));rw[<-hn,e,aac]
theorem aeH (p:ay) (t s x:Int) (ht:0<=t/\t<=1125899906842624) (hs:1<=s/\s<=1048576) (hx:0<=x/\x<=1125899906842624) (hW:1<=p.2.2.1/\p.2.2.1<=1048576) (hB:0<=p.2.2.2/\p.2.2.2<=16):MU Tryz.prog 157 [.I x,.ptr 1 0,.ptr 0 0] (chC p t s) (.bool fun _=>decide (t - p.2.2.1<x)) (chC p t s):=by
 have b1:=oy (a:=t) (s:=s) ht.1 (by omega) hs.1;have b2:=oy (a:=x) (s:=s) hx.1 (by omega) hs.1;(refine aa.q Tryz.func157 rfl fun S aw=>Wb _ ?_;(repeat' first|exact tv|apply pr|intro hh));all_goals first|(refine Ob.mk ?_;simp only[];omega)|skip
 (refine ae.w () [0,1,2] _ ?_;(repeat' first|exact tv|apply pr));all_goals simp(disch:=omega) only[wr]
 all_goals first|(rw[abX];simp;done)|skip
theorem aes (p:ay) (t s:Int) (l:List bc) (hl:ot l 1125899906842624) (ht:0<=t/\t<=1125899906842624) (hs:1<=s/\s<=1048576) (hW:1<=p.2.2.1/\p.2.2.1<=1048576) (hB:0<=p.2.2.2/\p.2.2.2<=16):MU Tryz.prog 154 [.aL dz fun _=>l,.fn (.func 157) [] [.ptr 1 0,.ptr 0 0]] (chC p t s) (.int .i64 fun _=>bB (fun x=>decide (t - p.2.2.1<x)) l) (chC p t s):=by
 (refine aa.q Tryz.func154 rfl fun S aw=>Wb _ ?_;(repeat' first|exact tv|apply pr|intro hh));have hlen:=hl.len;refine aM.intro hm (X:=Nat) (fun i=>i<=l.length) (fun i=>l.length - i)
  (fun i=>[(10,.I (i:Int)),(9,.I (l.length:Int)),(8,.aL dz fun _=>l),(5,.int .i64 fun _=>bB (fun x=>decide (t - p.2.2.1<x)) (l.take i)),(1,.fn (.func 157) [] [.ptr 1 0,.ptr 0 0])]) (fun i=>chC p t s) 0 [0,1,2] ⟨rfl,rfl,?_,?_⟩ (aae _) (fun i hi=>?_)
 .exact Vc
 .exact Vc
 .have hb:=js (q:=fun x=>decide (t - p.2.2.1<x)) _ (hl.take i)
  have mC:((l.take i).length:Int)<=1000000:=by rw[aak];omega
  have fR:=adl (fun x=>decide (t - p.2.2.1<x)) l i;have bD:i<l.length->l.getD i (0,0)∈l:=fun h=>by rw[ZZ,Z1 h];exact aax h
  generalize hx:l.getD i (0,0)=x at fR bD;have qg:l.getD (i:Int).toNat dz.bA=x:=hx;generalize hn:bB (fun x=>decide (t - p.2.2.1<x)) (l.take i)=n at hb fR;(refine Wb _ ?_;(repeat' first|exact tv|apply pr|intro hh));all_goals (try simp only[qg]at *)
  ·(refine Ob.mk ?_;(try simp only[Ty.bA,aaf,aa6,Z4,acs,acz,aak,aar,aab,aaz,Z9,aay,aao,aba,true_and,and_true]);omega)
  .have r8:i<l.length:=by omega
   have qW:=hl.tick x (bD r8);have O7:=hl.weight x (bD r8);(refine ab.q (aeH p t s x.1 ht hs qW hW hB) [0,1,2] fun _ _=>Wp _ ?_;(repeat' first|exact tv|apply pr|intro hh));all_goals (refine⟨i+1,[0,1,2],⟨rfl,rfl,?_,?_⟩,r8,by omega⟩)
   all_goals refine Vb _ ?_;repeat' first|exact tv|apply pr
   all_goals first|exact RR i r8 (by omega)|(rw[fR r8,ZY (by simpa using hh),acv];done)|(rw[fR r8,Z0 (by simpa using hh)];exact wr (by omega))
  .have e:i=l.length:=by omega
   (refine ae.w () [0,1,2] _ ?_;(repeat' first|exact tv|apply pr));rw[<-hn,e,aac]
def adE (l:List bc):List (Int×bc):=(List.range l.length).map fun k=>(((l.length - 1 - k:Nat):Int),l.getD (l.length - 1 - k) (0,0))
theorem ads (l:List bc):(adE l).length=l.length:=by simp[adE]
theorem adF {l:List bc} {k:Nat} (h:k<l.length):(adE l)[k]?=some (((l.length - 1 - k:Nat):Int),l.getD (l.length - 1 - k) (0,0)):=by simp[adE,h]
theorem RL.ints {g g':Gh}:∀ {cs:List AV} {us:List Value},(∀ c∈cs,∃ k n,c=.int k n)->RL g cs us->RL g' cs us
 | [],[],_,_=>trivial
 | [],_::_,_,h=>h.elim
 | _::_,[],_,h=>h.elim
 | c::r,u::us,hc,h=>by
  obtain⟨k,n,rfl⟩:=hc c (Z7 ..);refine⟨by rw[h.1.bY];exact .int _ _,RL.ints (fun c hm=>hc c (Z5 _ hm)) h.2⟩
theorem RL.SG {g g':Gh} {a b c:Unit->Int} {us:List Value} (h:RL g [.int .i64 a,.agg [.int .i64 b,.int .i64 c]] us):RL g' [.int .i64 a,.agg [.int .i64 b,.int .i64 c]] us:=by
 match us,h with
 | [u,v],h =>
  obtain⟨vs,rfl,hl⟩:=h.2.1.gR;refine⟨by rw[h.1.bY];exact .int _ _,?_,trivial⟩;have h2:=R.jf (RL.ints (g':=g') (by simp) hl);simpa using h2
theorem aet (l:List bc) (hl:l.length<=1000000):jl Tryz.prog 248 [.cM [.aL dz fun _=>l] 0] (fun x:Int×bc=>[.I x.1,.agg [.I x.2.1,.I x.2.2]]) (adE l):=by
 refine jl.intro hm (fn:=Tryz.f248) Tryz.func248 rfl (by decide) (aaM rfl) (fun x g g' us h=>?_) ?_
 .exact RL.SG h
 .intro S ll Uh
  (refine Wb _ ?_;(repeat' first|exact tv|apply pr|intro hh));refine aM.intro hm (X:=Nat) (fun k=>k<=l.length) (fun k=>l.length - k)
   (fun k=>[(3,.I ((l.length:Int) - 1 - k)),(1,.cM [.aL dz fun _=>l] 0),(0,.fn (.yield ll) [] [])]) (fun k=>[.count fun _=>k]) 0 [0] ⟨rfl,rfl,?_,?_⟩ (aae _) (fun k hk=>?_)
  .exact Vc
  .refine Vb _ ?_;repeat' first|exact tv|apply pr
   .rw[wr (by omega)];simp
   all_goals first|(split <;> first|exact⟨trivial,trivial⟩|(rename_i h _;exact(h rfl).elim))|skip
  .refine Wb _ ?_;repeat' first|exact tv|apply pr|intro hh
   ·(refine Ob.mk ?_;(try simp only[Ty.bA,aaf,aa6,Z4,acs,acz,aak,aar,aab,aaz,Z9,aay,aao,aba,true_and,and_true]);omega)
   .have xD:k<l.length:=by omega
    have e:((l.length - 1 - k:Nat):Int)=(l.length:Int) - 1 - k:=by omega
    refine Uh k (((l.length - 1 - k:Nat):Int),l.getD (l.length - 1 - k) (0,0)) [(3,.I ((l.length:Int) - 1 - k)),(1,.cM [.aL dz fun _=>l] 0),(0,.fn (.yield ll) [] [])] (adF xD) ?_ ⟨rfl,rfl,?_,?_⟩ ?_ ?_
    .rw[<-e]
     (refine Vb _ ?_;(repeat' first|exact tv|apply pr));all_goals rfl
    .exact Vc
    .refine Vb _ ?_;repeat' first|exact tv|apply pr
     all_goals first|(split <;> first|exact⟨trivial,trivial⟩|(rename_i h _;exact(h rfl).elim))|skip
    .refine Wb _ ?_;repeat' first|exact tv|apply pr|intro hh
     refine⟨k+1,[0],⟨rfl,rfl,?_,?_⟩,xD,by omega⟩
     .exact Vc
     .refine Vb _ ?_;repeat' first|exact tv|apply pr
      .rw[wr (by omega)];omega
      all_goals first|(split <;> first|exact⟨trivial,trivial⟩|(rename_i h _;exact(h rfl).elim))|skip
    .refine Wb _ ?_;repeat' first|exact tv|apply pr|intro hh
     exact⟨_,⟨rfl,trivial⟩,.inr rfl⟩
   .have e:k=l.length:=by omega
    exact⟨k,⟨rfl,trivial⟩,.inl (by rw[ads,e])⟩
theorem aeI (l:List bc):MU Tryz.prog 202 [.aL dz fun _=>l] [] (.fn (.func 248) [] [.ptr 0 0]) [.cells 93 [.aL dz fun _=>l]]:=by
 (refine aa.q Tryz.func202 rfl fun S aw=>Wb _ ?_;(repeat' first|exact tv|apply pr|intro hh));exact ae.z () [0]
theorem aeu (p:ay) (l:List bc) (t:Int) (hp:aQ p) (hl:ot l t) (ht:0<=t/\t<=2199023255552):MU Tryz.prog 153 [aI p,.aL dz fun _=>l,.I t] [] (.I ((nH p t l).2)) []:=by
 (refine aa.q Tryz.func153 rfl fun S aw=>Wb _ ?_;(repeat' first|exact tv|apply pr|intro hh));(refine ab.q (aeI l) [] fun y hy=>Wb _ ?_;(repeat' first|exact tv|apply pr|intro hh));refine aB.range hm aw [0,1,4] ?_;(conv=>whnf);have hlen:=hl.len;refine qv.intro (aet l (by omega)) _ (X:=Int×Int) (fun k x=>x=nH p t (l.drop (l.length - k))) (fun _ _=>False)
  (fun x=>[.none,.none,.cells 3 [.I x.2],.cells 3 [.I x.1],.none]) (0,0) rfl ?_ (fun _=>rfl) ?_ ?_ (fun _=>rfl) ⟨rfl,rfl⟩ (by simp[nH]) ?_ ?_ ?_
 .exact Vc
 .intro p hp;simp at hp;rcases hp with rfl|rfl <;> decide
 .exact Vc
 .intro S1 S2 k x y hy hx
  obtain⟨hk,ZX⟩:k<l.length/\y=(((l.length - 1 - k:Nat):Int),l.getD (l.length - 1 - k) (0,0)):=by
   have hk:k<l.length:=by
    have:=(Z2.1 hy).1;rwa [ads]at this
   rw[adF hk]at hy;exact⟨hk,by simpa using hy.symm⟩
  have Az:=Eu hk;have hb:=vB hp _ (hl.drop (l.length - k));have EO:(l.drop (l.length - k)).length<=1000000:=by rw[aar];omega
  rw[<-hx]at hb;have bD:l.getD (l.length - 1 - k) (0,0)∈l:=by rw[ZZ,Z1 (by omega)];exact aax _
  have SL:=hl.tick _ bD;have Lg:=hl.weight _ bD;have Cm:nH p t (l.drop (l.length - (k+1)))=(x.1+(l.getD (l.length - 1 - k) (0,0)).2*p.2.2.1,max x.2 (x.1+(l.getD (l.length - 1 - k) (0,0)).2*p.2.2.1 - p.2.1*(t - (l.getD (l.length - 1 - k) (0,0)).1))):=by
   rw[Az,nH,<-hx]
  generalize l.getD (l.length - 1 - k) (0,0)=z at *;subst ZX;have hL:=hp.bK;have hW:=hp.aN;have h1:0<=z.2*p.2.2.1:=aaw (by omega) (by omega);have h2:z.2*p.2.2.1<=1048576*1048576:=aaH Lg.2 hW.2 (by omega) (by omega);have h3:0<=p.2.1*(t - z.1):=aaw (by omega) (by omega);have h4:p.2.1*(t - z.1)<=1048576*2199023255552:=aaH hL.2 (by omega) (by omega) (by omega);have hdl':((l.drop (l.length - k)).length:Int)<=1000000:=by omega
  have e1:IntKind.i64.wrap (z.2*p.2.2.1)=z.2*p.2.2.1:=wr (by omega);have e2:IntKind.i64.wrap (x.1+z.2*p.2.2.1)=x.1+z.2*p.2.2.1:=wr (by omega);have e3:IntKind.i64.wrap (t - z.1)=t - z.1:=wr (by omega);have e4:IntKind.i64.wrap (p.2.1*(t - z.1))=p.2.1*(t - z.1):=wr (by omega);have e5:IntKind.i64.wrap (x.1+z.2*p.2.2.1 - p.2.1*(t - z.1))=x.1+z.2*p.2.2.1 - p.2.1*(t - z.1):=wr (by omega);(refine Wb _ ?_;(repeat' first|exact tv|apply pr|intro hh));refine⟨_,[0,1,2,3,4],rfl,rfl,?_,rfl⟩;rw[Cm];(refine Vb _ ?_;(repeat' first|exact tv|apply pr));all_goals (simp only[e1,e2,e3,e4,e5])
  all_goals first|(split <;> omega)|skip
 .intro x hx
  refine⟨rfl,?_⟩;rw[ads,Nat.sub_self,aah]at hx;(refine Wb _ ?_;(repeat' first|exact tv|apply pr|intro hh));(refine ae.w () [] _ ?_;(repeat' first|exact tv|apply pr));rw[hx]
 .intro e x h;exact h.elim
theorem xw (p:ay) (l:List bc) (t:Int) (hp:aQ p) (hl:ot l t) (ht:0<=t/\t<=2199023255552):MU Tryz.prog 99 [aI p,.aL dz fun _=>l,.I t] [] (.I (counts p l t)) []:=by
 have hs:=c6 hp;have hk:=hp.kind;have TB:0<=t/\t<=1125899906842624:=by omega
 (refine aa.q Tryz.func99 rfl fun S aw=>Wb _ ?_;(repeat' first|exact tv|apply pr|intro hh));refine ab.intro (LP p) [] rfl rfl ?_ ?_ ?_
 .exact Vc
 .exact Vc
 intro y hy;rw[Z0 hp];refine Wb _ ?_;repeat' first|exact tv|apply pr|intro hh
 .refine ab.q (aeu p l t hp hl ht) [] fun _ _=>Wp _ ?_;repeat' first|exact tv|apply pr|intro hh
  (refine ae.w () [] _ ?_;(repeat' first|exact tv|apply pr));simp[counts,hh]
 .refine ab.q (aeq p t (ar p) l (hl.up TB.2) TB hs hp.aN hp.RS) [0,1,2] fun _ _=>Wp _ ?_;repeat' first|exact tv|apply pr|intro hh
  (refine ae.w () [] _ ?_;(repeat' first|exact tv|apply pr));simp only[counts,ZY ‹¬p.1=1›];congr 1;funext x;simp[cq,hh]
 .refine ab.q (aer p t (ar p) l (hl.up TB.2) TB hs hp.aN hp.RS) [0,1,2] fun _ _=>Wp _ ?_;repeat' first|exact tv|apply pr|intro hh
  (refine ae.w () [] _ ?_;(repeat' first|exact tv|apply pr));simp only[counts,ZY ‹¬p.1=1›];congr 1;funext x;simp[cq,hh]
 .refine ab.q (aes p t (ar p) l (hl.up TB.2) TB hs hp.aN hp.RS) [0,1,2] fun _ _=>Wp _ ?_;repeat' first|exact tv|apply pr|intro hh
  (refine ae.w () [] _ ?_;(repeat' first|exact tv|apply pr));simp only[counts,ZY ‹¬p.1=1›];congr 1;funext x;simp only[cq];rw[ZY (by omega),ZY (by omega)]
theorem RO (n:Int) (hn:1<=n/\n<=1000000):MU Tryz.prog 158 [.aZ,.I n] [] (.vec 0 2 (fun _=>0) (fun _=>0)) [.aq 156 dz fun _=>List.replicate n.toNat (0,0)]:=by
 have e0:IntKind.i64.wrap (n - IntKind.i64.wrap (0 - 0))=n:=by
  rw[show IntKind.i64.wrap (0 - 0)=0 from wr (by omega),wr (by omega)];omega
 (refine aa.q Tryz.func158 rfl fun S aw=>Wb _ ?_;(repeat' first|exact tv|apply pr|intro hh));all_goals (try simp only[e0]at *)
 .exact absurd hh (by omega)
 .exact Ob.mk (by decide)
 .refine Ob.mk ?_
  have e:((Tryz.t156.bytes:Nat):Int)=16:=rfl;rw[e];omega
 .exact absurd hh (by omega)
 .exact absurd hh (by omega)
 .exact Ob.mk ⟨aad _,aad _,Int.natCast_nonneg _⟩
 .exact ae.z () [0]
 .exact absurd hh (by omega)
theorem Kk (ls:List (List bc)) (hn:1<=ls.flatten.length/\ls.flatten.length<=1000000) (hls:ls.length<=1000):MU Tryz.prog 100 [.aL (.list dz) fun _=>ls] [] (.vec 0 2 (fun _=>0) (fun _=>ls.flatten.length)) [.aq 156 dz fun _=>ls.flatten]:=by
 (refine aa.q Tryz.func100 rfl fun S aw=>Wb _ ?_;(repeat' first|exact tv|apply pr|intro hh));have cu:∀ i,(ls.take i).flatten.length<=ls.flatten.length:=fun i=>by
  conv=>rhs;rw[<-acg i ls]
  rw[List.flatten_append,aab];omega
 have fR:∀ i,i<ls.length->(ls.take (i+1)).flatten=(ls.take i).flatten++ls.getD i []:=fun i hi=>by
  rw[aaE,Z1 hi,List.flatten_append];simp[ZZ,hi]
 refine aM.intro hm (X:=Nat) (fun i=>i<=ls.length) (fun i=>ls.length - i)
  (fun i=>[(11,.I (i:Int)),(10,.I (ls.length:Int)),(9,.aL (.list dz) fun _=>ls),(3,.I ((ls.take i).flatten.length:Int)),(0,.aL (.list dz) fun _=>ls),(2,.aZ)])
  (fun i=>[]) 0 [] ⟨rfl,rfl,?_,?_⟩ (aae _) (fun i hi=>?_)
 .exact Vc
 .exact Vc
 .have h1:=cu (i+1)
  have fR:=fR i;have qg:ls.getD (i:Int).toNat (Ty.list dz).bA=ls.getD i []:=rfl;(refine Wb _ ?_;(repeat' first|exact tv|apply pr|intro hh));all_goals (try simp only[qg]at *)
  ·(refine Ob.mk ?_;(try simp only[Ty.bA,aaf,aa6,Z4,acs,acz,aak,aar,aab,aaz,Z9,aay,aao,aba,true_and,and_true]);omega)
  .rw[fR (by omega),aab]at h1
   rw[wr (by omega)]at hh;exact absurd hh (by omega)
  .have r8:i<ls.length:=by omega
   refine⟨i+1,[],⟨rfl,rfl,?_,?_⟩,r8,by omega⟩
   .exact Vc
   .rw[fR r8,aab]at h1
    refine Vb _ ?_;repeat' first|exact tv|apply pr
    .exact RR i r8 (by omega)
    .rw[fR r8,aab,wr (by omega)];omega
  .have e:i=ls.length:=by omega
   subst e;rw[aac];(refine ab.q (RO ls.flatten.length (by omega)) [] fun _ _=>Wp _ ?_;(repeat' first|exact tv|apply pr|intro hh));clear hi h1 fR hh;refine aM.intro hm (X:=Nat×List bc) (fun x=>x.1<=ls.length/\(0<x.1->x.2=(ls.take x.1).flatten)) (fun x=>ls.length - x.1)
    (fun x=>[(27,.I (x.1:Int)),(26,.I (ls.length:Int)),(25,.aL (.list dz) fun _=>ls),(6,.vec 0 2 (fun _=>0) fun _=>(ls.take x.1).flatten.length)])
    (fun x=>[.aq 156 dz fun _=>x.2]) (0,List.replicate ls.flatten.length (0,0)) [0] ⟨rfl,rfl,?_,?_⟩ ⟨aae _,fun h=>by simp at h⟩ (fun x hx=>?_)
   .exact Vc
   .exact Vc
   .obtain⟨i,xs⟩:=x
    obtain⟨hi,hxs⟩:=hx;simp only[]at hi hxs;have h1:=cu (i+1);have fR:=‹∀ i,i<ls.length->_› i;have qg:ls.getD (i:Int).toNat (Ty.list dz).bA=ls.getD i []:=rfl;(refine Wb _ ?_;(repeat' first|exact tv|apply pr|intro hh));all_goals (try simp only[qg]at *)
    ·(refine Ob.mk ?_;(try simp only[Ty.bA,aaf,aa6,Z4,acs,acz,aak,aar,aab,aaz,Z9,aay,aao,aba,true_and,and_true]);omega)
    .refine Ob.mk ?_
     have e:(Tryz.t156.bytes:Nat)=16:=rfl;rw[fR (by omega),aab]at h1;rw[e];exact⟨trivial,by omega,by omega⟩
    .have r8:i<ls.length:=by omega
     have Uv:xs.take (ls.take i).flatten.length++ls.getD i []=(ls.take (i+1)).flatten:=by
      rw[fR r8];by_cases h0:0<i
      .rw[hxs h0,aac]
      .have e:i=0:=by omega
       subst e;simp
     refine⟨(i+1,xs.take (ls.take i).flatten.length++ls.getD i []),[0],⟨rfl,rfl,?_,?_⟩,⟨r8,fun _=>Uv⟩,by simp only[];omega⟩
     .exact Vc
     .refine Vb _ ?_;repeat' first|exact tv|apply pr
      .exact RR i r8 (by omega)
      .rw[fR r8,aab]
    .have e:i=ls.length:=by omega
     have h0:0<i:=by
      rcases acA i with h0|h0
      .exfalso
       have:ls=[]:=aaY (by omega);rw[this]at hn;simp at hn
      .exact h0
     have hxs:=hxs h0;refine ae.w () [0] _ ?_;repeat' first|exact tv|apply pr
     .rw[hxs,e,aac]
     .rw[e,aac]
end Go.Proofs.YthnefnlhcijekaaGreat.Hi
namespace Go.Proofs.YthnefnlhcijekaaGreat.En
open Go Go.RowKit Fw Hi Ce
theorem aeK (xs:List bM) (i:Nat) (hi:i<xs.length):MU Tryz.prog 149 [.bg 0 6 (fun _=>i) 0] [.row CW c7 fun _=>xs] (.bQ []) [.row CW c7 fun _=>xs.set i (false,(0,0,0,0),(xs.getD i (false,(0,0,0,0),0)).2.2)]:=by
 (refine aa.q Tryz.func149 rfl fun S aw=>Wa _ ?_;(repeat' first|exact tv|apply pr|intro hh));all_goals refine ae.w () [0] _ ?_;repeat' first|exact tv|apply pr
 all_goals simp[hi,List.set_set,ZZ,Ty.bA]
def adg (bk:List bM) (id:Int):List bM×Int :=
 if(nj bk id).2.2=0 then(bk.set id.toNat (false,(0,0,0,0),(aX bk id).2.2),0)else(bk,(nj bk id).2.2)
theorem adP (bk:List bM) (id:Int) (hi:0<=id/\id<bk.length) (hl:bk.length<=1000):MU Tryz.prog 109 [.aL c7 fun _=>bk,.I id,.fn (.func 149) [] []] [] (.aL c7 fun _=>bk.set id.toNat (false,(0,0,0,0),(aX bk id).2.2)) []:=by
 (refine aa.q Tryz.func109 rfl fun S aw=>Wa _ ?_;(repeat' first|exact tv|apply pr|intro hh));refine ab.q (Kv bk (by omega)) [] fun _ _=>Wp _ ?_;repeat' first|exact tv|apply pr|intro hh
 .exact Ob.mk (by simp only[];omega)
 (refine ab.q (aeK bk id.toNat (by omega)) [0] fun _ _=>Wp _ ?_;(repeat' first|exact tv|apply pr|intro hh));refine ae.jo 0 rfl ?_;(conv=>whnf);(refine ae.gU 0 ?_;(conv=>whnf));(refine ae.w () [] _ ?_;(repeat' first|exact tv|apply pr));rw[aah,Z6 (by simp)];rfl
theorem aeL (bk:List bM) (h:ni bk) (id:Int):MU Tryz.prog 92 [.aL c7 fun _=>bk,.I id] [] (.bQ [.aL c7 fun _=>(adg bk id).1,.I ((adg bk id).2)]) []:=by
 have hl:=h.len;(refine aa.q Tryz.func92 rfl fun S aw=>Wa _ ?_;(repeat' first|exact tv|apply pr|intro hh));refine ab.q (CY bk h id) [] fun _ _=>Wp _ ?_;repeat' first|exact tv|apply pr|intro hh
 .have e:adg bk id=(bk,(nj bk id).2.2):=by unfold adg;rw[ZY hh]
  rw[e];exact ae.z () []
 .have hi:0<=id/\id<8:=aaG fun hn=>by unfold nj at hh;rw[ZY hn]at hh;cases hh
  have e:adg bk id=(bk.set id.toNat (false,(0,0,0,0),(aX bk id).2.2),0):=by unfold adg;rw[Z0 hh]
  rw[e];(refine ab.q (adP bk id (by omega) (by omega)) [] fun _ _=>Wp _ ?_;(repeat' first|exact tv|apply pr|intro hh));exact ae.z () []
def adk (L:Hs) (nm:Nm):Hs:=match L with
 | []=>[]
 | x::r=>if kQ x.1 nm then x::adk r nm else if x.1=nm then r else x::r
theorem adu (L:Hs) (nm:Nm):(adk L nm).Sublist L:=by
 induction L with
 | nil=>exact .slnil
 | cons x r ih =>
  rw[adk];split
  .exact ih.cons_cons _
  .split
   .exact List.sublist_cons_self ..
   .exact List.Sublist.refl _
theorem ado {nm m:Nm}:∀ {L:Hs},RY L->aY (adk L nm) m=if m=nm then[]else aY L m
 | [],_=>by rw[adk];split <;> rfl
 | x::r,hs=>by
  have rG:=abx.1 hs;rw[adk];by_cases h1:kQ x.1 nm
  .rw[Z0 h1,aY,ado rG.2,aY]
   by_cases h:m=nm
   .subst h;rw[Z0 h1,Z0 rfl,Z0 rfl]
   .rw[ZY h,ZY h]
  .rw[ZY h1]
   by_cases h2:x.1=nm
   .rw[Z0 h2]
    subst h2;by_cases h:m=x.1
    .subst h;rw[Z0 rfl];exact ub fun y hy=>rG.1 y hy
    .rw[ZY h,aY]
     by_cases h3:kQ x.1 m
     .rw[Z0 h3]
     .rw[ZY h3,ZY (fun e=>h e.symm)]
      have hm:kQ m x.1:=acV fun h4=>h (jA h4 h3);exact ub fun y hy=>gj hm (rG.1 y hy)
   .rw[ZY h2]
    have hx:kQ nm x.1:=acV fun h4=>h2 (jA h1 h4);by_cases h:m=nm
    .subst h;rw[Z0 rfl]
     refine ub fun y hy=>?_;rcases aaj.1 hy with e|hy
     .rw[e];exact hx
     .exact gj hx (rG.1 y hy)
    .rw[ZY h]
theorem Rel.forget {a:Ab} {K:Kt} {N:Nat} (R:Rel a K N) (I:Inv a) {nm:Nm} (cy:∀ h e,a.cp h=some e->e.nm≠nm):Rel a { K with L:=adk K.L nm } N:=by
 have hw:=R.zT.ord;refine⟨R.n,R.now,R.bk,⟨hw.sublist (adu ..),fun x hx=>R.zT.nm x ((adu _ _).subset hx)⟩,fun h e p he hc=>?_,fun m p v hm hc hn=>?_⟩
 .show ct p e.c (aY (adk K.L nm) e.nm) a.now N
  rw[ado hw,ZY (cy h e he)];exact R.tell h e p he hc
 .show ct p _ (aY (adk K.L nm) m) a.now N
  rw[ado hw];by_cases e:m=nm
  .rw[Z0 e]
   have hp:=(KB I.bk hc).1;have hn:=I.now;refine ct.zero ((KA hp).later hn.1 hn.2) ?_ (aae _);unfold counts;split <;> rfl
  .rw[ZY e];exact R.rQ m p v hm hc hn
theorem Rel.aec {a:Ab} {K:Kt} {N:Nat} (R:Rel a K N) (I:Inv a) {h:Int} {e:E1} (he:a.cp h=some e):Rel (jz a h) { K with L:=adk K.L e.nm } N:=by
 have hw:=R.zT.ord;refine⟨R.n,R.now,R.bk,⟨hw.sublist (adu ..),fun x hx=>R.zT.nm x ((adu _ _).subset hx)⟩,fun j e2 p he2 hc=>?_,fun m p v hm hc hn=>?_⟩
 .obtain⟨h1,h2⟩:=fK he2
  show ct p e2.c (aY (adk K.L e.nm) e2.nm) a.now N;rw[ado hw,ZY (fun e3=>h1 (I.E6 j h e2 e h2 he e3))];exact R.tell j e2 p h2 hc
 .show ct p _ (aY (adk K.L e.nm) m) a.now N
  rw[ado hw];by_cases e3:m=e.nm
  .rw[Z0 e3]
   have hp:=(KB I.bk hc).1;have hn:=I.now;refine ct.zero ((KA hp).later hn.1 hn.2) ?_ (aae _);unfold counts;split <;> rfl
  .rw[ZY e3]
   refine R.rQ m p v hm hc fun j e2 h1 h2=>hn j e2 ?_ h2;show fO a.cp h none j=_;rw[dK _ _ fun e4=>by subst e4;rw[he]at h1;cases h1;exact e3 h2.symm];exact h1
def om (K:Kt) (nm:Nm):Kt×Int:=if fy nm=true then(match cC K.bk nm.1 with|none=>(K,5)|some _=>({ K with L:=adk K.L nm },0))else(K,1)
section
variable {a:Ab} {K:Kt} {N:Nat} {nm:Nm} {p:ay} {v:Int}
end
end Go.Proofs.YthnefnlhcijekaaGreat.En
set_option maxRecDepth 8000
namespace Go.Proofs.YthnefnlhcijekaaGreat.En
open Go Go.RowKit Fw Hi Ce Bt Eb
open Wh (aR de dS cP cQ)
theorem aeM (x:Es) (ok:kR x) {K:Kt} {N:Nat} (R:Rel x.a K N) (hN:N<=999999) (nm:Nm) (w:Int):MU Tryz.prog 34 [.ptr 0 0,vR nm w] (iy x) (Ih (gB K nm w).2.1) (iy x):=by
 cases KM:(fy nm && aU w)with
 | false =>
  rw[(Ig KM).1];(refine aa.q Tryz.func34 rfl fun S aw=>Wa _ ?_;(repeat' first|exact tv|apply pr|intro hh));(refine ab.q (KK x nm w KM) [0,1,2,3,4,5,6] fun _ _=>Wp _ ?_;(repeat' first|exact tv|apply pr|intro hh));exact ae.z () [0,1,2,3,4,5,6]
 | true =>
  rw[aai]at KM;obtain⟨hn,hw⟩:=KM;cases hb:cC x.a.bk nm.1 with
  | none =>
   rw[(EG hn hw (by rw[R.bk];exact hb)).1];(refine aa.q Tryz.func34 rfl fun S aw=>Wa _ ?_;(repeat' first|exact tv|apply pr|intro hh));(refine ab.q (Ii x ok nm w hn hw hb) [0,1,2,3,4,5,6] fun _ _=>Wp _ ?_;(repeat' first|exact tv|apply pr|intro hh));exact ae.z () [0,1,2,3,4,5,6]
  | some pv =>
   obtain⟨p,v⟩:=pv;rw[look_ok hn hw (by rw[R.bk];exact hb),R.now];by_cases hex:∃ h e,Has x.a nm h e
   .obtain⟨h,e,H⟩:=hex
    have T:=(EF R ok.inv hn hb H).ask hw hN;have hl:=KL x ok nm w hn hw hb H;rw[T.1]at hl;(refine aa.q Tryz.func34 rfl fun S aw=>Wa _ ?_;(repeat' first|exact tv|apply pr|intro hh));(refine ab.q hl [0,1,2,3,4,5,6] fun _ _=>Wp _ ?_;(repeat' first|exact tv|apply pr|intro hh));exact ae.z () [0,1,2,3,4,5,6]
   .have cy:∀ h e,x.a.cp h=some e->e.nm≠nm:=fun h e h1 h2=>hex ⟨h,e,h1,h2⟩
    have T:=(zD R hn hb cy).ask hw hN;have hl:=OB x ok nm w hn hw hb cy;rw[T.1]at hl;(refine aa.q Tryz.func34 rfl fun S aw=>Wa _ ?_;(repeat' first|exact tv|apply pr|intro hh));(refine ab.q hl [0,1,2,3,4,5,6] fun _ _=>Wp _ ?_;(repeat' first|exact tv|apply pr|intro hh));exact ae.z () [0,1,2,3,4,5,6]
end Go.Proofs.YthnefnlhcijekaaGreat.En
set_option maxRecDepth 8000
namespace Go.Proofs.YthnefnlhcijekaaGreat.En
open Go Go.RowKit Fw Hi Ce Bt Eb
open Wh (aR de dS cP cQ)
theorem aed (x:Es) (ok:kR x) {K:Kt} {N:Nat} (R:Rel x.a K N) (R4:x.G<900000000) (nm:Nm):aa Tryz.prog 37 [.ptr 0 0,zB nm] (iy x) (Y:=Es) (uq x (om K nm).1 N)
  (fun _=>.int .i64 fun _=>(om K nm).2) iy:=by
 have q9:uq x K N x:=⟨ok,R,by omega,rfl⟩
 have uA:=C2 nm;cases hn:fy nm with
 | false =>
  rw[hn]at uA;have e:om K nm=(K,1):=by unfold om;rw[hn];rfl
  rw[e];(refine aa.q Tryz.func37 rfl fun S aw=>Wa _ ?_;(repeat' first|exact tv|apply pr|intro hh));(refine ab.q uA [] fun _ _=>Wp _ ?_;(repeat' first|exact tv|apply pr|intro hh));all_goals refine ae.w x [0,1,2,3,4,5,6] _ ?_;repeat' first|exact tv|apply pr
  all_goals exact q9
 | true =>
  rw[hn]at uA;have hid:=rA hn;have pF:=sj hn;have u7:nm.2.length<=1000:=by have:=pF.2;unfold fb at this;rw[Z9]at this;omega
  have cL:=CY x.a.bk ok.inv.bk nm.1;have mZ:=LN (sd:=x.ao) (M:=um x.a) (c:=x.a.ord.length) (fb nm) (by omega);cases hb:cC x.a.bk nm.1 with
  | none =>
   have e:om K nm=(K,5):=by unfold om;rw[hn,R.bk,hb];rfl
   rw[e];rw[get_none hb,Z0 hid]at cL;(refine aa.q Tryz.func37 rfl fun S aw=>Wa _ ?_;(repeat' first|exact tv|apply pr|intro hh));(refine ab.q uA [] fun _ _=>Wp _ ?_;(repeat' first|exact tv|apply pr|intro hh));all_goals refine ab.q cL [] fun _ _=>Wp _ ?_;repeat' first|exact tv|apply pr|intro hh
   all_goals refine ae.w x [0,1,2,3,4,5,6] _ ?_;repeat' first|exact tv|apply pr
   all_goals exact q9
  | some pv =>
   obtain⟨p,v⟩:=pv;have e:om K nm=({ K with L:=adk K.L nm },0):=by unfold om;rw[hn,R.bk,hb];rfl
   rw[e];rw[si hb]at cL;by_cases hex:∃ h e,Has x.a nm h e
   .obtain⟨h,e,H⟩:=hex
    have dJ:h∈x.a.ord:=(ok.inv.mem h).2 (by rw[H.cp];rfl);rw[(kS ok.inv _ h).2 ⟨e,H.cp,by rw[H.nm]⟩]at mZ;(refine aa.q Tryz.func37 rfl fun S aw=>Wa _ ?_;(repeat' first|exact tv|apply pr|intro hh));(refine ab.q uA [] fun _ _=>Wp _ ?_;(repeat' first|exact tv|apply pr|intro hh));all_goals refine ab.q cL [] fun _ _=>Wp _ ?_;repeat' first|exact tv|apply pr|intro hh
    all_goals refine ab.q (KD nm hid u7) [] fun _ _=>Wp _ ?_;repeat' first|exact tv|apply pr|intro hh
    all_goals refine ab.q mZ [2] fun _ _=>Wp _ ?_;repeat' first|exact tv|apply pr|intro hh
    all_goals first|(exact absurd ‹(some h).isSome=false› (by simp))|skip
    all_goals refine ab.q (nD x ok h dJ) [0,1,2,3,4,5,6] fun _ _=>Wp _ ?_;repeat' first|exact tv|apply pr|intro hh
    all_goals refine ae.w (eu x h) [0,1,2,3,4,5,6] _ ?_;repeat' first|exact tv|apply pr
    all_goals (have hf:=R.aec ok.inv H.cp;rw[H.nm]at hf;exact⟨ok.drop dJ R4,hf,Z8 _,rfl⟩)
   .have cy:∀ h e,x.a.cp h=some e->e.nm≠nm:=fun h e h1 h2=>hex ⟨h,e,h1,h2⟩
    have Y9:um x.a (fb nm)=none:=by
     cases Fx:um x.a (fb nm)with
     | none=>rfl
     | some j =>
      obtain⟨e,h1,h2⟩:=(kS ok.inv _ j).1 Fx;exact(cy j e h1 (key_inj (ok.inv.ok j e h1).1 hn h2)).elim
    rw[Y9]at mZ;(refine aa.q Tryz.func37 rfl fun S aw=>Wa _ ?_;(repeat' first|exact tv|apply pr|intro hh));(refine ab.q uA [] fun _ _=>Wp _ ?_;(repeat' first|exact tv|apply pr|intro hh));all_goals refine ab.q cL [] fun _ _=>Wp _ ?_;repeat' first|exact tv|apply pr|intro hh
    all_goals refine ab.q (KD nm hid u7) [] fun _ _=>Wp _ ?_;repeat' first|exact tv|apply pr|intro hh
    all_goals refine ab.q mZ [2] fun _ _=>Wp _ ?_;repeat' first|exact tv|apply pr|intro hh
    all_goals first|(exact absurd ‹(none:Option Int).isSome=true› (by simp))|skip
    all_goals refine ae.w x [0,1,2,3,4,5,6] _ ?_;repeat' first|exact tv|apply pr
    all_goals exact⟨ok,R.forget ok.inv cy,by omega,rfl⟩
theorem aev (x:Es) (ok:kR x):MU Tryz.prog 35 [.ptr 0 0] (iy x) (.I (x.a.ord.length:Int)) (iy x):=by
 have D8:=oD ok.inv;have hn:=ok.inv.n;(refine aa.q Tryz.func35 rfl fun S aw=>Wa _ ?_;(repeat' first|exact tv|apply pr|intro hh));(refine ab.q AU [1] fun _ _=>Wp _ ?_;(repeat' first|exact tv|apply pr|intro hh));(refine ae.w () [0,1,2,3,4,5,6] _ ?_;(repeat' first|exact tv|apply pr));rw[wr (by omega)];omega
theorem aee (x:Es) (ok:kR x) (id:Int):MU Tryz.prog 41 [.ptr 0 0,.I id] (iy x) (.bQ [aI (nj x.a.bk id).1,.I ((nj x.a.bk id).2.1),.I ((nj x.a.bk id).2.2)]) (iy x):=by
 (refine aa.q Tryz.func41 rfl fun S aw=>Wa _ ?_;(repeat' first|exact tv|apply pr|intro hh));(refine ab.q (CY x.a.bk ok.inv.bk id) [] fun _ _=>Wp _ ?_;(repeat' first|exact tv|apply pr|intro hh));exact ae.z () [0,1,2,3,4,5,6]
def adh (K:Kt) (id:Int):Kt×Int:=if(adg K.bk id).2=0 then({ K with bk:=(adg K.bk id).1,L:=Ky K.L id },0)else(K,(adg K.bk id).2)
theorem adG {bk:List bM} (h:ni bk) {id:Int} (he:(adg bk id).2=0):xt bk (adg bk id).1 id:=by
 have hg:(nj bk id).2.2=0:=by
  unfold adg at he;split at he
  .assumption
  .exact he
 have hi:0<=id/\id<8:=aaG fun hn=>by unfold nj at hg;rw[ZY hn]at hg;cases hg
 unfold adg;rw[Z0 hg];have hb:=H2 h hi;refine KN h hi ?_ (by simp only[];omega) (.inl rfl);rw[oz,ZY (by omega),ZY (by simp)];rfl
theorem aef (x:Es) (ok:kR x) {K:Kt} {N:Nat} (R:Rel x.a K N) (id:Int):aa Tryz.prog 43 [.ptr 0 0,.I id] (iy x) (Y:=Es) (uq x (adh K id).1 N)
  (fun _=>.int .i64 fun _=>(adh K id).2) iy:=by
 have D8:=oD ok.inv;have Hv:=ok.inv.n;have fR:=aeL x.a.bk ok.inv.bk id;by_cases he:(adg x.a.bk id).2=0
 .have e:adh K id=({ K with bk:=(adg K.bk id).1,L:=Ky K.L id },0):=by unfold adh;rw[R.bk,Z0 he]
  rw[e,R.bk];(refine aa.q Tryz.func43 rfl fun S aw=>Wa _ ?_;(repeat' first|exact tv|apply pr|intro hh));(refine ab.q fR [] fun _ _=>Wp _ ?_;(repeat' first|exact tv|apply pr|intro hh));all_goals first|(exact absurd he ‹_›)|skip
  all_goals refine ab.q (OE (xy x (adg x.a.bk id).1) (show ∀ h∈x.a.ord,∃ v,aP x.es h=some v from OG ok) (fun h hh=>(ok.inv.pos h hh).1) (show x.a.ord.length<=64 by omega) ok.inv.kP ok.inv.jy id) [0,1,2,3,4,5,6] ?_;rintro l hq;refine Wp _ ?_;repeat' first|exact tv|apply pr|intro hh
  all_goals refine ae.w (mo (xy x (adg x.a.bk id).1) l) [0,1,2,3,4,5,6] _ ?_;repeat' first|exact tv|apply pr
  all_goals exact Bn ok R (adG ok.inv.bk he) hq
 .have e:adh K id=(K,(adg K.bk id).2):=by unfold adh;rw[R.bk,ZY he]
  rw[e,R.bk];(refine aa.q Tryz.func43 rfl fun S aw=>Wa _ ?_;(repeat' first|exact tv|apply pr|intro hh));(refine ab.q fR [] fun _ _=>Wp _ ?_;(repeat' first|exact tv|apply pr|intro hh));all_goals first|(exact absurd ‹_› he)|skip
  all_goals refine ae.w x [0,1,2,3,4,5,6] _ ?_;repeat' first|exact tv|apply pr
  all_goals exact⟨ok,R,by omega,rfl⟩
end Go.Proofs.YthnefnlhcijekaaGreat.En
set_option maxRecDepth 8000
namespace Go.Proofs.YthnefnlhcijekaaGreat.En
open Go Go.RowKit Fw Hi Ce Bt Eb
section
variable {K:Kt} {m m' c:Nat}
theorem aeo (nm:Nm) (w:Int) (h1:m<=999990):MU Tryz.prog 34 [.ptr 0 0,vR nm w] [.bq (nn K m c)] (Ih (gB K nm w).2.1) [.bq (nn K m c)]:=by
 refine aa.boxed ⟨_,Tryz.func34,rfl,by decide⟩ (fun x p=>?_) rfl (fun _ _=>rfl) (fun _ _=>rfl);exact(aeM x p.ok p.rel (by omega) nm w).as fun _ _=>⟨((),x),⟨trivial,p⟩,rfl,rfl⟩
theorem ady (nm:Nm) (h1:m<=999990) (h2:m+1<=m'):aa Tryz.prog 37 [.ptr 0 0,zB nm] [.bq (nn K m c)] (Y:=Nat) (OM (om K nm).1)
  (fun _=>.int .i64 fun _=>(om K nm).2) (fun c'=>[.bq (nn (om K nm).1 m' c')]):=by
 refine aa.boxed ⟨_,Tryz.func37,rfl,by decide⟩ (fun x p=>?_) rfl (fun _ _=>rfl) (fun _ _=>rfl);exact(aed x p.ok p.rel (by have:=p.G;omega) nm).as fun y h=>⟨(y.a.ord.length,y),⟨(h.p p.G h2 (by omega)).bF,h.p p.G h2 (by omega)⟩,rfl,rfl⟩
theorem aeg (id:Int) (h2:m+1<=m'):aa Tryz.prog 43 [.ptr 0 0,.I id] [.bq (nn K m c)] (Y:=Nat) (OM (adh K id).1)
  (fun _=>.int .i64 fun _=>(adh K id).2) (fun c'=>[.bq (nn (adh K id).1 m' c')]):=by
 refine aa.boxed ⟨_,Tryz.func43,rfl,by decide⟩ (fun x p=>?_) rfl (fun _ _=>rfl) (fun _ _=>rfl);exact(aef x p.ok p.rel id).as fun y h=>⟨(y.a.ord.length,y),⟨(h.p p.G h2 (by omega)).bF,h.p p.G h2 (by omega)⟩,rfl,rfl⟩
theorem aeh (id:Int):MU Tryz.prog 41 [.ptr 0 0,.I id] [.bq (nn K m c)] (.bQ [aI (nj K.bk id).1,.I ((nj K.bk id).2.1),.I ((nj K.bk id).2.2)]) [.bq (nn K m c)]:=by
 refine aa.boxed ⟨_,Tryz.func41,rfl,by decide⟩ (fun x p=>?_) rfl (fun _ _=>rfl) (fun _ _=>rfl);exact(aee x p.ok id).as fun _ _=>⟨((),x),⟨trivial,p⟩,by rw[p.rel.bk],rfl⟩
theorem adK:aa Tryz.prog 35 [.ptr 0 0] [.bq (nn K m c)] (Y:=Unit) (fun _=>OM K c)
  (fun _=>.int .i64 fun _=>(c:Int)) (fun _=>[.bq (nn K m c)]):=by
 refine aa.boxed ⟨_,Tryz.func35,rfl,by decide⟩ (fun x p=>?_) rfl (fun _ _=>rfl) (fun _ _=>rfl);exact(aev x p.ok).as fun _ _=>⟨((),x),⟨p.bF,p⟩,by rw[p.len],rfl⟩
end
end Go.Proofs.YthnefnlhcijekaaGreat.En
set_option maxRecDepth 8000
namespace Go.Proofs.YthnefnlhcijekaaGreat.En
open Go Go.RowKit Fw Hi Ce
section
variable {K:Kt} {m m':Nat}
theorem adH:∀ (L:Hs) (nm:Nm),(adk L nm).Sublist L
 | [],_=>List.Sublist.refl _
 | x::r,nm=>by
  unfold adk;split
  .exact(adH r nm).cons_cons x
  .split
   .exact List.sublist_cons_self ..
   .exact List.Sublist.refl _
theorem Small.forget (s:Small K m) (nm:Nm):Small (om K nm).1 m:=by
 unfold om;split
 .cases cC K.bk nm.1 with
  | none=>exact s
  | some _=>exact s.sub (adH _ _)
 .exact s
theorem Small.del (s:Small K m) (id:Int):Small (adh K id).1 m:=by
 unfold adh;split
 .rename_i h
  have h2:=s.sub (L:=Ky K.L id) (acy ..);exact⟨(adG s.bk h).ok,h2.n,h2.now,h2.len,h2.fM⟩
 .exact s
theorem aeN (s:Small K m):mq K 0=K:=by unfold mq;rw[ZY];have:=s.now;omega
end
abbrev OpT:Ty:=.pair (.int .i64) (.pair Zj (.pair (.int .i64) UI))
abbrev ZW:=Int×(Int×List UInt8×Int)×Int×ay
def aeO (o:ZW):AV:=.agg [.I o.1,.I o.2.1.1,.str fun _=>o.2.1.2.1,.I o.2.1.2.2,.I o.2.2.1,.I o.2.2.2.1,.I o.2.2.2.2.1,.I o.2.2.2.2.2.1,.I o.2.2.2.2.2.2]
def oNm (o:ZW):Nm:=(o.2.1.1,o.2.1.2.1)
def oW (o:ZW):Int:=o.2.1.2.2
def adf (K:Kt) (o:ZW):Kt×L1×Int :=
 if o.1=0 then((dV K (oNm o) (oW o)).1,(dV K (oNm o) (oW o)).2,0)
 else if o.1=1 then(K,(gB K (oNm o) (oW o)).2.1,0)
 else if o.1=2 then(mq K o.2.2.1,(0,zeroV),(mq K o.2.2.1).now)
 else if o.1=3 then(if o.2.2.1<0\/1099511627776<o.2.2.1 then(K,(0,zeroV),0)else(mq K (K.now+o.2.2.1),(0,zeroV),(mq K (K.now+o.2.2.1)).now))
 else if o.1=4 then((qQ K o.2.1.1 o.2.2.2).1,((qQ K o.2.1.1 o.2.2.2).2.2,zeroV),(qQ K o.2.1.1 o.2.2.2).2.1)
 else if o.1=5 then((adh K o.2.1.1).1,((adh K o.2.1.1).2,zeroV),0)
 else if o.1=6 then((om K (oNm o)).1,((om K (oNm o)).2,zeroV),0)
 else(K,(0,zeroV),0)
theorem Small.say {K:Kt} {m:Nat} (s:Small K m) (o:ZW):Small (adf K o).1 (m+1):=by
 unfold adf;split
 .exact s.check _ _
 split
 .exact s.up (by omega)
 split
 .exact(s.tick _).up (by omega)
 split
 .split
  .exact s.up (by omega)
  .exact(s.tick _).up (by omega)
 split
 .exact(s.set _ _).up (by omega)
 split
 .exact(s.del _).up (by omega)
 split
 .exact(s.forget _).up (by omega)
 .exact s.up (by omega)
theorem aep (nm:Nm) (w:Int):MU Tryz.prog 33 [vR nm w] [] (zB nm) []:=by
 (refine aa.q Tryz.func33 rfl fun S aw=>Wa _ ?_;(repeat' first|exact tv|apply pr|intro hh));all_goals exact ae.z () []
def adT (r:L1×Int):AV:=.bQ [Ih r.1,.I r.2]
set_option maxHeartbeats 1000000 in
theorem aeP {K:Kt} {ms m m' c:Nat} (s:Small K ms) (o:ZW) (hN:-9223372036854775808<=o.2.2.1/\o.2.2.1<=9223372036854775807) (h1:m<=999980) (h2:m+2<=m'):aa Tryz.prog 32 [.ptr 0 0,aeO o] [.bq (nn K m c)] (Y:=Nat) (fun _=>True)
  (fun _=>adT (adf K o).2) (fun c'=>[.bq (nn (adf K o).1 m' c')]):=by
 have Zb:=s.now;have Pe:ke=1099511627776:=rfl;have e0:=aeN s;refine aa.q Tryz.func32 rfl fun S aw=>Wa _ ?_;repeat' first|exact tv|apply pr|intro hh
 .have e:adf K o=((dV K (oNm o) (oW o)).1,(dV K (oNm o) (oW o)).2,0):=by unfold adf;rw[Z0 hh]
  rw[e];(refine ab.q (Vo (oNm o) (oW o) (by omega) (show m+1<=m' by omega)) [0] ?_;rintro c' _;refine Wp _ ?_;(repeat' first|exact tv|apply pr|intro hh));exact ae.z c' [0]
 .have e:adf K o=(K,(gB K (oNm o) (oW o)).2.1,0):=by unfold adf;rw[ZY (by omega),Z0 hh]
  rw[e];(refine ab.q (aeo (K:=K) (m:=m) (c:=c) (oNm o) (oW o) (by omega)) [0] fun _ _=>Wp _ ?_;(repeat' first|exact tv|apply pr|intro hh));refine ae.bq 0 (nn K m c) (nn K m' c) rfl (Vq (by omega)) ?_;exact ae.z c [0]
 .have e:adf K o=(mq K o.2.2.1,(0,zeroV),(mq K o.2.2.1).now):=by unfold adf;rw[ZY (by omega),ZY (by omega),Z0 hh]
  rw[e];(refine ab.q (W0 o.2.2.1 (show m+1<=m' by omega)) [0] ?_;rintro c' _;refine Wp _ ?_;(repeat' first|exact tv|apply pr|intro hh));exact ae.z c' [0]
 .have e:adf K o=(K,(0,zeroV),0):=by unfold adf;rw[ZY (by omega),ZY (by omega),ZY (by omega),Z0 (by assumption),Z0 (by omega)]
  rw[e];refine ae.bq 0 (nn K m c) (nn K m' c) rfl (Vq (by omega)) ?_;exact ae.z c [0]
 .have e:adf K o=(mq K (K.now+o.2.2.1),(0,zeroV),(mq K (K.now+o.2.2.1)).now):=by unfold adf;rw[ZY (by omega),ZY (by omega),ZY (by omega),Z0 (by assumption),ZY (by omega)]
  rw[e];have hg:=W0 (K:=K) (m:=m) (m':=m+1) (c:=c) 0 (Z8 _);rw[e0]at hg;(refine ab.q hg [0] ?_;rintro c' _;refine Wp _ ?_;(repeat' first|exact tv|apply pr|intro hh));have ew:IntKind.i64.wrap (K.now+o.2.2.1)=K.now+o.2.2.1:=wr (by omega);simp only[ew];(refine ab.q (W0 (K:=K) (m:=m+1) (m':=m') (c:=c') (K.now+o.2.2.1) (by omega)) [0] ?_;rintro c2 _;refine Wp _ ?_;(repeat' first|exact tv|apply pr|intro hh));exact ae.z c2 [0]
 .have e:adf K o=(K,(0,zeroV),0):=by unfold adf;rw[ZY (by omega),ZY (by omega),ZY (by omega),Z0 (by assumption),Z0 (by omega)]
  rw[e];refine ae.bq 0 (nn K m c) (nn K m' c) rfl (Vq (by omega)) ?_;exact ae.z c [0]
 .have e:adf K o=((qQ K o.2.1.1 o.2.2.2).1,((qQ K o.2.1.1 o.2.2.2).2.2,zeroV),(qQ K o.2.1.1 o.2.2.2).2.1):=by unfold adf;rw[ZY (by omega),ZY (by omega),ZY (by omega),ZY (by omega),Z0 hh]
  rw[e];(refine ab.q (Zh o.2.1.1 o.2.2.2 (show m+1<=m' by omega)) [0] ?_;rintro c' _;refine Wp _ ?_;(repeat' first|exact tv|apply pr|intro hh));exact ae.z c' [0]
 .have e:adf K o=((adh K o.2.1.1).1,((adh K o.2.1.1).2,zeroV),0):=by unfold adf;rw[ZY (by omega),ZY (by omega),ZY (by omega),ZY (by omega),ZY (by omega),Z0 hh]
  rw[e];(refine ab.q (aeg o.2.1.1 (show m+1<=m' by omega)) [0] ?_;rintro c' _;refine Wp _ ?_;(repeat' first|exact tv|apply pr|intro hh));exact ae.z c' [0]
 .have e:adf K o=((om K (oNm o)).1,((om K (oNm o)).2,zeroV),0):=by unfold adf;rw[ZY (by omega),ZY (by omega),ZY (by omega),ZY (by omega),ZY (by omega),ZY (by omega),Z0 hh]
  rw[e];(refine ab.q (aep (oNm o) (oW o)) [] fun _ _=>Wp _ ?_;(repeat' first|exact tv|apply pr|intro hh));(refine ab.q (ady (oNm o) (by omega) (show m+1<=m' by omega)) [0] ?_;rintro c' _;refine Wp _ ?_;(repeat' first|exact tv|apply pr|intro hh));exact ae.z c' [0]
 .have e:adf K o=(K,(0,zeroV),0):=by unfold adf;rw[ZY (by omega),ZY (by omega),ZY (by omega),ZY (by omega),ZY (by omega),ZY (by omega),ZY (by omega)]
  rw[e];(refine ab.q (W3 o.2.2.1 hN (by omega) (show m+1<=m' by omega)) [0] ?_;rintro y _;refine Wp _ ?_;(repeat' first|exact tv|apply pr|intro hh));exact ae.z y.1 [0]
 .have e:adf K o=(K,(0,zeroV),0):=by unfold adf;rw[ZY (by omega),ZY (by omega),ZY (by omega),ZY (by omega),ZY (by omega),ZY (by omega),ZY (by omega)]
  rw[e];refine ae.bq 0 (nn K m c) (nn K m' c) rfl (Vq (by omega)) ?_;exact ae.z c [0]
end Go.Proofs.YthnefnlhcijekaaGreat.En
set_option maxRecDepth 8000
namespace Go.Proofs.YthnefnlhcijekaaGreat.En
open Go Go.RowKit Fw Hi Ce
def lvP:ay:=(1,2,10,0)
def lvK (now:Int) (L:Hs):Kt:=⟨1,now,LV.set 0 (true,lvP,1),L⟩
def lvA:Hs:=[((0,[97]),[(100,2)])]
def lvB:Hs:=[((0,[97]),[(100,2)]),((0,[98]),[(110,1)])]
theorem lv1:dV (W6 1) (0,[97]) 1=(W6 1,(5,zeroV)):=by kernel_rfl
theorem lv2:qQ (W6 1) 0 lvP=(lvK 0 [],1,0):=by kernel_rfl
theorem lv3:mq (lvK 0 []) 100=lvK 100 []:=by kernel_rfl
theorem lv4:dV (lvK 100 []) (0,[97]) 2=(lvK 100 lvA,(0,true,0,0,10)):=by kernel_rfl
theorem lv5:dV (lvK 100 lvA) (0,[98]) 1=(lvK 100 lvA,(7,zeroV)):=by kernel_rfl
theorem lv6:(gB (lvK 100 lvA) (0,[98]) 1).2.1=(0,true,1,0,5):=by kernel_rfl
theorem lv7:eD (lvK 100 lvA)=[(0,[97])]:=by kernel_rfl
theorem lv8:mq (lvK 100 lvA) 50=lvK 100 lvA:=by kernel_rfl
theorem lv9:mq (lvK 100 lvA) 110=lvK 110 lvA:=by kernel_rfl
theorem ae1:dV (lvK 110 lvA) (0,[98]) 1=(lvK 110 lvB,(0,true,1,0,5)):=by kernel_rfl
theorem ae2:om (lvK 110 lvB) (0,[98])=(lvK 110 lvA,0):=by kernel_rfl
theorem ae3:om (lvK 110 lvA) (1,[98])=(lvK 110 lvA,5):=by kernel_rfl
theorem ae4:dV (lvK 110 lvA) (0,[]) 1=(lvK 110 lvA,(1,zeroV)):=by kernel_rfl
theorem aeQ:eD (lvK 110 lvA)=[]:=by kernel_rfl
set_option maxHeartbeats 1000000 in
theorem Qv:MU Tryz.prog 31 [] [] .tt []:=by
 have h1:=fun c=>Vo (K:=W6 1) (m:=0) (m':=1) (c:=c) (0,[97]) 1 (by omega) (by omega);have h2:=fun c=>Zh (K:=W6 1) (m:=1) (m':=2) (c:=c) 0 lvP (by omega);have h3:=fun c=>W0 (K:=lvK 0 []) (m:=2) (m':=3) (c:=c) 100 (by omega);have h4:=fun c=>Vo (K:=lvK 100 []) (m:=3) (m':=4) (c:=c) (0,[97]) 2 (by omega) (by omega);have h5:=fun c=>Vo (K:=lvK 100 lvA) (m:=4) (m':=5) (c:=c) (0,[98]) 1 (by omega) (by omega);have XH:=fun c=>Vo (K:=lvK 100 lvA) (m:=5) (m':=6) (c:=c) (0,[98]) 1 (by omega) (by omega);have h6:=fun c=>aeo (K:=lvK 100 lvA) (m:=5) (c:=c) (0,[98]) 1 (by omega);have h7:=fun c=>Vp (K:=lvK 100 lvA) (m:=5) (c:=c);have h8:=fun c=>W0 (K:=lvK 100 lvA) (m:=5) (m':=6) (c:=c) 50 (by omega);have h9:=fun c=>W0 (K:=lvK 100 lvA) (m:=6) (m':=7) (c:=c) 110 (by omega);have fu:=fun c=>Vo (K:=lvK 110 lvA) (m:=7) (m':=8) (c:=c) (0,[98]) 1 (by omega) (by omega);have xE:=fun c=>ady (K:=lvK 110 lvB) (m:=8) (m':=9) (c:=c) (0,[98]) (by omega) (by omega);have Qp:=fun c=>ady (K:=lvK 110 lvA) (m:=9) (m':=10) (c:=c) (1,[98]) (by omega) (by omega);have h13:=fun c=>Vo (K:=lvK 110 lvA) (m:=10) (m':=11) (c:=c) (0,[]) 1 (by omega) (by omega);have h15:=fun c=>Vp (K:=lvK 110 lvA) (m:=11) (c:=c);have h16:=fun c=>W3 (K:=lvK 110 lvA) (m:=11) (m':=12) (c:=c) 1000 (by omega) (by omega) (by omega);simp only[lv1]at h1;simp only[lv2]at h2;simp only[lv3]at h3;simp only[lv4]at h4;simp only[lv5]at h5 XH;simp only[lv6]at h6;simp only[lv7]at h7;simp only[lv8]at h8;simp only[lv9]at h9;simp only[ae1]at fu;simp only[ae2]at xE;simp only[ae3]at Qp;simp only[ae4]at h13;simp only[aeQ]at h15;(refine aa.q Tryz.func31 rfl fun S aw=>Wa _ ?_;(repeat' first|exact tv|apply pr|intro hh));(refine ab.q (Zi 1 0 (by omega)) [] fun _ _=>Wp _ ?_;(repeat' first|exact tv|apply pr|intro hh));(refine ab.q (S7 0 0 (by omega)) [] fun _ _=>Wp _ ?_;(repeat' first|exact tv|apply pr|intro hh));all_goals first|(exfalso;exact absurd rfl ‹_›)|skip
 (refine ab.q (h1 0) [1] ?_;rintro c1 _;refine Wp _ ?_;(repeat' first|exact tv|apply pr|intro hh));(refine ab.q (h2 c1) [1] ?_;rintro c2 _;refine Wp _ ?_;(repeat' first|exact tv|apply pr|intro hh));(refine ab.q (h3 c2) [1] ?_;rintro c3 _;refine Wp _ ?_;(repeat' first|exact tv|apply pr|intro hh));(refine ab.q (h4 c3) [1] ?_;rintro afy _;refine Wp _ ?_;(repeat' first|exact tv|apply pr|intro hh));(refine ab.q (h5 afy) [1] ?_;rintro afz _;refine Wp _ ?_;(repeat' first|exact tv|apply pr|intro hh));(refine ab.q (h6 afz) [1] fun _ _=>Wp _ ?_;(repeat' first|exact tv|apply pr|intro hh));(refine ab.q (h7 afz) [1] fun _ _=>Wp _ ?_;(repeat' first|exact tv|apply pr|intro hh));(refine ab.q (W4 (K:=lvK 100 lvA) (m:=5) (c:=afz)) [1] ?_;rintro d1 _;refine Wp _ ?_;(repeat' first|exact tv|apply pr|intro hh));(refine ab.q (h8 afz) [1] ?_;rintro afA _;refine Wp _ ?_;(repeat' first|exact tv|apply pr|intro hh));(refine ab.q (h9 afA) [1] ?_;rintro afB _;refine Wp _ ?_;(repeat' first|exact tv|apply pr|intro hh));(refine ab.q (fu afB) [1] ?_;rintro afC _;refine Wp _ ?_;(repeat' first|exact tv|apply pr|intro hh));(refine ab.q (xE afC) [1] ?_;rintro afD _;refine Wp _ ?_;(repeat' first|exact tv|apply pr|intro hh));(refine ab.q (Qp afD) [1] ?_;rintro c10 _;refine Wp _ ?_;(repeat' first|exact tv|apply pr|intro hh));(refine ab.q (h13 c10) [1] ?_;rintro c11 _;refine Wp _ ?_;(repeat' first|exact tv|apply pr|intro hh));(refine ab.q (XH d1) [6] ?_;rintro d2 _;refine Wp _ ?_;(repeat' first|exact tv|apply pr|intro hh));all_goals first|(exact absurd hh (by decide))|(exact absurd rfl hh)|skip
 (refine ab.q (h15 c11) [1] fun _ _=>Wp _ ?_;(repeat' first|exact tv|apply pr|intro hh));all_goals first|(exact absurd hh (by decide))|(exact absurd rfl hh)|skip
 (refine ab.q (h16 c11) [1] ?_;rintro y hy;refine Wp _ ?_;(repeat' first|exact tv|apply pr|intro hh));all_goals have Zo:y.1=0:=(hy.all (by omega)).trans (by rw[aeQ];rfl)
 all_goals have uE:=hy.lo
 all_goals try (exfalso;omega)
 (refine ab.q (adK (K:=lvK 110 lvA) (m:=12) (c:=y.1)) [1] fun _ _=>Wp _ ?_;(repeat' first|exact tv|apply pr|intro hh));(refine ae.w () [] _ ?_;(repeat' first|exact tv|apply pr));rw[Zo];rfl
def Zk (l:List ZW) (aF:Int):Prop:=(l.length:Int)<=aF/\∀ o∈l,o.2.1.2.1.length<=60
instance (l:List ZW) (aF:Int):Decidable (Zk l aF):=inferInstanceAs (Decidable (_/\_))
theorem ae5 (l:List ZW) (aF:Int) (dJ:aF<=1000):MU Tryz.prog 30 [.aL OpT fun _=>l,.I aF] [] (.bool fun _=>decide (Zk l aF)) []:=by
 by_cases h0:(l.length:Int)<=aF;rotate_left
 .rw[decide_eq_false fun h=>h0 h.1]
  (refine aa.q Tryz.func30 rfl fun S aw=>Wa _ ?_;(repeat' first|exact tv|apply pr|intro hh));all_goals try (exfalso;omega)
  all_goals exact ae.z () []
 (refine aa.q Tryz.func30 rfl fun S aw=>Wa _ ?_;(repeat' first|exact tv|apply pr|intro hh));all_goals try (exfalso;omega)
 refine aM.intro hm (X:=Nat) (fun i=>i<=l.length/\∀ j,j<i->(l.getD j OpT.bA).2.1.2.1.length<=60) (fun i=>l.length - i)
  (fun i=>[(0,.aL OpT fun _=>l),(5,.I (i:Int))]) (fun i=>[]) 0 [] ⟨rfl,rfl,?_,?_⟩ ⟨aae _,fun j hj=>absurd hj (abW j)⟩ ?_
 .exact Vc
 .exact Vc
 rintro i ⟨hi,jG⟩;(refine Wa _ ?_;(repeat' first|exact tv|apply pr|intro hh));all_goals first|exact Ob.mk ⟨by simp only[];omega,by simp only[];omega⟩|skip
 .have dp:i<l.length:=by omega
  have C3:l.getD ((i:Int)).toNat OpT.bA∈l:=by rw[Z4,ZZ,Z1 dp];exact aax _
  rw[decide_eq_false fun h=>absurd (h.2 _ C3) (by omega)];exact ae.z () []
 .have dp:i<l.length:=by omega
  refine⟨i+1,[],⟨rfl,rfl,?_,?_⟩,⟨by show i+1<=_;omega,fun j hj=>?_⟩,by show _ - (i+1)<_ - i;omega⟩
  .exact Vc
  .refine Vb _ ?_;repeat' first|exact tv|apply pr
   rw[wr (by omega)];omega
  .by_cases e:j=i
   .subst e
    rw[Z4]at hh;omega
   .exact jG j (by omega)
 .have dp:i=l.length:=by omega
  subst dp;rw[decide_eq_true (show Zk l aF from⟨h0,fun o ho=>by
   obtain⟨j,hj⟩:=aaa.1 ho;have:=jG j (Z2.1 hj).1;rw[ZZ,hj]at this;exact this⟩)]
  exact ae.z () []
def ae6 (o:ZW):Prop:=-9223372036854775808<=o.2.2.1/\o.2.2.1<=9223372036854775807
theorem adU {l:List ZW} {i:Nat} (h:i<l.length):l.getD i OpT.bA∈l:=by rw[ZZ,Z1 h];exact aax _
end Go.Proofs.YthnefnlhcijekaaGreat.En
set_option maxRecDepth 8000
namespace Go.Proofs.YthnefnlhcijekaaGreat.En
open Go Go.RowKit Fw Hi Ce
theorem adj (bk:List bM) (h:ni bk):MU Tryz.prog 146 [.aL c7 fun _=>bk] [] .tt []:=by
 have hl:=h.len;refine aa.q Tryz.func146 rfl fun S aw=>Wa _ ?_;repeat' first|exact tv|apply pr|intro hh
 .omega
 refine aM.intro hm (X:=Nat) (fun i=>i<=8) (fun i=>8 - i)
  (fun i=>[(3,.I (i:Int)),(0,.aL c7 fun _=>bk)]) (fun i=>[]) 0 [] ⟨rfl,rfl,?_,?_⟩ (aae _) ?_
 .exact Vc
 .exact Vc
 intro i hi;by_cases h8:i<8
 .have hv:=H2 h (id:=i) (by omega)
  have ho:=Kw h (id:=i) (by omega);have e1:aX bk (i:Int)=bk.getD i c7.bA:=by unfold aX;rw[Z4];rfl
  rw[e1]at hv ho;obtain⟨on,p,v,hb⟩:∃ on p v,bk.getD i c7.bA=(on,p,v):=⟨_,_,_,rfl⟩
  rw[hb]at hv ho;rw[oz]at ho;simp only[]at hv;rw[ZY (by omega)]at ho;have mC:bk.getD ((i:Int)).toNat c7.bA=(on,p,v):=by rw[Z4];exact hb
  have f1:(bk.getD ((i:Int)).toNat c7.bA).1=on:=by rw[mC]
  have f2:(bk.getD ((i:Int)).toNat c7.bA).2.1=p:=by rw[mC]
  have f3:(bk.getD ((i:Int)).toNat c7.bA).2.2=v:=by rw[mC]
  cases on with
  | true =>
   simp only[if_true,Bool.or_eq_false_iff,decide_eq_false_iff_not,Bool.not_eq_false',decide_eq_true_eq]at ho;have qU:=Po.CJ (bk.getD ((i:Int)).toNat c7.bA).2.1;rw[f2,Z0 ho.2,<-f2]at qU;(refine Wa _ ?_;(repeat' first|exact tv|apply pr|intro hh));all_goals first|exact Ob.mk ⟨by simp only[];omega,by simp only[];omega⟩|(exfalso;omega)|(exfalso;simp_all;done)|skip
   all_goals refine ab.q qU [] fun _ _=>Wp _ ?_;repeat' first|exact tv|apply pr|intro hh
   all_goals first|exact Ob.mk ⟨by simp only[];omega,by simp only[];omega⟩|(exfalso;omega)|(exfalso;simp_all;done)|skip
   refine⟨i+1,[],⟨rfl,rfl,?_,?_⟩,by omega,by omega⟩
   .exact Vc
   .refine Vb _ ?_;repeat' first|exact tv|apply pr
    rw[wr (by omega)];omega
  | false =>
   rw[ZY (by simp)]at ho;simp only[Bool.not_eq_false',decide_eq_true_eq]at ho;(refine Wa _ ?_;(repeat' first|exact tv|apply pr|intro hh));all_goals first|exact Ob.mk ⟨by simp only[];omega,by simp only[];omega⟩|(exfalso;omega)|(exfalso;simp_all;done)|skip
   .exact absurd (by rw[mC,ho]) ((Gk _ rfl _ _).1 hh)
   refine⟨i+1,[],⟨rfl,rfl,?_,?_⟩,by omega,by omega⟩
   .exact Vc
   .refine Vb _ ?_;repeat' first|exact tv|apply pr
    rw[wr (by omega)];omega
 .refine Wa _ ?_;repeat' first|exact tv|apply pr|intro hh
  all_goals try (exfalso;omega)
  exact ae.z () []
theorem adw (bk:List bM) (h:ni bk) (id:Int):MU Tryz.prog 90 [.aL c7 fun _=>bk,.I id] [] (.bQ [aI (nj bk id).1,.I ((nj bk id).2.1),.I ((nj bk id).2.2)]) []:=by
 have hl:=h.len;by_cases hi:0<=id/\id<8
 .by_cases hon:(aX bk id).1=true
  .have eg:nj bk id=((aX bk id).2.1,(aX bk id).2.2,0):=by unfold nj;rw[Z0 hi,Z0 hon]
   rw[eg];have adL:(bk.getD id.toNat c7.bA).1=true:=hon;(refine aa.q Tryz.func90 rfl fun S aw=>Wa _ ?_;(repeat' first|exact tv|apply pr|intro hh));(refine ab.q (adj bk h) [] fun _ _=>Wp _ ?_;(repeat' first|exact tv|apply pr|intro hh));all_goals first|exact Ob.mk ⟨by simp only[];omega,by simp only[];omega⟩|(exfalso;omega)|skip
   .rw[adL]at hh;cases hh
   all_goals exact ae.z () []
  .have eg:nj bk id=((0,0,0,0),0,5):=by unfold nj;rw[Z0 hi,ZY hon]
   rw[eg];have adL:¬(bk.getD id.toNat c7.bA).1=true:=hon;(refine aa.q Tryz.func90 rfl fun S aw=>Wa _ ?_;(repeat' first|exact tv|apply pr|intro hh));(refine ab.q (adj bk h) [] fun _ _=>Wp _ ?_;(repeat' first|exact tv|apply pr|intro hh));all_goals first|exact Ob.mk ⟨by simp only[];omega,by simp only[];omega⟩|(exfalso;omega)|skip
   .exact ae.z () []
   all_goals exact absurd ‹(bk.getD id.toNat c7.bA).1=true› adL
 .have eg:nj bk id=((0,0,0,0),0,1):=by unfold nj;rw[ZY hi]
  rw[eg];(refine aa.q Tryz.func90 rfl fun S aw=>Wa _ ?_;(repeat' first|exact tv|apply pr|intro hh));(refine ab.q (adj bk h) [] fun _ _=>Wp _ ?_;(repeat' first|exact tv|apply pr|intro hh));all_goals try (exfalso;omega)
  all_goals exact ae.z () []
theorem aew (bk:List bM) (h:ni bk) (id:Int) (p:ay):MU Tryz.prog 142 [.aL c7 fun _=>bk,.I id,aI p] [] (.bQ [.aL c7 fun _=>(ie bk id p).1,.I ((ie bk id p).2.1),.I ((ie bk id p).2.2)]) []:=by
 have hl:=h.len;have qU:=Po.CJ p;by_cases hi:(0<=id/\id<8)/\aQ p
 .have hv:=H2 h hi.1
  rw[Z0 hi.2]at qU;have ev:(aX bk id).2.2=(bk.getD id.toNat c7.bA).2.2:=rfl;by_cases hf:(aX bk id).2.2=1073741824
  .have e:ie bk id p=(bk,0,4):=by unfold ie;rw[Z0 hi,Z0 hf]
   rw[e];(refine aa.q Tryz.func142 rfl fun S aw=>Wa _ ?_;(repeat' first|exact tv|apply pr|intro hh));(refine ab.q (adj bk h) [] fun _ _=>Wp _ ?_;(repeat' first|exact tv|apply pr|intro hh));all_goals try ((refine ab.q qU [] fun _ _=>Wp _ ?_;(repeat' first|exact tv|apply pr|intro hh)))
   all_goals first|exact Ob.mk ⟨by simp only[];omega,by simp only[];omega⟩|(exfalso;omega)|skip
   all_goals exact ae.z () []
  .have e:ie bk id p=(bk.set id.toNat (true,p,(aX bk id).2.2+1),(aX bk id).2.2+1,0):=by unfold ie;rw[Z0 hi,ZY hf]
   rw[e];have hb:Tryz.t188.bytes<=1000:=by decide
   (refine aa.q Tryz.func142 rfl fun S aw=>Wa _ ?_;(repeat' first|exact tv|apply pr|intro hh));(refine ab.q (adj bk h) [] fun _ _=>Wp _ ?_;(repeat' first|exact tv|apply pr|intro hh));all_goals try ((refine ab.q qU [] fun _ _=>Wp _ ?_;(repeat' first|exact tv|apply pr|intro hh)))
   all_goals first|exact Ob.mk ⟨by simp only[];omega,by simp only[];omega⟩|(exfalso;omega)|skip
   .refine⟨⟨rfl,?_,?_⟩⟩
    .show 0+bk.length<=_
     omega
    .show(0+bk.length)*Tryz.t188.bytes<=_
     rw[hl];omega
   (refine ae.gU 1 ?_;(conv=>whnf));(refine ae.w () [] _ ?_;(repeat' first|exact tv|apply pr));all_goals rw[wr (show -9223372036854775808<=(bk.getD id.toNat c7.bA).2.2+1/\_ by omega)]
   .rw[aaf,aaf,aah,abR,ab3,Z6 (by rw[aao];exact Z8 _)];rfl
   .rw[aaf,abR,ab3,ZZ,ac9 (by omega)];rfl
 .have e:ie bk id p=(bk,0,1):=by unfold ie;rw[ZY hi]
  rw[e];by_cases hr:0<=id/\id<8
  .rw[ZY (fun hp=>hi ⟨hr,hp⟩)]at qU
   (refine aa.q Tryz.func142 rfl fun S aw=>Wa _ ?_;(repeat' first|exact tv|apply pr|intro hh));(refine ab.q (adj bk h) [] fun _ _=>Wp _ ?_;(repeat' first|exact tv|apply pr|intro hh));all_goals try ((refine ab.q qU [] fun _ _=>Wp _ ?_;(repeat' first|exact tv|apply pr|intro hh)))
   all_goals try (exfalso;omega)
   all_goals exact ae.z () []
  .refine aa.q Tryz.func142 rfl fun S aw=>Wa _ ?_;repeat' first|exact tv|apply pr|intro hh
   (refine ab.q (adj bk h) [] fun _ _=>Wp _ ?_;(repeat' first|exact tv|apply pr|intro hh));all_goals try (exfalso;omega)
   all_goals exact ae.z () []
theorem aex (bk:List bM) (h:ni bk) (id:Int):MU Tryz.prog 144 [.aL c7 fun _=>bk,.I id] [] (.bQ [.aL c7 fun _=>(adg bk id).1,.I ((adg bk id).2)]) []:=by
 have hl:=h.len;have hb:Tryz.t188.bytes<=1000:=by decide
 by_cases hi:0<=id/\id<8
 .by_cases hon:(aX bk id).1=true
  .have e:adg bk id=(bk.set id.toNat (false,(0,0,0,0),(aX bk id).2.2),0):=by unfold adg nj;rw[Z0 hi,Z0 hon];rfl
   rw[e];have adL:(bk.getD id.toNat c7.bA).1=true:=hon;(refine aa.q Tryz.func144 rfl fun S aw=>Wa _ ?_;(repeat' first|exact tv|apply pr|intro hh));(refine ab.q (adj bk h) [] fun _ _=>Wp _ ?_;(repeat' first|exact tv|apply pr|intro hh));all_goals first|exact Ob.mk ⟨by simp only[];omega,by simp only[];omega⟩|(exfalso;omega)|skip
   .rw[adL]at hh;cases hh
   .refine⟨⟨rfl,?_,?_⟩⟩
    .show 0+bk.length<=_
     omega
    .show(0+bk.length)*Tryz.t188.bytes<=_
     rw[hl];omega
   (refine ae.gU 0 ?_;(conv=>whnf));(refine ae.w () [] _ ?_;(repeat' first|exact tv|apply pr));rw[aaf,aaf,aah,abR,ab3,Z6 (by rw[aao];exact Z8 _)];rfl
  .have e:adg bk id=(bk,5):=by unfold adg nj;rw[Z0 hi,ZY hon];rfl
   rw[e];have adL:¬(bk.getD id.toNat c7.bA).1=true:=hon;(refine aa.q Tryz.func144 rfl fun S aw=>Wa _ ?_;(repeat' first|exact tv|apply pr|intro hh));(refine ab.q (adj bk h) [] fun _ _=>Wp _ ?_;(repeat' first|exact tv|apply pr|intro hh));all_goals first|exact Ob.mk ⟨by simp only[];omega,by simp only[];omega⟩|(exfalso;omega)|skip
   .exact ae.z () []
   all_goals exact absurd ‹(bk.getD id.toNat c7.bA).1=true› adL
 .have e:adg bk id=(bk,1):=by unfold adg nj;rw[ZY hi];rfl
  rw[e];(refine aa.q Tryz.func144 rfl fun S aw=>Wa _ ?_;(repeat' first|exact tv|apply pr|intro hh));(refine ab.q (adj bk h) [] fun _ _=>Wp _ ?_;(repeat' first|exact tv|apply pr|intro hh));all_goals try (exfalso;omega)
  all_goals exact ae.z () []
theorem aey:MU Tryz.prog 83 [] [] (.aL c7 fun _=>LV) []:=by
 refine aa.q Tryz.func83 rfl fun S aw=>Wa _ ?_;repeat' first|exact tv|apply pr|intro hh
 .exact Ob.mk (by decide)
 (refine ae.gU 0 ?_;(conv=>whnf));exact ae.z () []
end Go.Proofs.YthnefnlhcijekaaGreat.En
set_option maxRecDepth 8000
namespace Go.Proofs.YthnefnlhcijekaaGreat.En
open Go Go.RowKit Fw Hi Ce
abbrev adi:Ty:=.pair (.pair (.int .i64) .str) (.list dz)
abbrev aeR:=Nm×List bc
abbrev adV:TypeId:=145
abbrev aeS:TypeId:=84
def adm:aeR:=((0,[]),[])
def chF (K:Kt):List Chunk:=[.cells aeS [.I K.n,.aL c7 fun _=>K.bk,.I K.now,.vec 1 3 (fun _=>0) fun _=>K.L.length],.aq adV adi fun _=>K.L]
def QD:Hs->Nm->Nat
 | [],_=>0
 | x::r,nm=>if kQ x.1 nm then QD r nm+1 else 0
theorem adz:∀ (L:Hs) (nm:Nm),QD L nm<=L.length
 | [],_=>Z8 _
 | x::r,nm=>by
  unfold QD;split
  .rw[Z9];exact Nat.succ_le_succ (adz r nm)
  .exact aae _
theorem adI:∀ (L:Hs) (nm:Nm) (i:Nat),i<=QD L nm->i<L.length->(kQ (L.getD i adm).1 nm->i+1<=QD L nm)/\(¬kQ (L.getD i adm).1 nm->i=QD L nm)
 | [],_,i,_,hi=>absurd hi (abW i)
 | x::r,nm,0,h,_=>by
  show(kQ x.1 nm->_)/\(¬kQ x.1 nm->_);unfold QD;exact⟨fun h1=>by rw[Z0 h1];omega,fun h1=>by rw[ZY h1]⟩
 | x::r,nm,i+1,h,hi=>by
  unfold QD at h ⊢;split at h
  .rename_i h1
   have:=adI r nm i (by omega) (by simpa using hi);rw[Z0 h1];exact⟨fun h2=>Nat.succ_le_succ (this.1 h2),fun h2=>congrArg (·+1) (this.2 h2)⟩
  .omega
def isL (L:Hs) (nm:Nm):Bool:=decide (QD L nm<L.length/\(L.getD (QD L nm) adm).1=nm)
theorem adA (x:aeR) (r:Hs) (nm:Nm):isL (x::r) nm=if kQ x.1 nm then isL r nm else decide (x.1=nm):=by
 unfold isL;by_cases h:kQ x.1 nm
 .rw[Z0 h]
  have e:QD (x::r) nm=QD r nm+1:=by rw[QD,Z0 h]
  rw[e,decide_eq_decide];show(QD r nm+1<r.length+1/\(r.getD (QD r nm) adm).1=nm)↔_;rw[Nat.add_lt_add_iff_right]
 .rw[ZY h]
  have e:QD (x::r) nm=0:=by rw[QD,ZY h]
  rw[e,decide_eq_decide];show(0<r.length+1/\x.1=nm)↔_;exact⟨fun h=>h.2,fun h=>⟨Nat.succ_pos _,h⟩⟩
theorem adM:∀ (L:Hs) (nm:Nm),aY L nm=if isL L nm=true then(L.getD (QD L nm) adm).2 else[]
 | [],nm=>by simp[aY,isL]
 | x::r,nm=>by
  rw[adA,aY];by_cases h:kQ x.1 nm
  .rw[Z0 h,Z0 h,adM r nm]
   have e:QD (x::r) nm=QD r nm+1:=by rw[QD,Z0 h]
   rw[e];rfl
  .rw[ZY h,ZY h]
   have e:QD (x::r) nm=0:=by rw[QD,ZY h]
   rw[e];by_cases h2:x.1=nm
   .rw[Z0 h2,Z0 (by simpa using h2)];rfl
   .rw[ZY h2,ZY (by simpa using h2)]
theorem adW:∀ (L:Hs) (nm:Nm) (l:List bc),jM L nm l=if isL L nm=true then L.set (QD L nm) (nm,l)else L.take (QD L nm)++(nm,l)::L.drop (QD L nm)
 | [],nm,l=>by simp[jM,isL,QD]
 | x::r,nm,l=>by
  rw[adA,jM];by_cases h:kQ x.1 nm
  .rw[Z0 h,Z0 h,adW r nm l]
   have e:QD (x::r) nm=QD r nm+1:=by rw[QD,Z0 h]
   rw[e];split <;> rfl
  .rw[ZY h,ZY h]
   have e:QD (x::r) nm=0:=by rw[QD,ZY h]
   rw[e];by_cases h2:x.1=nm
   .rw[Z0 h2,Z0 (by simpa using h2)];rfl
   .rw[ZY h2,ZY (by simpa using h2)];rfl
theorem adX:∀ (L:Hs) (nm:Nm),adk L nm=if isL L nm=true then L.take (QD L nm)++L.drop (QD L nm+1)else L
 | [],nm=>by simp[adk,isL,QD]
 | x::r,nm=>by
  rw[adA,adk];by_cases h:kQ x.1 nm
  .rw[Z0 h,Z0 h,adX r nm]
   have e:QD (x::r) nm=QD r nm+1:=by rw[QD,Z0 h]
   rw[e];split <;> rfl
  .rw[ZY h,ZY h]
   have e:QD (x::r) nm=0:=by rw[QD,ZY h]
   rw[e];by_cases h2:x.1=nm
   .rw[Z0 h2,Z0 (by simpa using h2)];rfl
   .rw[ZY h2,ZY (by simpa using h2)]
theorem aej (x y:List UInt8):Op.bytesLess x y=decide (x<y):=Go.Proofs.bytesLess_eq x y
theorem adY {L:Hs} {nm:Nm} (h:QD L nm<L.length):isL L nm=decide ((L.getD (QD L nm) adm).1=nm):=by
 unfold isL;rw[decide_eq_decide];exact⟨fun h2=>h2.2,fun h2=>⟨h,h2⟩⟩
theorem aek {L:Hs} {nm:Nm} (h:¬QD L nm<L.length):isL L nm=false:=by
 unfold isL;exact decide_eq_false fun h2=>h h2.1
theorem adB (K:Kt) (hL:K.L.length<=100000) (nm:Nm):MU Tryz.prog 141 [.ptr 0 0,zB nm] (chF K) (.bQ [.I (QD K.L nm:Int),.bool fun _=>isL K.L nm]) (chF K):=by
  have hle:=adz K.L nm;(refine aa.q Tryz.func141 rfl fun S aw=>Wa _ ?_;(repeat' first|exact tv|apply pr|intro hh));refine aM.intro hm (X:=Nat) (fun i=>i<=QD K.L nm) (fun i=>K.L.length - i)
    (fun i=>[(6,.I (i:Int)),(0,.ptr 0 0),(3,.ptr 2 0)]) (fun i=>chF K++[.cells 24 [.I nm.1,.str fun _=>nm.2]]) 0 [0,1,2] ⟨rfl,rfl,?_,?_⟩ (aae _) ?_
  · exact Vc
  · exact Vc
  intro i hi;have hs:=adI K.L nm i hi;have No:K.L.getD (0+((i:Int)).toNat) adi.bA=K.L.getD i adm:=by rw[aaf,Z4];rfl
  unfold kQ at hs;(refine Wa _ ?_;(repeat' first|exact tv|apply pr|intro hh));all_goals first|exact Ob.mk ⟨by simp only[];omega,by simp only[];omega⟩|(exfalso;omega)|skip
  all_goals simp only[No,aej,decide_eq_true_eq,decide_eq_false_iff_not]at *
  all_goals first
    | (refine⟨i+1,[0,1,2],⟨rfl,rfl,?_,?_⟩,?_,by omega⟩
       · exact Vc
       · (refine Vb _ ?_;(repeat' first|exact tv|apply pr))
         rw[wr (by omega)];omega
       · refine(hs (by omega)).1 ?_
         first|(left;assumption)|(right;exact⟨by assumption,by assumption⟩)
       done)
    | skip
  · have e:i=QD K.L nm:=(hs (by omega)).2 (fun h=>h.elim (by assumption) fun h2=>absurd h2.2 (by assumption))
    refine ae.w () [0,1] _ ?_;repeat' first|exact tv|apply pr
    · rw[e]
    · rw[adY (by omega),abX,mF _ rfl,decide_eq_true_eq,<-e]
  · have e:i=QD K.L nm:=(hs (by omega)).2 (fun h=>h.elim (by assumption) fun h2=>absurd h2.1 (by assumption))
    refine ae.w () [0,1] _ ?_;repeat' first|exact tv|apply pr
    · rw[e]
    · rw[adY (by omega),abX,mF _ rfl,decide_eq_true_eq,<-e]
  · have e:i=QD K.L nm:=by omega
    have e2:=aek (L:=K.L) (nm:=nm) (by omega);rw[e2];(refine ae.w () [0,1] _ ?_;(repeat' first|exact tv|apply pr));rw[e]
end Go.Proofs.YthnefnlhcijekaaGreat.En
set_option maxRecDepth 8000
namespace Go.Proofs.YthnefnlhcijekaaGreat.En
open Go Go.RowKit Fw Hi Ce
theorem aez (K:Kt) {m:Nat} (s:Small K m) (Tn:m<=100000) (nm:Nm):MU Tryz.prog 197 [.ptr 0 0,zB nm] (chF K) (.aL dz fun _=>aY K.L nm) (chF K):=by
 have hl:=s.len;have hp:=adB K (by omega) nm;have ZU:=adM K.L nm;cases hi:isL K.L nm with
 | false =>
  rw[hi]at hp ZU;rw[ZU];(refine aa.q Tryz.func197 rfl fun S aw=>Wa _ ?_;(repeat' first|exact tv|apply pr|intro hh));(refine ab.q hp [0,1] fun _ _=>Wp _ ?_;(repeat' first|exact tv|apply pr|intro hh));(refine ae.w () [0,1] _ ?_;(repeat' first|exact tv|apply pr));all_goals rfl
 | true =>
  have h1:QD K.L nm<K.L.length:=(of_decide_eq_true (show decide (_/\_)=true from hi)).1;rw[hi]at hp ZU;rw[ZU];(refine aa.q Tryz.func197 rfl fun S aw=>Wa _ ?_;(repeat' first|exact tv|apply pr|intro hh));refine ab.q hp [0,1] fun _ _=>Wp _ ?_;repeat' first|exact tv|apply pr|intro hh
  .exact Ob.mk ⟨by simp only[];omega,by simp only[];omega⟩
  (refine ae.w () [0,1] _ ?_;(repeat' first|exact tv|apply pr));simp only[if_true,Z4,aaf];rfl
def adp (K:Kt) (i:Nat):List Nm:=((K.L.take i).filter (OA K)).map (·.1)
theorem adQ (K:Kt) (i:Nat) (hi:i<K.L.length):adp K (i+1)=if OA K (K.L.getD i adm)=true then adp K i++[(K.L.getD i adm).1]else adp K i:=by
 have hg:K.L[i]?=some (K.L.getD i adm):=by rw[ZZ,Z1 hi];rfl
 unfold adp;rw[aaE,hg,ac4,List.filter_append];by_cases hc:OA K (K.L.getD i adm)=true
 .rw[Z0 hc,ade,Z0 hc,ace];rfl
 .rw[ZY hc,ade,ZY hc,List.filter_nil,List.append_nil]
theorem adZ (K:Kt) (i:Nat):(adp K i).length<=i:=by
 unfold adp;rw[aba];exact aaA (acf ..) (by rw[aak];omega)
theorem ad0 (K:Kt):adp K K.L.length=eD K:=by unfold adp eD;rw[aac]
theorem adN (K:Kt) {m:Nat} (s:Small K m) (Tn:m<=100000):MU Tryz.prog 40 [.ptr 0 0] (chF K) (.aL uR fun _=>eD K) (chF K):=by
  have hl:=s.len;(refine aa.q Tryz.func40 rfl fun S aw=>Wa _ ?_;(repeat' first|exact tv|apply pr|intro hh));refine aM.nil 24 uR none [3] ?_;refine aM.intro hm (X:=Nat) (fun i=>i<=K.L.length) (fun i=>K.L.length - i)
    (fun i=>[(0,.ptr 0 0),(3,.vec 2 2 (fun _=>0) fun _=>(adp K i).length),(4,.I (i:Int))])
    (fun i=>chF K++[.aq 24 uR fun _=>adp K i]) 0 [0,1,2] ⟨rfl,rfl,?_,?_⟩ (aae _) ?_
  · exact Vc
  · exact Vc
  intro i hi;have u7:=adZ K i;by_cases dp:i<K.L.length
  · have No:K.L.getD (0+((i:Int)).toNat) adi.bA=K.L.getD i adm:=by rw[aaf,Z4];rfl
    have C3:K.L.getD i adm∈K.L:=by rw[ZZ,Z1 dp];exact aax _
    have uu:=adQ K i dp;have Mo:=s.fM _ C3;have cL:=adw K.bk s.bk (K.L.getD i adm).1.1;rw[<-No]at uu cL Mo;cases hb:cC K.bk (K.L.getD (0+((i:Int)).toNat) adi.bA).1.1 with
    | none =>
      have hc:OA K (K.L.getD (0+((i:Int)).toNat) adi.bA)=false:=by unfold OA;simp only[hb]
      rw[hc,ZY (by decide)]at uu;have hcd:(nj K.bk (K.L.getD (0+((i:Int)).toNat) adi.bA).1.1).2.2≠0:=by rw[get_none hb];simp only[];split <;> decide
      (refine Wa _ ?_;(repeat' first|exact tv|apply pr|intro hh));all_goals first|exact Ob.mk ⟨by simp only[];omega,by simp only[];omega⟩|(exfalso;omega)|skip
      all_goals refine ab.q cL [] fun _ _=>Wp _ ?_;repeat' first|exact tv|apply pr|intro hh
      all_goals first|exact Ob.mk ⟨by simp only[];omega,by simp only[];omega⟩|(exfalso;omega)|skip
      all_goals refine⟨i+1,[0,1,2],⟨rfl,rfl,?_,?_⟩,by show i+1<=_;omega,by show _ - (i+1)<_ - i;omega⟩
      all_goals refine Vb _ ?_;repeat' first|exact tv|apply pr
      all_goals first|(rw[uu];done)|(rw[wr (by omega)];omega)|exact uu.symm|skip
    | some pv =>
      obtain⟨p,v⟩:=pv;have hc:OA K (K.L.getD (0+((i:Int)).toNat) adi.bA)=!Hi.neutral p (K.L.getD (0+((i:Int)).toNat) adi.bA).2 K.now:=by unfold OA;simp only[hb]
      have uY:Hi.neutral p (K.L.getD (0+((i:Int)).toNat) adi.bA).2 K.now=false->adp K (i+1)=adp K i++[(K.L.getD (0+((i:Int)).toNat) adi.bA).1]:=fun h=>by rw[uu,hc,h];rfl
      have rG:Hi.neutral p (K.L.getD (0+((i:Int)).toNat) adi.bA).2 K.now=true->adp K (i+1)=adp K i:=fun h=>by rw[uu,hc,h];rfl
      clear uu;rw[si hb]at cL;(refine Wa _ ?_;(repeat' first|exact tv|apply pr|intro hh));all_goals first|exact Ob.mk ⟨by simp only[];omega,by simp only[];omega⟩|(exfalso;omega)|skip
      all_goals refine ab.q cL [] fun _ _=>Wp _ ?_;repeat' first|exact tv|apply pr|intro hh
      all_goals first|exact Ob.mk ⟨by simp only[];omega,by simp only[];omega⟩|(exfalso;omega)|skip
      all_goals refine ab.q (Pg p (K.L.getD (0+((i:Int)).toNat) adi.bA).2 K.now (by omega)) [] fun _ _=>Wp _ ?_;repeat' first|exact tv|apply pr|intro hh
      all_goals first|exact Ob.mk ⟨by simp only[];omega,by simp only[];omega⟩|(exfalso;omega)|skip
      all_goals first|have uu:=uY hh|have uu:=rG hh|have uu:=uY (by assumption)|have uu:=rG (by assumption)
      all_goals first
        | (refine⟨⟨rfl,?_,?_⟩⟩
           · show(adp K i).length+1<=_
             omega
           · show((adp K i).length+1)*24<=_
             omega
           done)
        | skip
      all_goals refine⟨i+1,[0,1,2],⟨rfl,rfl,?_,?_⟩,by show i+1<=_;omega,by show _ - (i+1)<_ - i;omega⟩
      all_goals refine Vb _ ?_;repeat' first|exact tv|apply pr
      all_goals first|(rw[uu,Z6 (Z8 _)];rfl)|(rw[uu,aab];rfl)|(rw[uu];done)|(rw[wr (by omega)];omega)|exact uu.symm|skip
  · (refine Wa _ ?_;(repeat' first|exact tv|apply pr|intro hh))
    all_goals try (exfalso;omega)
    have e:i=K.L.length:=by omega
    subst e;(refine ae.gU 2 ?_;(conv=>whnf));(refine ae.w () [0,1] _ ?_;(repeat' first|exact tv|apply pr));rw[aah,aac,ad0]
end Go.Proofs.YthnefnlhcijekaaGreat.En
set_option maxRecDepth 8000
namespace Go.Proofs.YthnefnlhcijekaaGreat.En
open Go Go.RowKit Fw Hi Ce
theorem ael (nm:Nm):fy nm=decide ((0<=nm.1/\nm.1<8)/\1<=nm.2.length/\nm.2.length<=32):=by
 unfold fy;rw[abX];simp only[aai,decide_eq_true_eq,aa4,decide_eq_false_iff_not];rw[<-aaL];omega
theorem y8 (nm:Nm):MU Tryz.prog 145 [zB nm] [] (.bool fun _=>fy nm) []:=by
 (refine aa.q Tryz.func145 rfl fun S aw=>Wa _ ?_;(repeat' first|exact tv|apply pr|intro hh));all_goals refine ae.w () [] _ ?_;repeat' first|exact tv|apply pr
 all_goals rw[ael]
 all_goals first|(rw[decide_eq_decide];omega)|exact decide_eq_false (by omega)
def lk3 (r:List bc×L1×Bool):AV:=.bQ [.aL dz fun _=>r.1,Ih r.2.1,.bool fun _=>r.2.2]
theorem ad1 (K:Kt) {m:Nat} (s:Small K m) (Tn:m<=100000) (nm:Nm) (w:Int):MU Tryz.prog 140 [.ptr 0 0,vR nm w] (chF K) (lk3 (gB K nm w)) (chF K):=by
 have uA:=y8 nm;have hwg:=Po.y7 w;have cL:=adw K.bk s.bk nm.1;have ql:=s.at_ nm;cases hn:fy nm with
 | false =>
  have e:gB K nm w=([],(1,zeroV),false):=by unfold gB;rw[hn];rfl
  rw[e];rw[hn]at uA;(refine aa.q Tryz.func140 rfl fun S aw=>Wa _ ?_;(repeat' first|exact tv|apply pr|intro hh));(refine ab.q uA [] fun _ _=>Wp _ ?_;(repeat' first|exact tv|apply pr|intro hh));all_goals try ((refine ab.q hwg [] fun _ _=>Wp _ ?_;(repeat' first|exact tv|apply pr|intro hh)))
  all_goals refine ae.w () [0,1] _ ?_;repeat' first|exact tv|apply pr
  all_goals rfl
 | true =>
  rw[hn]at uA;cases hw:aU w with
  | false =>
   have e:gB K nm w=([],(1,zeroV),false):=by unfold gB;rw[hn,hw];rfl
   rw[e];rw[hw]at hwg;(refine aa.q Tryz.func140 rfl fun S aw=>Wa _ ?_;(repeat' first|exact tv|apply pr|intro hh));(refine ab.q uA [] fun _ _=>Wp _ ?_;(repeat' first|exact tv|apply pr|intro hh));all_goals try ((refine ab.q hwg [] fun _ _=>Wp _ ?_;(repeat' first|exact tv|apply pr|intro hh)))
   all_goals refine ae.w () [0,1] _ ?_;repeat' first|exact tv|apply pr
   all_goals rfl
  | true =>
   rw[hw]at hwg;cases hb:cC K.bk nm.1 with
   | none =>
    have e:gB K nm w=([],(5,zeroV),false):=by unfold gB;rw[hn,hw,hb];rfl
    rw[e];rw[get_none hb,Z0 (rA hn)]at cL;(refine aa.q Tryz.func140 rfl fun S aw=>Wa _ ?_;(repeat' first|exact tv|apply pr|intro hh));(refine ab.q uA [] fun _ _=>Wp _ ?_;(repeat' first|exact tv|apply pr|intro hh));all_goals try ((refine ab.q hwg [] fun _ _=>Wp _ ?_;(repeat' first|exact tv|apply pr|intro hh)))
    all_goals refine ab.q cL [] fun _ _=>Wp _ ?_;repeat' first|exact tv|apply pr|intro hh
    all_goals refine ae.w () [0,1] _ ?_;repeat' first|exact tv|apply pr
    all_goals rfl
   | some pv =>
    obtain⟨p,v⟩:=pv;have e:gB K nm w=((Hi.ask p (aY K.L nm) K.now w).1,(0,(Hi.ask p (aY K.L nm) K.now w).2),!Hi.neutral p (aY K.L nm) K.now):=by unfold gB;rw[hn,hw,hb];rfl
    rw[e];rw[si hb]at cL;(refine aa.q Tryz.func140 rfl fun S aw=>Wa _ ?_;(repeat' first|exact tv|apply pr|intro hh));(refine ab.q uA [] fun _ _=>Wp _ ?_;(repeat' first|exact tv|apply pr|intro hh));all_goals try ((refine ab.q hwg [] fun _ _=>Wp _ ?_;(repeat' first|exact tv|apply pr|intro hh)))
    all_goals refine ab.q cL [] fun _ _=>Wp _ ?_;repeat' first|exact tv|apply pr|intro hh
    all_goals refine ab.q (aez K s Tn nm) [0,1] fun _ _=>Wp _ ?_;repeat' first|exact tv|apply pr|intro hh
    all_goals refine ab.q (LS p (aY K.L nm) K.now w (by omega)) [] fun _ _=>Wp _ ?_;repeat' first|exact tv|apply pr|intro hh
    all_goals refine ab.q (Pg p (aY K.L nm) K.now (by omega)) [] fun _ _=>Wp _ ?_;repeat' first|exact tv|apply pr|intro hh
    all_goals exact ae.z () [0,1]
theorem aeA (K:Kt) {m:Nat} (s:Small K m) (Tn:m<=100000) (nm:Nm) (w:Int):MU Tryz.prog 85 [.ptr 0 0,vR nm w] (chF K) (Ih (gB K nm w).2.1) (chF K):=by
 (refine aa.q Tryz.func85 rfl fun S aw=>Wa _ ?_;(repeat' first|exact tv|apply pr|intro hh));(refine ab.q (ad1 K s Tn nm w) [0,1] fun _ _=>Wp _ ?_;(repeat' first|exact tv|apply pr|intro hh));all_goals exact ae.z () [0,1]
theorem aeB {L:Hs} {nm:Nm} (h:isL L nm=true) (l:List bc):L.set (QD L nm) (((L.getD (QD L nm) adi.bA).1.1,(L.getD (QD L nm) adi.bA).1.2),l)=L.set (QD L nm) (nm,l):=by
 have:=(of_decide_eq_true (show decide (_/\_)=true from h)).2;have e:((L.getD (QD L nm) adi.bA).1.1,(L.getD (QD L nm) adi.bA).1.2)=nm:=this;rw[e]
theorem ad2 {n b:Nat} (hn:n<=300000) (hb:b<=1000):n<=140737488355328/\n*b<=140737488355328 :=
 ⟨by omega,aaA (Nat.mul_le_mul hn hb) (by decide)⟩
theorem aeC {L:Hs} {p:Nat} (hp:p<=L.length) {nm:Nm} {l:List bc}:List.take (0+(List.take (((p:Int)).toNat - Int.toNat 0) (List.drop (0+Int.toNat 0) L)).length+(List.take 1 (List.drop 0 [((nm.1,nm.2),l)])).length) (List.take (0+(List.take (((p:Int)).toNat - Int.toNat 0) (List.drop (0+Int.toNat 0) L)).length) (List.take 0 []++List.take (((p:Int)).toNat - Int.toNat 0) (List.drop (0+Int.toNat 0) L))++List.take 1 (List.drop 0 [((nm.1,nm.2),l)]))++List.take (((L.length:Int)).toNat - ((p:Int)).toNat) (List.drop (0+((p:Int)).toNat) L)
  = L.take p++(nm,l)::L.drop p:=by
 have e1:((p:Int)).toNat - Int.toNat 0=p:=by simp
 have e2:(0+Int.toNat 0)=0:=rfl;rw[e1,e2,aah,aah,Z4,Z4,aaf,aaf,abR,ab3];have h3:(L.take p).length=p:=by rw[aak,aa0 hp]
 rw[h3,acr,Nat.min_self];have h4:List.take 1 [((nm.1,nm.2),l)]=[(nm,l)]:=rfl;rw[h4,Z6 (l:=L.take p++[(nm,l)]) (by rw[aab,h3];exact Z8 _),Z6 (l:=L.drop p) (by rw[aar];exact Z8 _),ac6];rfl
theorem aem (K:Kt) {m:Nat} (s:Small K m) (Tn:m<=100000) (nm:Nm) (w:Int):MU Tryz.prog 84 [.ptr 0 0,vR nm w] (chF K) (Ih (dV K nm w).2) (chF (dV K nm w).1):=by
 have hl:=s.len;have Lx:=ad1 K s Tn nm w;have RT:=adN K s Tn;have vX:=adB K (by omega) nm;have hle:=adz K.L nm;have Pz:Tryz.t145.bytes<=1000:=by decide
 by_cases h1:(gB K nm w).2.1.1=0/\(gB K nm w).2.1.2.1=true
 .by_cases h2:(gB K nm w).2.2=false/\K.n<=(eD K).length
  .have e:dV K nm w=(K,(7,zeroV)):=by unfold dV;rw[Z0 h1,Z0 h2]
   rw[e];(refine aa.q Tryz.func84 rfl fun S aw=>Wa _ ?_;(repeat' first|exact tv|apply pr|intro hh));(refine ab.q Lx [0,1] fun _ _=>Wp _ ?_;(repeat' first|exact tv|apply pr|intro hh));all_goals first|(exact absurd (h1.2.symm.trans ‹(gB K nm w).2.1.2.1=false›) (by decide))|(exact absurd h1.1 ‹(gB K nm w).2.1.1≠0›)|(exact absurd h1.1 ‹¬(gB K nm w).2.1.1=0›)|skip
   all_goals try ((refine ab.q RT [0,1] fun _ _=>Wp _ ?_;(repeat' first|exact tv|apply pr|intro hh)))
   all_goals first|(exact absurd (h2.1.symm.trans ‹(gB K nm w).2.2=true›) (by decide))|(exact absurd h2.2 ‹_›)|skip
   all_goals refine ae.w () [0,1] _ ?_;repeat' first|exact tv|apply pr
   all_goals rfl
  .have e:dV K nm w=({ K with L:=jM K.L nm (gB K nm w).1 },(gB K nm w).2.1):=by unfold dV;rw[Z0 h1,ZY h2]
   rw[e];have qe:=adW K.L nm (gB K nm w).1;cases hi:isL K.L nm with
   | true =>
    have bf:QD K.L nm<K.L.length:=(of_decide_eq_true (show decide (_/\_)=true from hi)).1;rw[hi]at vX qe;(refine aa.q Tryz.func84 rfl fun S aw=>Wa _ ?_;(repeat' first|exact tv|apply pr|intro hh));(refine ab.q Lx [0,1] fun _ _=>Wp _ ?_;(repeat' first|exact tv|apply pr|intro hh));all_goals first|(exact absurd (h1.2.symm.trans ‹(gB K nm w).2.1.2.1=false›) (by decide))|(exact absurd h1.1 ‹(gB K nm w).2.1.1≠0›)|(exact absurd h1.1 ‹¬(gB K nm w).2.1.1=0›)|skip
    all_goals try ((refine ab.q RT [0,1] fun _ _=>Wp _ ?_;(repeat' first|exact tv|apply pr|intro hh)))
    all_goals first|(exact absurd ⟨‹(gB K nm w).2.2=false›,‹K.n<=((eD K).length:Int)›⟩ h2)|skip
    all_goals refine ab.q vX [0,1] fun _ _=>Wp _ ?_;repeat' first|exact tv|apply pr|intro hh
    all_goals first|exact Ob.mk ⟨by simp only[];omega,by simp only[];omega⟩|skip
    all_goals refine ae.w () [0,1] _ ?_;repeat' first|exact tv|apply pr
    all_goals rw[qe,Z0 rfl]
    all_goals first|(rw[aao];done)|(rw[aaf,Z4];exact aeB hi _)
   | false =>
    rw[hi]at vX qe;(refine aa.q Tryz.func84 rfl fun S aw=>Wa _ ?_;(repeat' first|exact tv|apply pr|intro hh));(refine ab.q Lx [0,1] fun _ _=>Wp _ ?_;(repeat' first|exact tv|apply pr|intro hh));all_goals first|(exact absurd (h1.2.symm.trans ‹(gB K nm w).2.1.2.1=false›) (by decide))|(exact absurd h1.1 ‹(gB K nm w).2.1.1≠0›)|(exact absurd h1.1 ‹¬(gB K nm w).2.1.1=0›)|skip
    all_goals try ((refine ab.q RT [0,1] fun _ _=>Wp _ ?_;(repeat' first|exact tv|apply pr|intro hh)))
    all_goals first|(exact absurd ⟨‹(gB K nm w).2.2=false›,‹K.n<=((eD K).length:Int)›⟩ h2)|skip
    all_goals refine ab.q vX [0,1] fun _ _=>Wp _ ?_;repeat' first|exact tv|apply pr|intro hh
    all_goals first|exact Ob.mk ⟨by simp only[];omega,by simp only[];omega⟩|exact Ob.mk ⟨by simp only[];omega,by simp only[];omega,by simp only[];omega⟩|(refine Ob.mk ⟨rfl,ad2 ?_ Pz⟩;simp;omega)|skip
    all_goals refine ae.w () [0,6] _ ?_;repeat' first|exact tv|apply pr
    all_goals rw[qe,ZY (by decide)]
    all_goals first|(simp[aa0 hle];done)|(simp[aa0 hle];omega)|(rw[aeC hle])|skip
 .have e:dV K nm w=(K,(gB K nm w).2.1):=by unfold dV;rw[ZY h1]
  rw[e];(refine aa.q Tryz.func84 rfl fun S aw=>Wa _ ?_;(repeat' first|exact tv|apply pr|intro hh));(refine ab.q Lx [0,1] fun _ _=>Wp _ ?_;(repeat' first|exact tv|apply pr|intro hh));all_goals first|(exact absurd ⟨‹(gB K nm w).2.1.1=0›,‹(gB K nm w).2.1.2.1=true›⟩ h1)|skip
  all_goals try ((refine ab.q RT [0,1] fun _ _=>Wp _ ?_;(repeat' first|exact tv|apply pr|intro hh)))
  all_goals first|(exact absurd ⟨‹(gB K nm w).2.1.1=0›,‹(gB K nm w).2.1.2.1=true›⟩ h1)|skip
  all_goals exact ae.z () [0,1]
end Go.Proofs.YthnefnlhcijekaaGreat.En
set_option maxRecDepth 8000
namespace Go.Proofs.YthnefnlhcijekaaGreat.En
open Go Go.RowKit Fw Hi Ce
theorem ad3 (K:Kt) (t:Int):MU Tryz.prog 86 [.ptr 0 0,.I t] (chF K) (.I ((mq K t).now)) (chF (mq K t)):=by
 have Pe:ke=1099511627776:=rfl;by_cases ht:K.now<t/\t<=ke
 .have e:mq K t={ K with now:=t }:=by unfold mq;rw[Z0 ht]
  rw[e];(refine aa.q Tryz.func86 rfl fun S aw=>Wa _ ?_;(repeat' first|exact tv|apply pr|intro hh));all_goals try (exfalso;omega)
  all_goals exact ae.z () [0,1]
 .have e:mq K t=K:=by unfold mq;rw[ZY ht]
  rw[e];(refine aa.q Tryz.func86 rfl fun S aw=>Wa _ ?_;(repeat' first|exact tv|apply pr|intro hh));all_goals try (exfalso;omega)
  all_goals exact ae.z () [0,1]
def woT (L:Hs) (book:Int) (i:Nat):Hs:=(L.take i).filter fun x=>decide (x.1.1≠book)
theorem ad5 (L:Hs) (book:Int) (i:Nat) (hi:i<L.length):woT L book (i+1)=if(L.getD i adm).1.1≠book then woT L book i++[L.getD i adm]else woT L book i:=by
 have hg:L[i]?=some (L.getD i adm):=by rw[ZZ,Z1 hi];rfl
 unfold woT;rw[aaE,hg,ac4,List.filter_append];by_cases hc:(L.getD i adm).1.1≠book
 .rw[Z0 hc,ade,Z0 (by simpa using hc)];rfl
 .rw[ZY hc,ade,ZY (by simpa using hc),List.filter_nil,List.append_nil]
theorem aen (L:Hs) (book:Int) (i:Nat):(woT L book i).length<=i:=by
 unfold woT;exact aaA (acf ..) (by rw[aak];omega)
theorem adO (L:Hs) (book:Int):woT L book L.length=Ky L book:=by unfold woT Ky;rw[aac]
theorem adx (K:Kt) (hl:K.L.length<=100000) (book:Int):MU Tryz.prog 143 [.ptr 0 0,.I book] (chF K) (.bQ []) (chF { K with L:=Ky K.L book }):=by
 have Pz:Tryz.t145.bytes<=1000:=by decide
 (refine aa.q Tryz.func143 rfl fun S aw=>Wa _ ?_;(repeat' first|exact tv|apply pr|intro hh));refine aM.nil adV adi none [4] ?_;refine aM.intro hm (X:=Nat) (fun i=>i<=K.L.length) (fun i=>K.L.length - i)
  (fun i=>[(0,.ptr 0 0),(1,.I book),(4,.vec 2 3 (fun _=>0) fun _=>(woT K.L book i).length),(5,.I (i:Int))])
  (fun i=>chF K++[.aq adV adi fun _=>woT K.L book i]) 0 [0,1,2] ⟨rfl,rfl,?_,?_⟩ (aae _) ?_
 .exact Vc
 .exact Vc
 intro i hi;have u7:=aen K.L book i;by_cases dp:i<K.L.length
 .have No:K.L.getD (0+((i:Int)).toNat) adi.bA=K.L.getD i adm:=by rw[aaf,Z4];rfl
  have uu:=ad5 K.L book i dp;rw[<-No]at uu;(refine Wa _ ?_;(repeat' first|exact tv|apply pr|intro hh));all_goals first|exact Ob.mk ⟨by simp only[];omega,by simp only[];omega⟩|(exfalso;omega)|skip
  all_goals first|(refine Ob.mk ⟨rfl,ad2 ?_ Pz⟩;show(woT K.L book i).length+1<=_;omega)|skip
  all_goals first|(rw[Z0 ‹(K.L.getD (0+((i:Int)).toNat) adi.bA).1.1≠book›]at uu)|(rw[ZY (Classical.not_not.2 ‹(K.L.getD (0+((i:Int)).toNat) adi.bA).1.1=book›)]at uu)
  all_goals refine⟨i+1,[0,1,2],⟨rfl,rfl,?_,?_⟩,by show i+1<=_;omega,by show _ - (i+1)<_ - i;omega⟩
  all_goals refine Vb _ ?_;repeat' first|exact tv|apply pr
  all_goals first|(rw[uu,Z6 (Z8 _)];rfl)|(rw[uu,aab];rfl)|(rw[uu];done)|(rw[wr (by omega)];omega)|exact uu.symm|skip
 .refine Wa _ ?_;repeat' first|exact tv|apply pr|intro hh
  all_goals try (exfalso;omega)
  have e:i=K.L.length:=by omega
  subst e;refine ae.w () [0,2] _ ?_;repeat' first|exact tv|apply pr
  .rw[adO]
  .exact adO K.L book
theorem ad6 (K:Kt) (hb:ni K.bk) (id:Int):MU Tryz.prog 42 [.ptr 0 0,.I id] (chF K) (.bQ [aI (nj K.bk id).1,.I ((nj K.bk id).2.1),.I ((nj K.bk id).2.2)]) (chF K):=by
 (refine aa.q Tryz.func42 rfl fun S aw=>Wa _ ?_;(repeat' first|exact tv|apply pr|intro hh));all_goals refine ab.q (adw K.bk hb id) [] fun _ _=>Wp _ ?_;repeat' first|exact tv|apply pr|intro hh
 all_goals exact ae.z () [0,1]
theorem aeT (K:Kt) {m:Nat} (s:Small K m) (Tn:m<=100000) (id:Int) (p:ay):MU Tryz.prog 87 [.ptr 0 0,.I id,aI p] (chF K) (.bQ [.I ((qQ K id p).2.1),.I ((qQ K id p).2.2)]) (chF (qQ K id p).1):=by
 have hl:=s.len;have fR:=aew K.bk s.bk id p;by_cases he:(ie K.bk id p).2.2=0
 .have e:qQ K id p=({ K with bk:=(ie K.bk id p).1,L:=Ky K.L id },(ie K.bk id p).2.1,0):=by unfold qQ;rw[Z0 he]
  rw[e];have hwo:=adx { K with bk:=(ie K.bk id p).1 } (show K.L.length<=100000 by omega) id;(refine aa.q Tryz.func87 rfl fun S aw=>Wa _ ?_;(repeat' first|exact tv|apply pr|intro hh));all_goals refine ab.q fR [] fun _ _=>Wp _ ?_;repeat' first|exact tv|apply pr|intro hh
  all_goals first|(exact absurd he ‹_›)|skip
  all_goals refine ab.q hwo [0,1] fun _ _=>Wp _ ?_;repeat' first|exact tv|apply pr|intro hh
  all_goals refine ae.w () [0,1] _ ?_;repeat' first|exact tv|apply pr
  all_goals exact he
 .have e:qQ K id p=(K,0,(ie K.bk id p).2.2):=by unfold qQ;rw[ZY he]
  have e0:(ie K.bk id p).2.1=0:=by
   revert he;unfold ie;split
   .split <;> simp
   .simp
  rw[e];rw[e0]at fR;(refine aa.q Tryz.func87 rfl fun S aw=>Wa _ ?_;(repeat' first|exact tv|apply pr|intro hh));all_goals refine ab.q fR [] fun _ _=>Wp _ ?_;repeat' first|exact tv|apply pr|intro hh
  all_goals first|(exact absurd ‹_› he)|skip
  all_goals exact ae.z () [0,1]
theorem ad7 (K:Kt) {m:Nat} (s:Small K m) (Tn:m<=100000) (id:Int):MU Tryz.prog 88 [.ptr 0 0,.I id] (chF K) (.I ((adh K id).2)) (chF (adh K id).1):=by
 have hl:=s.len;have fR:=aex K.bk s.bk id;by_cases he:(adg K.bk id).2=0
 .have e:adh K id=({ K with bk:=(adg K.bk id).1,L:=Ky K.L id },0):=by unfold adh;rw[Z0 he]
  rw[e];have hwo:=adx { K with bk:=(adg K.bk id).1 } (show K.L.length<=100000 by omega) id;(refine aa.q Tryz.func88 rfl fun S aw=>Wa _ ?_;(repeat' first|exact tv|apply pr|intro hh));all_goals refine ab.q fR [] fun _ _=>Wp _ ?_;repeat' first|exact tv|apply pr|intro hh
  all_goals first|(exact absurd he ‹_›)|skip
  all_goals refine ab.q hwo [0,1] fun _ _=>Wp _ ?_;repeat' first|exact tv|apply pr|intro hh
  all_goals refine ae.w () [0,1] _ ?_;repeat' first|exact tv|apply pr
  all_goals exact he
 .have e:adh K id=(K,(adg K.bk id).2):=by unfold adh;rw[ZY he]
  rw[e];(refine aa.q Tryz.func88 rfl fun S aw=>Wa _ ?_;(repeat' first|exact tv|apply pr|intro hh));all_goals refine ab.q fR [] fun _ _=>Wp _ ?_;repeat' first|exact tv|apply pr|intro hh
  all_goals first|(exact absurd ‹_› he)|skip
  all_goals exact ae.z () [0,1]
theorem del_eq {L:Hs} {p:Nat} (hp:p<=L.length) (P3:p+1<=L.length):List.take (0+(List.take (((p:Int)).toNat - Int.toNat 0) (List.drop (0+Int.toNat 0) L)).length) (List.take 0 []++List.take (((p:Int)).toNat - Int.toNat 0) (List.drop (0+Int.toNat 0) L))++List.take (((L.length:Int)).toNat - (((p+1:Nat):Int)).toNat) (List.drop (0+(((p+1:Nat):Int)).toNat) L)
  = L.take p++L.drop (p+1):=by
 have e1:((p:Int)).toNat - Int.toNat 0=p:=by simp
 have e2:(0+Int.toNat 0)=0:=rfl;rw[e1,e2,aah,Z4,Z4,aaf,aaf,abR,ab3];have h3:(L.take p).length=p:=by rw[aak,aa0 hp]
 rw[h3,acr,Nat.min_self,Z6 (l:=L.drop (p+1)) (by rw[aar];exact Z8 _)]
theorem ad8 (K:Kt) {m:Nat} (s:Small K m) (Tn:m<=100000) (nm:Nm):MU Tryz.prog 89 [.ptr 0 0,zB nm] (chF K) (.I ((om K nm).2)) (chF (om K nm).1):=by
 have Pz:Tryz.t145.bytes<=1000:=by decide
 have hl:=s.len;have uA:=y8 nm;have cL:=adw K.bk s.bk nm.1;have vX:=adB K (by omega) nm;have hle:=adz K.L nm;cases hn:fy nm with
 | false =>
  rw[hn]at uA;have e:om K nm=(K,1):=by unfold om;rw[hn];rfl
  rw[e];(refine aa.q Tryz.func89 rfl fun S aw=>Wa _ ?_;(repeat' first|exact tv|apply pr|intro hh));(refine ab.q uA [] fun _ _=>Wp _ ?_;(repeat' first|exact tv|apply pr|intro hh));all_goals exact ae.z () [0,1]
 | true =>
  rw[hn]at uA;cases hb:cC K.bk nm.1 with
  | none =>
   have e:om K nm=(K,5):=by unfold om;rw[hn,hb];rfl
   rw[e];rw[get_none hb,Z0 (rA hn)]at cL;(refine aa.q Tryz.func89 rfl fun S aw=>Wa _ ?_;(repeat' first|exact tv|apply pr|intro hh));(refine ab.q uA [] fun _ _=>Wp _ ?_;(repeat' first|exact tv|apply pr|intro hh));all_goals refine ab.q cL [] fun _ _=>Wp _ ?_;repeat' first|exact tv|apply pr|intro hh
   all_goals exact ae.z () [0,1]
  | some pv =>
   obtain⟨p,v⟩:=pv;have e:om K nm=({ K with L:=adk K.L nm },0):=by unfold om;rw[hn,hb];rfl
   rw[e];rw[si hb]at cL;have adR:=adX K.L nm;cases hi:isL K.L nm with
   | false =>
    rw[hi]at vX adR;rw[ZY (by decide)]at adR;rw[adR];(refine aa.q Tryz.func89 rfl fun S aw=>Wa _ ?_;(repeat' first|exact tv|apply pr|intro hh));(refine ab.q uA [] fun _ _=>Wp _ ?_;(repeat' first|exact tv|apply pr|intro hh));all_goals refine ab.q cL [] fun _ _=>Wp _ ?_;repeat' first|exact tv|apply pr|intro hh
    all_goals refine ab.q vX [0,1] fun _ _=>Wp _ ?_;repeat' first|exact tv|apply pr|intro hh
    all_goals exact ae.z () [0,1]
   | true =>
    have bf:QD K.L nm<K.L.length:=(of_decide_eq_true (show decide (_/\_)=true from hi)).1;have ew:IntKind.i64.wrap ((QD K.L nm:Int)+1)=((QD K.L nm+1:Nat):Int):=by rw[wr (by omega)];omega
    rw[hi]at vX adR;rw[Z0 rfl]at adR;rw[adR];(refine aa.q Tryz.func89 rfl fun S aw=>Wa _ ?_;(repeat' first|exact tv|apply pr|intro hh));(refine ab.q uA [] fun _ _=>Wp _ ?_;(repeat' first|exact tv|apply pr|intro hh));all_goals refine ab.q cL [] fun _ _=>Wp _ ?_;repeat' first|exact tv|apply pr|intro hh
    all_goals refine ab.q vX [0,1] fun _ _=>Wp _ ?_;repeat' first|exact tv|apply pr|intro hh
    all_goals simp only[ew]
    all_goals first|exact Ob.mk ⟨by omega,by omega,by omega⟩|(refine Ob.mk ⟨by trivial,ad2 ?_ Pz⟩;simp only[aak,aar,Z4,acs,aaf,Nat.sub_zero];omega)|skip
    all_goals refine ae.w () [0,4] _ ?_;repeat' first|exact tv|apply pr
    all_goals first|(simp[aa0 hle];done)|(rw[del_eq hle (by omega)])|(simp;omega)
def aeU (n sd:Int):AV:=.agg [.I n,.int .u64 fun _=>sd]
theorem aeV (n sd:Int) (hn:1<=n/\n<=64):MU Tryz.prog 38 [aeU n sd] [] (.bQ [.ptr 0 0,.I 0]) (chF ⟨n,0,LV,[]⟩):=by
 (refine aa.q Tryz.func38 rfl fun S aw=>Wa _ ?_;(repeat' first|exact tv|apply pr|intro hh));all_goals try (exfalso;omega)
 all_goals refine ab.q aey [] fun _ _=>Wq _ ?_;repeat' first|exact tv|apply pr|intro hh
 all_goals refine aB.nil adV adi (some (1,3)) [] ?_
 all_goals (conv=>whnf)
 all_goals refine Wa _ ?_;repeat' first|exact tv|apply pr|intro hh
 all_goals exact ae.z () [1,2]
theorem ad9 (n sd:Int) (hn:¬(1<=n/\n<=64)):MU Tryz.prog 38 [aeU n sd] [] (.bQ [.bW,.I 1]) []:=by
 (refine aa.q Tryz.func38 rfl fun S aw=>Wa _ ?_;(repeat' first|exact tv|apply pr|intro hh));all_goals try (exfalso;omega)
 all_goals exact ae.z () []
end Go.Proofs.YthnefnlhcijekaaGreat.En
set_option maxRecDepth 8000
namespace Go.Proofs.YthnefnlhcijekaaGreat.En
open Go Go.RowKit Fw Hi Ce
section
variable {K:Kt} {m:Nat}
end
set_option maxHeartbeats 1000000 in
theorem aeW {K:Kt} {m:Nat} (s:Small K m) (Tn:m<=100000) (o:ZW):MU Tryz.prog 39 [.ptr 0 0,aeO o] (chF K) (adT (adf K o).2) (chF (adf K o).1):=by
 have Zb:=s.now;have Pe:ke=1099511627776:=rfl;refine aa.q Tryz.func39 rfl fun S aw=>Wa _ ?_;repeat' first|exact tv|apply pr|intro hh
 .have e:adf K o=((dV K (oNm o) (oW o)).1,(dV K (oNm o) (oW o)).2,0):=by unfold adf;rw[Z0 hh]
  rw[e];(refine ab.q (aem K s Tn (oNm o) (oW o)) [0,1] fun _ _=>Wp _ ?_;(repeat' first|exact tv|apply pr|intro hh));exact ae.z () [0,1]
 .have e:adf K o=(K,(gB K (oNm o) (oW o)).2.1,0):=by unfold adf;rw[ZY (by omega),Z0 hh]
  rw[e];(refine ab.q (aeA K s Tn (oNm o) (oW o)) [0,1] fun _ _=>Wp _ ?_;(repeat' first|exact tv|apply pr|intro hh));exact ae.z () [0,1]
 .have e:adf K o=(mq K o.2.2.1,(0,zeroV),(mq K o.2.2.1).now):=by unfold adf;rw[ZY (by omega),ZY (by omega),Z0 hh]
  rw[e];(refine ab.q (ad3 K o.2.2.1) [0,1] fun _ _=>Wp _ ?_;(repeat' first|exact tv|apply pr|intro hh));exact ae.z () [0,1]
 .have e:adf K o=(K,(0,zeroV),0):=by unfold adf;rw[ZY (by omega),ZY (by omega),ZY (by omega),Z0 (by assumption),Z0 (by omega)]
  rw[e];exact ae.z () [0,1]
 .have e:adf K o=(mq K (K.now+o.2.2.1),(0,zeroV),(mq K (K.now+o.2.2.1)).now):=by unfold adf;rw[ZY (by omega),ZY (by omega),ZY (by omega),Z0 (by assumption),ZY (by omega)]
  rw[e];have ew:IntKind.i64.wrap (K.now+o.2.2.1)=K.now+o.2.2.1:=wr (by omega);simp only[ew];(refine ab.q (ad3 K (K.now+o.2.2.1)) [0,1] fun _ _=>Wp _ ?_;(repeat' first|exact tv|apply pr|intro hh));exact ae.z () [0,1]
 .have e:adf K o=(K,(0,zeroV),0):=by unfold adf;rw[ZY (by omega),ZY (by omega),ZY (by omega),Z0 (by assumption),Z0 (by omega)]
  rw[e];exact ae.z () [0,1]
 .have e:adf K o=((qQ K o.2.1.1 o.2.2.2).1,((qQ K o.2.1.1 o.2.2.2).2.2,zeroV),(qQ K o.2.1.1 o.2.2.2).2.1):=by unfold adf;rw[ZY (by omega),ZY (by omega),ZY (by omega),ZY (by omega),Z0 hh]
  rw[e];(refine ab.q (aeT K s Tn o.2.1.1 o.2.2.2) [0,1] fun _ _=>Wp _ ?_;(repeat' first|exact tv|apply pr|intro hh));exact ae.z () [0,1]
 .have e:adf K o=((adh K o.2.1.1).1,((adh K o.2.1.1).2,zeroV),0):=by unfold adf;rw[ZY (by omega),ZY (by omega),ZY (by omega),ZY (by omega),ZY (by omega),Z0 hh]
  rw[e];(refine ab.q (ad7 K s Tn o.2.1.1) [0,1] fun _ _=>Wp _ ?_;(repeat' first|exact tv|apply pr|intro hh));exact ae.z () [0,1]
 .have e:adf K o=((om K (oNm o)).1,((om K (oNm o)).2,zeroV),0):=by unfold adf;rw[ZY (by omega),ZY (by omega),ZY (by omega),ZY (by omega),ZY (by omega),ZY (by omega),Z0 hh]
  rw[e];(refine ab.q (aep (oNm o) (oW o)) [] fun _ _=>Wp _ ?_;(repeat' first|exact tv|apply pr|intro hh));(refine ab.q (ad8 K s Tn (oNm o)) [0,1] fun _ _=>Wp _ ?_;(repeat' first|exact tv|apply pr|intro hh));exact ae.z () [0,1]
 .have e:adf K o=(K,(0,zeroV),0):=by unfold adf;rw[ZY (by omega),ZY (by omega),ZY (by omega),ZY (by omega),ZY (by omega),ZY (by omega),ZY (by omega)]
  rw[e];exact ae.z () [0,1]
end Go.Proofs.YthnefnlhcijekaaGreat.En
set_option maxRecDepth 8000
namespace Go.Proofs.YthnefnlhcijekaaGreat.En
open Go Go.RowKit Fw Hi Ce
def aeX (i:Nat) (K:Kt):List Chunk:=[.cells aeS [.I K.n,.aL c7 fun _=>K.bk,.I K.now,.vec i 3 (fun _=>0) fun _=>K.L.length],.aq adV adi fun _=>K.L]
structure ScI (l:List ZW) (z:Nat×Kt×Nat):Prop where
 le:z.1<=l.length
 s:Small z.2.1 (2*z.1)
set_option maxHeartbeats 1000000 in
theorem aea (n sd:Int) (l:List ZW) (hN:∀ o∈l,ae6 o):MU Tryz.prog 12 [Ir n sd,.aL OpT fun _=>l] [] .tt []:=by
 have Kn:=ae5 l 60 (by omega);by_cases hf:Zk l 60;rotate_left
 .rw[decide_eq_false hf]at Kn
  (refine aa.q Tryz.func12 rfl fun S aw=>Wa _ ?_;(repeat' first|exact tv|apply pr|intro hh));(refine ab.q Kn [] fun _ _=>Wp _ ?_;(repeat' first|exact tv|apply pr|intro hh));all_goals refine ab.q Qv [] fun _ _=>Wp _ ?_;repeat' first|exact tv|apply pr|intro hh
  all_goals exact ae.z () []
 rw[decide_eq_true hf]at Kn;by_cases hn:1<=n/\n<=64;rotate_left
 .refine aa.q Tryz.func12 rfl fun S aw=>Wa _ ?_;repeat' first|exact tv|apply pr|intro hh
  (refine ab.q Kn [] fun _ _=>Wp _ ?_;(repeat' first|exact tv|apply pr|intro hh));all_goals refine ab.q (S7 n sd hn) [] fun _ _=>Wp _ ?_;repeat' first|exact tv|apply pr|intro hh
  all_goals refine ab.q (ad9 n sd hn) [] fun _ _=>Wp _ ?_;repeat' first|exact tv|apply pr|intro hh
  all_goals refine ab.q Qv [] fun _ _=>Wp _ ?_;repeat' first|exact tv|apply pr|intro hh
  all_goals exact ae.z () []
 have hl60:=hf.1;(refine aa.q Tryz.func12 rfl fun S aw=>Wa _ ?_;(repeat' first|exact tv|apply pr|intro hh));(refine ab.q Kn [] fun _ _=>Wp _ ?_;(repeat' first|exact tv|apply pr|intro hh));all_goals refine ab.q (Zi n sd hn) [] fun _ _=>Wp _ ?_;repeat' first|exact tv|apply pr|intro hh
 all_goals refine ab.q (aeV n sd hn) [] fun _ _=>Wp _ ?_;repeat' first|exact tv|apply pr|intro hh
 refine aM.intro hm (X:=Nat×Kt×Nat) (ScI l) (fun z=>l.length - z.1)
  (fun z=>[(1,.aL OpT fun _=>l),(5,.ptr 0 0),(7,.ptr 1 0),(9,.I (z.1:Int))])
  (fun z=>.bq (nn z.2.1 (2*z.1) z.2.2)::aeX 2 z.2.1) (0,W6 n,0) [1,2,3] ⟨rfl,rfl,?_,?_⟩ ⟨aae _,Small.zero hn⟩ ?_
 .exact Vc
 .exact Vc
 rintro⟨i,K,c⟩ hI;have hi:=hI.le;have hs:=hI.s;simp only[]at hi hs;refine Wa _ ?_;repeat' first|exact tv|apply pr|intro hh
 .exact Ob.mk ⟨by simp only[];omega,by simp only[];omega⟩
 .have dp:i<l.length:=by omega
  have hto:=aeP (m:=2*i) (m':=2*(i+1)) (c:=c) hs (l.getD i OpT.bA) (hN _ (adU dp)) (by omega) (by omega);have hsa:=aeW hs (by omega) (l.getD i OpT.bA);have ZP:=(hs.say (l.getD i OpT.bA)).up (show 2*i+1<=2*(i+1) by omega);refine ab.q hto [0] ?_;rintro c' _;refine Wp _ ?_;repeat' first|exact tv|apply pr|intro hh
  .exact Ob.mk ⟨by simp only[];omega,by simp only[];omega⟩
  (refine ab.q hsa [1,2] fun _ _=>Wp _ ?_;(repeat' first|exact tv|apply pr|intro hh));all_goals first|(exact absurd rfl ((Gk _ rfl _ _).1 hh))|(exact absurd rfl hh)|skip
  (refine ab.q (adN (adf K (l.getD i OpT.bA)).1 ZP (by omega)) [1,2] fun _ _=>Wp _ ?_;(repeat' first|exact tv|apply pr|intro hh));(refine ab.q (Vp (K:=(adf K (l.getD i OpT.bA)).1) (m:=2*(i+1)) (c:=c')) [0] ?_;rintro _ ⟨⟨q1,q2⟩,q3⟩;refine Wp _ ?_;(repeat' first|exact tv|apply pr|intro hh));all_goals refine ab.q (W7 (eD (adf K (l.getD i OpT.bA)).1) (eD (adf K (l.getD i OpT.bA)).1) (by omega)) [] fun _ _=>Wp _ ?_;repeat' first|exact tv|apply pr|intro hh
  all_goals first|(exact absurd ‹_=false› (by simp))|skip
  all_goals try ((refine ab.q (adK (K:=(adf K (l.getD i OpT.bA)).1) (m:=2*(i+1)) (c:=c')) [0] fun _ _=>Wp _ ?_;(repeat' first|exact tv|apply pr|intro hh)))
  all_goals try (exfalso;omega)
  all_goals try ((refine ab.q (adK (K:=(adf K (l.getD i OpT.bA)).1) (m:=2*(i+1)) (c:=c')) [0] fun _ _=>Wp _ ?_;(repeat' first|exact tv|apply pr|intro hh)))
  all_goals try (exfalso;omega)
  all_goals refine⟨(i+1,(adf K (l.getD i OpT.bA)).1,c'),[0,1,2],⟨rfl,rfl,?_,?_⟩,⟨dp,ZP⟩,by show _ - (i+1)<_ - i;omega⟩
  all_goals refine Vb _ ?_;repeat' first|exact tv|apply pr
  all_goals first|(rw[wr (by omega)];omega)|skip
 have hB:ni K.bk:=hs.bk;have Wk:=adw K.bk hB;refine aM.intro hm (X:=Nat) (fun j=>j<=10) (fun j=>10 - j)
  (fun j=>[(5,.ptr 0 0),(7,.ptr 1 0),(15,.I ((j:Int) - 1))])
  (fun j=>.bq (nn K (2*i) c)::aeX 2 K) 0 [0,1,2] ⟨rfl,rfl,?_,?_⟩ (aae _) ?_
 .exact Vc
 .exact Vc
 intro j hj;refine Wa _ ?_;repeat' first|exact tv|apply pr|intro hh
 .refine ab.q (aeh (K:=K) (m:=2*i) (c:=c) ((j:Int) - 1)) [0] fun _ _=>Wp _ ?_;repeat' first|exact tv|apply pr|intro hh
  (refine ab.q (ad6 K hB ((j:Int) - 1)) [1,2] fun _ _=>Wp _ ?_;(repeat' first|exact tv|apply pr|intro hh));all_goals first|(exact absurd rfl ((Gk _ rfl _ _).1 hh))|(exact absurd rfl hh)|skip
  refine⟨j+1,[0,1,2],⟨rfl,rfl,?_,?_⟩,by omega,by omega⟩
  .exact Vc
  .refine Vb _ ?_;repeat' first|exact tv|apply pr
   rw[wr (by omega)];omega
 .refine ab.q Qv [] fun _ _=>Wp _ ?_;repeat' first|exact tv|apply pr|intro hh
  exact ae.z () []
end Go.Proofs.YthnefnlhcijekaaGreat.En
namespace Go.Proofs.YthnefnlhcijekaaGreat.REngineScripts
open Go Go.ChangeShapes Go.WideShapes Go.ChangeAt Go.RowKit Fw
theorem own:ownKnob Tryz.prog.godebug=none:=by kernel_rfl
theorem laidOut:laidOutB Tryz.prog=true:=Si
theorem kids:Kids Tryz.prog (·<Tryz.prog.types.size):=Xa
theorem readable:∀ t∈Tryz.f12.params.toList,Tryz.prog.readableRec t=true/\t<Tryz.prog.types.size:=by
 have h:(Tryz.f12.params.toList.all fun t=>Tryz.prog.readableRec t && decide (t<Tryz.prog.types.size))=true:=by kernel_rfl
 intro t ht;have:=abb.1 h t ht;rw[aai,decide_eq_true_eq]at this;exact this
set_option maxRecDepth 100000 in
theorem lifted (os:Os) (started:os.Started) (H:Type) (enc:TypeId×Value->H) :
  ReturnsInHanded {} Tryz.checked os 12 .any (Rows.engineScriptsSpec.pre6 enc Tryz.prog Tryz.f12 Rows.engineScriptsRow.domain false) (Rows.engineScriptsSpec.post enc Tryz.prog Tryz.f12 false true false false):=by
 refine returnsInHanded_of_change (C:=Tryz.checked) own started (by kernel_rfl) Tryz.func12
  (ChangeSpec.witness6 (enc:=enc) (C:=Tryz.checked) false ⟨#[],#[.agg #[.int .i64 0,.int .u64 0],.slice none 0 0],[]⟩ 8 (by kernel_rfl) (by kernel_rfl) (by kernel_rfl) (by kernel_rfl)) ?_
 intro W base args ds gs before aeY hW hcnd _;have ln:∀ (j:Nat) t v,Tryz.f12.params[j]?=some t->args[j]?=some v->Value.okWide Tryz.prog W .any base t v:=aeY;have Zq:DataW.Whole enc Tryz.prog Tryz.f12.params.toList Rows.engineScriptsSpec.vars false W args.toList ds gs before:=hW;obtain⟨p,q,hA0,hV,_,_,_⟩:=Zq;have hA:DataW.TrodAll enc Tryz.prog W 0 (fun _=>true) true Tryz.f12.params.toList args.toList ds p:=hA0;rw[Tryz.params12]at hA ln;obtain⟨v0,v1,d0,d1,p0,p1,rfl,rfl,rfl,h0,h1⟩:=trodAll_two hA;obtain⟨rfl,rfl⟩:=trodVars_none hV;obtain⟨a0,afE,w0⟩:=OR (ty:=(.pair (.int .i64) (.int .u64))) kids rfl rfl (of_decide_eq_true (by kernel_rfl)) (by kernel_rfl) (ln 0 _ v0 rfl rfl) h0;obtain⟨a1,r1,w1⟩:=Se (ty:=(.list En.OpT)) kids rfl rfl (of_decide_eq_true (by kernel_rfl)) (by kernel_rfl) (ln 1 _ v1 rfl rfl) h1;refine(S9 (aC:=[v0,v1]) (En.aea a0.1 a0.2 a1 (fun o ho=>(w1.2 o ho).2.2.1)) (fun _ _=>rfl) ⟨afE,r1.1,trivial⟩).mono ?_;rintro e W' ⟨rfl,hb⟩;exact⟨_,rfl,Sg laidOut hW rfl rfl (by rfl) Tryz.underlying4 readable hb⟩
theorem aeb:Tryz.prog.inPlace 12=Rows.engineScriptsRow.inPlace:=by kernel_rfl
theorem adt:Tryz.prog.unfollowed 12=Rows.engineScriptsRow.unfollowed:=by kernel_rfl
theorem adS:Tryz.prog.recurses 12=Rows.engineScriptsRow.recurses:=by unfold Program.recurses;rw[adt];first|exact Bool.true_or _|kernel_rfl
theorem aeD:Tryz.prog.varsNamed 12=Rows.engineScriptsRow.named:=by kernel_rfl
theorem closed:joinedFacts Tryz.prog 12 Tryz.f12 Rows.engineScriptsSpec Rows.engineScriptsRow=true:=by
 unfold joinedFacts;rw[aeb,adt,adS,aeD,Si,Sj,Vt,Vu,Vv,Vw,W9];kernel_rfl
theorem holds:Rows.EngineScriptsSaid :=
 OpenClaim.holds_of_wide 12 Tryz.f12 rfl rfl rfl rfl rfl rfl rfl ⟨rfl,rfl,rfl,rfl,rfl⟩ rfl rfl rfl rfl rfl (by kernel_rfl) Tryz.func12 closed
  (of_decide_eq_true (by kernel_rfl)) (by unfold Func.isWrapper;first|(rw[Z0 (by decide +kernel)];kernel_rfl)|(rw[ZY (by decide +kernel)];exact⟨rfl,rfl⟩))
  (fun os started H enc _=>lifted os started H enc)
end Go.Proofs.YthnefnlhcijekaaGreat.REngineScripts
#print axioms Go.Proofs.YthnefnlhcijekaaGreat.REngineScripts.holds
