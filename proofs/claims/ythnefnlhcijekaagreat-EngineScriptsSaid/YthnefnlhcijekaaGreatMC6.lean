/- What the laws of this chapter rest on, for every input; part 7. -/
import Derived.Test.YthnefnlhcijekaaGreatMC5
import Derived.ProofKit
import Derived.OpenShut
import Derived.JoinedCond
import Derived.Test.YthnefnlhcijekaaGreatRows
set_option linter.unusedVariables false
set_option linter.unusedSimpArgs false
set_option maxRecDepth 8000
namespace Go.Proofs.YthnefnlhcijekaaGreat.En
open Go Go.RowKit Fw Hi Ce Bt Eb
structure OM (K:Kt) (c:Nat):Prop where
 lo:(eD K).length<=c
 hi:(c:Int)<=K.n
structure zL (K:Kt) (m c:Nat) (x:Es):Prop where
 ok:kR x
 rel:Rel x.a K m
 G:x.G<=100*m
 len:x.a.ord.length=c
theorem zL.bF {K:Kt} {m c:Nat} {x:Es} (p:zL K m c x):OM K c:=by
 refine⟨?_,?_⟩
 .rw[<-p.len];exact zz p.rel p.ok.inv
 .rw[<-p.len,p.rel.n];have:=oD p.ok.inv;omega
abbrev nn (K:Kt) (m c:Nat):OQ:=DO (zL K m c) fun x=>pk (iy x)
theorem uq.p {x y:Es} {K:Kt} {N m m':Nat} (h:uq x K N y) (hG:x.G<=100*m) (hm:m+1<=m') (hN:N<=m'):zL K m' y.a.ord.length y :=
 ⟨h.ok,h.rel.up hN,by have:=h.G;omega,rfl⟩
section
variable {K:Kt} {m m' c:Nat}
theorem Vo (nm:Nm) (w:Int) (h1:m<=999990) (h2:m+1<=m'):aa Tryz.prog 29 [.ptr 0 0,vR nm w] [.bq (nn K m c)] (Y:=Nat) (OM (dV K nm w).1)
  (fun _=>Ih (dV K nm w).2) (fun c'=>[.bq (nn (dV K nm w).1 m' c')]):=by
 refine aa.boxed ⟨_,Tryz.func29,rfl,by decide⟩ (fun x p=>?_) rfl (fun _ _=>rfl) (fun _ _=>rfl);exact(iW x p.ok p.rel (by omega) (by have:=p.G;omega) nm w).as fun y h=>⟨(y.a.ord.length,y),⟨(h.p p.G h2 h2).bF,h.p p.G h2 h2⟩,rfl,rfl⟩
theorem W0 (t:Int) (h2:m+1<=m'):aa Tryz.prog 23 [.ptr 0 0,.I t] [.bq (nn K m c)] (Y:=Nat) (OM (mq K t))
  (fun _=>.int .i64 fun _=>(mq K t).now) (fun c'=>[.bq (nn (mq K t) m' c')]):=by
 refine aa.boxed ⟨_,Tryz.func23,rfl,by decide⟩ (fun x p=>?_) rfl (fun _ _=>rfl) (fun _ _=>rfl);exact(R6 x p.ok p.rel t).as fun y h=>⟨(y.a.ord.length,y),⟨(h.p p.G h2 (by omega)).bF,h.p p.G h2 (by omega)⟩,rfl,rfl⟩
theorem Zh (id:Int) (q:ay) (h2:m+1<=m'):aa Tryz.prog 24 [.ptr 0 0,.I id,aI q] [.bq (nn K m c)] (Y:=Nat) (OM (qQ K id q).1)
  (fun _=>.bQ [.I ((qQ K id q).2.1),.I ((qQ K id q).2.2)]) (fun c'=>[.bq (nn (qQ K id q).1 m' c')]):=by
 refine aa.boxed ⟨_,Tryz.func24,rfl,by decide⟩ (fun x p=>?_) rfl (fun _ _=>rfl) (fun _ _=>rfl);exact(AK x p.ok p.rel id q).as fun y h=>⟨(y.a.ord.length,y),⟨(h.p p.G h2 (by omega)).bF,h.p p.G h2 (by omega)⟩,rfl,rfl⟩
theorem Vp:aa Tryz.prog 28 [.ptr 0 0] [.bq (nn K m c)] (Y:=Unit) (fun _=>OM K c/\K.n<=64)
  (fun _=>.aL uR fun _=>eD K) (fun _=>[.bq (nn K m c)]):=by
 refine aa.boxed ⟨_,Tryz.func28,rfl,by decide⟩ (fun x p=>?_) rfl (fun _ _=>rfl) (fun _ _=>rfl);exact(OI x p.ok p.rel).as fun _ _=>⟨((),x),⟨⟨p.bF,by rw[p.rel.n];have:=p.ok.inv.n;omega⟩,p⟩,rfl,rfl⟩
structure ON (K:Kt) (c:Nat) (aF:Int) (y:Nat×Int):Prop where
 bF:OM K y.1
 le:y.1<=c
 lo:0<=y.2
 hi:y.2<=max aF 0
 all:64<=aF->y.1=(eD K).length
theorem W3 (aF:Int) (C3:-9223372036854775808<=aF/\aF<=9223372036854775807) (h1:m<=999990) (h2:m+1<=m'):aa Tryz.prog 36 [.ptr 0 0,.I aF] [.bq (nn K m c)] (Y:=Nat×Int) (ON K c aF)
  (fun y=>.int .i64 fun _=>y.2) (fun y=>[.bq (nn K m' y.1)]):=by
 refine aa.boxed ⟨_,Tryz.func36,rfl,by decide⟩ (fun x p=>?_) rfl (fun _ _=>rfl) (fun _ _=>rfl);refine(Sa x p.ok p.rel (by have:=p.G;omega) aF C3).as fun y h=>?_;have hp:zL K m' y.1.a.ord.length y.1:=⟨h.ok,h.rel.up (by omega),by have:=h.G;have:=p.G;omega,rfl⟩
 refine⟨((y.1.a.ord.length,y.2),y.1),⟨⟨hp.bF,by rw[<-p.len];exact h.len,h.lo,h.hi,fun WY=>?_⟩,hp⟩,rfl,rfl⟩;rw[mV h.rel h.ok.inv,List.filter_eq_self.2 (h.all WY)]
theorem W4:aa Tryz.prog 25 [.ptr 0 0] [.bq (nn K m c)] (Y:=Nat) (OM K)
  (fun _=>.ptr 1 0) (fun c'=>[.bq (nn K m c),.bq (nn K m c')]):=by
 refine aa.Is (ch:=iy) (p1:=fun _=>zL K m c) (p2:=zL K m) (out:=fun y=>iy y.2.1++Vm y.2.2) (res:=fun _=>.ptr 7 0) [0,1,2,3,4,5,6] [7,8,9,10,11,12,13] 7 ⟨_,Tryz.func25,rfl,by decide⟩ (fun x p=>?_) rfl (fun _ _=>rfl) (fun y=>?_) (fun y=>?_) rfl rfl (by decide) rfl rfl (fun _=>rfl)
 .refine(Sb x p.ok p.rel).as fun y h=>?_
  have hp:zL K m y.a.ord.length y:=⟨h.ok,h.rel,by have:=h.G;omega,rfl⟩
  exact⟨(y.a.ord.length,x,y),⟨hp.bF,p,hp⟩,rfl,rfl⟩
 .exact Vc
 .exact Vc
end
def W6 (n:Int):Kt:=⟨n,0,LV,[]⟩
theorem Zi (n sd:Int) (hn:1<=n/\n<=64):MU Tryz.prog 22 [Ir n sd] [] (.bQ [.ptr 0 0,.I 0]) [.bq (nn (W6 n) 0 0)]:=by
 obtain⟨k,rfl⟩:∃ k:Nat,n=(k:Int):=⟨n.toNat,by omega⟩
 have hk:1<=k/\k<=64:=by omega
 exact aa.lQ ((nc k sd hk).as fun c _=>⟨((),OK k sd c),⟨trivial,⟨kR.new hk sd c,Rel.new k,aae _,rfl⟩⟩,rfl,rfl⟩) fun _ _=>rfl
end Go.Proofs.YthnefnlhcijekaaGreat.En
namespace Go.Proofs.YthnefnlhcijekaaGreat.En
open Go Go.RowKit Fw Hi Ce
structure Small (K:Kt) (m:Nat):Prop where
 bk:ni K.bk
 n:1<=K.n/\K.n<=64
 now:0<=K.now/\K.now<=ke
 len:K.L.length<=m
 fM:∀ x∈K.L,x.2.length<=m
theorem Small.at_ {K:Kt} {m:Nat} (s:Small K m) (nm:Nm):(aY K.L nm).length<=m:=by
 rw[Kz];split
 .rename_i h
  obtain⟨x,hx,_⟩:=(RZ _ _).1 h;rw[ZZ,hx];exact s.fM x (abU hx)
 .exact aae _
end Go.Proofs.YthnefnlhcijekaaGreat.En
namespace Go.Proofs.YthnefnlhcijekaaGreat.Fw
open Go Go.RowKit
theorem Inv.bq {B:bS} {g:Gh} {env:Env} {E:List Chunk} {tmps:Array Value} {w:World} (h:Inv B g env E tmps w) {i:Nat} {q q':OQ} (hi:af E i=.bq q) (hq:∀ Φ b S hp,q.h Φ b S hp->q'.h Φ b S hp):Inv B g env (a8 E i (.bq q')) tmps w:=by
 have hs:=h.aW.sat i;rw[hi]at hs;exact⟨h.er,h.aW.swap hi (B4 hq hs),h.ext.Lu hi⟩
section
variable {P:Program} {N:Nat} {M:List Bool} {S:Sc} {c:Code} {env:Env} {E:List Chunk} {K:Ex->Env->List Chunk->Prop}
theorem ae.bq {l:List AV} {Y:Type} {Q:Y->Prop} {res:Y->List AV} {out:Y->List Chunk} (i:Nat) (q q':OQ) (hi:af E i=.bq q) (hq:∀ Φ b S hp,q.h Φ b S hp->q'.h Φ b S hp) (k:ae M env (a8 E i (.bq q')) l Q res out):ae M env E l Q res out where
 h:=fun B g tmps w cs hB hI hr=>k.h B g tmps w cs hB (hI.bq hi hq) hr
end
end Go.Proofs.YthnefnlhcijekaaGreat.Fw
set_option maxRecDepth 8000
namespace Go.Proofs.YthnefnlhcijekaaGreat.En
open Go Go.RowKit Fw Hi Ce
section
variable {K:Kt} {m m':Nat}
theorem Small.up (s:Small K m) (h:m<=m'):Small K m':=⟨s.bk,s.n,s.now,aaA s.len h,fun x hx=>aaA (s.fM x hx) h⟩
theorem C8:∀ (L:Hs) (nm:Nm) (l:List bc),(jM L nm l).length<=L.length+1
 | [],_,_=>Z8 _
 | x::r,nm,l=>by
  unfold jM;split
  .have:=C8 r nm l;rw[Z9,Z9];omega
  .split
   .rw[Z9,Z9];omega
   .rw[Z9];exact Z8 _
theorem C9:∀ (L:Hs) (nm:Nm) (l:List bc) (x:Nm×List bc),x∈jM L nm l->x∈L\/x=(nm,l)
 | [],_,_,x,h=>.inr (by simpa [jM]using h)
 | y::r,nm,l,x,h=>by
  unfold jM at h;split at h
  .rcases aaj.1 h with h1|h1
   .exact .inl (aaj.2 (.inl h1))
   .exact(C9 r nm l x h1).imp (fun h=>Z5 _ h) id
  .split at h
   .rcases aaj.1 h with h1|h1
    .exact .inr h1
    .exact .inl (Z5 _ h1)
   .rcases aaj.1 h with h1|h1
    .exact .inr h1
    .exact .inl h1
theorem It (s:Small K m) (nm:Nm) (w:Int):(gB K nm w).1.length<=m+1:=by
 have:=s.at_ nm;unfold gB;split
 .cases cC K.bk nm.1 with
  | none=>exact aae _
  | some pv =>
   have:=Kp pv.1 (aY K.L nm) K.now w;simp only[];omega
 .exact aae _
theorem Small.check (s:Small K m) (nm:Nm) (w:Int):Small (dV K nm w).1 (m+1):=by
 unfold dV;split
 .split
  .exact s.up (by omega)
  .refine⟨s.bk,s.n,s.now,?_,fun x hx=>?_⟩
   .have:=C8 K.L nm (gB K nm w).1
    have:=s.len;show(jM K.L nm _).length<=_;omega
   .rcases C9 _ _ _ _ hx with h|h
    .exact Nat.le_succ_of_le (s.fM x h)
    .rw[h];exact It s nm w
 .exact s.up (by omega)
theorem Small.tick (s:Small K m) (t:Int):Small (mq K t) m:=by
 unfold mq;split
 .rename_i h;exact⟨s.bk,s.n,⟨by have:=s.now;show 0<=t;omega,h.2⟩,s.len,s.fM⟩
 .exact s
theorem Small.sub (s:Small K m) {L:Hs} (h:L.Sublist K.L):Small { K with L:=L } m :=
 ⟨s.bk,s.n,s.now,aaA h.length_le s.len,fun x hx=>s.fM x (h.subset hx)⟩
theorem Small.set (s:Small K m) (id:Int) (p:ay):Small (qQ K id p).1 m:=by
 unfold qQ;split
 .rename_i h
  have h2:=s.sub (L:=Ky K.L id) (acy ..);exact⟨(zG s.bk h).ok,h2.n,h2.now,h2.len,h2.fM⟩
 .exact s
theorem Small.zero {n:Int} (hn:1<=n/\n<=64):Small (W6 n) 0:=⟨LW,hn,⟨aad _,by show(0:Int)<=ke;unfold ke;omega⟩,Z8 _,fun x hx=>by cases hx⟩
end
abbrev Zj:Ty:=.pair (.int .i64) (.pair .str (.int .i64))
theorem Vq {K:Kt} {m m' c:Nat} (h:m<=m'):∀ Φ b S hp,(nn K m c).h Φ b S hp->(nn K m' c).h Φ b S hp:=by
 rintro Φ b S hp ⟨x,p,h2⟩;exact⟨x,⟨p.ok,p.rel.up h,by have:=p.G;omega,p.len⟩,h2⟩
theorem W7 (a b:List Nm) (ha:a.length<=100000):MU Tryz.prog 27 [.aL uR fun _=>a,.aL uR fun _=>b] [] (.bool fun _=>decide (a=b)) []:=by
 refine aa.q Tryz.func27 rfl fun S aw=>Wa _ ?_;repeat' first|exact tv|apply pr|intro hh
 .refine ae.w () [] _ ?_;repeat' first|exact tv|apply pr
  exact decide_eq_false fun e=>‹¬_› (by rw[e])
 refine aM.intro hm (X:=Nat) (fun i=>i<=a.length/\a.take i=b.take i) (fun i=>a.length - i)
  (fun i=>[(0,.aL uR fun _=>a),(1,.aL uR fun _=>b),(5,.I (i:Int))]) (fun i=>[]) 0 [] ⟨rfl,rfl,?_,?_⟩ ⟨aae _,rfl⟩ ?_
 .exact Vc
 .exact Vc
 rintro i ⟨hi,ht⟩;have rB:a.length=b.length:=by omega
 (refine Wa _ ?_;(repeat' first|exact tv|apply pr|intro hh));all_goals first|exact Ob.mk ⟨by simp only[];omega,by simp only[];omega⟩|skip
 .have hx:=(Gk _ rfl _ _).1 ‹_=false›
  (refine ae.w () [] _ ?_;(repeat' first|exact tv|apply pr));exact(decide_eq_false fun e=>hx (by rw[e]))
 .have hx:=(mF _ rfl _ _).1 ‹_=true›
  refine⟨i+1,[],⟨rfl,rfl,?_,?_⟩,⟨by show i+1<=_;omega,?_⟩,by show _ - (i+1)<_ - i;omega⟩
  .exact Vc
  .refine Vb _ ?_;repeat' first|exact tv|apply pr
   rw[wr (by omega)];omega
  .simp only[Z4]at hx
   exact wG (d:=(0,[])) (by omega) (by omega) ht hx
 .have e:i=a.length:=by omega
  subst e;rw[aac,Z6 (by omega)]at ht;(refine ae.w () [] _ ?_;(repeat' first|exact tv|apply pr));exact decide_eq_true ht
end Go.Proofs.YthnefnlhcijekaaGreat.En
set_option maxRecDepth 8000
namespace Go.Proofs.YthnefnlhcijekaaGreat.En
open Go Go.RowKit Fw Hi Ce
end Go.Proofs.YthnefnlhcijekaaGreat.En
namespace Go.Proofs.YthnefnlhcijekaaGreat.Fw
open Go Go.RowKit Go.ChangeShapes
def gW (W:World):Gh:={ n:=0,Φ:=fun b=>W.heap[b]?,B:=fun _=>0,V:=fun _=>none,L:=fun _=>0,k:=0,W:=fun _ _=>0,M:=fun _=>0 }
theorem OO (W:World):eE (gW W) [] W:=by
 refine⟨rfl,fun b o h=>h,fun i=>trivial,fun i j b hi=>?_,fun i b hi=>?_⟩
 .simp[af,Chunk.own]at hi
 .simp[af,Chunk.own]at hi
def IM:(t:Ty)->t.den->Prop
 | .int k,n=>k.min<=n/\n<=k.max
 | .bool,_=>True
 | .str,s=>List.length s<=maxLen
 | .list e,xs=>List.length xs<=maxLen/\∀ x,x∈(xs:List e.den)->IM e x
 | .pair a b,x=>IM a x.1/\IM b x.2
theorem uv {w:World} {base:Nat} {a:Addr} {n:Nat} {cs:List Value} (h:w.cells? base a n=some cs):cs.length=n/\∀ (j:Nat) (u:Value),cs[j]?=some u->w.cell? (a.add j)=some u:=by
 unfold World.cells? at h;split at h
 .rename_i hb
  have key:∀ (l:List Nat) (cs:List Value),l.mapM (fun i=>w.cell? (a.add i))=some cs->cs.length=l.length/\∀ (j:Nat) (u:Value) (i:Nat),cs[j]?=some u->l[j]?=some i->w.cell? (a.add i)=some u:=by
   intro l;induction l with
   | nil=>intro cs h;simp at h;subst h;simp
   | cons i l ih =>
    intro cs h;simp only[List.mapM_cons,Option.bind_eq_bind,Option.bind_eq_some_iff,Option.pure_def,aaJ]at h;obtain⟨u,h1,r,h2,rfl⟩:=h;obtain⟨h3,h4⟩:=ih r h2;refine⟨by simp[h3],fun j v i' hj hi=>?_⟩;cases j with
    | zero=>simp at hj hi;subst hj hi;exact h1
    | succ j=>exact h4 j v i' (by simpa using hj) (by simpa using hi)
  obtain⟨h1,h2⟩:=key _ _ h;refine⟨by simpa using h1,fun j u hj=>h2 j u j hj ?_⟩;have:=(Z2.1 hj).1;rw[acU (by rw[h1]at this;simpa using this)]
 .cases h
theorem uw {W:World} {a:Addr} {u:Value} (h:W.cell? a=some u):∃ cells T fr,a.spot=none/\(gW W).Φ a.block=some (.cells cells T fr)/\cells[a.off]?=some u:=by
 unfold World.cell? at h;split at h
 .rename_i c T fr hc
  split at h
  .cases h
  .rename_i hs
   exact⟨c,T,fr,by simpa using hs,hc,h⟩
 .cases h
theorem Da {α:Type} {p:Nat->α->Prop}:∀ n:Nat,(∀ i,i<n->∃ x,p i x)->∃ xs:List α,xs.length=n/\∀ (i:Nat) (x:α),xs[i]?=some x->p i x
 | 0,_=>⟨[],rfl,by simp⟩
 | n+1,h=>by
  obtain⟨xs,h1,h2⟩:=Da n (fun i hi=>h i (by omega));obtain⟨x,hx⟩:=h n (by omega);refine⟨xs++[x],by simp[h1],fun i y hy=>?_⟩;rw[aau]at hy;split at hy
  .exact h2 i y hy
  .rename_i hi
   have:i - xs.length=0:=by
    have:=(Z2.1 hy).1;simp at this;omega
   rw[this]at hy;simp at hy;subst hy;have:i=n:=by omega
   subst this;exact hx
section
variable {H:Type} {rU:TypeId×Value->H} {P:Program} {W:World} {base:Nat} {sp:Nat->Bool} {held:Bool}
theorem iA (K:Kids P (·<P.types.size)):∀ (d:Nat) (t:Nat) (ty:Ty),t<P.types.size->gp P d t=some ty->∀ (fuel:Nat) (cs:List Value) (x:DataW H×List MemPlace),DataW.trod rU P W base sp held fuel t cs=some x ->
  ∃ a:ty.den,RL (gW W) (enc ty (fun _=>a) []) cs/\IM ty a
 | 0,_,_,_,h=>by simp[gp]at h
 | d+1,t,ty,bf,h=>by
  intro fuel cs x hx;simp only[gp]at h;split at h
  .rename_i k ht
   cases h;obtain⟨n,rfl,_,hw⟩:=DataW.trod_int (au ht) hx;simp only[Lit.wf,aai,decide_eq_true_eq]at hw;exact⟨n,⟨.int k (fun _=>n),trivial⟩,hw⟩
  .rename_i ht
   cases h;obtain⟨b,rfl,_⟩:=DataW.trod_bool (au ht) hx;exact⟨b,⟨.bool (fun _=>b),trivial⟩,trivial⟩
  .rename_i ht
   cases h;obtain⟨s,rfl,_,hs⟩:=DataW.trod_string (au ht) hx;refine⟨s.data.toList,⟨?_,trivial⟩,?_⟩
   .have:=R.str (g:=gW W) (fun _=>s.data.toList)
    simpa using this
   .show s.data.toList.length<=maxLen
    rw[Array.length_toList];exact hs
  .rename_i e ht
   split at h <;> try cases h
   rename_i y hy;have ZX:y=y:=rfl;have Vr:=K.slice bf (au ht);rcases DataW.trod_slice (au ht) hx with⟨rfl,_⟩|⟨a,len,cap,elems,rest,n,_,rfl,_,_,Zl,IB,hlen,EM,_⟩
   .refine⟨([]:List y.den),⟨?_,trivial⟩,?_⟩
    .exact R.aL y (fun _=>[]) none 0 (fun _ _=>.nilIface) (Z8 _) (by simp) (fun i x j z hx=>by simp at hx) (fun i x j z hx=>by simp at hx)
    .refine⟨?_,fun x hx=>?_⟩
     .show([]:List y.den).length<=maxLen
      simp
     .cases hx
   .have Zm:maxLen=9223372036854775807:=by decide
    have each:∀ i,i<len->∃ p:y.den×List Value,W.cells? base (a.add (i*P.cellsOf e)) (P.cellsOf e)=some p.2/\RL (gW W) (enc y (fun _=>p.1) []) p.2/\IM y p.1:=by
     intro i hi;have h1:=EM i hi;rw[Z1 (by omega)]at h1;obtain⟨mu,h2,h3⟩:=Option.bind_eq_some_iff.1 h1;obtain⟨b,h4,h5⟩:=iA K d e y Vr hy n mu _ h3;exact⟨(b,mu),h2,h4,h5⟩
    obtain⟨ps,Fo,hp⟩:=Da len each;have cu:∀ (i:Nat) (p:y.den×List Value),ps[i]?=some p->P.cellsOf e=y.size:=by
     intro i p hi;obtain⟨h1,h2,_⟩:=hp i p hi;have:=h2.length;rw[bt,(uv h1).1]at this;exact this.symm
    refine⟨ps.map (·.1),⟨?_,trivial⟩,?_,?_⟩
    .have PX:(ps.map (·.1)).length=len:=by simp[Fo]
     have:=R.aL (g:=gW W) y (fun _=>ps.map (·.1)) (some a) cap (fun i j=>((ps[i]?.map (·.2)).getD [])[j]?.getD .nilIface) (by simp only[PX];exact Zl) (by simp only[PX];omega) ?_ ?_
     .simp only[PX]at this;exact this
     .intro i x j z hx hz
      simp only[aaS]at hx;cases hq:ps[i]? with
      | none=>rw[hq]at hx;cases hx
      | some p =>
       rw[hq]at hx;simp only[aaO,aaJ]at hx;subst hx;obtain⟨h1,h2,_⟩:=hp i p hq;obtain⟨u,hu,_⟩:=h2.get hz;have hc:=(uv h1).2 j u hu;obtain⟨cells,T,fr,hs,hΦ,dh⟩:=uw hc;have E4:a.spot=none\/(i*P.cellsOf e=0/\j=0):=by
        by_cases h0:i*P.cellsOf e=0/\j=0
        .exact .inr h0
        .left
         by_cases EN:i*P.cellsOf e+j=0
         .exact(h0 ⟨by omega,by omega⟩).elim
         ·
          have WH:0<len:=by have:=(Z2.1 hq).1;omega
          obtain⟨p0,Zn⟩:∃ p0,ps[0]?=some p0:=⟨ps[0]'(by omega),Z1 (by omega)⟩
          obtain⟨g1,g2,_⟩:=hp 0 p0 Zn;have Zo:(enc y (fun _=>p0.1) [])[0]?≠none:=by
           have:=bt y (fun _=>p0.1);have h0:=Ty.size_pos y;intro hn;rw[ab2]at hn;omega
          cases KW:(enc y (fun _=>p0.1) [])[0]? with
          | none=>exact(Zo KW).elim
          | some z0 =>
           obtain⟨u0,Iw,_⟩:=g2.get KW;have qw:=(uv g1).2 0 u0 Iw;obtain⟨_,_,_,Nw,_⟩:=uw qw;simpa [Addr.add]using Nw
       have OP:a.spot=none:=by
        rcases E4 with h|⟨h0,QB⟩
        .exact h
        .subst QB
         rw[h0]at hs;simpa [Addr.add]using hs
       have e1:(a.add (i*P.cellsOf e)).add j=⟨a.block,a.off+(i*P.cellsOf e+j),none⟩:=by
        rw[bX OP,bX rfl];simp[ab7]
       rw[e1]at hΦ dh;refine⟨a.block,a.off,cells,T,fr,by cases a;simp at OP ⊢;exact OP,hΦ,?_⟩;rw[cu i p hq]at dh;simp only[aaO,aby,hu];exact dh
     .intro i x j z hx hz
      simp only[aaS]at hx;cases hq:ps[i]? with
      | none=>rw[hq]at hx;cases hx
      | some p =>
       rw[hq]at hx;simp only[aaO,aaJ]at hx;subst hx;obtain⟨h1,h2,_⟩:=hp i p hq;obtain⟨u,hu,hr⟩:=h2.get hz;simp only[hq,aaO,aby,hu];exact hr
    .show(ps.map (·.1)).length<=maxLen
     rw[aba];omega
    .intro x hx
     obtain⟨p,P3,rfl⟩:=aas.1 hx;obtain⟨i,hi⟩:=aaa.1 P3;exact(hp i p hi).2.2
  .rename_i fs ht
   obtain⟨xs,n,_,_,ES,Mo,hf⟩:=DataW.trod_struct (au ht) hx;obtain⟨Ou,A7,OF⟩:=K.struct bf (au ht);have go:∀ (l:List Field) (k:Nat) (ty:Ty),uC (gp P d) l=some ty->(∀ f∈l,f.type<P.types.size)->(∀ (j:Nat) f,l[j]?=some f->f.offset=k+((l.take j).map fun f=>P.cellsOf f.type).sum) ->
     (∀ f∈l,∃ z,DataW.trod rU P W base sp held n f.type ((cs.drop f.offset).take (P.cellsOf f.type))=some z)->(cs.drop k).length=(l.map fun f=>P.cellsOf f.type).sum ->
     ∃ a:ty.den,RL (gW W) (enc ty (fun _=>a) []) (cs.drop k)/\IM ty a:=by
    intro l;induction l with
    | nil=>intro k ty h;simp[uC]at h
    | cons f r ih =>
     intro k ty h ht ho hz hl;obtain⟨z,KW⟩:=hz f (Z7 ..);have PK:f.offset=k:=by simpa using ho 0 f rfl
     rw[PK]at KW;have W8:=ht f (Z7 ..);cases r with
     | nil =>
      simp only[uC]at h;obtain⟨a,h1,h2⟩:=iA K d f.type ty W8 h n _ _ KW;refine⟨a,?_,h2⟩;simp only[aal,List.map_nil,aaX,List.sum_nil,aa6]at hl;rwa [Z6 (by omega)]at h1
     | cons f2 r2 =>
      simp only[uC]at h;split at h <;> try cases h
      rename_i ta tb Tc ux;obtain⟨a,h1,h2⟩:=iA K d f.type ta W8 Tc n _ _ KW;obtain⟨b,h3,h4⟩:=ih (k+P.cellsOf f.type) tb ux (fun q hq=>ht q (Z5 _ hq)) (fun j q hq=>by
       have:=ho (j+1) q (by simpa using hq);simp only[abg,aal,aaX]at this;omega) (fun q hq=>hz q (Z5 _ hq)) (by
       simp only[aal,aaX,aar]at hl ⊢;omega)
      refine⟨(a,b),?_,h2,h4⟩;simp only[enc];rw[cK ta];have:=h1.append h3;rw[<-acq]at this;rwa [acg]at this
   have:=go fs.toList 0 ty h Ou (fun j f hj=>by simpa using OF j f hj) (fun f Zp=>by
    obtain⟨i,hi⟩:=aaa.1 Zp;have dW:fs[i]?=some f:=by simpa using hi
    have h1:=hf i f dW;have dp:=(Z2.1 hi).1;rw[Z1 (by simp at dp;omega)]at h1;exact⟨_,h1⟩) (by simpa [ES]using A7)
   simpa using this
  .rename_i n e ht
   split at h <;> try cases h
   rename_i y hy;obtain⟨xs,m,_,_,ES,Mo,hf⟩:=DataW.trod_array (au ht) hx;obtain⟨Vr,cu⟩:=K.array bf (au ht);rw[cu]at ES;have go:∀ (n k:Nat) (ty:Ty),uT n y=some ty->(∀ i,i<n->∃ z,DataW.trod rU P W base sp held m e ((cs.drop ((k+i)*P.cellsOf e)).take (P.cellsOf e))=some z)->(cs.drop (k*P.cellsOf e)).length=n*P.cellsOf e ->
     ∃ a:ty.den,RL (gW W) (enc ty (fun _=>a) []) (cs.drop (k*P.cellsOf e))/\IM ty a:=by
    intro n;induction n with
    | zero=>intro k ty h;simp[uT]at h
    | succ n ih =>
     intro k ty h hz hl;obtain⟨z,KW⟩:=hz 0 (by omega);rw[aa6]at KW;obtain⟨a,h1,h2⟩:=iA K d e y Vr hy m _ _ KW;cases n with
     | zero =>
      simp only[uT,aaJ]at h;subst h;rw[Z6 (by omega)]at h1;exact⟨a,h1,h2⟩
     | succ n =>
      simp only[uT]at h;split at h <;> try cases h
      rename_i tz Ps;obtain⟨b,h3,h4⟩:=ih (k+1) tz Ps (fun i hi=>by have:=hz (i+1) (by omega);rwa [show k+1+i=k+(i+1) by omega]) (by
       rw[aar]at hl ⊢;rw[aaQ,abY]at hl ⊢;omega)
      refine⟨(a,b),?_,h2,h4⟩;simp only[enc];rw[cK y];have:=h1.append h3;rw[aaQ,abY,<-acq]at this;rwa [acg]at this
   have:=go n 0 ty h (fun i hi=>by
    have h1:=hf i hi;rw[Z1 (by omega)]at h1;exact⟨_,by rw[aaf];exact h1⟩) (by simpa using ES)
   simpa using this
  .cases h
end
end Go.Proofs.YthnefnlhcijekaaGreat.Fw
namespace Go.Proofs.YthnefnlhcijekaaGreat.Fw
open Go Go.RowKit Go.ChangeShapes Go.WideShapes
theorem wf_i64 {n:Int} (h:IM (.int .i64) n):-9223372036854775808<=n/\n<=9223372036854775807:=h
def Sd:TypeDesc->Bool
 | .int _=>true|.bool=>true|.string=>true|.slice _=>true|_=>false
section
variable {H:Type} {rU:TypeId×Value->H} {P:Program} {W:World} {base:Nat} {sp:Nat->Bool} {held:Bool}
theorem Se (K:Kids P (·<P.types.size)) {b0:Nat} {t:Nat} {ty:Ty} {d:TypeDesc} (hd:aS P t=some d) (hb:Sd d=true) (bf:t<P.types.size) (zM:gp P 6 t=some ty) {v:Value} {x:DataW H} {ps:List MemPlace}
  (ln:Value.okWide P W .any b0 t v) (h:DataW.Trod rU P W base sp held t v x ps):∃ a:ty.den,RL (gW W) (enc ty (fun _=>a) []) [v]/\IM ty a:=by
 obtain⟨fuel,hf⟩:=h;obtain⟨a,h1,h2⟩:=iA K 6 t ty bf zM fuel _ _ hf;refine⟨a,?_,h2⟩;have hc:v.cells.toList=[v]:=by
  have hu:=au hd;cases v <;> first|rfl|skip
  cases d <;> first|(cases hb;done)|(simp[Value.okWide,hu,Cell.okWide,Cell.ok]at ln)
 rwa [hc]at h1
def Vs:TypeDesc->Bool
 | .struct _=>true|.array _ _=>true|_=>false
theorem OR (K:Kids P (·<P.types.size)) {b0:Nat} {t:Nat} {ty:Ty} {d:TypeDesc} (hd:aS P t=some d) (hb:Vs d=true) (bf:t<P.types.size) (zM:gp P 6 t=some ty) {v:Value} {x:DataW H} {ps:List MemPlace}
  (ln:Value.okWide P W .any b0 t v) (h:DataW.Trod rU P W base sp held t v x ps):∃ a:ty.den,R (gW W) (.agg (enc ty (fun _=>a) [])) v/\IM ty a:=by
 obtain⟨fuel,hf⟩:=h;obtain⟨a,h1,h2⟩:=iA K 6 t ty bf zM fuel _ _ hf;have hu:=au hd;have hv:∃ cs,v=.agg cs:=by
  cases d <;> first|(cases hb;done)|skip
  all_goals
   simp only[Value.okWide,hu]at ln;obtain⟨cs,rfl,_⟩:=ln;exact⟨cs,rfl⟩
 obtain⟨cs,rfl⟩:=hv;refine⟨a,?_,h2⟩;have:=R.jf h1;simpa [Value.cells]using this
theorem S9 {f:FuncId} {args:List AV} {aC:List Value} {Y:Type} {Q:Y->Prop} {res:Y->AV} {out:Y->List Chunk} (hm:aa P f args [] Q res out) (Aq:∀ y,Q y->res y=.tt) (hr:RL (gW W) args aC) :
  Calls P f aC.toArray W fun e W'=>e=.returned (.bool true)/\Below W.heap.size W W':=by
 refine(hm.h (gW W) W aC (OO W) hr).mono ?_;rintro e W' ⟨y,c,g',hq,rfl,h1,h2,h3⟩;rw[Aq y hq]at h1;rw[h1.km];refine⟨rfl,h3.os,h3.tape,h3.output.o,h3.size,fun b hb=>h3.cz b hb ?_⟩;rintro⟨i,hi⟩;simp[af,Chunk.own]at hi
theorem nN (hl:laidOutB P=true) {W':World} (hb:Below W.heap.size W W'):∀ {ts:List TypeId} {vs:List Value} {ds:List (DataW H)} {ps:List MemPlace} (Sf:Nat->Bool),(∀ t∈ts,P.readableRec t=true/\t<P.types.size) ->
  DataW.TrodAll rU P W 0 (fun _=>true) true ts vs ds ps->(∀ p∈ps,p.block<W.heap.size)->(∀ p∈ps,Sf p.block=true)->DataW.TrodAll rU P W' 0 Sf true ts vs ds ps
 | [],[],[],ps,Sf,_,h,_,_=>h
 | t::ts,v::vs,d::ds,ps,Sf,ht,h,bf,E4=>by
  obtain⟨p,q,h1,h2,rfl⟩:=h;obtain⟨hr,lj⟩:=ht t (Z7 ..);refine⟨p,q,WideElems.Trod_stays hl hr lj h1 (fun x hx=>hb.same (bf x (abS _ hx))) (fun x hx=>E4 x (abS _ hx)),?_,rfl⟩;exact nN hl hb Sf (fun t TB=>ht t (Z5 _ TB)) h2 (fun x hx=>bf x (List.mem_append_right _ hx)) (fun x hx=>E4 x (List.mem_append_right _ hx))
 | [],_::_,_,_,_,_,h,_,_=>h.elim
 | [],[],_::_,_,_,_,h,_,_=>h.elim
 | _::_,[],_,_,_,_,h,_,_=>h.elim
 | _::_,_::_,[],_,_,_,h,_,_=>h.elim
theorem Sg {f:Func} {s:ChangeSpec} {W':World} {args:Array Value} {ds gs:List (DataW H)} {before:List MemPlace} (hl:laidOutB P=true) {tb:TypeId}
  (hW:DataW.Whole rU P f.params.toList s.vars false W args.toList ds gs before) (hv:s.vars=[]) (IA:s.fn H (ds++gs)={ results:=[.lit (.bool true)],args:=ds })
  (Aq:f.resultTypes=#[tb]) (ux:P.underlying tb=some .bool) (ht:∀ t∈f.params.toList,P.readableRec t=true/\t<P.types.size) (hb:Below W.heap.size W W') :
  s.post rU P f false true false false W args (.bool true) W':=by
 have bf:=hW.lt;have Zq:=hW;obtain⟨p,q,hA,hV,SO,VR,eA⟩:=Zq;rw[hv]at hV;have Zr:gs=[]/\q=[]:=by
  cases gs with
  | nil=>exact⟨rfl,hV⟩
  | cons g r=>exact hV.elim
 obtain⟨rfl,rfl⟩:=Zr;rw[List.append_nil]at SO;subst SO;have hold:∀ p∈before,(fun b=>decide (b<W.heap.size)) p.block=true:=fun p hp=>by simpa using bf p hp
 have dR:∀ sp:Nat->Bool,(∀ p∈before,sp p.block=true)->DataW.TrodAll rU P W' 0 sp true f.params.toList args.toList ds before:=fun sp E4=>nN hl hb sp ht hA bf E4;have Sh:∀ (b:Nat) (sp:Nat->Bool) (hd:Bool),DataW.TrodAll rU P W' b sp hd f.resultTypes.toList ((Value.bool true).resultList f.resultTypes.size) [.lit (.bool true)] []:=by
  intro b sp hd;rw[Aq];exact trodAll_mk1 (shut_bool ux true)
 refine⟨ds,[],before,[],before,[],hW,?_,?_,?_,World.keptBut_mono (fun p hp=>⟨hp,?_⟩) (hb.frame (·∈before)),fun h=>by cases h⟩
 .rw[IA];exact Sh _ _ _
 .rw[IA];exact dR _ hold
 .rw[IA,hv];rfl
 .exact .inr (by simpa using hp)
end
end Go.Proofs.YthnefnlhcijekaaGreat.Fw
namespace Go.Proofs.YthnefnlhcijekaaGreat.Fw
open Go Go.ChangeShapes Go.WideShapes Go.ChangeAt Go.RowKit
theorem Si:laidOutB Tryz.prog=true:=by kernel_rfl
theorem Sj:mapsRowed Tryz.prog=true:=by kernel_rfl
theorem Vt:Tryz.prog.plainKeys=true:=by kernel_rfl
theorem Vu:Tryz.prog.stopsHeard=true:=by kernel_rfl
theorem Vv:Tryz.prog.mayEnter=true:=by kernel_rfl
theorem Vw:Tryz.prog.liftsFinal=false:=by kernel_rfl
theorem W9:Tryz.prog.make=some Rows.engineNilRow.make:=by kernel_rfl
theorem Xa:Kids Tryz.prog (·<Tryz.prog.types.size):=kids_rows Si Sj
end Go.Proofs.YthnefnlhcijekaaGreat.Fw
