/- What the laws of this chapter rest on, for every input; part 4. -/
import Derived.Test.YthnefnlhcijekaaGreatMC2
import Derived.Shelf.SlSortCmp.NoneTotal
import Derived.Shelf.SlLaysF
import Derived.Test.YthnefnlhcijekaaGreatProg
set_option linter.unusedVariables false
set_option linter.unusedSimpArgs false
namespace Go.Proofs.YthnefnlhcijekaaGreat.Fw
open Go Go.RowKit Go.Sort Go.Shelf
theorem Cb {W w':World} (Pv:w'.os=W.os) (ht:w'.tape=W.tape) (ho:ja W w') (hs:W.heap.size<=w'.heap.size) (hk:∀ b,b<W.heap.size->w'.heap[b]?=W.heap[b]?):∃ q os,w'=grow (W.drewN q) os:=by
 refine⟨w'.drawn - W.drawn,w'.heap.extract W.heap.size w'.heap.size,?_⟩;have hh:w'.heap=W.heap++w'.heap.extract W.heap.size w'.heap.size:=by
  apply Array.ext_getElem?;intro b;by_cases hb:b<W.heap.size
  .rw[hk b hb,acj hb]
  .rw[Array.getElem?_append_right (by omega),Array.getElem?_extract]
   by_cases mC:b<w'.heap.size
   .rw[Z0 (by omega),show W.heap.size+(b - W.heap.size)=b by omega]
   .rw[ZY (by omega),Array.getElem?_eq_none (by omega)]
 have hd:w'.drawn=W.drawn+(w'.drawn - W.drawn):=by have:=ho.d;omega
 obtain⟨heap,tape,drawn,os,output⟩:=w';simp only[grow,World.drewN];simp only[]at Pv ht hh hd;congr 1;exact ho.o
theorem l4 {w:World} {zP b:Nat} (f:Array Value->Array Value) (h:b≠zP):(mapBlock w zP f).heap[b]?=w.heap[b]?:=by
 unfold mapBlock;simp only[Array.getElem?_modify];rw[ZY (fun e=>h e.symm)]
theorem gA {w:World} {zP:Nat} (f:Array Value->Array Value) {vs:Array Value} {T:TypeId} {fr:Nat×Nat} (h:w.heap[zP]?=some (.cells vs T fr)):(mapBlock w zP f).heap[zP]?=some (.cells (f vs) T fr):=by
 unfold mapBlock;simp only[Array.getElem?_modify,h,if_true];rfl
theorem nE (w:World) (zP:Nat) (f:Array Value->Array Value):(mapBlock w zP f).heap.size=w.heap.size:=by
 unfold mapBlock;simp
theorem Grown.grow (w:World) (os:Array Obj):Grown w (grow w os) :=
 ⟨rfl,rfl,⟨rfl,Z8 _⟩,by show w.heap.size<=(w.heap++os).size;simp,fun b hb=>by show(w.heap++os)[b]?=_;rw[acj hb]⟩
theorem qj.putRow {w:World} {zP:Nat} {vs:Array Value} {T:TypeId} (n:Nat) {α:Type} [Inhabited α] (enc:α->Value) (d:Array α) (h:w.heap[zP]?=some (.cells vs T (0,0))) :
  qj w (putRow enc (Sort.ahead w n) zP 0 d) zP (.cells (putCells enc 0 d vs) T (0,0)) :=
 ⟨rfl,rfl,⟨rfl,Nat.le_add_right _ _⟩,nE _ _ _,gA (w:=Sort.ahead w n) _ h,fun k hk=>l4 (w:=Sort.ahead w n) _ hk⟩
theorem wV (xs:List Int) (vs:Array Value) (k:Nat):(putCells (Value.int .i64) 0 xs.toArray vs)[k]?=if k<xs.length then(vs[k]?.map fun _=>Value.int .i64 (xs.getD k 0))else vs[k]?:=by
 unfold putCells;rw[Array.getElem?_mapIdx];by_cases hk:k<xs.length
 .rw[Z0 hk]
  cases vs[k]? with
  | none=>rfl
  | some v =>
   simp only[aaO];rw[Z0 ⟨aae _,by simpa using hk⟩];congr 2;simp[hk]
 .rw[ZY hk]
  cases vs[k]? with
  | none=>rfl
  | some v=>simp only[aaO];rw[ZY (by simp;omega)]
theorem tC {α:Type} {l:List α} {k:Nat} {v:α} (h:l[k]?=some v):(l.drop k).take 1=[v]:=by
 obtain⟨hk,rfl⟩:=Z2.1 h;rw[aaU hk];rfl
theorem yD {g:Gh} {i:Nat} {w w':World} {T:TypeId} {xs ys:List Int} {vs:Array Value} {cap:Nat} (h:(Chunk.row T (.int .i64) fun _=>xs).sat g i w) (hV:g.V i=some cap) (hb:w.heap[g.B i]?=some (.cells vs T (0,0)))
  (hl:ys.length=xs.length) (hw:w'.heap[g.B i]?=some (.cells (putCells (Value.int .i64) 0 ys.toArray vs) T (0,0))):(Chunk.row T (.int .i64) fun _=>ys).sat g i w':=by
 obtain⟨h1,h2,h3⟩:=h;refine⟨hl.trans h1,fun e=>(by rw[hV]at e;cases e),fun c hc=>?_⟩;rw[hV]at hc;cases hc;obtain⟨Te,e1,e2,e3,e4⟩:=h3 cap hV;have e3:xs.length<=cap:=e3;rw[hb]at e1;cases e1;have hs:Ty.size (.int .i64)=1:=rfl;rw[hs]at e2;refine⟨_,hw,?_,by rw[hl];exact e3,fun k x hk=>?_⟩
 .rw[hs];unfold putCells;simp;omega
 .have xD:k<ys.length:=(Z2.1 hk).1
  have yh:k<vs.size:=by omega
  have hg:=wV ys vs k;rw[Z0 xD,aaN yh]at hg;have hx:ys.getD k 0=x:=by rw[ZZ,hk];rfl
  rw[hx]at hg;rw[hs,ac8];rw[tC (by rw[abK];exact hg)];exact⟨.int .i64 (fun _=>x),trivial⟩
theorem eE.QO {g:Gh} {c:Chunk} {D:List Chunk} {w:World} (h:eE g (c::D) w):eE g (.none::D) w:=by
 refine⟨h.len,h.dn,fun i=>?_,fun i j b hi hj=>?_,fun i b hi=>?_⟩
 .match i with
  | 0=>trivial
  | i+1=>exact h.sat (i+1)
 .match i,j,hi,hj with
  | 0,_,hi,_=>exact hi.elim
  | _+1,0,_,hj=>exact hj.elim
  | i+1,j+1,hi,hj=>exact h.lf (i+1) (j+1) b hi hj
 .match i,hi with
  | 0,hi=>exact hi.elim
  | i+1,hi=>exact h.dE (i+1) b hi
section
variable {P:Program} {ρ:Ren}
theorem D2 (L:SlLaysF.n6 P ρ) (T:TypeId) {gf:FuncId} {Nv:List AV} {D:List Chunk} {cf:Int->Int->Int} (hO:SWO (ltOf cf)) (hT:∀ x y,ltOf cf x y=false->ltOf cf y x=false->x=y)
  (ES:∀ (g:Gh) (W:World) (ws:List Value),eE g (.none::D) W->RL g Nv ws->∀ x y:Int,Calls P gf (#[Value.int .i64 x,Value.int .i64 y]++ws.toArray) W fun e w'=>e=.returned (.int .i64 (cf x y))/\∃ q QP,w'=grow (W.drewN q) QP)
  (eg:∀ args w,(callFunc gf args).run P w=.ok (.enter gf args) w) (GM:fE P (ρ.f 6)) (hD:∀ c∈D,∀ T t xs,c≠.aq T t xs) (xs:List Int) (hn:xs.length<4611686018427387904) :
  MU P (ρ.f 6) [.vec 0 1 (fun _=>0) fun _=>xs.length,.fn (.func gf) [] Nv] (.row T (.int .i64) (fun _=>xs)::D) (.bQ []) (.row T (.int .i64) (fun _=>xs.mergeSort fun x y=>!(ltOf cf) y x)::D) where
 aA:=GM
 h:=by
  intro g w aC hS hr;match aC,hr with
  | [v0,v1],hr =>
  obtain⟨h0,h1,_⟩:=hr;cases h1 with
  | fn f az bs vs ws hl k9 nX sI =>
  obtain rfl:vs=#[]:=by apply aa8;simpa using hl.symm
  have Jw:af (.row T (.int .i64) (fun _=>xs)::D) 0=.row T (.int .i64) fun _=>xs:=rfl;have Nw:=hS.sat 0;rw[Jw]at Nw;have hlen:(xs.mergeSort fun x y=>!(ltOf cf) y x).length=xs.length:=List.length_mergeSort _;have Dq:RL g Nv ws.toList:=RL.mk (by simpa using k9) fun i y u hy hu=>sI i y u hy (by simpa using hu);cases h0 with
  | vec i sz off n A c hi hL GN GO =>
  have QQ:ER g [] #[]:=fun t=>by
   have:look [] t=.undef:=rfl;rw[this];exact .undef _
  have hI:=Inv.start hS QQ;cases hV:g.V 0 with
  | none =>
   obtain⟨rfl,qY,rfl,_⟩:=GN hV;have hx:xs=[]:=aaL.1 qY;subst hx;refine(AnyF.slices_SortFunc_none (P:=P) (ρ:=ρ) { L with } none 0 (.func (.func gf) #[] ws) w).mono ?_;rintro e w' ⟨rfl,rfl⟩;have rY:([]:List Int).mergeSort (fun x y=>!(ltOf cf) y x)=[]:=List.mergeSort_nil;exact⟨(),_,g,trivial,rfl,.bQ _ _ rfl (by simp),by rw[rY];exact hS,by rw[rY];exact hI.ext⟩
  | some cap =>
   obtain⟨h4,h5,h6,h7,h8⟩:=GO cap hV;have hA:=h7 (.inr rfl);subst hA;obtain⟨s1,s2,s3⟩:=Nw;obtain⟨vs,e1,e2,e3,e4⟩:=s3 cap hV;have hblk:(af (.row T (.int .i64) (fun _=>xs)::D) 0).own g 0 (g.B 0):=by rw[Jw];exact⟨by rw[hV];simp,rfl⟩
   have e3:xs.length<=cap:=e3;have e2:vs.size=cap:=by simpa [Ty.size]using e2
   have cL:∀ (k:Nat) (x:Int),xs[k]?=some x->vs[k]?=some (Value.int .i64 x):=fun k x hk=>by
    have:=e4 k x hk;have xD:k<xs.length:=(Z2.1 hk).1;have yh:k<vs.size:=by omega
    rw[show Ty.size (Ty.int .i64)=1 from rfl,ac8,tC (v:=vs[k]) (by simp[yh])]at this;have h9:=this.1;rw[aaN yh];generalize vs[k]=u at h9;cases h9;rfl
   have bf:=bo e1;have hH:Holds (Value.int .i64) w (g.B 0) 0 xs.toArray:=fun j hj=>by
    have lg:j<xs.length:=by simpa using hj
    have lq:j<vs.size:=by omega
    refine⟨?_,?_⟩
    .have h9:=cL j (xs[j]) (Z1 lg)
     have fu:xs.toArray[j]! = xs[j]:=by simp[lg]
     rw[fu];unfold World.cell?;rw[e1];simpa using h9
    .unfold World.frozen?
     rw[e1];simp
   have Nx:CmpLays1 P gf ws (Value.int .i64) cf (g.B 0) 0 xs.toArray.size w:=fun m os dk Wo x y=>by
    have DG:eE g (.none::D) (sortWorld (Value.int .i64) w (g.B 0) 0 m dk os):=by
     have Jv:=hI.set (c:=.row T (.int .i64) fun _=>dk.toList) hblk (qj.putRow m (Value.int .i64) dk e1)
      (yD (ys:=dk.toList) (hS.sat 0) hV e1 (by simpa using Wo) (gA (w:=Sort.ahead w m) (putCells (Value.int .i64) 0 dk) e1)) ⟨by rw[hV];simp,rfl⟩ (fun T' t' Iz hc=>by cases hc)
     exact eE.QO (Jv.aW.grown (Grown.grow _ os))
    have:=ES g _ ws.toList DG Dq x y;simpa using this
   refine(Any.slices_SortFunc_total L (Value.int .i64) (fun _=>rfl) cf hO gf ws (g.B 0) 0 c xs.toArray w eg Nx hH bf (by simpa using hn) hT).mono ?_;rintro e w' ⟨rfl,n,os,rfl⟩;have Jv:=hI.set (c:=.row T (.int .i64) fun _=>xs.mergeSort fun x y=>!(ltOf cf) y x) hblk (qj.putRow n (Value.int .i64) (xs.mergeSort fun x y=>!(ltOf cf) y x).toArray e1) (yD (hS.sat 0) hV e1 hlen (gA (w:=Sort.ahead w n) _ e1)) ⟨by rw[hV];simp,rfl⟩ (fun T' t' Iz hc=>by cases hc);exact⟨(),_,g,trivial,rfl,.bQ _ _ rfl (by simp),Jv.aW.grown (Grown.grow _ os),Jv.ext.grow (Grown.grow _ os)⟩
end
end Go.Proofs.YthnefnlhcijekaaGreat.Fw
namespace Go.Proofs.YthnefnlhcijekaaGreat.Lay
open Go Go.Shelf
def rq:Go.Shelf.Ren:=⟨fun|6=>129|15=>123|14=>188|28=>182|29=>183|20=>236|21=>237|22=>238|23=>239|24=>240|25=>241|26=>242|27=>243|46=>273|47=>230|48=>231|49=>274|50=>275|57=>285|n=>n,fun|22=>122|24=>3|25=>99|3=>3|39=>159|0=>0|53=>262|55=>41|4=>4|46=>256|45=>255|50=>102|5=>5|9=>9|66=>291|70=>295|76=>329|77=>330|n=>n,fun|n=>n⟩
theorem sortInt:Go.Proofs.SlLaysF.n6 Tryz.prog rq:={
 mixed:=by kernel_rfl
 f6:=⟨Tryz.f129.name,by decide,Tryz.func129.trans (congrArg some (by kernel_rfl))⟩
 f14:=⟨Tryz.f188.name,by decide,Tryz.func188.trans (congrArg some (by kernel_rfl))⟩
 f15:=Tryz.func123.trans (congrArg some (by kernel_rfl))
 f20:=⟨Tryz.f236.name,by decide,Tryz.func236.trans (congrArg some (by kernel_rfl))⟩
 f21:=⟨Tryz.f237.name,by decide,Tryz.func237.trans (congrArg some (by kernel_rfl))⟩
 f22:=⟨Tryz.f238.name,by decide,Tryz.func238.trans (congrArg some (by kernel_rfl))⟩
 f23:=⟨Tryz.f239.name,by decide,Tryz.func239.trans (congrArg some (by kernel_rfl))⟩
 f24:=⟨Tryz.f240.name,by decide,Tryz.func240.trans (congrArg some (by kernel_rfl))⟩
 f25:=⟨Tryz.f241.name,by decide,Tryz.func241.trans (congrArg some (by kernel_rfl))⟩
 f26:=⟨Tryz.f242.name,by decide,Tryz.func242.trans (congrArg some (by kernel_rfl))⟩
 f27:=⟨Tryz.f243.name,by decide,Tryz.func243.trans (congrArg some (by kernel_rfl))⟩
 f28:=Tryz.func182.trans (congrArg some (by kernel_rfl))
 f29:=Tryz.func183.trans (congrArg some (by kernel_rfl))
 f46:=⟨Tryz.f273.name,by decide,Tryz.func273.trans (congrArg some (by kernel_rfl))⟩
 f47:=Tryz.func230.trans (congrArg some (by kernel_rfl))
 f48:=Tryz.func231.trans (congrArg some (by kernel_rfl))
 f49:=⟨Tryz.f274.name,by decide,Tryz.func274.trans (congrArg some (by kernel_rfl))⟩
 f50:=⟨Tryz.f275.name,by decide,Tryz.func275.trans (congrArg some (by kernel_rfl))⟩
 f57:=⟨Tryz.f285.name,by decide,Tryz.func285.trans (congrArg some (by kernel_rfl))⟩
 t0:=Tryz.underlying0
 a0:=Tryz.isAgg0
 z0:=Tryz.sizeOf0
 v0:=Tryz.zeroValue0
 t3:=Tryz.underlying3
 a3:=Tryz.isAgg3
 z3:=Tryz.sizeOf3
 v3:=Tryz.zeroValue3
 t4:=Tryz.underlying4
 a4:=Tryz.isAgg4
 z4:=Tryz.sizeOf4
 v4:=Tryz.zeroValue4
 t5:=Tryz.underlying5
 a5:=Tryz.isAgg5
 z5:=Tryz.sizeOf5
 v5:=Tryz.zeroValue5
 t9:=Tryz.underlying9
 a9:=Tryz.isAgg9
 z9:=Tryz.sizeOf9
 v9:=Tryz.zeroValue9
 t22:=Tryz.underlying122
 a22:=Tryz.isAgg122
 z22:=Tryz.sizeOf122
 v22:=Tryz.zeroValue122
 a24:=Tryz.isAgg3
 z24:=Tryz.sizeOf3
 t25:=Tryz.underlying99
 a25:=Tryz.isAgg99
 z25:=Tryz.sizeOf99
 v25:=Tryz.zeroValue99
 t39:=Tryz.underlying159
 a39:=Tryz.isAgg159
 z39:=Tryz.sizeOf159
 v39:=Tryz.zeroValue159
 t45:=Tryz.underlying255
 a45:=Tryz.isAgg255
 z45:=Tryz.sizeOf255
 v45:=Tryz.zeroValue255
 t46:=Tryz.underlying256
 a46:=Tryz.isAgg256
 z46:=Tryz.sizeOf256
 v46:=Tryz.zeroValue256
 t50:=Tryz.underlying102
 a50:=Tryz.isAgg102
 z50:=Tryz.sizeOf102
 v50:=Tryz.zeroValue102
 t53:=Tryz.underlying262
 a53:=Tryz.isAgg262
 z53:=Tryz.sizeOf262
 v53:=Tryz.zeroValue262
 t55:=Tryz.underlying41
 a55:=Tryz.isAgg41
 z55:=Tryz.sizeOf41
 v55:=Tryz.zeroValue41
 t66:=Tryz.underlying291
 a66:=Tryz.isAgg291
 z66:=Tryz.sizeOf291
 v66:=Tryz.zeroValue291
 t70:=Tryz.underlying295
 a70:=Tryz.isAgg295
 z70:=Tryz.sizeOf295
 v70:=Tryz.zeroValue295
 t76:=Tryz.underlying329
 a76:=Tryz.isAgg329
 z76:=Tryz.sizeOf329
 v76:=Tryz.zeroValue329
 t77:=Tryz.underlying330
 a77:=Tryz.isAgg330
 z77:=Tryz.sizeOf330
 v77:=Tryz.zeroValue330 }
end Go.Proofs.YthnefnlhcijekaaGreat.Lay
namespace Go.Proofs.YthnefnlhcijekaaGreat.Ti
open Go Go.RowKit Fw Wh Go.Sort
theorem Cc {g g':Gh} {i:Nat}:∀ {es:List (Nat×Int×Int)} {a b:List MapEntry},gG g i (qE es) a->gG g' i (qE es) b->a=b
 | [],[],[],_,_=>rfl
 | e::r,x::a,y::b,h,h'=>by
  obtain⟨h1,h2,h3,h4⟩:=h;obtain⟨xB,Gc,Gn,Ym⟩:=h';have hv:x.val=y.val:=by
   change R g (.I e.2.2) x.val at h3;change R g' (.I e.2.2) y.val at Gn;generalize x.val=u at h3 ⊢;generalize y.val=v at Gn ⊢;cases h3;cases Gn;rfl
  have:x=y:=by
   obtain⟨k,v,n⟩:=x;obtain⟨k',v',n'⟩:=y;simp only[]at h1 h2 xB Gc hv;rw[h1,xB,h2,Gc,hv]
  rw[this,Cc h4 Ym]
 | [],x::a,_,h,_=>h.elim
 | [],[],y::b,_,h=>h.elim
 | _::_,[],_,h,_=>h.elim
 | _::_,_::_,[],_,h=>h.elim
theorem Ny {f:FuncId} {args:List AV} {es:List (Nat×Int×Int)} {c:Nat} {n:Int} (hM:MU Tryz.prog f args [.none,.heap fun _=>rN es c] (.I n) [.none,.heap fun _=>rN es c])
  {g:Gh} {W:World} {aC:List Value} (hS:eE g [.none,.heap fun _=>rN es c] W) (hr:RL g args aC):Calls Tryz.prog f aC.toArray W fun e w'=>e=.returned (.int .i64 n)/\∃ q QP,w'=grow (W.drewN q) QP:=by
 refine(hM.h g W aC hS hr).mono ?_;rintro e w' ⟨_,v,g',_,rfl,hv,Wr,hx⟩;cases hv;refine⟨rfl,Cb hx.os hx.tape hx.output hx.size fun b hb=>?_⟩;by_cases ho:(⟨g,[.none,.heap fun _=>rN es c],W⟩:bS).owns b
 .obtain⟨i,hi⟩:=ho
  match i,hi with
  | 0,hi=>exact hi.elim
  | i+2,hi=>exact hi.elim
  | 1,hi =>
   obtain⟨k,hk,rfl⟩:=hi;have hs:=hS.sat 1;have sm:=Wr.sat 1;obtain⟨m1,m2,m3⟩:=hs;obtain⟨Yn,ZF,Yo⟩:=sm;have nY:k=0:=by
    have:g.M 1=1:=m1;change k<g.M 1 at hk;omega
   subst nY;have vY:0<g'.M 1:=by rw[Yn];exact Nat.one_pos
   obtain⟨ob,h1,h2⟩:=m3 0 hk;obtain⟨Fy,xB,Gc⟩:=Yo 0 vY;have hw:g'.W 1 0=g.W 1 0:=hx.rC 1 0 rfl hk;show w'.heap[g.W 1 0]?=_;rw[h1,<-hw,xB];obtain⟨ms,rfl,h3⟩:=h2;obtain⟨Yp,rfl,Gn⟩:=Gc;have:=Cc h3 Gn;rw[show ms=Yp from abq this]
 .exact hx.cz b hb ho
theorem yE (x y:Int):(lY x y<0)↔x<y:=by
 unfold lY;split
 .simp[*]
 .split <;> simp[*] <;> omega
theorem vt (x y:Int):(lY x y=0)↔x=y:=by
 unfold lY;split
 .constructor <;> intro h <;> omega
 .split
  .constructor <;> intro h <;> omega
  .constructor <;> intro h <;> omega
theorem LF (es:List (Nat×Int×Int)) (a b:Int):ltOf (pB es) a b=true↔bl es a<bl es b\/(bl es a=bl es b/\a<b):=by
 unfold ltOf pB;rw[decide_eq_true_eq];by_cases h:bl es a=bl es b
 .rw[Z0 ((vt _ _).2 h),yE]
  constructor
  .exact fun h2=>.inr ⟨h,h2⟩
  .rintro(h2|h2) <;> omega
 .rw[ZY (fun e=>h ((vt _ _).1 e)),yE]
  constructor
  .exact .inl
  .rintro(h2|h2) <;> omega
theorem QR (es:List (Nat×Int×Int)):SWO (ltOf (pB es)) where
 irrefl x:=by
  cases h:ltOf (pB es) x x with
  | false=>rfl
  | true=>have:=(LF es x x).1 h;omega
 trans x y z h1 h2:=by
  rw[LF]at *;omega
 ntrans x y z h1 h2:=by
  cases h:ltOf (pB es) x z with
  | false=>rfl
  | true =>
   exfalso;have h3:=(LF es x z).1 h;have h4:¬(bl es x<bl es y\/(bl es x=bl es y/\x<y)):=fun e=>by rw[(LF es x y).2 e]at h1;cases h1
   have h5:¬(bl es y<bl es z\/(bl es y=bl es z/\y<z)):=fun e=>by rw[(LF es y z).2 e]at h2;cases h2
   omega
theorem QS (es:List (Nat×Int×Int)) (x y:Int) (h1:ltOf (pB es) x y=false) (h2:ltOf (pB es) y x=false):x=y:=by
 have h4:¬(bl es x<bl es y\/(bl es x=bl es y/\x<y)):=fun e=>by rw[(LF es x y).2 e]at h1;cases h1
 have h5:¬(bl es y<bl es x\/(bl es y=bl es x/\y<x)):=fun e=>by rw[(LF es y x).2 e]at h2;cases h2
 omega
def nF (es:List (Nat×Int×Int)) (xs:List Int):List Int:=xs.mergeSort fun x y=>!(ltOf (pB es)) y x
end Go.Proofs.YthnefnlhcijekaaGreat.Ti
namespace Go.Proofs.YthnefnlhcijekaaGreat.Ti
inductive Pl
 | late|row (i s:Nat)|fw
 deriving DecidableEq
def lv (now d:Int):Pl :=
 if d<=now then .late
 else if d / 64=now / 64 then .row 0 (d % 64).toNat
 else if d / 4096=now / 4096 then .row 1 (d / 64 % 64).toNat
 else if d / 262144=now / 262144 then .row 2 (d / 4096 % 64).toNat
 else if d / 16777216=now / 16777216 then .row 3 (d / 262144 % 64).toNat
 else .fw
def rO (i:Nat) (n:Int):Int:=match i with|0=>n % 64|1=>n / 64 % 64|2=>n / 4096 % 64|_=>n / 262144 % 64
def pw (i:Nat):Int:=match i with|0=>1|1=>64|2=>4096|3=>262144|_=>16777216
def wW (i:Nat) (now:Int) (s:Nat):Int:=now / pw (i+1)*pw (i+1)+s*pw i
theorem gl {now d:Int}:lv now d=.late↔d<=now:=by
 unfold lv;split
 .simp[*]
 .repeat' split
  all_goals simp[*]
theorem wX {now d:Int} {i s:Nat} (h:lv now d=.row i s):now<d/\i<4/\s<64/\d / pw (i+1)=now / pw (i+1)/\rO i d=s/\rO i now<s:=by
 unfold lv at h;split at h
 .cases h
 split at h
 .cases h;simp only[pw,rO];omega
 split at h
 .cases h;simp only[pw,rO];omega
 split at h
 .cases h;simp only[pw,rO];omega
 split at h
 .cases h;simp only[pw,rO];omega
 .cases h
theorem AO {now d:Int} (h:lv now d=.fw):now<d/\d / 16777216≠now / 16777216:=by
 unfold lv at h;split at h
 .cases h
 split at h
 .cases h
 split at h
 .cases h
 split at h
 .cases h
 split at h
 .cases h
 .omega
theorem Cd {now d:Int} (h0:now<d) (h:d / 64=now / 64):lv now d=.row 0 (d % 64).toNat:=by
 unfold lv;rw[ZY (by omega),Z0 h]
theorem Cf {now d:Int} (h0:now<d) (h:d / 64≠now / 64) (h1:d / 4096=now / 4096):lv now d=.row 1 (d / 64 % 64).toNat:=by
 unfold lv;rw[ZY (by omega),ZY h,Z0 h1]
theorem Cg {now d:Int} (h0:now<d) (h1:d / 4096≠now / 4096) (h2:d / 262144=now / 262144):lv now d=.row 2 (d / 4096 % 64).toNat:=by
 unfold lv;rw[ZY (by omega),ZY (by omega),ZY h1,Z0 h2]
theorem Ch {now d:Int} (h0:now<d) (h2:d / 262144≠now / 262144) (h3:d / 16777216=now / 16777216):lv now d=.row 3 (d / 262144 % 64).toNat:=by
 unfold lv;rw[ZY (by omega),ZY (by omega),ZY (by omega),ZY h2,Z0 h3]
theorem Ci {now d:Int} (h0:now<d) (h3:d / 16777216≠now / 16777216):lv now d=.fw:=by
 unfold lv;rw[ZY (by omega),ZY (by omega),ZY (by omega),ZY (by omega),ZY h3]
theorem wY {now to d:Int} {i s:Nat} (h:lv now d=.row i s) (h1:now<=to) (h2:to<wW i now s):lv to d=.row i s:=by
 unfold wW at h2;unfold lv at h;split at h
 .cases h
 split at h
 .cases h;simp only[pw]at h2;exact Cd (by omega) (by omega)
 split at h
 .cases h;simp only[pw]at h2;exact Cf (by omega) (by omega) (by omega)
 split at h
 .cases h;simp only[pw]at h2;exact Cg (by omega) (by omega) (by omega)
 split at h
 .cases h;simp only[pw]at h2;exact Ch (by omega) (by omega) (by omega)
 .cases h
theorem l5 {now to d:Int} (h:lv now d=.fw) (h1:now<=to) (h2:to<d / 16777216*16777216):lv to d=.fw:=by
 have:=AO h;exact Ci (by omega) (by omega)
theorem yF {now to d:Int} {i s j t:Nat} (h:lv now d=.row i s) (h1:now<=to) (hj:j<i) (ht:t<64) (h2:to<=wW j now t):lv to d=.row i s:=by
 refine wY h h1 ?_;have:=wX h;obtain⟨_,hi,hs,h3,h4,h5⟩:=this;have:i=1\/i=2\/i=3:=by omega
 rcases this with rfl|rfl|rfl
 .obtain rfl:j=0:=by omega
  simp only[wW,pw,rO]at *;omega
 .have:j=0\/j=1:=by omega
  rcases this with rfl|rfl <;> (simp only[wW,pw,rO]at *;omega)
 .have:j=0\/j=1\/j=2:=by omega
  rcases this with rfl|rfl|rfl <;> (simp only[wW,pw,rO]at *;omega)
theorem pC {now to d:Int} {j t:Nat} (h:lv now d=.fw) (h1:now<=to) (hj:j<4) (ht:t<64) (h2:to<=wW j now t):lv to d=.fw:=by
 refine l5 h h1 ?_;have:=AO h;have:j=0\/j=1\/j=2\/j=3:=by omega
 rcases this with rfl|rfl|rfl|rfl <;> (simp only[wW,pw]at *;omega)
theorem Nz {now:Int} {i s:Nat} (h0:0<=now) (hi:i<4) (h:rO i now<s):now<wW i now s:=by
 have:i=0\/i=1\/i=2\/i=3:=by omega
 rcases this with rfl|rfl|rfl|rfl <;> (simp only[wW,pw,rO]at *;omega)
theorem GP {now:Int} {i s t:Nat} (hi:i<4) (h:s<t):wW i now s<wW i now t:=by
 have:i=0\/i=1\/i=2\/i=3:=by omega
 rcases this with rfl|rfl|rfl|rfl <;> (simp only[wW,pw]at *;omega)
end Go.Proofs.YthnefnlhcijekaaGreat.Ti
namespace Go.Proofs.YthnefnlhcijekaaGreat.Wh
open Go Go.RowKit Fw
abbrev Es (α:Type):=List (Nat×Int×α)
def b7 {α:Type} (es:Es α):List Nat:=es.map (·.1)
theorem Cj:∀ (l m:List Nat),l.Nodup->(∀ x∈l,x∈m)->l.length<=m.length
 | [],_,_,_=>aae _
 | x::l,m,hn,hs=>by
  have hx:x∈m:=hs x (Z7 ..);rw[aaT]at hn;have:=Cj l (m.erase x) hn.2 (fun y hy=>(List.mem_erase_of_ne (fun e:y=x=>hn.1 (by rw[<-e];exact hy))).2 (hs y (Z5 _ hy)));rw[aa7 hx]at this;have:=abE hx;simp only[Z9];omega
structure vu {α:Type} (es cH:Es α):Prop where
 nd:(b7 cH).Nodup
 sub:∀ e∈cH,e∈es
theorem vu.nil {α:Type} (es:Es α):vu es []:=⟨aaP,fun _ h=>by cases h⟩
theorem vu.add {α:Type} {es cH:Es α} (h:vu es cH) {b:Nat} {n:Int} {v:α} (hm:(b,n,v)∈es) (hb:b∉b7 cH):vu es (cH++[(b,n,v)]):=by
 refine⟨?_,fun e he=>?_⟩
 .unfold b7;rw[ace,abH]
  exact⟨h.nd,by simp,fun x hx y hy e=>by simp at hy;subst hy;subst e;exact hb hx⟩
 .rcases aaD.1 he with h1|h1
  .exact h.sub e h1
  .rw[abo.1 h1];exact hm
theorem vu.len {α:Type} {es cH:Es α} (h:vu es cH):cH.length<=es.length:=by
 have:=Cj (b7 cH) (b7 es) h.nd (fun x hx=>by
  obtain⟨e,he,rfl⟩:=aas.1 hx;exact aas.2 ⟨e,h.sub e he,rfl⟩)
 simpa [b7]using this
theorem born_inj {α:Type} {es:Es α} (hn:(b7 es).Nodup) {e f:Nat×Int×α} (he:e∈es) (hf:f∈es) (h:e.1=f.1):e=f:=by
 induction es with
 | nil=>cases he
 | cons x r ih =>
  simp only[b7,aal,aaT]at hn;rcases aaj.1 he with h1|h1 <;> rcases aaj.1 hf with h2|h2
  .rw[h1,h2]
  .subst h1;exact(hn.1 (aas.2 ⟨f,h2,h.symm⟩)).elim
  .subst h2;exact(hn.1 (aas.2 ⟨e,h1,h⟩)).elim
  .exact ih hn.2 h1 h2
theorem vu.all {α:Type} {es cH:Es α} (h:vu es cH) (hn:(b7 es).Nodup) (ha:∀ e∈es,e.1∈b7 cH) (e:Nat×Int×α):e∈cH↔e∈es:=by
 refine⟨h.sub e,fun he=>?_⟩;obtain⟨f,hf,h1⟩:=aas.1 (ha e he);rw[<-born_inj hn (h.sub f hf) he h1];exact hf
theorem vu.AP {α:Type} {es cH:Es α} (h:vu es cH) {b:Nat} {n:Int} {v:α} (hm:(b,n,v)∈es) (hb:b∉b7 cH):cH.length<es.length:=by
 have:=(h.add hm hb).len;simp only[aab,Z9,aay]at this;omega
theorem GQ {α:Type} (f:α->HV) {es cH:Es α} {c j:Nat} {g:Unit->Nat} {K0:Prop} {K:Int->AV->List Nat->Prop} (hg:g ()=0) (bf:∀ e∈es,e.1<c)
  (k0:(∀ e∈es,e.1∈b7 cH)->K0) (k1:∀ b n v,(b,n,v)∈es->b∉b7 cH->K n ((f v).av j) (b7 (cH++[(b,n,v)]))) :
  VH j (fun _=>⟨1,fun _=>.map (es.map fun e=>(e.1,e.2.1,f e.2.2)) c⟩) g c c (fun _=>b7 cH) K0 K:=by
 refine⟨_,rfl,rfl,fun e he=>?_,fun h=>k0 fun e he=>?_,fun b n v hm hb=>?_⟩
 .obtain⟨x,hx,rfl⟩:=aas.1 he
  exact bf x hx
 .exact h _ (aas.2 ⟨e,he,rfl⟩)
 .obtain⟨⟨b',n',v'⟩,hx,h1⟩:=aas.1 hm
  cases h1;have:=k1 b' n' v' hx hb;unfold b7 at this ⊢;rw[ace]at this;exact this
theorem key_inj {α:Type} {es:Es α} (hn:(aR es).Nodup) {e f:Nat×Int×α} (he:e∈es) (hf:f∈es) (h:e.2.1=f.2.1):e=f:=by
 induction es with
 | nil=>cases he
 | cons x r ih =>
  simp only[aR,aal,aaT]at hn;rcases aaj.1 he with h1|h1 <;> rcases aaj.1 hf with h2|h2
  .rw[h1,h2]
  .subst h1;exact(hn.1 (aas.2 ⟨f,h2,h.symm⟩)).elim
  .subst h2;exact(hn.1 (aas.2 ⟨e,h1,h⟩)).elim
  .exact ih hn.2 h1 h2
theorem vu.keys {α:Type} {es cH:Es α} (h:vu es cH) (hn:(aR es).Nodup):(aR cH).Nodup:=by
 have:=h.nd;unfold b7 at this;unfold aR;rw[aaI,abI]at this ⊢;refine abv ?_ this;intro a b ha hb rB e;exact rB (by rw[key_inj hn (h.sub a ha) (h.sub b hb) e])
theorem find_born {α:Type} (f:α->HV) {es:Es α} (hn:(b7 es).Nodup) {b:Nat} {n:Int} {v:α} (hm:(b,n,v)∈es) :
  (es.map fun e=>(e.1,e.2.1,f e.2.2)).find? (fun e=>e.1 == b)=some (b,n,f v):=by
 induction es with
 | nil=>cases hm
 | cons x r ih =>
  simp only[b7,aal,aaT]at hn;simp only[aal,List.find?_cons];rcases aaj.1 hm with h|h
  .subst h;simp
  .have bC:¬x.1=b:=fun e=>hn.1 (by rw[e];exact aas.2 ⟨(b,n,v),h,rfl⟩)
   rw[show(x.1 == b)=false by simpa using bC];exact ih hn.2 h
theorem GR {α:Type} (f:α->HV) {es cH:Es α} {c j:Nat} {g:Unit->Nat} {b:Nat} {n:Int} {v:α} {K:Int->AV->Prop} (hg:g ()=0) (hn:(b7 es).Nodup) (hm:(b,n,v)∈es)
  (k:K n ((f v).av j)):VI j (fun _=>⟨1,fun _=>.map (es.map fun e=>(e.1,e.2.1,f e.2.2)) c⟩) g c (fun _=>b7 (cH++[(b,n,v)])) K :=
 ⟨_,b,_,rfl,by simp[b7],find_born f hn hm,k⟩
theorem yG {α:Type} {es:Es α} (h:(b7 es).Nodup) (n:Int):(b7 (bZ es n)).Nodup:=by
 have:(bZ es n).Sublist es:=by
  induction es with
  | nil=>exact List.Sublist.refl _
  | cons x r ih =>
   obtain⟨b,k,v⟩:=x;simp only[b7,aal,aaT]at h;simp only[bZ];split
   .exact List.sublist_cons_self _ _
   .exact List.Sublist.cons_cons _ (ih h.2)
 exact h.sublist (this.map _)
theorem yH {α:Type} {es:Es α} (h:(b7 es).Nodup) {c:Nat} (hc:∀ e∈es,e.1<c) (n:Int) (v:α):(b7 (bV es c n v)).Nodup:=by
 have key:b7 (bV es c n v)=b7 es\/b7 (bV es c n v)=b7 es++[c]:=by
  clear h hc;induction es with
  | nil=>exact .inr rfl
  | cons x r ih =>
   obtain⟨b,k,u⟩:=x;simp only[bV];split
   .exact .inl rfl
   .rcases ih with e|e
    .left;simp only[b7,aal]at e ⊢;rw[e]
    .right;simp only[b7,aal,abp]at e ⊢;rw[e]
 rcases key with e|e
 .rw[e];exact h
 .rw[e,abH]
  refine⟨h,by simp,fun x hx y hy e2=>?_⟩;simp at hy;subst hy;subst e2;obtain⟨e,he,h1⟩:=aas.1 hx;have:=hc e he;omega
end Go.Proofs.YthnefnlhcijekaaGreat.Wh
namespace Go.Proofs.YthnefnlhcijekaaGreat.Ti
open Go Go.RowKit Fw Wh
abbrev Ks:=List (Nat×Int×Bool)
def pD (es:Ks):List (Nat×Int×HV):=es.map fun e=>(e.1,e.2.1,.gQ .bool e.2.2)
def vv (es:Ks) (c:Nat):Hp:=⟨1,fun _=>.map (pD es) c⟩
structure Tm where
 now:Int
 due:List (Nat×Int×Int)
 dc:Nat
 fw:Ks
 fc:Nat
 late:Ks
 lc:Nat
 w0:Wl
 w1:Wl
 w2:Wl
 w3:Wl
abbrev AQ:TypeId:=183
def NA (now:Int):Chunk:=.cells AQ [.I now,.hm 1 fun _=>0,.hp 4 fun _=>some (1,0),.hp 5 fun _=>some (1,0),.hp 6 fun _=>some (1,0),.hp 7 fun _=>some (1,0),.hm 2 fun _=>0,.hm 3 fun _=>0]
def r7 (t:Tm):List Chunk:=[NA t.now,.heap fun _=>rN t.due t.dc,.heap fun _=>vv t.fw t.fc,.heap fun _=>vv t.late t.lc,.heap fun _=>du t.w0,.heap fun _=>du t.w1,.heap fun _=>du t.w2,.heap fun _=>du t.w3]
def posOf (P:Int->Option Pl) (i:Nat) (id:Int):Option Nat:=match P id with|some (.row j s)=>if j=i then some s else none|_=>none
def cE {α:Type} (P:Int->Option α) (id:Int) (v:Option α):Int->Option α:=fun j=>if j=id then v else P j
structure qF (es:Ks) (c:Nat) (p:Int->Prop):Prop where
 nd:(aR es).Nodup
 mem:∀ id,id∈aR es↔p id
 lt:∀ e∈es,e.1<c
 uU:(b7 es).Nodup
structure kC (t:Tm) (D:Int->Option Int) (P:Int->Option Pl):Prop where
 ic:0<=t.now/\t.now<=1099511627776
 GS:(aR t.due).Nodup
 l6:∀ id,aP t.due id=D id
 GU:∀ e∈t.due,e.1<t.dc
 uM:(b7 t.due).Nodup
 AR:∀ id d,D id=some d->0<=id/\id<=1048575/\0<=d/\d<=1099511627776
 fw:qF t.fw t.fc fun id=>P id=some .fw
 late:qF t.late t.lc fun id=>P id=some .late
 w0:dL t.w0 (posOf P 0)
 w1:dL t.w1 (posOf P 1)
 w2:dL t.w2 (posOf P 2)
 w3:dL t.w3 (posOf P 3)
structure Can (now:Int) (D:Int->Option Int) (P:Int->Option Pl):Prop where
 h:∀ id,P id=(D id).map (lv now)
theorem kD (P:Int->Option Pl) (i:Nat) (id:Int):kB (posOf P i) id none=posOf (cE P id none) i:=by
 funext j;unfold kB posOf cE;split <;> rfl
theorem mK (P:Int->Option Pl) (i s:Nat) (id:Int):kB (posOf P i) id (some s)=posOf (cE P id (some (.row i s))) i:=by
 funext j;unfold kB posOf cE;split <;> simp
theorem aH (P:Int->Option Pl) (i:Nat) (id:Int) (v:Pl) (hP:P id=none) (hv:∀ s,v≠.row i s):posOf P i=posOf (cE P id (some v)) i:=by
 funext j;unfold posOf cE;by_cases h:j=id
 .subst h;rw[hP,Z0 rfl]
  cases v with
  | late=>rfl
  | fw=>rfl
  | row a b =>
   by_cases ha:a=i
   .subst ha;exact(hv b rfl).elim
   .simp[ha]
 .rw[ZY h]
theorem yI {α:Type} {es:List (Nat×Int×α)} {n:Int} {e:Nat×Int×α} (h:e∈bZ es n):e∈es:=by
 induction es with
 | nil=>cases h
 | cons x r ih =>
  obtain⟨b,k,v⟩:=x;simp only[bZ]at h;split at h
  .exact Z5 _ h
  .rcases aaj.1 h with h|h
   .exact h▸Z7 ..
   .exact Z5 _ (ih h)
theorem qF.del {es:Ks} {c:Nat} {p:Int->Prop} (h:qF es c p) (id:Int):qF (bZ es id) c fun j=>p j/\j≠id:=by
 refine⟨cQ h.nd id,fun j=>?_,fun e he=>h.lt e (yI he),yG h.uU id⟩;rw[yy,aaR h.nd,h.mem];exact And.comm
def qG {α:Type} (es:List (Nat×Int×α)) (c:Nat) (n:Int):Nat:=match aP es n with|some _=>c|none=>c+1
theorem GV {α:Type} {es:List (Nat×Int×α)} {c:Nat} {n:Int} {v:α} {e:Nat×Int×α} (h:e∈bV es c n v):(∃ e'∈es,e'.1=e.1)\/(e.1=c/\aP es n=none):=by
 induction es with
 | nil =>
  simp only[bV,abo]at h;subst h;exact .inr ⟨rfl,rfl⟩
 | cons x r ih =>
  obtain⟨b,k,u⟩:=x;simp only[bV]at h;by_cases hk:k=n
  .rw[Z0 hk]at h
   rcases aaj.1 h with h|h
   .subst h;exact .inl ⟨_,Z7 ..,rfl⟩
   .exact .inl ⟨e,Z5 _ h,rfl⟩
  .rw[ZY hk]at h
   rcases aaj.1 h with h|h
   .subst h;exact .inl ⟨_,Z7 ..,rfl⟩
   .rcases ih h with⟨e',h1,h2⟩|h1
    .exact .inl ⟨e',Z5 _ h1,h2⟩
    .refine .inr ⟨h1.1,?_⟩
     simp only[aP];rw[ZY hk];exact h1.2
theorem GW {α:Type} {es:List (Nat×Int×α)} {c:Nat} {n:Int} {v:α} (h:∀ e∈es,e.1<c):∀ e∈bV es c n v,e.1<qG es c n:=by
 intro e he;unfold qG;rcases GV he with⟨e',h1,h2⟩|⟨h1,h2⟩
 .have:=h e' h1
  split <;> omega
 .rw[h2];simp only[];omega
theorem qF.put {es:Ks} {c:Nat} {p:Int->Prop} (h:qF es c p) (id:Int):qF (bV es c id true) (qG es c id) fun j=>p j\/j=id:=by
 refine⟨cP h.nd c id true,fun j=>?_,GW h.lt,yH h.uU h.lt id true⟩;rw[yx];split
 .rename_i hm
  rw[h.mem];exact⟨.inl,fun h1=>h1.elim (fun h=>h) (fun e=>by subst e;exact(h.mem _).1 hm)⟩
 .rw[aaD,h.mem];simp
theorem qF.iff {es:Ks} {c:Nat} {p q:Int->Prop} (h:qF es c p) (SO:∀ id,p id↔q id):qF es c q:=⟨h.nd,fun id=>(h.mem id).trans (SO id),h.lt,h.uU⟩
theorem D3 (es:Ks) (n:Int):aP (pD es) n=(aP es n).map fun d=>HV.gQ .bool d:=by
 induction es with
 | nil=>rfl
 | cons e r ih =>
  obtain⟨b,k,x⟩:=e;simp only[pD,aal,aP];split
  .rfl
  .exact ih
theorem yJ {α:Type} (f:α->HV) (es:List (Nat×Int×α)) (n:Int):bZ (es.map fun e=>(e.1,e.2.1,f e.2.2)) n=(bZ es n).map fun e=>(e.1,e.2.1,f e.2.2):=by
 induction es with
 | nil=>rfl
 | cons e r ih =>
  obtain⟨b,k,x⟩:=e;simp only[aal,bZ];split
  .rfl
  .rw[aal];congr 1
theorem yK {α:Type} (f:α->HV) (es:List (Nat×Int×α)) (c:Nat) (n:Int) (v:α):bV (es.map fun e=>(e.1,e.2.1,f e.2.2)) c n (f v)=(bV es c n v).map fun e=>(e.1,e.2.1,f e.2.2):=by
 induction es with
 | nil=>rfl
 | cons e r ih =>
  obtain⟨b,k,x⟩:=e;simp only[aal,bV];split
  .rfl
  .rw[aal];congr 1
section
variable {P:Program} {ty i c:Nat} {K:Hp->Prop} {g:Unit->Nat} {n:Unit->Int} {z v:AV}
theorem GX {es:Ks} (hz:iC P ty=some (.bool false)) (hg:g ()=0) (k:K (vv (bZ es (n ())) c)):Mi P ty n (fun _=>vv es c) g K :=
 ⟨pD es,c,_,vv (bZ es (n ())) c,rfl,hz,⟨rfl,fun j hj=>aK (by
  have:j=0:=by change j<1 at hj;omega
  subst this;rw[hg];show HO.map _ _=HO.map _ _;rw[show pD (bZ es (n ()))=bZ (pD es) (n ())from(yJ (fun b=>HV.gQ .bool b) es (n ())).symm])⟩,k⟩
theorem QT {es:List (Nat×Int×Int)} (hz:iC P ty=some (.int .i64 0)) (hg:g ()=0) (k:K (rN (bZ es (n ())) c)):Mi P ty n (fun _=>rN es c) g K :=
 ⟨qE es,c,_,rN (bZ es (n ())) c,rfl,hz,⟨rfl,fun j hj=>aK (by
  have:j=0:=by change j<1 at hj;omega
  subst this;rw[hg];show HO.map _ _=HO.map _ _;rw[show qE (bZ es (n ()))=bZ (qE es) (n ())from(yJ (fun b=>HV.gQ (.int .i64) b) es (n ())).symm])⟩,k⟩
theorem GY {es:Ks} (hz:iC P ty=some (.bool false)) (hg:g ()=0) (hv:eN i v (.gQ .bool true)) (k:K (vv (bV es c (n ()) true) (qG es c (n ())))):Mh P ty i n v (fun _=>vv es c) g K :=
 ⟨pD es,c,_,_,vv (bV es c (n ()) true) (qG es c (n ())),rfl,hz,hv,⟨rfl,fun j hj=>aK (by
  have:j=0:=by change j<1 at hj;omega
  subst this;rw[hg];show HO.map _ _=uB _ _ _ _;unfold uB qG;rw[show pD (bV es c (n ()) true)=bV (pD es) c (n ()) (.gQ .bool true)from(yK (fun b=>HV.gQ .bool b) es c (n ()) true).symm,D3];cases aP es (n ()) <;> rfl)⟩,k⟩
theorem LG {es:List (Nat×Int×Int)} {x:Int} (hz:iC P ty=some (.int .i64 0)) (hg:g ()=0) (hv:eN i v (.gQ (.int .i64) x)) (k:K (rN (bV es c (n ()) x) (qG es c (n ())))):Mh P ty i n v (fun _=>rN es c) g K :=
 ⟨qE es,c,_,_,rN (bV es c (n ()) x) (qG es c (n ())),rfl,hz,hv,⟨rfl,fun j hj=>aK (by
  have:j=0:=by change j<1 at hj;omega
  subst this;rw[hg];show HO.map _ _=uB _ _ _ _;unfold uB qG;rw[show qE (bV es c (n ()) x)=bV (qE es) c (n ()) (.gQ (.int .i64) x)from(yK (fun b=>HV.gQ (.int .i64) b) es c (n ()) x).symm,lZ];cases aP es (n ()) <;> rfl)⟩,k⟩
end
structure GZ (t:Tm) (D:Int->Option Int) (P:Int->Option Pl) (t':Tm):Prop where
 rel:kC t' D P
 now:t'.now=t.now
abbrev WA:AV:=.agg [.hp 4 fun _=>some (1,0),.hp 5 fun _=>some (1,0),.hp 6 fun _=>some (1,0),.hp 7 fun _=>some (1,0)]
def vw (t:Tm) (a b c d:Wl):Tm:={ t with w0:=a,w1:=b,w2:=c,w3:=d }
theorem liftM (t:Tm) (D:Int->Option Int) (P:Int->Option Pl) (h:kC t D P) (id:Int):aa Tryz.prog 127 [.ptr 0 0,.I id] (r7 t) (Y:=Tm) (GZ t D (cE P id none))
  (fun _=>.bQ []) r7:=by
 (refine aa.q Tryz.func127 rfl fun S aw=>Wa _ ?_;(repeat' first|exact tv|apply pr|intro hh));refine aM.intro hm (X:=Nat×Wl×Wl×Wl×Wl)
  (fun x=>x.1<=4/\dL x.2.1 (posOf (if 0<x.1 then cE P id none else P) 0)/\dL x.2.2.1 (posOf (if 1<x.1 then cE P id none else P) 1)/\dL x.2.2.2.1 (posOf (if 2<x.1 then cE P id none else P) 2)/\dL x.2.2.2.2 (posOf (if 3<x.1 then cE P id none else P) 3)) (fun x=>4 - x.1)
  (fun x=>[(0,.ptr 0 0),(1,.I id),(9,WA),(10,.I (x.1:Int))])
  (fun x=>r7 (vw t x.2.1 x.2.2.1 x.2.2.2.1 x.2.2.2.2)) (0,t.w0,t.w1,t.w2,t.w3) [0,1,2,3,4,5,6,7] ⟨rfl,rfl,?_,?_⟩ ⟨by omega,h.w0,h.w1,h.w2,h.w3⟩ ?_
 .exact Vc
 .exact Vc
 .rintro⟨i,a,b,c,d⟩ ⟨hi,h0,h1,h2,h3⟩
  simp only[]at hi h0 h1 h2 h3;obtain rfl|rfl|rfl|rfl|rfl:i=0\/i=1\/i=2\/i=3\/i=4:=by omega
  .refine Wa _ ?_;repeat' first|exact tv|apply pr|intro hh
   .exact⟨by simp⟩
   (refine ab.q (nD a (posOf P 0) h0 id) [4] ?_;rintro a1 ha;refine Wp _ ?_;(repeat' first|exact tv|apply pr|intro hh));refine⟨(1,a1,b,c,d),[0,1,2,3,4,5,6,7],⟨rfl,rfl,?_,?_⟩,⟨by omega,?_,h1,h2,h3⟩,by simp only[];omega⟩
   .exact Vc
   .exact Vc
   .rw[kD]at ha;exact ha
  .refine Wa _ ?_;repeat' first|exact tv|apply pr|intro hh
   .exact⟨by simp⟩
   (refine ab.q (nD b (posOf P 1) h1 id) [5] ?_;rintro a1 ha;refine Wp _ ?_;(repeat' first|exact tv|apply pr|intro hh));refine⟨(2,a,a1,c,d),[0,1,2,3,4,5,6,7],⟨rfl,rfl,?_,?_⟩,⟨by omega,h0,?_,h2,h3⟩,by simp only[];omega⟩
   .exact Vc
   .exact Vc
   .rw[kD]at ha;exact ha
  .refine Wa _ ?_;repeat' first|exact tv|apply pr|intro hh
   .exact⟨by simp⟩
   (refine ab.q (nD c (posOf P 2) h2 id) [6] ?_;rintro a1 ha;refine Wp _ ?_;(repeat' first|exact tv|apply pr|intro hh));refine⟨(3,a,b,a1,d),[0,1,2,3,4,5,6,7],⟨rfl,rfl,?_,?_⟩,⟨by omega,h0,h1,?_,h3⟩,by simp only[];omega⟩
   .exact Vc
   .exact Vc
   .rw[kD]at ha;exact ha
  .refine Wa _ ?_;repeat' first|exact tv|apply pr|intro hh
   .exact⟨by simp⟩
   (refine ab.q (nD d (posOf P 3) h3 id) [7] ?_;rintro a1 ha;refine Wp _ ?_;(repeat' first|exact tv|apply pr|intro hh));refine⟨(4,a,b,c,a1),[0,1,2,3,4,5,6,7],⟨rfl,rfl,?_,?_⟩,⟨by omega,h0,h1,h2,?_⟩,by simp only[];omega⟩
   .exact Vc
   .exact Vc
   .rw[kD]at ha;exact ha
  .refine Wa _ ?_;repeat' first|exact tv|apply pr|intro hh
   (all_goals first|exact Ob.mk (fun h=>by cases h)|exact Ob.mk ⟨(fun h=>by cases h),by simp only[];omega,by simp only[];omega⟩|skip);refine GX rfl rfl ?_;(refine Wa _ ?_;(repeat' first|exact tv|apply pr|intro hh));(all_goals first|exact Ob.mk (fun h=>by cases h)|exact Ob.mk ⟨(fun h=>by cases h),by simp only[];omega,by simp only[];omega⟩|skip);refine GX rfl rfl ?_;(refine Wa _ ?_;(repeat' first|exact tv|apply pr|intro hh));(refine ae.w { vw t a b c d with fw:=bZ t.fw id,late:=bZ t.late id } [0,1,2,3,4,5,6,7] _ ?_;(repeat' first|exact tv|apply pr));refine⟨⟨h.ic,h.GS,h.l6,h.GU,h.uM,h.AR,(h.fw.del id).iff fun j=>?_,(h.late.del id).iff fun j=>?_,h0,h1,h2,h3⟩,rfl⟩
   .unfold cE;split <;> simp[*]
   .unfold cE;split <;> simp[*]
theorem wr {x:Int} (h0:0<=x) (h1:x<9223372036854775808):IntKind.i64.wrap x=x:=by
 simp only[IntKind.wrap,IntKind.bits,IntKind.signed];simp;omega
theorem Us {a b:Int} (ha:0<=a) (hb:0<=b) (ZG:a<2199023255552) (Pc:b<2199023255552) :
  IntKind.i64.wrap ((BitVec.ofInt IntKind.i64.bits a ^^^ BitVec.ofInt IntKind.i64.bits b).toNat:Int)=((a.toNat ^^^ b.toNat:Nat):Int):=by
 have e1:(BitVec.ofInt IntKind.i64.bits a).toNat=a.toNat:=by
  rw[acD];show(a % ((2 ^ 64:Nat):Int)).toNat=_;congr 1;omega
 have e2:(BitVec.ofInt IntKind.i64.bits b).toNat=b.toNat:=by
  rw[acD];show(b % ((2 ^ 64:Nat):Int)).toNat=_;congr 1;omega
 rw[BitVec.toNat_xor,e1,e2];have:a.toNat ^^^ b.toNat<2 ^ 41:=Nat.xor_lt_two_pow (by omega) (by omega);exact wr (by omega) (by omega)
theorem LH (a b k:Nat):((a ^^^ b:Nat):Int).fdiv (2 ^ k)=0↔a / 2 ^ k=b / 2 ^ k:=by
 have e:((a ^^^ b:Nat):Int).fdiv (2 ^ k)=(((a ^^^ b) / 2 ^ k:Nat):Int):=by
  rw[abA _ (by exact_mod_cast aae (2 ^ k))];norm_cast
 rw[e];have e2:(a ^^^ b) / 2 ^ k=(a / 2 ^ k) ^^^ (b / 2 ^ k):=by
  rw[<-acY,<-acY,<-acY,Nat.shiftRight_xor_distrib]
 rw[e2];constructor
 .intro h
  have h:(a / 2 ^ k) ^^^ (b / 2 ^ k)=0:=by omega
  refine abn fun i=>?_;have h2:=congrArg (fun z=>Nat.testBit z i) h;simpa [Nat.testBit_xor]using h2
 .intro h;rw[h,Nat.xor_self];rfl
theorem yL {x:Int} (h0:0<=x) (h1:x<2199023255552):IntKind.i64.wrap ((BitVec.ofInt IntKind.i64.bits x &&& BitVec.ofInt IntKind.i64.bits 63).toNat:Int)=x % 64:=by
 have e1:(BitVec.ofInt IntKind.i64.bits x).toNat=x.toNat:=by
  rw[acD];show(x % ((2 ^ 64:Nat):Int)).toNat=_;congr 1;omega
 have e2:(BitVec.ofInt IntKind.i64.bits 63).toNat=2 ^ 6 - 1:=by decide
 rw[BitVec.toNat_and,e1,e2,ab5];have:x.toNat % 2 ^ 6<64:=abm _ (by decide);rw[Wh.wr (by omega)];omega
theorem jY (x:Int) (k:Nat) (m:Int) (h:(2:Int) ^ k=m) (hm:0<=m):x.fdiv (2 ^ k)=x / m:=by
 rw[h,abA _ hm]
theorem G0 {now d:Int} (h0:now<d) (h:d / 64=now / 64):lv now d=.row 0 (d / 1 % 64).toNat:=by rw[Int.ediv_one];exact Cd h0 h
theorem qH (t:Tm) (D:Int->Option Int) (P:Int->Option Pl) (h:kC t D P) (id d:Int) (hd:D id=some d) (hp:P id=none):aa Tryz.prog 128 [.ptr 0 0,.I id] (r7 t) (Y:=Tm)
  (GZ t D (cE P id (some (lv t.now d)))) (fun _=>.bQ []) r7:=by
 have Yq:bl t.due id=d:=by unfold bl;rw[h.l6,hd];rfl
 obtain⟨yz,r8,Ws,NB⟩:=h.AR id d hd;(refine aa.q Tryz.func128 rfl fun S aw=>Wa _ ?_;(repeat' first|exact tv|apply pr|intro hh));(all_goals first|exact Ob.mk (fun h=>by cases h)|exact Ob.mk ⟨(fun h=>by cases h),by simp only[];omega,by simp only[];omega⟩|skip);refine yC rfl rfl ?_;rw[Yq];(refine Wa _ ?_;(repeat' first|exact tv|apply pr|intro hh));(all_goals first|exact Ob.mk (fun h=>by cases h)|exact Ob.mk ⟨(fun h=>by cases h),by simp only[];omega,by simp only[];omega⟩|skip)
 .refine GY rfl rfl .tt ?_
  (refine Wa _ ?_;(repeat' first|exact tv|apply pr|intro hh));(refine ae.w { t with late:=bV t.late t.lc id true,lc:=qG t.late t.lc id } [0,1,2,3,4,5,6,7] _ ?_;(repeat' first|exact tv|apply pr));rw[gl.2 hh];refine⟨⟨h.ic,h.GS,h.l6,h.GU,h.uM,h.AR,h.fw.iff fun j=>?_,(h.late.put id).iff fun j=>?_,?_,?_,?_,?_⟩,rfl⟩
  .unfold cE;split
   .rename_i e;subst e;simp[hp]
   .rfl
  .unfold cE;split
   .simp[*]
   .simp[*]
  .rw[<-aH P 0 id _ hp (fun s e=>by cases e)];exact h.w0
  .rw[<-aH P 1 id _ hp (fun s e=>by cases e)];exact h.w1
  .rw[<-aH P 2 id _ hp (fun s e=>by cases e)];exact h.w2
  .rw[<-aH P 3 id _ hp (fun s e=>by cases e)];exact h.w3
 have bf:t.now<d:=by omega
 refine aM.intro hm (X:=Nat) (fun i=>i<=4/\(1<=i->d / 64≠t.now / 64)/\(2<=i->d / 4096≠t.now / 4096)/\(3<=i->d / 262144≠t.now / 262144)/\(4<=i->d / 16777216≠t.now / 16777216)) (fun i=>4 - i)
  (fun i=>[(0,.ptr 0 0),(1,.I id),(4,.I d),(5,.I ((d.toNat ^^^ t.now.toNat:Nat):Int)),(34,WA),(35,.I (i:Int))])
  (fun _=>r7 t) 0 [0,1,2,3,4,5,6,7] ⟨rfl,rfl,?_,?_⟩ ⟨by omega,by omega,by omega,by omega,by omega⟩ ?_
 .exact Vc
 .refine Vb _ ?_;repeat' first|exact tv|apply pr
  exact Us Ws h.ic.1 (by omega) (by have:=h.ic.2;omega)
 .rintro i ⟨hi,g1,g2,g3,g4⟩
  obtain rfl|rfl|rfl|rfl|rfl:i=0\/i=1\/i=2\/i=3\/i=4:=by omega
  .refine Wa _ ?_;repeat' first|exact tv|apply pr|intro hh
   .exact⟨by simp⟩
   .exact⟨by decide⟩
   .exact⟨by decide⟩
   .have hq:d / 64=t.now / 64:=by
     have h2:((d.toNat ^^^ t.now.toNat:Nat):Int).fdiv (2 ^ (6*(0+1)))=0:=hh;have h2:=(LH d.toNat t.now.toNat (6*(0+1))).1 h2;have e:(2:Nat) ^ (6*(0+1))=64:=by decide
     rw[e]at h2;have:=h.ic.1;omega
    have wT:0<=d / 1 % 64/\d / 1 % 64<64:=by omega
    refine ab.intro (DY t.w0 (posOf P 0) h.w0 (d / 1 % 64).toNat (by omega) id yz r8) [4] rfl rfl ?_ ?_ (fun a1 ha=>?_)
    .refine Vb _ ?_;repeat' first|exact tv|apply pr
     have e:=yL (x:=d / 1) (by omega) (by omega);have e2:d.fdiv (2 ^ (6*0))=d / 1:=jY d (6*0) 1 (by decide) (by decide);exact((congrArg (fun z=>IntKind.i64.wrap ((BitVec.ofInt IntKind.i64.bits z &&& BitVec.ofInt IntKind.i64.bits 63).toNat:Int)) e2).trans e).trans (aaB wT.1).symm
    .exact Vc
    (refine Wa _ ?_;(repeat' first|exact tv|apply pr|intro hh));(refine ae.w (vw t a1 t.w1 t.w2 t.w3) [0,1,2,3,4,5,6,7] _ ?_;(repeat' first|exact tv|apply pr));rw[G0 bf hq];rw[mK]at ha;refine⟨⟨h.ic,h.GS,h.l6,h.GU,h.uM,h.AR,h.fw.iff fun j=>?_,h.late.iff fun j=>?_,?_,?_,?_,?_⟩,rfl⟩
    .unfold cE;split
     .rename_i e;subst e;simp[hp]
     .rfl
    .unfold cE;split
     .rename_i e;subst e;simp[hp]
     .rfl
    .first|exact ha|(rw[<-aH P 0 id _ hp (fun s e=>by cases e)];exact h.w0)
    .first|exact ha|(rw[<-aH P 1 id _ hp (fun s e=>by cases e)];exact h.w1)
    .first|exact ha|(rw[<-aH P 2 id _ hp (fun s e=>by cases e)];exact h.w2)
    .first|exact ha|(rw[<-aH P 3 id _ hp (fun s e=>by cases e)];exact h.w3)
   .have hq:d / 64≠t.now / 64:=fun hq=>hh ((LH d.toNat t.now.toNat (6*(0+1))).2 (by
     have e:(2:Nat) ^ (6*(0+1))=64:=by decide
     rw[e];have:=h.ic.1;omega))
    refine⟨0+1,[0,1,2,3,4,5,6,7],⟨rfl,rfl,?_,?_⟩,⟨by omega,fun _=>hq,by omega,by omega,by omega⟩,by omega⟩
    .exact Vc
    .exact Vc
  .refine Wa _ ?_;repeat' first|exact tv|apply pr|intro hh
   .exact⟨by simp⟩
   .exact⟨by decide⟩
   .exact⟨by decide⟩
   .have hq:d / 4096=t.now / 4096:=by
     have h2:((d.toNat ^^^ t.now.toNat:Nat):Int).fdiv (2 ^ (6*(1+1)))=0:=hh;have h2:=(LH d.toNat t.now.toNat (6*(1+1))).1 h2;have e:(2:Nat) ^ (6*(1+1))=4096:=by decide
     rw[e]at h2;have:=h.ic.1;omega
    have wT:0<=d / 64 % 64/\d / 64 % 64<64:=by omega
    refine ab.intro (DY t.w1 (posOf P 1) h.w1 (d / 64 % 64).toNat (by omega) id yz r8) [5] rfl rfl ?_ ?_ (fun a1 ha=>?_)
    .refine Vb _ ?_;repeat' first|exact tv|apply pr
     have e:=yL (x:=d / 64) (by omega) (by omega);have e2:d.fdiv (2 ^ (6*1))=d / 64:=jY d (6*1) 64 (by decide) (by decide);exact((congrArg (fun z=>IntKind.i64.wrap ((BitVec.ofInt IntKind.i64.bits z &&& BitVec.ofInt IntKind.i64.bits 63).toNat:Int)) e2).trans e).trans (aaB wT.1).symm
    .exact Vc
    (refine Wa _ ?_;(repeat' first|exact tv|apply pr|intro hh));(refine ae.w (vw t t.w0 a1 t.w2 t.w3) [0,1,2,3,4,5,6,7] _ ?_;(repeat' first|exact tv|apply pr));rw[Cf bf (g1 (by omega)) hq];rw[mK]at ha;refine⟨⟨h.ic,h.GS,h.l6,h.GU,h.uM,h.AR,h.fw.iff fun j=>?_,h.late.iff fun j=>?_,?_,?_,?_,?_⟩,rfl⟩
    .unfold cE;split
     .rename_i e;subst e;simp[hp]
     .rfl
    .unfold cE;split
     .rename_i e;subst e;simp[hp]
     .rfl
    .first|exact ha|(rw[<-aH P 0 id _ hp (fun s e=>by cases e)];exact h.w0)
    .first|exact ha|(rw[<-aH P 1 id _ hp (fun s e=>by cases e)];exact h.w1)
    .first|exact ha|(rw[<-aH P 2 id _ hp (fun s e=>by cases e)];exact h.w2)
    .first|exact ha|(rw[<-aH P 3 id _ hp (fun s e=>by cases e)];exact h.w3)
   .have hq:d / 4096≠t.now / 4096:=fun hq=>hh ((LH d.toNat t.now.toNat (6*(1+1))).2 (by
     have e:(2:Nat) ^ (6*(1+1))=4096:=by decide
     rw[e];have:=h.ic.1;omega))
    refine⟨1+1,[0,1,2,3,4,5,6,7],⟨rfl,rfl,?_,?_⟩,⟨by omega,fun _=>g1 (by omega),fun _=>hq,by omega,by omega⟩,by omega⟩
    .exact Vc
    .exact Vc
  .refine Wa _ ?_;repeat' first|exact tv|apply pr|intro hh
   .exact⟨by simp⟩
   .exact⟨by decide⟩
   .exact⟨by decide⟩
   .have hq:d / 262144=t.now / 262144:=by
     have h2:((d.toNat ^^^ t.now.toNat:Nat):Int).fdiv (2 ^ (6*(2+1)))=0:=hh;have h2:=(LH d.toNat t.now.toNat (6*(2+1))).1 h2;have e:(2:Nat) ^ (6*(2+1))=262144:=by decide
     rw[e]at h2;have:=h.ic.1;omega
    have wT:0<=d / 4096 % 64/\d / 4096 % 64<64:=by omega
    refine ab.intro (DY t.w2 (posOf P 2) h.w2 (d / 4096 % 64).toNat (by omega) id yz r8) [6] rfl rfl ?_ ?_ (fun a1 ha=>?_)
    .refine Vb _ ?_;repeat' first|exact tv|apply pr
     have e:=yL (x:=d / 4096) (by omega) (by omega);have e2:d.fdiv (2 ^ (6*2))=d / 4096:=jY d (6*2) 4096 (by decide) (by decide);exact((congrArg (fun z=>IntKind.i64.wrap ((BitVec.ofInt IntKind.i64.bits z &&& BitVec.ofInt IntKind.i64.bits 63).toNat:Int)) e2).trans e).trans (aaB wT.1).symm
    .exact Vc
    (refine Wa _ ?_;(repeat' first|exact tv|apply pr|intro hh));(refine ae.w (vw t t.w0 t.w1 a1 t.w3) [0,1,2,3,4,5,6,7] _ ?_;(repeat' first|exact tv|apply pr));rw[Cg bf (g2 (by omega)) hq];rw[mK]at ha;refine⟨⟨h.ic,h.GS,h.l6,h.GU,h.uM,h.AR,h.fw.iff fun j=>?_,h.late.iff fun j=>?_,?_,?_,?_,?_⟩,rfl⟩
    .unfold cE;split
     .rename_i e;subst e;simp[hp]
     .rfl
    .unfold cE;split
     .rename_i e;subst e;simp[hp]
     .rfl
    .first|exact ha|(rw[<-aH P 0 id _ hp (fun s e=>by cases e)];exact h.w0)
    .first|exact ha|(rw[<-aH P 1 id _ hp (fun s e=>by cases e)];exact h.w1)
    .first|exact ha|(rw[<-aH P 2 id _ hp (fun s e=>by cases e)];exact h.w2)
    .first|exact ha|(rw[<-aH P 3 id _ hp (fun s e=>by cases e)];exact h.w3)
   .have hq:d / 262144≠t.now / 262144:=fun hq=>hh ((LH d.toNat t.now.toNat (6*(2+1))).2 (by
     have e:(2:Nat) ^ (6*(2+1))=262144:=by decide
     rw[e];have:=h.ic.1;omega))
    refine⟨2+1,[0,1,2,3,4,5,6,7],⟨rfl,rfl,?_,?_⟩,⟨by omega,fun _=>g1 (by omega),fun _=>g2 (by omega),fun _=>hq,by omega⟩,by omega⟩
    .exact Vc
    .exact Vc
  .refine Wa _ ?_;repeat' first|exact tv|apply pr|intro hh
   .exact⟨by simp⟩
   .exact⟨by decide⟩
   .exact⟨by decide⟩
   .have hq:d / 16777216=t.now / 16777216:=by
     have h2:((d.toNat ^^^ t.now.toNat:Nat):Int).fdiv (2 ^ (6*(3+1)))=0:=hh;have h2:=(LH d.toNat t.now.toNat (6*(3+1))).1 h2;have e:(2:Nat) ^ (6*(3+1))=16777216:=by decide
     rw[e]at h2;have:=h.ic.1;omega
    have wT:0<=d / 262144 % 64/\d / 262144 % 64<64:=by omega
    refine ab.intro (DY t.w3 (posOf P 3) h.w3 (d / 262144 % 64).toNat (by omega) id yz r8) [7] rfl rfl ?_ ?_ (fun a1 ha=>?_)
    .refine Vb _ ?_;repeat' first|exact tv|apply pr
     have e:=yL (x:=d / 262144) (by omega) (by omega);have e2:d.fdiv (2 ^ (6*3))=d / 262144:=jY d (6*3) 262144 (by decide) (by decide);exact((congrArg (fun z=>IntKind.i64.wrap ((BitVec.ofInt IntKind.i64.bits z &&& BitVec.ofInt IntKind.i64.bits 63).toNat:Int)) e2).trans e).trans (aaB wT.1).symm
    .exact Vc
    (refine Wa _ ?_;(repeat' first|exact tv|apply pr|intro hh));(refine ae.w (vw t t.w0 t.w1 t.w2 a1) [0,1,2,3,4,5,6,7] _ ?_;(repeat' first|exact tv|apply pr));rw[Ch bf (g3 (by omega)) hq];rw[mK]at ha;refine⟨⟨h.ic,h.GS,h.l6,h.GU,h.uM,h.AR,h.fw.iff fun j=>?_,h.late.iff fun j=>?_,?_,?_,?_,?_⟩,rfl⟩
    .unfold cE;split
     .rename_i e;subst e;simp[hp]
     .rfl
    .unfold cE;split
     .rename_i e;subst e;simp[hp]
     .rfl
    .first|exact ha|(rw[<-aH P 0 id _ hp (fun s e=>by cases e)];exact h.w0)
    .first|exact ha|(rw[<-aH P 1 id _ hp (fun s e=>by cases e)];exact h.w1)
    .first|exact ha|(rw[<-aH P 2 id _ hp (fun s e=>by cases e)];exact h.w2)
    .first|exact ha|(rw[<-aH P 3 id _ hp (fun s e=>by cases e)];exact h.w3)
   .have hq:d / 16777216≠t.now / 16777216:=fun hq=>hh ((LH d.toNat t.now.toNat (6*(3+1))).2 (by
     have e:(2:Nat) ^ (6*(3+1))=16777216:=by decide
     rw[e];have:=h.ic.1;omega))
    refine⟨3+1,[0,1,2,3,4,5,6,7],⟨rfl,rfl,?_,?_⟩,⟨by omega,fun _=>g1 (by omega),fun _=>g2 (by omega),fun _=>g3 (by omega),fun _=>hq⟩,by omega⟩
    .exact Vc
    .exact Vc
  .refine Wa _ ?_;repeat' first|exact tv|apply pr|intro hh
   (all_goals first|exact Ob.mk (fun h=>by cases h)|exact Ob.mk ⟨(fun h=>by cases h),by simp only[];omega,by simp only[];omega⟩|skip);refine GY rfl rfl .tt ?_;(refine Wa _ ?_;(repeat' first|exact tv|apply pr|intro hh));(refine ae.w { t with fw:=bV t.fw t.fc id true,fc:=qG t.fw t.fc id } [0,1,2,3,4,5,6,7] _ ?_;(repeat' first|exact tv|apply pr));rw[Ci bf (g4 (by omega))];refine⟨⟨h.ic,h.GS,h.l6,h.GU,h.uM,h.AR,(h.fw.put id).iff fun j=>?_,h.late.iff fun j=>?_,?_,?_,?_,?_⟩,rfl⟩
   .unfold cE;split
    .simp[*]
    .simp[*]
   .unfold cE;split
    .rename_i e;subst e;simp[hp]
    .rfl
   .rw[<-aH P 0 id _ hp (fun s e=>by cases e)];exact h.w0
   .rw[<-aH P 1 id _ hp (fun s e=>by cases e)];exact h.w1
   .rw[<-aH P 2 id _ hp (fun s e=>by cases e)];exact h.w2
   .rw[<-aH P 3 id _ hp (fun s e=>by cases e)];exact h.w3
structure wZ (now:Int) (D:Int->Option Int) (y:Int×Int×List Int):Prop where
 gt:now<y.1
 stay:∀ id d,D id=some d->id∉y.2.2->lv y.1 d=lv now d
 wait:∀ to id d,now<=to->to<y.1->D id=some d->lv to d=lv now d
 mem:∀ id,id∈y.2.2->∃ d,D id=some d
 nd:y.2.2.Nodup
 len:y.2.2.length<=1048576
theorem SP {y:Int} (K:Nat) (m q:Int) (hm:(2:Int) ^ K=m) (Yr:m<=16777216) (hq:0<=q) (hx:q*m<2199023255552) (hy:0<=y) (Ys:y<m) :
  IntKind.i64.wrap ((BitVec.ofInt IntKind.i64.bits (q*m) ||| BitVec.ofInt IntKind.i64.bits y).toNat:Int)=q*m+y:=by
 have u6:0<=m:=by omega
 have Yt:0<=q*m:=aaw hq u6;have Yu:m.toNat=2 ^ K:=by
  have:((2 ^ K:Nat):Int)=m:=by rw[<-hm];norm_cast
  omega
 have e0:(q*m).toNat=q.toNat*2 ^ K:=by rw[Int.toNat_mul hq u6,Yu]
 have e1:(BitVec.ofInt IntKind.i64.bits (q*m)).toNat=(q*m).toNat:=by
  rw[acD];show((q*m) % ((2 ^ 64:Nat):Int)).toNat=_;congr 1;exact Int.emod_eq_of_lt Yt (by
   have:((2 ^ 64:Nat):Int)=18446744073709551616:=rfl;omega)
 have e2:(BitVec.ofInt IntKind.i64.bits y).toNat=y.toNat:=by
  rw[acD];show(y % ((2 ^ 64:Nat):Int)).toNat=_;congr 1;omega
 rw[BitVec.toNat_or,e1,e2,e0];have h3:=Nat.shiftLeft_add_eq_or_of_lt (b:=y.toNat) (i:=K) (by omega) q.toNat;rw[Nat.shiftLeft_eq]at h3;rw[<-h3,<-e0,Wh.wr (by omega)];omega
theorem w5 {now:Int} {D:Int->Option Int} {P:Int->Option Pl} (hc:Can now D P) {i f:Nat} (hf:(f:Int)=rO i now+1) (hy:tA (posOf P i) f none):∀ id s,P id≠some (.row i s):=by
 intro id s e;have h1:=hc.h id;rw[e]at h1;cases hd:D id with
 | none=>rw[hd]at h1;cases h1
 | some d =>
  rw[hd]at h1;have h2:lv now d=.row i s:=(abJ h1).symm;obtain⟨_,_,h3,_,_,h4⟩:=wX h2;exact hy.none_ rfl s (by omega) h3 id (by unfold posOf;rw[e];simp)
theorem Can.pl {now:Int} {D:Int->Option Int} {P:Int->Option Pl} (hc:Can now D P) {id d:Int} (hd:D id=some d):P id=some (lv now d):=by rw[hc.h id,hd];rfl
theorem pE {t:Tm} {D:Int->Option Int} {P:Int->Option Pl} (hc:Can t.now D P) (h:kC t D P) {i f s:Nat} {l:List Int} {n:Int} (hi:i<4) (g:∀ j,j<i->∀ id s,P id≠some (.row j s)) (hf:(f:Int)=rO i t.now+1)
  (hy:tA (posOf P i) f (some s)) (hl:LD (posOf P i) s l):wZ t.now D (wW i t.now s,n,l):=by
 obtain⟨k1,k2,k3,k4⟩:=hy.some_ s rfl;have hn:=h.ic.1;have G1:t.now<wW i t.now s:=Nz hn hi (by omega);have key:∀ id d,D id=some d->(lv t.now d=.late\/lv t.now d=.fw\/(∃ j s',i<j/\lv t.now d=.row j s')\/(∃ s',s<=s'/\lv t.now d=.row i s')):=by
  intro id d hd;have hp:=hc.pl hd;cases Cm:lv t.now d with
  | late=>exact .inl rfl
  | fw=>exact .inr (.inl rfl)
  | row j s' =>
   rw[Cm]at hp;by_cases hj:j<i
   .exact(g j hj id s' hp).elim
   by_cases lq:j=i
   .subst lq
    refine .inr (.inr (.inr ⟨s',?_,rfl⟩));obtain⟨_,_,h3,_,_,h4⟩:=wX Cm;by_cases hs:s<=s'
    .exact hs
    .exact(k4 s' (by omega) (by omega) id (by unfold posOf;rw[hp];simp)).elim
   .exact .inr (.inr (.inl ⟨j,s',by omega,rfl⟩))
 refine⟨G1,fun id d hd I0=>?_,fun to id d h1 h2 hd=>?_,fun id hid=>?_,hl.nd,hl.len⟩
 .rcases key id d hd with e|e|⟨j,s',hj,e⟩|⟨s',hs,e⟩
  .rw[e];have:=gl.1 e;exact gl.2 (by simp only[];omega)
  .rw[e];exact pC e (acM G1) hi k2 (aad _)
  .rw[e];exact yF e (acM G1) hj k2 (aad _)
  .rw[e]
   have bC:s≠s':=fun e2=>by
    subst e2;exact I0 ((hl.mem id).2 (by unfold posOf;rw[hc.pl hd,e];simp))
   exact wY e (acM G1) (GP hi (by omega))
 .simp only[]at h2
  rcases key id d hd with e|e|⟨j,s',hj,e⟩|⟨s',hs,e⟩
  .rw[e];have:=gl.1 e;exact gl.2 (by omega)
  .rw[e];exact pC e h1 hi k2 (acM h2)
  .rw[e];exact yF e h1 hj k2 (acM h2)
  .rw[e]
   refine wY e h1 ?_;by_cases bC:s=s'
   .subst bC;exact h2
   .have:=GP (now:=t.now) hi (show s<s' by omega)
    omega
 .have h1:=(hl.mem id).1 hid
  cases hd:D id with
  | some d=>exact⟨d,rfl⟩
  | none =>
   exfalso;unfold posOf at h1;rw[hc.h id,hd]at h1;cases h1
def fx (es:List (Nat×Int×Int)) (id:Int):Int:=bl es id / 16777216*16777216
def D4 (es:List (Nat×Int×Int)) (cH:Es Bool):Int:=cH.foldl (fun a e=>if fx es e.2.1<a then fx es e.2.1 else a) 2199023255552
def oi (es:List (Nat×Int×Int)) (at_:Int) (cH:Es Bool):List Int:=(cH.filter fun e=>decide (fx es e.2.1=at_)).map (·.2.1)
theorem Cn {t:Tm} {D:Int->Option Int} {P:Int->Option Pl} (h:kC t D P) (id:Int):0<=bl t.due id/\bl t.due id<=1099511627776:=by
 unfold bl;rw[h.l6];cases hd:D id with
 | none=>simp
 | some d=>have:=h.AR id d hd;simp only[aby];omega
theorem qz {d:Int} (h0:0<=d) (h1:d<=1099511627776):IntKind.i64.wrap (d.fdiv (2 ^ 24)*2 ^ 24)=d / 16777216*16777216:=by
 rw[jY d 24 16777216 (by decide) (by decide),show(2:Int) ^ 24=16777216 by decide,Wh.wr (by omega)]
theorem qF.len {es:Ks} {c:Nat} {p:Int->Prop} (h:qF es c p) (hp:∀ id,p id->0<=id/\id<=1048575):es.length<=1048576:=by
 have:=og (n:=1048576) h.nd (fun x hx=>by have:=hp x ((h.mem x).1 hx);omega);simpa [aR]using this
theorem Co (es:List (Nat×Int×Int)):∀ (cH:Es Bool) (a:Int),(cH.foldl (fun a e=>if fx es e.2.1<a then fx es e.2.1 else a) a<=a)/\∀ e∈cH,cH.foldl (fun a e=>if fx es e.2.1<a then fx es e.2.1 else a) a<=fx es e.2.1
 | [],a=>⟨aad _,fun _ h=>by cases h⟩
 | x::r,a=>by
  obtain⟨h1,h2⟩:=Co es r (if fx es x.2.1<a then fx es x.2.1 else a);refine⟨ab6 h1 (by split <;> omega),fun e he=>?_⟩;rcases aaj.1 he with h|h
  .subst h;exact ab6 h1 (by split <;> omega)
  .exact h2 e h
theorem Cp (es:List (Nat×Int×Int)):∀ (cH:Es Bool) (a:Int),cH.foldl (fun a e=>if fx es e.2.1<a then fx es e.2.1 else a) a=a\/∃ e∈cH,cH.foldl (fun a e=>if fx es e.2.1<a then fx es e.2.1 else a) a=fx es e.2.1
 | [],a=>.inl rfl
 | x::r,a=>by
  rcases Cp es r (if fx es x.2.1<a then fx es x.2.1 else a)with h|⟨e,he,h⟩
  .simp only[List.foldl_cons]
   by_cases hx:fx es x.2.1<a
   .rw[Z0 hx]at h ⊢;exact .inr ⟨x,Z7 ..,h⟩
   .rw[ZY hx]at h ⊢;exact .inl h
  .exact .inr ⟨e,Z5 _ he,h⟩
theorem G2 {t:Tm} {D:Int->Option Int} {P:Int->Option Pl} (hc:Can t.now D P) (h:kC t D P) (g:∀ j,j<4->∀ id s,P id≠some (.row j s)) {cH lr:Es Bool} (Fh:vu t.fw lr) {n m:Int} (ql:D4 t.due cH=m)
  (ha:∀ e,e∈cH↔e∈t.fw) (SQ:∀ e,e∈lr↔e∈t.fw) (hlen:t.fw.length<=1048576):wZ t.now D (m,n,oi t.due m lr):=by
 obtain⟨qY,Av⟩:=h.ic;have QU:∀ id,(∃ e∈t.fw,e.2.1=id)↔P id=some .fw:=fun id=>by
  rw[<-h.fw.mem id];unfold aR;simp only[aas]
 have hd:∀ e∈t.fw,∃ d,D e.2.1=some d/\lv t.now d=.fw/\bl t.due e.2.1=d:=fun e he=>by
  have hp:=(QU e.2.1).1 ⟨e,he,rfl⟩;have h1:=hc.h e.2.1;rw[hp]at h1;cases hd:D e.2.1 with
  | none=>rw[hd]at h1;cases h1
  | some d=>rw[hd]at h1;exact⟨d,rfl,(abJ h1).symm,by unfold bl;rw[h.l6,hd];rfl⟩
 have D5:=Co t.due cH 2199023255552;have hle:∀ e∈t.fw,m<=fx t.due e.2.1:=fun e he=>by rw[<-ql];exact D5.2 e ((ha e).2 he)
 have G1:t.now<m:=by
  rcases Cp t.due cH 2199023255552 with h1|⟨e,he,h1⟩
  .have:m=2199023255552:=by rw[<-ql];exact h1
   omega
  .have h2:m=fx t.due e.2.1:=by rw[<-ql];exact h1
   obtain⟨d,_,h3,h4⟩:=hd e ((ha e).1 he);rw[h2];unfold fx;rw[h4];have:=AO h3;omega
 have key:∀ id d,D id=some d->lv t.now d=.late\/(lv t.now d=.fw/\∃ e∈t.fw,e.2.1=id/\bl t.due id=d):=fun id d lF=>by
  have hp:=hc.pl lF;cases Cm:lv t.now d with
  | late=>exact .inl rfl
  | row j s=>rw[Cm]at hp;exact(g j (wX Cm).2.1 id s hp).elim
  | fw =>
   rw[Cm]at hp;obtain⟨e,he,h1⟩:=(QU id).2 hp;exact .inr ⟨rfl,e,he,h1,by unfold bl;rw[h.l6,lF];rfl⟩
 refine⟨G1,fun id d lF I0=>?_,fun to id d h1 h2 lF=>?_,fun id hid=>?_,?_,?_⟩
 .rcases key id d lF with e|⟨e,en,he,h1,h2⟩
  .rw[e];have:=gl.1 e;exact gl.2 (by simp only[];omega)
  .rw[e]
   have h3:=hle en he;have h4:fx t.due en.2.1≠m:=fun h5=>I0 (aas.2 ⟨en,aa1.2 ⟨(SQ en).2 he,by simpa using h5⟩,h1⟩);unfold fx at h3 h4;rw[h1,h2]at h3 h4;exact l5 e (acM G1) (by simp only[];omega)
 .simp only[]at h2
  rcases key id d lF with e|⟨e,en,he,h3,h4⟩
  .rw[e];have:=gl.1 e;exact gl.2 (by omega)
  .rw[e]
   have h5:=hle en he;unfold fx at h5;rw[h3,h4]at h5;exact l5 e h1 (by omega)
 .obtain⟨e,he,rfl⟩:=aas.1 hid
  obtain⟨d,h1,_⟩:=hd e ((SQ e).1 (aa1.1 he).1);exact⟨d,h1⟩
 .have:=Fh.keys h.fw.nd
  exact this.sublist (acy.map _)
 .have h1:=Fh.len
  have h2:=acf (fun e:Nat×Int×Bool=>decide (fx t.due e.2.1=m)) lr;unfold oi;simp only[aba];omega
theorem QV (t:Tm) (D:Int->Option Int) (P:Int->Option Pl) (h:kC t D P) (hc:Can t.now D P):aa Tryz.prog 126 [.ptr 0 0] (r7 t) (Y:=Int×Int×List Int)
  (wZ t.now D) (fun y=>.bQ [.I y.1,.I y.2.1,.aL (.int .i64) fun _=>y.2.2]) (fun _=>r7 t):=by
 obtain⟨qY,Av⟩:=h.ic;have EV:t.fw.length<=1048576:=h.fw.len fun id hp=>by
  have h1:=hc.h id;rw[hp]at h1;cases hd:D id with
  | none=>rw[hd]at h1;cases h1
  | some d=>have:=h.AR id d hd;omega
 (refine aa.q Tryz.func126 rfl fun S aw=>Wa _ ?_;(repeat' first|exact tv|apply pr|intro hh));refine aM.intro hm (X:=Nat) (fun i=>i<=4/\∀ j,j<i->∀ id s,P id≠some (.row j s)) (fun i=>4 - i)
  (fun i=>[(0,.ptr 0 0),(2,.I 0),(3,.I 0),(4,.aZ),(18,WA),(19,.I (i:Int))])
  (fun _=>r7 t) 0 [0,1,2,3,4,5,6,7] ⟨rfl,rfl,?_,?_⟩ ⟨by omega,fun j hj=>by omega⟩ ?_
 .exact Vc
 .exact Vc
 .rintro i ⟨hi,g⟩
  obtain rfl|rfl|rfl|rfl|rfl:i=0\/i=1\/i=2\/i=3\/i=4:=by omega
  .refine Wa _ ?_;repeat' first|exact tv|apply pr|intro hh
   .exact⟨by simp⟩
   .exact⟨by decide⟩
   have e2:t.now.fdiv (2 ^ (6*0))=t.now / 1:=jY t.now (6*0) 1 (by decide) (by decide);have e:=yL (x:=t.now / 1) (by omega) (by omega);refine ab.intro (wU t.w0 (posOf P 0) h.w0 (t.now / 1 % 64+1).toNat (by omega)) [4] rfl rfl ?_ ?_ (fun y hy=>?_)
   .refine Vb _ ?_;repeat' first|exact tv|apply pr
    refine(congrArg (fun z=>IntKind.i64.wrap (IntKind.i64.wrap ((BitVec.ofInt IntKind.i64.bits z &&& BitVec.ofInt IntKind.i64.bits 63).toNat:Int)+1)) e2).trans ?_;rw[e,Wh.wr (by omega)];omega
   .exact Vc
   cases y with
   | none =>
    (refine Wa _ ?_;(repeat' first|exact tv|apply pr|intro hh));refine⟨0+1,[0,1,2,3,4,5,6,7],⟨rfl,rfl,?_,?_⟩,⟨by omega,fun j hj id s=>?_⟩,by omega⟩
    .exact Vc
    .exact Vc
    .by_cases lq:j=0
     .subst lq
      exact w5 hc (f:=(t.now / 1 % 64+1).toNat) (by simp only[rO];omega) hy id s
     .exact g j (by omega) id s
   | some s =>
    have hf:(((t.now / 1 % 64+1).toNat:Nat):Int)=rO 0 t.now+1:=by simp only[rO];omega
    obtain⟨k1,k2,k3,k4⟩:=hy.some_ s rfl;(refine Wa _ ?_;(repeat' first|exact tv|apply pr|intro hh));all_goals first|(exfalso;simp at hh;done)|skip
    .exact⟨by decide⟩
    .exact⟨by decide⟩
    .exact⟨by decide⟩
    (refine ab.q (JE t.w0 (posOf P 0) h.w0 s k2) [4] ?_;rintro l hl;refine Wp _ ?_;(repeat' first|exact tv|apply pr|intro hh));refine ae.w (wW 0 t.now s,0,l) [0,1,2,3,4,5,6,7] _ ?_;repeat' first|exact tv|apply pr
    .have p1:(2:Int) ^ (6*0+6)=64:=by decide
     have p2:(2:Int) ^ (6*0)=1:=by decide
     have e3:IntKind.i64.wrap (t.now.fdiv (2 ^ (6*0+6))*2 ^ (6*0+6))=t.now / 64*64:=by
      rw[jY t.now (6*0+6) 64 p1 (by decide),p1,Wh.wr (by omega)]
     have e4:IntKind.i64.wrap (((some s).getD 0:Nat)*2 ^ (6*0))=(s:Int)*1:=by
      rw[p2,show(some s).getD 0=s from rfl,Wh.wr (by omega)]
     exact(congr (congrArg (fun z w=>IntKind.i64.wrap ((BitVec.ofInt IntKind.i64.bits z ||| BitVec.ofInt IntKind.i64.bits w).toNat:Int)) e3) e4).trans (SP (6*0+6) 64 (t.now / 64) p1 (by decide) (by omega) (by omega) (by omega) (by omega))
    .exact pE hc h (by omega) g hf hy hl
  .refine Wa _ ?_;repeat' first|exact tv|apply pr|intro hh
   .exact⟨by simp⟩
   .exact⟨by decide⟩
   have e2:t.now.fdiv (2 ^ (6*1))=t.now / 64:=jY t.now (6*1) 64 (by decide) (by decide);have e:=yL (x:=t.now / 64) (by omega) (by omega);refine ab.intro (wU t.w1 (posOf P 1) h.w1 (t.now / 64 % 64+1).toNat (by omega)) [5] rfl rfl ?_ ?_ (fun y hy=>?_)
   .refine Vb _ ?_;repeat' first|exact tv|apply pr
    refine(congrArg (fun z=>IntKind.i64.wrap (IntKind.i64.wrap ((BitVec.ofInt IntKind.i64.bits z &&& BitVec.ofInt IntKind.i64.bits 63).toNat:Int)+1)) e2).trans ?_;rw[e,Wh.wr (by omega)];omega
   .exact Vc
   cases y with
   | none =>
    (refine Wa _ ?_;(repeat' first|exact tv|apply pr|intro hh));refine⟨1+1,[0,1,2,3,4,5,6,7],⟨rfl,rfl,?_,?_⟩,⟨by omega,fun j hj id s=>?_⟩,by omega⟩
    .exact Vc
    .exact Vc
    .by_cases lq:j=1
     .subst lq
      exact w5 hc (f:=(t.now / 64 % 64+1).toNat) (by simp only[rO];omega) hy id s
     .exact g j (by omega) id s
   | some s =>
    have hf:(((t.now / 64 % 64+1).toNat:Nat):Int)=rO 1 t.now+1:=by simp only[rO];omega
    obtain⟨k1,k2,k3,k4⟩:=hy.some_ s rfl;(refine Wa _ ?_;(repeat' first|exact tv|apply pr|intro hh));all_goals first|(exfalso;simp at hh;done)|skip
    .exact⟨by decide⟩
    .exact⟨by decide⟩
    .exact⟨by decide⟩
    (refine ab.q (JE t.w1 (posOf P 1) h.w1 s k2) [5] ?_;rintro l hl;refine Wp _ ?_;(repeat' first|exact tv|apply pr|intro hh));refine ae.w (wW 1 t.now s,1,l) [0,1,2,3,4,5,6,7] _ ?_;repeat' first|exact tv|apply pr
    .have p1:(2:Int) ^ (6*1+6)=4096:=by decide
     have p2:(2:Int) ^ (6*1)=64:=by decide
     have e3:IntKind.i64.wrap (t.now.fdiv (2 ^ (6*1+6))*2 ^ (6*1+6))=t.now / 4096*4096:=by
      rw[jY t.now (6*1+6) 4096 p1 (by decide),p1,Wh.wr (by omega)]
     have e4:IntKind.i64.wrap (((some s).getD 0:Nat)*2 ^ (6*1))=(s:Int)*64:=by
      rw[p2,show(some s).getD 0=s from rfl,Wh.wr (by omega)]
     exact(congr (congrArg (fun z w=>IntKind.i64.wrap ((BitVec.ofInt IntKind.i64.bits z ||| BitVec.ofInt IntKind.i64.bits w).toNat:Int)) e3) e4).trans (SP (6*1+6) 4096 (t.now / 4096) p1 (by decide) (by omega) (by omega) (by omega) (by omega))
    .exact pE hc h (by omega) g hf hy hl
  .refine Wa _ ?_;repeat' first|exact tv|apply pr|intro hh
   .exact⟨by simp⟩
   .exact⟨by decide⟩
   have e2:t.now.fdiv (2 ^ (6*2))=t.now / 4096:=jY t.now (6*2) 4096 (by decide) (by decide);have e:=yL (x:=t.now / 4096) (by omega) (by omega);refine ab.intro (wU t.w2 (posOf P 2) h.w2 (t.now / 4096 % 64+1).toNat (by omega)) [6] rfl rfl ?_ ?_ (fun y hy=>?_)
   .refine Vb _ ?_;repeat' first|exact tv|apply pr
    refine(congrArg (fun z=>IntKind.i64.wrap (IntKind.i64.wrap ((BitVec.ofInt IntKind.i64.bits z &&& BitVec.ofInt IntKind.i64.bits 63).toNat:Int)+1)) e2).trans ?_;rw[e,Wh.wr (by omega)];omega
   .exact Vc
   cases y with
   | none =>
    (refine Wa _ ?_;(repeat' first|exact tv|apply pr|intro hh));refine⟨2+1,[0,1,2,3,4,5,6,7],⟨rfl,rfl,?_,?_⟩,⟨by omega,fun j hj id s=>?_⟩,by omega⟩
    .exact Vc
    .exact Vc
    .by_cases lq:j=2
     .subst lq
      exact w5 hc (f:=(t.now / 4096 % 64+1).toNat) (by simp only[rO];omega) hy id s
     .exact g j (by omega) id s
   | some s =>
    have hf:(((t.now / 4096 % 64+1).toNat:Nat):Int)=rO 2 t.now+1:=by simp only[rO];omega
    obtain⟨k1,k2,k3,k4⟩:=hy.some_ s rfl;(refine Wa _ ?_;(repeat' first|exact tv|apply pr|intro hh));all_goals first|(exfalso;simp at hh;done)|skip
    .exact⟨by decide⟩
    .exact⟨by decide⟩
    .exact⟨by decide⟩
    (refine ab.q (JE t.w2 (posOf P 2) h.w2 s k2) [6] ?_;rintro l hl;refine Wp _ ?_;(repeat' first|exact tv|apply pr|intro hh));refine ae.w (wW 2 t.now s,2,l) [0,1,2,3,4,5,6,7] _ ?_;repeat' first|exact tv|apply pr
    .have p1:(2:Int) ^ (6*2+6)=262144:=by decide
     have p2:(2:Int) ^ (6*2)=4096:=by decide
     have e3:IntKind.i64.wrap (t.now.fdiv (2 ^ (6*2+6))*2 ^ (6*2+6))=t.now / 262144*262144:=by
      rw[jY t.now (6*2+6) 262144 p1 (by decide),p1,Wh.wr (by omega)]
     have e4:IntKind.i64.wrap (((some s).getD 0:Nat)*2 ^ (6*2))=(s:Int)*4096:=by
      rw[p2,show(some s).getD 0=s from rfl,Wh.wr (by omega)]
     exact(congr (congrArg (fun z w=>IntKind.i64.wrap ((BitVec.ofInt IntKind.i64.bits z ||| BitVec.ofInt IntKind.i64.bits w).toNat:Int)) e3) e4).trans (SP (6*2+6) 262144 (t.now / 262144) p1 (by decide) (by omega) (by omega) (by omega) (by omega))
    .exact pE hc h (by omega) g hf hy hl
  .refine Wa _ ?_;repeat' first|exact tv|apply pr|intro hh
   .exact⟨by simp⟩
   .exact⟨by decide⟩
   have e2:t.now.fdiv (2 ^ (6*3))=t.now / 262144:=jY t.now (6*3) 262144 (by decide) (by decide);have e:=yL (x:=t.now / 262144) (by omega) (by omega);refine ab.intro (wU t.w3 (posOf P 3) h.w3 (t.now / 262144 % 64+1).toNat (by omega)) [7] rfl rfl ?_ ?_ (fun y hy=>?_)
   .refine Vb _ ?_;repeat' first|exact tv|apply pr
    refine(congrArg (fun z=>IntKind.i64.wrap (IntKind.i64.wrap ((BitVec.ofInt IntKind.i64.bits z &&& BitVec.ofInt IntKind.i64.bits 63).toNat:Int)+1)) e2).trans ?_;rw[e,Wh.wr (by omega)];omega
   .exact Vc
   cases y with
   | none =>
    (refine Wa _ ?_;(repeat' first|exact tv|apply pr|intro hh));refine⟨3+1,[0,1,2,3,4,5,6,7],⟨rfl,rfl,?_,?_⟩,⟨by omega,fun j hj id s=>?_⟩,by omega⟩
    .exact Vc
    .exact Vc
    .by_cases lq:j=3
     .subst lq
      exact w5 hc (f:=(t.now / 262144 % 64+1).toNat) (by simp only[rO];omega) hy id s
     .exact g j (by omega) id s
   | some s =>
    have hf:(((t.now / 262144 % 64+1).toNat:Nat):Int)=rO 3 t.now+1:=by simp only[rO];omega
    obtain⟨k1,k2,k3,k4⟩:=hy.some_ s rfl;(refine Wa _ ?_;(repeat' first|exact tv|apply pr|intro hh));all_goals first|(exfalso;simp at hh;done)|skip
    .exact⟨by decide⟩
    .exact⟨by decide⟩
    .exact⟨by decide⟩
    (refine ab.q (JE t.w3 (posOf P 3) h.w3 s k2) [7] ?_;rintro l hl;refine Wp _ ?_;(repeat' first|exact tv|apply pr|intro hh));refine ae.w (wW 3 t.now s,3,l) [0,1,2,3,4,5,6,7] _ ?_;repeat' first|exact tv|apply pr
    .have p1:(2:Int) ^ (6*3+6)=16777216:=by decide
     have p2:(2:Int) ^ (6*3)=262144:=by decide
     have e3:IntKind.i64.wrap (t.now.fdiv (2 ^ (6*3+6))*2 ^ (6*3+6))=t.now / 16777216*16777216:=by
      rw[jY t.now (6*3+6) 16777216 p1 (by decide),p1,Wh.wr (by omega)]
     have e4:IntKind.i64.wrap (((some s).getD 0:Nat)*2 ^ (6*3))=(s:Int)*262144:=by
      rw[p2,show(some s).getD 0=s from rfl,Wh.wr (by omega)]
     exact(congr (congrArg (fun z w=>IntKind.i64.wrap ((BitVec.ofInt IntKind.i64.bits z ||| BitVec.ofInt IntKind.i64.bits w).toNat:Int)) e3) e4).trans (SP (6*3+6) 16777216 (t.now / 16777216) p1 (by decide) (by omega) (by omega) (by omega) (by omega))
    .exact pE hc h (by omega) g hf hy hl
  .refine Wa _ ?_;repeat' first|exact tv|apply pr|intro hh
   refine .mk ⟨_,_,_,_,rfl,rfl,?_⟩;(refine Wa _ ?_;(repeat' first|exact tv|apply pr|intro hh));refine aM.intro hm (X:=Es Bool) (vu t.fw) (fun cH=>t.fw.length - cH.length)
    (fun cH=>[(0,.ptr 0 0),(2,.I 0),(3,.I 0),(4,.aZ),(10,.I 24),(11,.I (D4 t.due cH)),(62,.ptr 8 0)])
    (fun cH=>r7 t++[.je (.hm 2 fun _=>0) t.fc t.fc fun _=>b7 cH]) [] [0,1,2,3,4,5,6,7,8] ⟨rfl,rfl,?_,?_⟩ (vu.nil _) ?_
   .exact Vc
   .exact Vc
   intro cH hv;(refine Wa _ ?_;(repeat' first|exact tv|apply pr|intro hh));refine GQ (fun b=>HV.gQ .bool b) (es:=t.fw) (cH:=cH) rfl h.fw.lt (fun jG=>?_) (fun b n v bD hb=>?_);rotate_left
   .refine Wa _ ?_;repeat' first|exact tv|apply pr|intro hh
    refine GR (fun b=>HV.gQ .bool b) (es:=t.fw) (cH:=cH) rfl h.fw.uU bD ?_;(refine Wa _ ?_;(repeat' first|exact tv|apply pr|intro hh));refine yC rfl rfl ?_;refine Wa _ ?_;repeat' first|exact tv|apply pr|intro hh
    .exact⟨by decide⟩
    .exact⟨by decide⟩
    obtain⟨q0,q1⟩:=Cn h n;have BH:IntKind.i64.wrap ((bl t.due n).fdiv (2 ^ 24)*2 ^ 24)=fx t.due n:=qz q0 q1;refine⟨cH++[(b,n,v)],[0,1,2,3,4,5,6,7,8],⟨rfl,rfl,?_,?_⟩,hv.add bD hb,?_⟩
    .exact Vc
    .refine Vb _ ?_;repeat' first|exact tv|apply pr
     unfold D4;rw[List.foldl_append];exact congrArg (fun z=>if z<D4 t.due cH then z else D4 t.due cH) BH
    .have:=hv.AP bD hb
     simp only[aab,Z9,aay];omega
   .refine Wc _ ?_;repeat' first|exact tv|apply pr|intro hh
    (refine aB.step hm rfl (Wc _ ?_);(repeat' first|exact tv|apply pr|intro hh));(refine aB.step hm rfl (Wc _ ?_);(repeat' first|exact tv|apply pr|intro hh));refine aB.nil 3 (.int .i64) none [13] ?_;(conv=>whnf);(refine Wa _ ?_;(repeat' first|exact tv|apply pr|intro hh));refine .mk ⟨_,_,_,_,rfl,rfl,?_⟩;(refine Wa _ ?_;(repeat' first|exact tv|apply pr|intro hh));generalize ql:D4 t.due cH=m;refine aM.intro hm (X:=Es Bool) (vu t.fw) (fun cH=>t.fw.length - cH.length)
     (fun cH=>[(0,.ptr 0 0),(2,.I 0),(3,.I 0),(4,.aZ),(10,.I 24),(11,.I m),(13,.vec 8 1 (fun _=>0) fun _=>(oi t.due m cH).length),(83,.ptr 9 0)])
     (fun cH=>r7 t++[.aq 3 (.int .i64) fun _=>oi t.due m cH,.je (.hm 2 fun _=>0) t.fc t.fc fun _=>b7 cH]) [] [0,1,2,3,4,5,6,7,9,10] ⟨rfl,rfl,?_,?_⟩ (vu.nil _) ?_
    .exact Vc
    .exact Vc
    intro lr Fh;(refine Wa _ ?_;(repeat' first|exact tv|apply pr|intro hh));refine GQ (fun b=>HV.gQ .bool b) (es:=t.fw) (cH:=lr) rfl h.fw.lt (fun F1=>?_) (fun b n v bD hb=>?_);rotate_left
    .refine Wa _ ?_;repeat' first|exact tv|apply pr|intro hh
     refine GR (fun b=>HV.gQ .bool b) (es:=t.fw) (cH:=lr) rfl h.fw.uU bD ?_;(refine Wa _ ?_;(repeat' first|exact tv|apply pr|intro hh));obtain⟨q0,q1⟩:=Cn h n;have BH:IntKind.i64.wrap ((bl t.due n).fdiv (2 ^ 24)*2 ^ 24)=fx t.due n:=qz q0 q1;have La:=Fh.AP bD hb;have QW:(oi t.due m lr).length<=1048576:=by
      have h2:=acf (fun e:Nat×Int×Bool=>decide (fx t.due e.2.1=m)) lr;unfold oi;simp only[aba];omega
     refine yC rfl rfl ?_;(refine Wa _ ?_;(repeat' first|exact tv|apply pr|intro hh));all_goals try exact⟨by decide⟩
     .refine⟨⟨rfl,?_,?_⟩⟩
      .show(oi t.due m lr).length+1<=_
       omega
      .show((oi t.due m lr).length+1)*8<=_
       omega
     .have hq:fx t.due n=m:=BH.symm.trans hh
      have xV:oi t.due m (lr++[(b,n,v)])=oi t.due m lr++[n]:=by
       unfold oi;rw[List.filter_append,ace];simp[hq]
      refine⟨lr++[(b,n,v)],[0,1,2,3,4,5,6,7,8,9],⟨rfl,rfl,?_,?_⟩,Fh.add bD hb,?_⟩
      .refine Vb _ ?_;repeat' first|exact tv|apply pr
       rw[xV];try simp
      .refine Vb _ ?_;repeat' first|exact tv|apply pr
       rw[xV];try simp
      .simp only[aab,Z9,aay];omega
     .have hq:fx t.due n≠m:=fun e=>hh (BH.trans e)
      have xV:oi t.due m (lr++[(b,n,v)])=oi t.due m lr:=by
       unfold oi;rw[List.filter_append,ace];simp[hq]
      refine⟨lr++[(b,n,v)],[0,1,2,3,4,5,6,7,8,9],⟨rfl,rfl,?_,?_⟩,Fh.add bD hb,?_⟩
      .refine Vb _ ?_;repeat' first|exact tv|apply pr
       rw[xV];try simp
      .refine Vb _ ?_;repeat' first|exact tv|apply pr
       rw[xV];try simp
      .simp only[aab,Z9,aay];omega
    .refine Wa _ ?_;repeat' first|exact tv|apply pr|intro hh
     (refine ae.gU 8 ?_;(conv=>whnf));refine ae.w (m,4,oi t.due m lr) [0,1,2,3,4,5,6,7] _ ?_;repeat' first|exact tv|apply pr
     .simp
     .exact G2 hc h g Fh ql (hv.all h.fw.uU jG) (Fh.all h.fw.uU F1) EV
structure JF (t:Tm) (now:Int) (D:Int->Option Int):Prop where
 h:∃ P,kC t D P/\Can t.now D P
 now:t.now=now
theorem kC.NC {t:Tm} {D:Int->Option Int} {P:Int->Option Pl} (h:kC t D P) {id d:Int} (hi:0<=id/\id<=1048575) (hd:0<=d/\d<=1099511627776) :
  kC { t with due:=bV t.due t.dc id d,dc:=qG t.due t.dc id } (cE D id (some d)) P:=by
 refine⟨h.ic,cP h.GS _ _ _,fun j=>?_,GW h.GU,yH h.uM h.GU _ _,fun j e hj=>?_,h.fw,h.late,h.w0,h.w1,h.w2,h.w3⟩
 .show aP (bV t.due t.dc id d) j=_
  rw[de,h.l6];rfl
 .unfold cE at hj
  split at hj
  .rename_i e2;cases hj;omega
  .exact h.AR j e hj
theorem kC.ND {t:Tm} {D:Int->Option Int} {P:Int->Option Pl} (h:kC t D P) (id:Int):kC { t with due:=bZ t.due id } (cE D id none) P:=by
 refine⟨h.ic,cQ h.GS _,fun j=>?_,fun e he=>h.GU e (yI he),yG h.uM _,fun j e hj=>?_,h.fw,h.late,h.w0,h.w1,h.w2,h.w3⟩
 .show aP (bZ t.due id) j=_
  rw[dS h.GS,h.l6];rfl
 .unfold cE at hj
  split at hj
  .cases hj
  .exact h.AR j e hj
theorem Can.set {now:Int} {D:Int->Option Int} {P:Int->Option Pl} (h:Can now D P) (id d:Int):Can now (cE D id (some d)) (cE (cE P id none) id (some (lv now d))):=by
 refine .mk fun j=>?_;unfold cE;split
 .rfl
 .exact h.h j
theorem Can.del {now:Int} {D:Int->Option Int} {P:Int->Option Pl} (h:Can now D P) (id:Int):Can now (cE D id none) (cE P id none):=by
 refine .mk fun j=>?_;unfold cE;split
 .rfl
 .exact h.h j
theorem AK (t:Tm) (now:Int) (D:Int->Option Int) (h:JF t now D) (id d:Int) (hi:0<=id/\id<=1048575) (hd:0<=d/\d<=1099511627776):aa Tryz.prog 119 [.ptr 0 0,.I id,.I d] (r7 t) (Y:=Tm)
  (fun t'=>JF t' now (cE D id (some d))) (fun _=>.int .i64 fun _=>0) r7:=by
 obtain⟨⟨P,hr,hc⟩,rfl⟩:=h;(refine aa.q Tryz.func119 rfl fun S aw=>Wa _ ?_;(repeat' first|exact tv|apply pr|intro hh));all_goals try (exfalso;omega)
 (refine ab.q (liftM t D P hr id) [0,1,2,3,4,5,6,7] ?_;rintro t1 h1;refine Wp _ ?_;(repeat' first|exact tv|apply pr|intro hh));refine LG rfl rfl (.eq (.gQ (.int .i64) d)) ?_;(refine Wa _ ?_;(repeat' first|exact tv|apply pr|intro hh));have sI:=h1.rel.NC hi hd;(refine ab.q (qH _ _ _ sI id d (by simp[cE]) (by simp[cE])) [0,1,2,3,4,5,6,7] ?_;rintro t2 h2;refine Wp _ ?_;(repeat' first|exact tv|apply pr|intro hh));(refine ae.w t2 [0,1,2,3,4,5,6,7] _ ?_;(repeat' first|exact tv|apply pr));have e1:t2.now=t.now:=h2.now.trans h1.now;have e2:t1.now=t.now:=h1.now;refine⟨⟨_,h2.rel,?_⟩,e1⟩;have:=hc.set id d;rw[e1];exact cast (by rw[<-e2]) this
theorem Cq (t:Tm) (now:Int) (D:Int->Option Int) (h:JF t now D) (id:Int):aa Tryz.prog 131 [.ptr 0 0,.I id] (r7 t) (Y:=Tm) (fun t'=>JF t' now (cE D id none))
  (fun _=>.bool fun _=>(D id).isSome) r7:=by
 obtain⟨⟨P,hr,hc⟩,rfl⟩:=h;(refine aa.q Tryz.func131 rfl fun S aw=>Wa _ ?_;(repeat' first|exact tv|apply pr|intro hh));refine GL rfl rfl (fun d hd=>?_) (fun hd=>?_)
 .have hD:D id=some d:=by rw[<-hr.l6];exact hd
  (refine Wa _ ?_;(repeat' first|exact tv|apply pr|intro hh));(refine ab.q (liftM t D P hr id) [0,1,2,3,4,5,6,7] ?_;rintro t1 h1;refine Wp _ ?_;(repeat' first|exact tv|apply pr|intro hh));refine QT rfl rfl ?_;(refine Wa _ ?_;(repeat' first|exact tv|apply pr|intro hh));refine ae.w { t1 with due:=bZ t1.due id } [0,1,2,3,4,5,6,7] _ ?_;repeat' first|exact tv|apply pr
  .rw[hD];rfl
  .exact⟨⟨_,h1.rel.ND id,by rw[show({ t1 with due:=bZ t1.due id }:Tm).now=t.now from h1.now];exact hc.del id⟩,h1.now⟩
 .have hD:D id=none:=by rw[<-hr.l6];exact hd
  (refine Wa _ ?_;(repeat' first|exact tv|apply pr|intro hh));refine ae.w t [0,1,2,3,4,5,6,7] _ ?_;repeat' first|exact tv|apply pr
  .rw[hD];rfl
  .have e:cE D id none=D:=by funext j;unfold cE;split <;> simp_all
   rw[e];exact⟨⟨P,hr,hc⟩,rfl⟩
theorem iR (o:Nat->HO) (c:Nat):(⟨1,fun _=>.map [] c⟩:Hp).dN (Hp.add ⟨0,o⟩ (.map [] c)):=by
 refine⟨rfl,fun j hj=>?_⟩;have:j=0:=by change j<1 at hj;omega
 subst this;exact HO.aG _
def cN (now:Int) (a b c d:AV):Chunk:=.cells AQ [.I now,.hm 1 fun _=>0,a,b,c,d,.hm 2 fun _=>0,.hm 3 fun _=>0]
def Yv (now:Int) (c0 c1 c2 i:Nat) (w0 w1 w2 w3:Wl):List Chunk:=match i with
 | 0=>[cN now .bW .bW .bW .bW,.heap fun _=>rN [] c0,.heap fun _=>vv [] c1,.heap fun _=>vv [] c2]
 | 1=>[cN now (.hp 4 fun _=>some (1,0)) .bW .bW .bW,.heap fun _=>rN [] c0,.heap fun _=>vv [] c1,.heap fun _=>vv [] c2,.heap fun _=>du w0]
 | 2=>[cN now (.hp 4 fun _=>some (1,0)) (.hp 5 fun _=>some (1,0)) .bW .bW,.heap fun _=>rN [] c0,.heap fun _=>vv [] c1,.heap fun _=>vv [] c2,.heap fun _=>du w0,.heap fun _=>du w1]
 | 3=>[cN now (.hp 4 fun _=>some (1,0)) (.hp 5 fun _=>some (1,0)) (.hp 6 fun _=>some (1,0)) .bW,.heap fun _=>rN [] c0,.heap fun _=>vv [] c1,.heap fun _=>vv [] c2,.heap fun _=>du w0,.heap fun _=>du w1,.heap fun _=>du w2]
 | _=>r7 ⟨now,[],c0,[],c1,[],c2,w0,w1,w2,w3⟩
set_option maxRecDepth 4000 in
theorem nc (now:Int) (hn:0<=now/\now<=1099511627776):aa Tryz.prog 58 [.I now] [] (Y:=Tm) (fun t=>JF t now fun _=>none) (fun _=>.bQ [.ptr 0 0,.I 0]) r7:=by
 (refine aa.q Tryz.func58 rfl fun S aw=>Wc _ ?_;(repeat' first|exact tv|apply pr|intro hh));(refine aB.step hm rfl (Wc _ ?_);(repeat' first|exact tv|apply pr|intro hh));(refine aB.step hm rfl (Wc _ ?_);(repeat' first|exact tv|apply pr|intro hh));all_goals try (exfalso;omega)
 (refine aB.step hm rfl (Wc _ ?_);(repeat' first|exact tv|apply pr|intro hh));refine aB.lR (fun _=>.map [] 0) ?_;(conv=>whnf);refine aB.gk 4 0 rfl (fun c=>rN [] c) rfl rfl (iR _) (fun c0=>?_);(conv=>whnf);refine aB.lR (fun _=>.map [] 0) ?_;(conv=>whnf);refine aB.gk 5 1 rfl (fun c=>vv [] c) rfl rfl (iR _) (fun c1=>?_);(conv=>whnf);refine aB.lR (fun _=>.map [] 0) ?_;(conv=>whnf);refine aB.gk 6 2 rfl (fun c=>vv [] c) rfl rfl (iR _) (fun c2=>?_);(conv=>whnf);(refine Wa _ ?_;(repeat' first|exact tv|apply pr|intro hh));refine aM.intro hm (X:=Nat×Wl×Wl×Wl×Wl) (fun x=>x.1<=4/\(1<=x.1->dL x.2.1 fun _=>none)/\(2<=x.1->dL x.2.2.1 fun _=>none)/\(3<=x.1->dL x.2.2.2.1 fun _=>none)/\(4<=x.1->dL x.2.2.2.2 fun _=>none)) (fun x=>4 - x.1)
  (fun x=>[(3,.I 0),(2,.bW),(4,.ptr 0 0),(18,.I (x.1:Int))])
  (fun x=>Yv now c0 c1 c2 x.1 x.2.1 x.2.2.1 x.2.2.2.1 x.2.2.2.2) (0,EY 0,EY 0,EY 0,EY 0) [3,4,5,6] ?_ ⟨by simp,by simp,by simp,by simp,by simp⟩ ?_
 .refine⟨rfl,rfl,?_,?_⟩
  .exact Vc
  .exact Vc
 .rintro⟨i,a,b,c,d⟩ ⟨hi,h0,h1,h2,h3⟩
  simp only[]at hi h0 h1 h2 h3;obtain rfl|rfl|rfl|rfl|rfl:i=0\/i=1\/i=2\/i=3\/i=4:=by omega
  .refine Wa _ ?_;repeat' first|exact tv|apply pr|intro hh
   (refine ab.q (Wh.nc) [] ?_;rintro w hw;refine Wp _ ?_;(repeat' first|exact tv|apply pr|intro hh));all_goals try exact⟨by decide⟩
   all_goals try exact⟨by simp⟩
   refine⟨(1,w,b,c,d),[0,1,2,3,4],⟨rfl,rfl,?_,?_⟩,⟨by omega,fun _=>hw,by omega,by omega,by omega⟩,by simp only[];omega⟩
   .exact Vc
   .exact Vc
  .refine Wa _ ?_;repeat' first|exact tv|apply pr|intro hh
   (refine ab.q (Wh.nc) [] ?_;rintro w hw;refine Wp _ ?_;(repeat' first|exact tv|apply pr|intro hh));all_goals try exact⟨by decide⟩
   all_goals try exact⟨by simp⟩
   refine⟨(2,a,w,c,d),[0,1,2,3,4,5],⟨rfl,rfl,?_,?_⟩,⟨by omega,fun _=>h0 (by omega),fun _=>hw,by omega,by omega⟩,by simp only[];omega⟩
   .exact Vc
   .exact Vc
  .refine Wa _ ?_;repeat' first|exact tv|apply pr|intro hh
   (refine ab.q (Wh.nc) [] ?_;rintro w hw;refine Wp _ ?_;(repeat' first|exact tv|apply pr|intro hh));all_goals try exact⟨by decide⟩
   all_goals try exact⟨by simp⟩
   refine⟨(3,a,b,w,d),[0,1,2,3,4,5,6],⟨rfl,rfl,?_,?_⟩,⟨by omega,fun _=>h0 (by omega),fun _=>h1 (by omega),fun _=>hw,by omega⟩,by simp only[];omega⟩
   .exact Vc
   .exact Vc
  .refine Wa _ ?_;repeat' first|exact tv|apply pr|intro hh
   (refine ab.q (Wh.nc) [] ?_;rintro w hw;refine Wp _ ?_;(repeat' first|exact tv|apply pr|intro hh));all_goals try exact⟨by decide⟩
   all_goals try exact⟨by simp⟩
   refine⟨(4,a,b,c,w),[0,1,2,3,4,5,6,7],⟨rfl,rfl,?_,?_⟩,⟨by omega,fun _=>h0 (by omega),fun _=>h1 (by omega),fun _=>h2 (by omega),fun _=>hw⟩,by simp only[];omega⟩
   .exact Vc
   .exact Vc
  .refine Wa _ ?_;repeat' first|exact tv|apply pr|intro hh
   (refine ae.w ⟨now,[],c0,[],c1,[],c2,a,b,c,d⟩ [0,1,2,3,4,5,6,7] _ ?_;(repeat' first|exact tv|apply pr));refine⟨⟨fun _=>none,⟨hn,aaP,fun _=>rfl,by simp,aaP,by simp,⟨aaP,by simp[aR],by simp,aaP⟩,⟨aaP,by simp[aR],by simp,aaP⟩,h0 (by omega),h1 (by omega),h2 (by omega),h3 (by omega)⟩,.mk fun _=>rfl⟩,rfl⟩
end Go.Proofs.YthnefnlhcijekaaGreat.Ti
namespace Go.Proofs.YthnefnlhcijekaaGreat.Ti
open Go Go.RowKit Fw Wh Go.Sort
def SR (t:Tm):List Chunk:=[.cells AQ [.I t.now,.hm 2 fun _=>0,.hp 5 fun _=>some (1,0),.hp 6 fun _=>some (1,0),.hp 7 fun _=>some (1,0),.hp 8 fun _=>some (1,0),.hm 3 fun _=>0,.hm 4 fun _=>0],
 .heap fun _=>rN t.due t.dc,.heap fun _=>vv t.fw t.fc,.heap fun _=>vv t.late t.lc,.heap fun _=>du t.w0,.heap fun _=>du t.w1,.heap fun _=>du t.w2,.heap fun _=>du t.w3,.cells 110 [.ptr 1 0]]
theorem G3 (t:Tm) (xs:List Int) (hn:xs.length<4611686018427387904):MU Tryz.prog 129
  [.vec 0 1 (fun _=>0) fun _=>xs.length,.fn (.func 130) [] [.ptr 9 0]] (.row 3 (.int .i64) (fun _=>xs)::SR t) (.bQ []) (.row 3 (.int .i64) (fun _=>nF t.due xs)::SR t):=by
 refine D2 (P:=Tryz.prog) (ρ:=Lay.rq) Lay.sortInt 3 (QR t.due) (QS t.due) (fun g W ws hS hr x y=>?_)
  (Go.Proofs.enters_of Tryz.func130 (by kernel_rfl) rfl) ⟨_,Tryz.func129,rfl,by decide⟩ (fun c hc T t xs e=>by simp[SR]at hc;rcases hc with h|h|h|h|h|h|h|h|h <;> (rw[h]at e;cases e)) xs hn
 have Qj:ER g (fZ 0 [.ptr 9 0]) ws.toArray:=jV 0 [.ptr 9 0] ws hr (fun j u hj=>by simp[aan,hj]);have hk:yo [1,9] (fZ 0 [.ptr 9 0]) (.none::SR t) fun aj E'=>r0 [0,2] (BX aj 0 1) [.cM [TR] 0]/\o0 [0,2] E' [0,2] [.none,.heap fun _=>rN t.due t.dc]:=by
  exact Vc
 obtain⟨g1,cG,E1,uY,O5,⟨hl,hle⟩,_⟩:=r5 [1,9] hS Qj hk;have hlen:=hr.length;have dR:=s7 O5 1 0 (by simpa using hlen);have dR:RL (g1.dC [0,2]) [.cM [TR] 0] ws:=eT _ _ _ hl (by simpa using dR);have:=Ny (Nu t.due t.dc x y) (aC:=.int .i64 x::.int .i64 y::ws) (uY.dC hle rfl) ⟨.int .i64 fun _=>x,.int .i64 fun _=>y,dR⟩;simpa using this
end Go.Proofs.YthnefnlhcijekaaGreat.Ti
namespace Go.Proofs.YthnefnlhcijekaaGreat.Ti
open Go Go.RowKit Fw Wh
structure Told (D:Int->Option Int) (to:Int) (l:List Int):Prop where
 nd:l.Nodup
 mem:∀ id,id∈l↔∃ d,D id=some d/\d<=to
 ord:l.Pairwise fun a b=>(D a).getD 0<(D b).getD 0\/((D a).getD 0=(D b).getD 0/\a<b)
def tD (D:Int->Option Int) (to:Int):Int->Option Int:=fun id=>match D id with|some d=>if d<=to then none else some d|none=>none
structure QX (D:Int->Option Int) (to:Int) (y:List Int×Tm):Prop where
 told:Told D to y.1
 ok:JF y.2 to (tD D to)
def jZ (t:Tm) (n:Int):Tm:={ t with now:=n }
def w6 (D:Int->Option Int) (P:Int->Option Pl) (at_:Int) (l:List Int) (i:Nat):Int->Option Pl:=fun id=>if id∈l.take i then(D id).map (lv at_)else P id
theorem kC.G4 {t:Tm} {D:Int->Option Int} {P:Int->Option Pl} (h:kC t D P) {n:Int} (hn:0<=n/\n<=1099511627776):kC (jZ t n) D P :=
 ⟨hn,h.GS,h.l6,h.GU,h.uM,h.AR,h.fw,h.late,h.w0,h.w1,h.w2,h.w3⟩
theorem gz {α:Type} {L:List α} {i:Nat} {k:α} (h:L[i]?=some k):L.take (i+1)=L.take i++[k]:=by
 rw[aaE,h];rfl
theorem G5 {D:Int->Option Int} {P:Int->Option Pl} {at_:Int} {l:List Int} {i:Nat} {id d:Int} (hi:l[i]?=some id) (hd:D id=some d) :
  cE (cE (w6 D P at_ l i) id none) id (some (lv at_ d))=w6 D P at_ l (i+1):=by
 funext j;unfold cE w6;rw[gz hi];by_cases h:j=id
 .subst h;simp[hd]
 .simp[h]
theorem JG {now:Int} {D:Int->Option Int} {P:Int->Option Pl} {at_ n:Int} {l:List Int} (hc:Can now D P) (hs:wZ now D (at_,n,l)) {i:Nat} (hi:l.length<=i):Can at_ D (w6 D P at_ l i):=by
 refine .mk fun id=>?_;unfold w6;rw[Z6 hi];split
 .rfl
 .rename_i I0
  rw[hc.h id];cases hd:D id with
  | none=>rfl
  | some d=>exact congrArg some (hs.stay id d hd I0).symm
theorem D6 (es:List (Nat×Int×Int)) (xs:List Int) (x:Int):x∈nF es xs↔x∈xs:=(List.mergeSort_perm xs _).mem_iff
theorem D7 (es:List (Nat×Int×Int)) {xs:List Int} (hn:xs.Nodup):(nF es xs).Nodup/\(nF es xs).Pairwise fun a b=>bl es a<bl es b\/(bl es a=bl es b/\a<b):=by
 have eA:(nF es xs).Nodup:=(List.mergeSort_perm xs _).nodup_iff.2 hn;refine⟨eA,?_⟩;have hO:=QR es;have hp:(nF es xs).Pairwise fun a b=>(!(Go.Proofs.ltOf (pB es)) b a)=true:=List.pairwise_mergeSort (le:=fun x y=>!(Go.Proofs.ltOf (pB es)) y x) (fun a b c h1 h2=>by
  simp only[aa4]at *;exact hO.ntrans c b a h2 h1) (fun a b=>by
  cases h1:Go.Proofs.ltOf (pB es) b a with
  | false=>rfl
  | true =>
   cases h2:Go.Proofs.ltOf (pB es) a b with
   | false=>rfl
   | true=>have:=hO.trans a b a h2 h1;rw[hO.irrefl]at this;cases this) xs
 rw[aaI]at eA;refine List.Pairwise.imp₂ (fun a b h1 h2=>?_) hp eA;cases h:Go.Proofs.ltOf (pB es) a b with
 | true=>exact(LF es a b).1 h
 | false=>exact(h2 (QS es a b h (by simpa using h1))).elim
theorem Ut (t:Tm) (now:Int) (D:Int->Option Int) (h:JF t now D) (to:Int) (h1:now<=to) (h2:to<=1099511627776):aa Tryz.prog 73 [.ptr 0 0,.I to] (r7 t) (Y:=List Int×Tm)
  (QX D to) (fun y=>.aL (.int .i64) fun _=>y.1) (fun y=>r7 y.2):=by
 obtain⟨⟨P,hr,hc⟩,rfl⟩:=h;(refine aa.q Tryz.func73 rfl fun S aw=>Wa _ ?_;(repeat' first|exact tv|apply pr|intro hh));all_goals try (exfalso;omega)
 refine aM.intro hm (X:=Tm×(Int->Option Pl)) (fun x=>kC x.1 D x.2/\Can x.1.now D x.2/\x.1.now<=to) (fun x=>(to - x.1.now).toNat)
  (fun x=>[(1,.I to),(2,.ptr 8 0),(4,.aZ)])
  (fun x=>r7 x.1++[.cells 110 [.ptr 0 0]]) (t,P) [0,1,2,3,4,5,6,7,8] ⟨rfl,rfl,?_,?_⟩ ⟨hr,hc,h1⟩ ?_
 .exact Vc
 .exact Vc
 rintro⟨t1,P1⟩ ⟨nX,EW,Av⟩;simp only[]at nX EW Av;(refine Wa _ ?_;(repeat' first|exact tv|apply pr|intro hh));(refine ab.q (QV t1 D P1 nX EW) [0,1,2,3,4,5,6,7] fun _ _=>Wq _ ?_;(repeat' first|exact tv|apply pr|intro hh));rename_i y hs;obtain⟨IH,n1,l1⟩:=y;(refine aB.step hm rfl (Wc _ ?_);(repeat' first|exact tv|apply pr|intro hh));refine aB.step hm rfl (Wc _ ?_);repeat' first|exact tv|apply pr|intro hh
 .refine aB.step hm rfl (Wc _ ?_);repeat' first|exact tv|apply pr|intro hh
  (refine aB.step hm rfl (Wc _ ?_);(repeat' first|exact tv|apply pr|intro hh));refine aB.nil 3 (.int .i64) none [10] ?_;(conv=>whnf);(refine Wa _ ?_;(repeat' first|exact tv|apply pr|intro hh));refine .mk ⟨_,_,_,_,rfl,rfl,?_⟩;(refine Wa _ ?_;(repeat' first|exact tv|apply pr|intro hh));have Yw:=nX.G4 (n:=to) ⟨by have:=nX.ic.1;omega,h2⟩;have Wt:Can to D P1:=.mk fun id=>by
   rw[EW.h id];cases hd:D id with
   | none=>rfl
   | some d=>exact congrArg some (hs.wait to id d Av hh hd).symm
  have La:t1.late.length<=1048576:=nX.late.len fun id hp=>by
   have h3:=EW.h id;rw[hp]at h3;cases hd:D id with
   | none=>rw[hd]at h3;cases h3
   | some d=>have:=nX.AR id d hd;omega
  refine aM.intro hm (X:=Es Bool) (vu t1.late) (fun cH=>t1.late.length - cH.length)
   (fun cH=>[(2,.ptr 8 0),(4,.aZ),(10,.vec 9 1 (fun _=>0) fun _=>(aR cH).length),(62,.ptr 10 0)])
   (fun cH=>r7 (jZ t1 to)++[.cells 110 [.ptr 0 0],.aq 3 (.int .i64) fun _=>aR cH,.je (.hm 3 fun _=>0) t1.lc t1.lc fun _=>b7 cH]) [] [0,1,2,3,4,5,6,7,8,9,10] ⟨rfl,rfl,?_,?_⟩ (vu.nil _) ?_
  .exact Vc
  .exact Vc
  intro cH hv;(refine Wa _ ?_;(repeat' first|exact tv|apply pr|intro hh));refine GQ (fun b=>HV.gQ .bool b) (es:=t1.late) (cH:=cH) rfl nX.late.lt (fun jG=>?_) (fun b n v bD hb=>?_);rotate_left
  .have Cm:=hv.AP bD hb
   have pF:(aR cH).length=cH.length:=by simp[aR]
   have Wu:aR (cH++[(b,n,v)])=aR cH++[n]:=by simp[aR]
   (refine Wa _ ?_;(repeat' first|exact tv|apply pr|intro hh));refine GR (fun b=>HV.gQ .bool b) (es:=t1.late) (cH:=cH) rfl nX.late.uU bD ?_;refine Wa _ ?_;repeat' first|exact tv|apply pr|intro hh
   .refine⟨⟨rfl,?_,?_⟩⟩
    .show(aR cH).length+1<=_
     omega
    .show((aR cH).length+1)*8<=_
     omega
   refine⟨cH++[(b,n,v)],[0,1,2,3,4,5,6,7,8,9,10],⟨rfl,rfl,?_,?_⟩,hv.add bD hb,?_⟩
   .refine Vb _ ?_;repeat' first|exact tv|apply pr
    rw[Wu];try simp
   .refine Vb _ ?_;repeat' first|exact tv|apply pr
    rw[Wu];try simp
   .simp only[aab,Z9,aay];omega
  have jG:=hv.all nX.late.uU jG;have pF:(aR cH).length=cH.length:=by simp[aR]
  have IZ:=hv.len;(refine Wa _ ?_;(repeat' first|exact tv|apply pr|intro hh));(refine ab.q (G3 (jZ t1 to) (aR cH) (by omega)) [9,0,1,2,3,4,5,6,7,8] ?_;rintro _ _;refine Wp _ ?_;(repeat' first|exact tv|apply pr|intro hh));have wT:(nF t1.due (aR cH)).length=(aR cH).length:=List.length_mergeSort _;have QY:∀ id,bl t1.due id=(D id).getD 0:=fun id=>by unfold bl;rw[nX.l6]
  have Uu:=D7 t1.due (hv.keys nX.late.nd);have hL:Told D to (nF t1.due (aR cH)):=by
   refine⟨Uu.1,fun id=>?_,Uu.2.imp fun h=>by rw[QY,QY]at h;exact h⟩;rw[D6];have e1:id∈aR cH↔id∈aR t1.late:=by
    unfold aR;simp only[aas];exact⟨fun⟨e,h3,h4⟩=>⟨e,(jG e).1 h3,h4⟩,fun⟨e,h3,h4⟩=>⟨e,(jG e).2 h3,h4⟩⟩
   rw[e1,nX.late.mem,Wt.h id];cases hd:D id with
   | none=>simp
   | some d=>simp[gl]
  have qY:(nF t1.due (aR cH)).length<=1048576:=by omega
  rw[<-wT];generalize Yx:nF t1.due (aR cH)=L at *;refine aM.intro hm (X:=Nat×Tm) (fun x=>x.1<=L.length/\JF x.2 to (fun id=>if id∈L.take x.1 then none else D id)) (fun x=>L.length - x.1)
   (fun x=>[(2,.ptr 8 0),(4,.aZ),(10,.vec 9 1 (fun _=>0) fun _=>L.length),(74,.vec 9 1 (fun _=>0) fun _=>L.length),(75,.I (L.length:Int)),(76,.I (x.1:Int))])
   (fun x=>r7 x.2++[.cells 110 [.ptr 0 0],.row 3 (.int .i64) fun _=>L]) (0,jZ t1 to) [0,1,2,3,4,5,6,7,8,9] ⟨rfl,rfl,?_,?_⟩ ⟨aae _,?_⟩ ?_
  .refine Vb _ ?_;repeat' first|exact tv|apply pr
   exact Yx
  .exact Vc
  .refine⟨⟨P1,?_,Wt⟩,rfl⟩
   simpa using Yw
  rintro⟨i,t3⟩ ⟨hi,iS⟩;simp only[]at hi iS;refine Wa _ ?_;repeat' first|exact tv|apply pr|intro hh
  .exact⟨⟨by simp,hh⟩⟩
  .have xF:(i:Int)<L.length:=hh
   have dp:i<L.length:=by omega
   have Yy:L[i]?=some (L.getD (0+i) 0):=by rw[aaf,ZZ,Z1 dp];rfl
   (refine ab.q (Cq t3 to _ iS (L.getD (0+i) 0)) [0,1,2,3,4,5,6,7] ?_;rintro t4 h4;refine Wp _ ?_;(repeat' first|exact tv|apply pr|intro hh));refine⟨(i+1,t4),[0,1,2,3,4,5,6,7,8,9],⟨rfl,rfl,?_,?_⟩,⟨by omega,?_⟩,by simp only[];omega⟩
   .exact Vc
   .refine Vb _ ?_;repeat' first|exact tv|apply pr
    show IntKind.i64.wrap ((i:Int)+1)=_;rw[Wh.wr (by omega)];omega
   .have e:(fun id=>if id∈L.take (i+1)then none else D id)=cE (fun id=>if id∈L.take i then none else D id) (L.getD (0+i) 0) none:=by
     funext j;unfold cE;rw[gz Yy];by_cases hj:j=L.getD (0+i) 0
     .rw[Z0 hj,Z0 (by simp[hj])]
     .rw[ZY hj]
      simp only[aaD,abo,hj,or_false]
    rw[e];exact h4
  .have xF:¬(i:Int)<L.length:=hh
   have dp:L.length<=i:=by omega
   refine ae.jo 9 rfl ?_;(conv=>whnf);(refine ae.gU 9 ?_;(conv=>whnf));refine ae.w (L,t3) [0,1,2,3,4,5,6,7] _ ?_;repeat' first|exact tv|apply pr
   .simp
   .refine⟨hL,?_⟩
    have e:(fun id=>if id∈L.take i then none else D id)=tD D to:=by
     funext j;rw[Z6 dp];unfold tD;by_cases hj:j∈L
     .obtain⟨d,h3,h4⟩:=(hL.mem j).1 hj
      rw[Z0 hj,h3];simp[h4]
     .rw[ZY hj]
      cases hd:D j with
      | none=>rfl
      | some d =>
       have:¬d<=to:=fun h4=>hj ((hL.mem j).2 ⟨d,hd,h4⟩);simp[this]
    rw[<-e];exact iS
 .have hle:IH<=to:=by have h3:¬to<IH:=hh;omega
  (refine Wa _ ?_;(repeat' first|exact tv|apply pr|intro hh));refine aM.intro hm (X:=Nat×Tm) (fun x=>x.1<=l1.length/\kC x.2 D (w6 D P1 IH l1 x.1)/\x.2.now=IH) (fun x=>l1.length - x.1)
   (fun x=>[(1,.I to),(2,.ptr 8 0),(4,.aZ),(41,.aL (.int .i64) fun _=>l1),(42,.I (l1.length:Int)),(43,.I (x.1:Int))])
   (fun x=>r7 x.2++[.cells 110 [.ptr 0 0]]) (0,jZ t1 IH) [0,1,2,3,4,5,6,7,8] ⟨rfl,rfl,?_,?_⟩ ⟨aae _,?_,rfl⟩ ?_
  .exact Vc
  .exact Vc
  .have e0:w6 D P1 IH l1 0=P1:=by funext j;simp[w6]
   rw[e0];have xF:¬to<IH:=hh;have hg:t1.now<IH:=hs.gt;exact nX.G4 ⟨by have:=nX.ic.1;omega,by omega⟩
  rintro⟨i,t2⟩ ⟨hi,sI,xH⟩;simp only[]at hi sI xH;refine Wa _ ?_;repeat' first|exact tv|apply pr|intro hh
  .exact⟨⟨by simp,hh⟩⟩
  .have xF:(i:Int)<l1.length:=hh
   have dp:i<l1.length:=by omega
   have hlen:l1.length<=1048576:=hs.len;have hL:l1[i]?=some (l1.getD i 0):=by rw[ZZ,Z1 dp];rfl
   obtain⟨d,hd⟩:=hs.mem (l1.getD i 0) (abU hL);(refine ab.q (liftM t2 D _ sI (l1.getD i 0)) [0,1,2,3,4,5,6,7] ?_;rintro t3 h3;refine Wp _ ?_;(repeat' first|exact tv|apply pr|intro hh));(refine ab.q (qH t3 D _ h3.rel (l1.getD i 0) d hd (by simp[cE])) [0,1,2,3,4,5,6,7] ?_;rintro t4 h4;refine Wp _ ?_;(repeat' first|exact tv|apply pr|intro hh));refine⟨(i+1,t4),[0,1,2,3,4,5,6,7,8],⟨rfl,rfl,?_,?_⟩,⟨by omega,?_,?_⟩,by simp only[];omega⟩
   .exact Vc
   .refine Vb _ ?_;repeat' first|exact tv|apply pr
    show IntKind.i64.wrap ((i:Int)+1)=_;rw[Wh.wr (by omega)];omega
   .have:=h4.rel
    rw[h3.now.trans xH,G5 hL hd]at this;exact this
   .exact h4.now.trans (h3.now.trans xH)
  .have xF:¬(i:Int)<l1.length:=hh
   have dp:l1.length<=i:=by omega
   refine⟨(t2,w6 D P1 IH l1 i),[0,1,2,3,4,5,6,7,8],⟨rfl,rfl,?_,?_⟩,⟨sI,?_,?_⟩,?_⟩
   .exact Vc
   .exact Vc
   .rw[xH];exact JG EW hs dp
   .show t2.now<=to
    omega
   .have hg:t1.now<IH:=hs.gt
    show(to - t2.now).toNat<(to - t1.now).toNat;omega
end Go.Proofs.YthnefnlhcijekaaGreat.Ti
namespace Go.Proofs.YthnefnlhcijekaaGreat.Rc
open Go Go.RowKit Fw Wh
structure Ln where
 id:Int
 bP:Nat
 cV:Nat
structure Rc where
 n:Nat
 lk:Nat->Ln
 at_:List (Nat×Int×Nat)
 oH:Nat
def ol (C:List Nat) (j:Nat):Nat:=if j=0 then C.getD (C.length - 1) 0 else C.getD (j - 1) 0
structure rP (w:Rc) (L:List Nat):Prop where
 lk:∀ j k,(0::L)[j]?=some k->(w.lk k).cV=(0::L).getD (j+1) 0/\(w.lk k).bP=ol (0::L) j/\k<w.n
 nd:(0::L).Nodup
 vr:∀ id k,aP w.at_ id=some k↔k∈L/\(w.lk k).id=id
 keys:(aR w.at_).Nodup
 pos:∀ k∈L,0<=(w.lk k).id
def jZ (w:Rc) (k v:Nat):Rc:={ w with lk:=fo w.lk k { w.lk k with cV:=v } }
def pG (w:Rc) (k v:Nat):Rc:={ w with lk:=fo w.lk k { w.lk k with bP:=v } }
def oh (w:Rc) (id:Int):Rc:={ w with at_:=bZ w.at_ id }
def tw (w:Rc) (id:Int) (k:Nat):Rc:={ w with at_:=bV w.at_ w.oH id k,oH:=w.oH+1 }
def Cr (w:Rc) (k:Nat) (id:Int):Rc:=oh (pG (jZ w (w.lk k).bP (w.lk k).cV) (w.lk k).cV (w.lk k).bP) id
theorem Cs (w:Rc) (k v x:Nat):(jZ w k v).lk x=if x=k then { w.lk k with cV:=v } else w.lk x:=rfl
theorem JH (w:Rc) (k v x:Nat):(pG w k v).lk x=if x=k then { w.lk k with bP:=v } else w.lk x:=rfl
theorem tE (w:Rc) (p q a b x:Nat):((pG (jZ w p a) q b).lk x).id=(w.lk x).id/\((pG (jZ w p a) q b).lk x).cV=(if x=p then a else(w.lk x).cV)/\((pG (jZ w p a) q b).lk x).bP=if x=q then b else(w.lk x).bP:=by
 rw[JH,Cs,Cs];by_cases h1:x=q
 .subst h1
  rw[Z0 rfl,Z0 rfl];by_cases h2:x=p
  .subst h2;rw[Z0 rfl,Z0 rfl];exact⟨rfl,rfl,rfl⟩
  .rw[ZY h2,ZY h2];exact⟨rfl,rfl,rfl⟩
 .rw[ZY h1,ZY h1]
  by_cases h2:x=p
  .subst h2;rw[Z0 rfl,Z0 rfl];exact⟨rfl,rfl,rfl⟩
  .rw[ZY h2,ZY h2];exact⟨rfl,rfl,rfl⟩
theorem JI {L:List Nat} {j k:Nat} (h:L[j]?=some k) (d:Nat):L.getD j d=k:=by rw[ZZ,h];rfl
theorem kE (C:List Nat) (i j d:Nat):(C.eraseIdx i).getD j d=if j<i then C.getD j d else C.getD (j+1) d:=by
 rw[ZZ,bT];split <;> rw[ZZ]
theorem rP.drop {w:Rc} {L:List Nat} (h:rP w L) {i k:Nat} (hi:L[i]?=some k):rP (Cr w k (w.lk k).id) (L.eraseIdx i):=by
 have hC:(0::L)[i+1]?=some k:=hi;have dp:=(Z2.1 hi).1;obtain⟨a1,a2,a3⟩:=h.lk _ _ hC;have D8:(w.lk k).bP=(0::L).getD i 0:=by rw[a2];unfold ol;rw[ZY (by omega)];rfl
 have hlen:(0::L).length=L.length+1:=rfl;have Wv:(0::L.eraseIdx i)=(0::L).eraseIdx (i+1):=rfl;have QZ:((0::L).eraseIdx (i+1)).length=L.length:=by rw[List.length_eraseIdx,Z0 (by rw[hlen];omega),hlen];omega
 have Yz:∃ p,(0::L)[i]?=some p:=⟨_,Z1 (by rw[hlen];omega)⟩
 obtain⟨p,hp⟩:=Yz;have Ww:(w.lk k).bP=p:=by rw[D8];exact JI hp 0
 have bD:∀ x,x∈L.eraseIdx i↔x∈L/\x≠k:=fun x=>by
  constructor
  .intro hx
   obtain⟨j,hj⟩:=aaa.1 hx;rw[bT]at hj;have eA:=(aaT.1 h.nd).2;split at hj
   .exact⟨aaa.2 ⟨j,hj⟩,fun e=>by subst e;have:=gM eA hj hi;omega⟩
   .exact⟨aaa.2 ⟨_,hj⟩,fun e=>by subst e;have:=gM eA hj hi;omega⟩
  .rintro⟨hx,bC⟩
   obtain⟨j,hj⟩:=aaa.1 hx;refine aaa.2 ?_;rcases abr j i with h1|h1|h1
   .exact⟨j,by rw[bT,Z0 h1];exact hj⟩
   .subst h1;rw[hi]at hj;cases hj;exact(bC rfl).elim
   .exact⟨j - 1,by rw[bT,ZY (by omega),show j - 1+1=j by omega];exact hj⟩
 have hid:∀ x,((Cr w k (w.lk k).id).lk x).id=(w.lk x).id:=fun x=>(tE w _ _ _ _ x).1;refine⟨fun j x hj=>?_,?_,fun id y=>?_,cQ h.keys _,fun y hy=>?_⟩
 .obtain⟨-,b2,b3⟩:=tE w (w.lk k).bP (w.lk k).cV (w.lk k).cV (w.lk k).bP x
  show((pG (jZ w (w.lk k).bP (w.lk k).cV) (w.lk k).cV (w.lk k).bP).lk x).cV=_/\((pG (jZ w (w.lk k).bP (w.lk k).cV) (w.lk k).cV (w.lk k).bP).lk x).bP=_/\x<w.n;rw[b2,b3,Wv];rw[Wv,bT]at hj;have lq:(0::L)[if j<i+1 then j else j+1]?=some x:=by
   by_cases hq:j<i+1
   .rw[Z0 hq]at hj ⊢;exact hj
   .rw[ZY hq]at hj ⊢;exact hj
  have hx:=h.lk (if j<i+1 then j else j+1) x lq;have NF:∀ m,(0::L)[m]?=some x->m=(if j<i+1 then j else j+1):=fun m hm=>gM h.nd hm lq;refine⟨?_,?_,hx.2.2⟩
  .rw[kE]
   by_cases SS:x=p
   .rw[Z0 (by rw[Ww];exact SS),a1]
    have:=NF i (by rw[hp,SS]);have jN:j=i:=by split at this <;> omega
    rw[ZY (by omega),jN]
   .rw[ZY (by rw[Ww];exact SS),hx.1]
    have jN:j≠i:=fun e=>SS (by rw[Z0 (by omega),e,hp]at hj;cases hj;rfl);by_cases h1:j<i+1
    .rw[Z0 h1,Z0 (by omega)]
    .rw[ZY h1,ZY (by omega)]
  .unfold ol
   rw[QZ];by_cases hq:i+2<L.length+1
   .have Wx:(0::L)[i+2]?=some (w.lk k).cV:=by
     rw[a1];rw[ZZ,Z1 (by rw[hlen];omega)];rfl
    by_cases SU:x=(w.lk k).cV
    .rw[Z0 SU]
     have:=NF (i+2) (by rw[Wx,SU]);have jN:j=i+1:=by split at this <;> omega
     rw[ZY (by omega),jN,kE,Z0 (by omega)];rw[D8];rfl
    .rw[ZY SU,hx.2.1]
     have jN:j≠i+1:=fun e=>SU (by rw[ZY (by omega),e,Wx]at hj;cases hj;rfl);unfold ol;by_cases h1:j<i+1
     .simp only[Z0 h1]
      by_cases h0:j=0
      .rw[Z0 h0,Z0 h0,kE,ZY (by omega),hlen,show L.length - 1+1=L.length+1 - 1 by omega]
      .rw[ZY h0,ZY h0,kE,Z0 (by omega)]
     .simp only[ZY h1]
      rw[ZY (by omega),ZY (by omega),kE,ZY (by omega)];congr 1;omega
   .have YA:(w.lk k).cV=0:=by
     rw[a1,ZZ,aat (by rw[hlen];omega)];rfl
    rw[YA];by_cases h0:j=0
    .subst h0
     rw[Z0 (by omega)]at hj;have NG:x=0:=by simp at hj;exact hj.symm
     rw[Z0 NG,Z0 rfl,kE,Z0 (by omega),D8];congr 1;omega
    .have NG:x≠0:=fun e=>by
      have:=NF 0 (by rw[e];rfl);split at this <;> omega
     rw[ZY NG,ZY h0,hx.2.1];have q8:j<i+1:=by
      by_cases h1:j<i+1
      .exact h1
      .rw[ZY h1]at hj
       have:=(Z2.1 hj).1;rw[hlen]at this;omega
     unfold ol;simp only[Z0 q8];rw[ZY h0,kE,Z0 (by omega)]
 .exact h.nd.sublist (List.Sublist.cons_cons _ (List.eraseIdx_sublist _ _))
 .show aP (bZ w.at_ (w.lk k).id) id=some y↔_
  rw[dS h.keys,hid,bD];by_cases he:id=(w.lk k).id
  .rw[Z0 he]
   refine⟨fun e=>(by cases e),fun⟨⟨h1,h2⟩,h3⟩=>?_⟩;have e1:=(h.vr id y).2 ⟨h1,h3⟩;have e2:=(h.vr id k).2 ⟨aaa.2 ⟨i,hi⟩,he.symm⟩;rw[e1]at e2;cases e2;exact(h2 rfl).elim
  .rw[ZY he,h.vr]
   constructor
   .rintro⟨h1,h2⟩
    exact⟨⟨h1,fun e=>by subst e;exact he h2.symm⟩,h2⟩
   .rintro⟨⟨h1,_⟩,h2⟩
    exact⟨h1,h2⟩
 .rw[hid];exact h.pos y ((bD y).1 hy).1
def pH (w:Rc) (id:Int):Rc:={ w with n:=w.n+1,lk:=fo w.lk w.n ⟨id,(w.lk 0).bP,0⟩ }
def l7 (w:Rc) (id:Int):Rc:=tw (pG (jZ (pH w id) (w.lk 0).bP w.n) 0 w.n) id w.n
theorem rP.root {w:Rc} {L:List Nat} (h:rP w L):(w.lk 0).cV=(0::L).getD 1 0/\(w.lk 0).bP=(0::L).getD L.length 0/\0<w.n/\(w.lk 0).bP<w.n:=by
 have h1:=h.lk 0 0 rfl;have e:(w.lk 0).bP=(0::L).getD L.length 0:=by rw[h1.2.1];rfl
 refine⟨h1.1,e,h1.2.2,?_⟩;rw[e];have:(0::L)[L.length]?=some ((0::L).getD L.length 0):=by rw[ZZ,Z1 (by simp)];rfl
 exact(h.lk _ _ this).2.2
theorem rP.yM {w:Rc} {L:List Nat} (h:rP w L) {id:Int} (hid:0<=id) (cy:aP w.at_ id=none):rP (l7 w id) (L++[w.n]):=by
 obtain⟨r1,r2,r3,r4⟩:=h.root;have bf:∀ x∈(0::L),x<w.n:=fun x hx=>by
  obtain⟨j,hj⟩:=aaa.1 hx;exact(h.lk j x hj).2.2
 have hlen:(0::L).length=L.length+1:=rfl;have Uv:(0::(L++[w.n]))=(0::L)++[w.n]:=rfl;have Lx:∀ x,((l7 w id).lk x).id=(if x=w.n then id else(w.lk x).id)/\((l7 w id).lk x).cV=(if x=(w.lk 0).bP then w.n else if x=w.n then 0 else(w.lk x).cV)/\((l7 w id).lk x).bP=(if x=0 then w.n else if x=w.n then(w.lk 0).bP else(w.lk x).bP):=fun x=>by
  have e:∀ y,(pH w id).lk y=if y=w.n then⟨id,(w.lk 0).bP,0⟩else w.lk y:=fun y=>rfl;obtain⟨b1,b2,b3⟩:=tE (pH w id) (w.lk 0).bP 0 w.n w.n x;show((pG (jZ (pH w id) (w.lk 0).bP w.n) 0 w.n).lk x).id=_/\((pG (jZ (pH w id) (w.lk 0).bP w.n) 0 w.n).lk x).cV=_/\((pG (jZ (pH w id) (w.lk 0).bP w.n) 0 w.n).lk x).bP=_;rw[b1,b2,b3,e x];by_cases hx:x=w.n
  .simp only[Z0 hx]
   exact⟨trivial,trivial,trivial⟩
  .simp only[ZY hx]
   exact⟨trivial,trivial,trivial⟩
 have iO:(0::L)[L.length]?=some (w.lk 0).bP:=by rw[r2,ZZ,Z1 (by simp)];rfl
 have JJ:∀ x,x<w.n->((l7 w id).lk x).id=(w.lk x).id:=fun x hx=>by rw[(Lx x).1,ZY (by omega)]
 refine⟨fun j x hj=>?_,?_,fun xG y=>?_,?_,fun y hy=>?_⟩
 .obtain⟨-,b2,b3⟩:=Lx x
  rw[b2,b3,Uv];rw[Uv,aau]at hj;have D8:∀ m,m<L.length+1->((0::L)++[w.n]).getD m 0=(0::L).getD m 0:=fun m hm=>by
   rw[ZZ,ZZ,aau,Z0 (by rw[hlen];omega)]
  have gH:((0::L)++[w.n]).getD (L.length+1) 0=w.n:=by
   rw[ZZ,aau,ZY (by rw[hlen];omega),hlen];simp
  split at hj
  .rename_i q8
   rw[hlen]at q8;obtain⟨c1,c2,c3⟩:=h.lk j x hj;have Wy:x≠w.n:=by omega
   refine⟨?_,?_,by show x<w.n+1;omega⟩
   .by_cases SV:x=(w.lk 0).bP
    .rw[Z0 SV]
     have:j=L.length:=gM h.nd hj (by rw[iO,SV]);subst this;exact gH.symm
    .rw[ZY SV,ZY Wy,c1]
     have:j≠L.length:=fun e=>SV (by rw[e,iO]at hj;cases hj;rfl);exact(D8 _ (by omega)).symm
   .unfold ol
    by_cases h0:j=0
    .subst h0
     have NG:x=0:=by simp at hj;exact hj.symm
     rw[Z0 NG,Z0 rfl,aab,hlen];exact gH.symm
    .have NG:x≠0:=fun e=>h0 (gM h.nd hj (by rw[e];rfl))
     rw[ZY NG,ZY Wy,ZY h0,c2];unfold ol;rw[ZY h0,D8 _ (by omega)]
  .rename_i q8
   rw[hlen]at q8 hj;have QB:j=L.length+1:=by
    have:=(Z2.1 hj).1;simp at this;omega
   subst QB;simp at hj;subst hj;refine⟨?_,?_,by show w.n<w.n+1;omega⟩
   .rw[ZY (by omega),Z0 rfl,ZZ,aat (by simp)];rfl
   .rw[ZY (by omega),Z0 rfl]
    unfold ol;rw[ZY (by omega),show L.length+1 - 1=L.length by omega,D8 _ (by omega),r2]
 .rw[Uv,abH]
  exact⟨h.nd,by simp,fun a ha b hb=>by simp at hb;subst hb;have:=bf a ha;omega⟩
 .show aP (bV w.at_ w.oH id w.n) xG=some y↔_
  rw[de];by_cases he:xG=id
  .rw[Z0 he]
   constructor
   .intro e;cases e
    exact⟨by simp,by rw[(Lx w.n).1,Z0 rfl,he]⟩
   .rintro⟨h1,h2⟩
    rcases aaD.1 h1 with h3|h3
    .rw[JJ y (bf y (Z5 _ h3)),he]at h2
     have:=(h.vr id y).2 ⟨h3,h2⟩;rw[cy]at this;cases this
    .simp at h3;rw[h3]
  .rw[ZY he,h.vr]
   constructor
   .rintro⟨h1,h2⟩
    exact⟨abS _ h1,by rw[JJ y (bf y (Z5 _ h1))];exact h2⟩
   .rintro⟨h1,h2⟩
    rcases aaD.1 h1 with h3|h3
    .exact⟨h3,by rw[JJ y (bf y (Z5 _ h3))]at h2;exact h2⟩
    .simp at h3;rw[h3,(Lx w.n).1,Z0 rfl]at h2;exact(he h2.symm).elim
 .exact cP h.keys _ _ _
 .rcases aaD.1 hy with h3|h3
  .rw[JJ y (bf y (Z5 _ h3))];exact h.pos y h3
  .simp at h3;rw[h3,(Lx w.n).1,Z0 rfl];exact hid
structure dT (w:Rc) (ids:List Int):Prop where
 h:∃ L,rP w L/\ids=L.map fun k=>(w.lk k).id
theorem rP.uniq {w:Rc} {L:List Nat} (h:rP w L) {a b:Nat} (ha:a∈L) (hb:b∈L) (e:(w.lk a).id=(w.lk b).id):a=b:=by
 have h1:=(h.vr _ a).2 ⟨ha,rfl⟩;have h2:=(h.vr _ b).2 ⟨hb,e.symm⟩;rw[h1]at h2;cases h2;rfl
theorem dT.nd {w:Rc} {ids:List Int} (h:dT w ids):ids.Nodup:=by
 obtain⟨L,q,rfl⟩:=h.h;rw[aaI,abI];refine abv ?_ (aaI.1 (aaT.1 q.nd).2);intro a b ha hb rB e;exact rB (q.uniq ha hb e)
theorem dT.no {w:Rc} {ids:List Int} (h:dT w ids) {id:Int}:aP w.at_ id=none↔id∉ids:=by
 obtain⟨L,q,rfl⟩:=h.h;constructor
 .intro hg hm
  obtain⟨k,hk,e⟩:=aas.1 hm;rw[(q.vr id k).2 ⟨hk,e⟩]at hg;cases hg
 .intro hm
  cases hg:aP w.at_ id with
  | none=>rfl
  | some k =>
   obtain⟨hk,e⟩:=(q.vr id k).1 hg;exact(hm (aas.2 ⟨k,hk,e⟩)).elim
theorem G6 {α β:Type} (f:α->β):∀ (L:List α) (i:Nat),(L.eraseIdx i).map f=(L.map f).eraseIdx i
 | [],_=>rfl
 | a::r,0=>rfl
 | a::r,i+1=>by simp[G6 f r i]
theorem yN:∀ (l:List Int) (i:Nat) (x:Int),l.Nodup->l[i]?=some x->l.eraseIdx i=l.erase x
 | [],i,x,_,h=>by simp at h
 | a::r,0,x,_,h=>by simp at h;subst h;simp
 | a::r,i+1,x,hn,h=>by
  have h2:r[i]?=some x:=h;have hm:=aaa.2 ⟨i,h2⟩;have bC:a≠x:=fun e=>by subst e;exact(aaT.1 hn).1 hm
  rw[List.eraseIdx_cons_succ,yN r i x (aaT.1 hn).2 h2,List.erase_cons_tail (by simpa using bC)]
theorem D9 {w:Rc} {L:List Nat} (h:rP w L) {i k:Nat} (hi:L[i]?=some k):(L.eraseIdx i).map (fun k=>(w.lk k).id)=(L.map fun k=>(w.lk k).id).erase (w.lk k).id:=by
 have eA:(L.map fun k=>(w.lk k).id).Nodup:=dT.nd ⟨L,h,rfl⟩;have dp:=(Z2.1 hi).1;rw[G6];have cD:(L.map fun k=>(w.lk k).id)[i]?=some (w.lk k).id:=by rw[aaS,hi];rfl
 exact yN _ _ _ eA cD
theorem dT.drop {w:Rc} {ids:List Int} (h:dT w ids) {id:Int} {k:Nat} (hk:aP w.at_ id=some k):dT (Cr w k id) (ids.erase id)/\id∈ids:=by
 obtain⟨L,q,rfl⟩:=h.h;obtain⟨h1,rfl⟩:=(q.vr id k).1 hk;obtain⟨i,hi⟩:=aaa.1 h1;refine⟨⟨_,q.drop hi,?_⟩,aas.2 ⟨k,h1,rfl⟩⟩;rw[<-D9 q hi];exact abe fun x _=>((tE w _ _ _ _ x).1).symm
theorem dT.yM {w:Rc} {ids:List Int} (h:dT w ids) {id:Int} (hid:0<=id) (cy:id∉ids):dT (l7 w id) (ids++[id]):=by
 have hg:=h.no.2 cy;obtain⟨L,q,rfl⟩:=h.h;refine⟨_,q.yM hid hg,?_⟩;have e:∀ y,((l7 w id).lk y).id=if y=w.n then id else(w.lk y).id:=fun y=>by
  have:=(tE (pH w id) (w.lk 0).bP 0 w.n w.n y).1;show((pG (jZ (pH w id) (w.lk 0).bP w.n) 0 w.n).lk y).id=_;rw[this];show(fo w.lk w.n _ y).id=_;unfold fo;split <;> rfl
 rw[ace,List.map_singleton,e,Z0 rfl];congr 1;refine abe fun x hx=>?_;obtain⟨j,hj⟩:=aaa.1 hx;have:=(q.lk (j+1) x hj).2.2;rw[e,ZY (by omega)]
theorem dT.walk {w:Rc} {ids:List Int} (h:dT w ids):∃ L:List Nat,L.length=ids.length/\(∀ (i k:Nat),L[i]?=some k->ids[i]?=some (w.lk k).id/\k≠0)/\(w.lk 0).cV=L.getD 0 0/\(∀ (i k:Nat),L[i]?=some k->(w.lk k).cV=L.getD (i+1) 0) /\
  (∀ (id:Int) (k:Nat),aP w.at_ id=some k->∃ i:Nat,L[i]?=some k/\ids[i]?=some id):=by
 obtain⟨L,q,rfl⟩:=h.h;refine⟨L,by simp,fun i k hi=>⟨by rw[aaS,hi];rfl,fun e=>?_⟩,q.root.1,fun i k hi=>(q.lk (i+1) k hi).1,fun id k hk=>?_⟩
 .subst e
  exact(aaT.1 q.nd).1 (aaa.2 ⟨i,hi⟩)
 .obtain⟨h1,rfl⟩:=(q.vr id k).1 hk
  obtain⟨i,hi⟩:=aaa.1 h1;exact⟨i,hi,by rw[aaS,hi];rfl⟩
def Q0 (c:Nat):Rc:=⟨1,fun _=>⟨-1,0,0⟩,[],c⟩
theorem NH (c:Nat):dT (Q0 c) []:=by
 refine⟨[],⟨fun j k hj=>?_,by simp,fun id k=>by simp[Q0,aP],by simp[Q0,aR],by simp⟩,rfl⟩;cases j with
 | zero=>cases hj;exact⟨rfl,rfl,by show 0<1;omega⟩
 | succ j=>cases hj
end Go.Proofs.YthnefnlhcijekaaGreat.Rc
namespace Go.Proofs.YthnefnlhcijekaaGreat.Rc
open Go Go.RowKit Fw
open Wh (aK fp fo bz aV)
theorem hm:Tryz.prog.follows .mixedOrders=true:=by kernel_rfl
abbrev JK:TypeId:=165
abbrev fG:TypeId:=162
def pt (k:Nat):Option (Nat×Nat):=some (k+1,0)
def ep (l:Ln):Nat->HV
 | 0=>.gQ (.int .i64) l.id|1=>.hp (pt l.bP)|_=>.hp (pt l.cV)
def rL (es:List (Nat×Int×Nat)):List (Nat×Int×HV):=es.map fun e=>(e.1,e.2.1,.hp (pt e.2.2))
theorem iN (es:List (Nat×Int×Nat)) (n:Int):aP (rL es) n=(aP es n).map fun k=>HV.hp (pt k):=by
 induction es with
 | nil=>rfl
 | cons e r ih =>
  obtain⟨b,k,x⟩:=e;simp only[rL,aal,aP];split
  .rfl
  .exact ih
theorem tl (es:List (Nat×Int×Nat)) (n:Int):bZ (rL es) n=rL (bZ es n):=by
 induction es with
 | nil=>rfl
 | cons e r ih =>
  obtain⟨b,k,x⟩:=e;simp only[rL,aal,bZ];split
  .rfl
  .rw[aal];congr 1
theorem tp (es:List (Nat×Int×Nat)) (c:Nat) (n:Int) (v:Nat):bV (rL es) c n (.hp (pt v))=rL (bV es c n v):=by
 induction es with
 | nil=>rfl
 | cons e r ih =>
  obtain⟨b,k,x⟩:=e;simp only[rL,aal,bV];split
  .rfl
  .rw[aal];congr 1
def wM (w:Rc):Nat->HO
 | 0=>.map (rL w.at_) w.oH
 | k+1=>.cells fG 3 (ep (w.lk k))
def oj (w:Rc):Hp:=⟨w.n+1,wM w⟩
section
variable {P:Program} {t i:Nat} {w:Rc} {f:Unit->Option (Nat×Nat)} {K:AV->Prop}
theorem JA (n:Nat) (hf:f ()=some (n+1,0)) (ht:oI P t=true) (k:K (.I ((w.lk n).id))):EL P t i (fun _=>oj w) f K :=
 ⟨n+1,0,fG,3,ep (w.lk n),_,hf,rfl,by omega,rfl,ht,k⟩
theorem w7 (n:Nat) (hf:f ()=some (n+1,1)) (ht:oI P t=true) (k:K (.hp i fun _=>pt (w.lk n).bP)):EL P t i (fun _=>oj w) f K :=
 ⟨n+1,1,fG,3,ep (w.lk n),_,hf,rfl,by omega,rfl,ht,k⟩
theorem mL (n:Nat) (hf:f ()=some (n+1,2)) (ht:oI P t=true) (k:K (.hp i fun _=>pt (w.lk n).cV)):EL P t i (fun _=>oj w) f K :=
 ⟨n+1,2,fG,3,ep (w.lk n),_,hf,rfl,by omega,rfl,ht,k⟩
theorem JB (hz:iC P t=some (.pointer none)) {g:Unit->Nat} {n:Unit->Int} (hg:g ()=0)
  (k1:∀ k,aP w.at_ (n ())=some k->K (.bQ [.hp i fun _=>pt k,.tt])) (k0:aP w.at_ (n ())=none->K (.bQ [.bW,.ff])):OS P t true i (fun _=>oj w) g n K :=
 ⟨rL w.at_,w.oH,_,by rw[hg];rfl,hz,fun v hv=>by
  rw[iN]at hv;cases h:aP w.at_ (n ())with
  | none=>rw[h]at hv;cases hv
  | some k=>rw[h]at hv;cases hv;exact k1 k h,fun hv=>by
  rw[iN]at hv;cases h:aP w.at_ (n ())with
  | none=>exact k0 h
  | some k=>rw[h]at hv;cases hv⟩
end
section
variable {i:Nat} {w:Rc} {f:Unit->Option (Nat×Nat)} {v:AV} {K:Hp->Prop}
theorem Ct {w:Rc} (n:Nat) (l:Ln) (p:Nat) (hv:HV) (he:∀ q,q<3->ep l q=if q=p then hv else ep (w.lk n) q) :
  (oj { w with lk:=fo w.lk n l }).dN ((oj w).set (n+1) (.cells fG 3 fun q=>if q=p then hv else ep (w.lk n) q)):=by
 refine⟨rfl,fun j hj=>?_⟩;match j with
 | 0=>exact aK rfl
 | j+1 =>
  by_cases h:j=n
  .subst h
   simp only[oj,Hp.set,wM,bz,if_true];exact fp he
  .simp only[oj,Hp.set,wM]
   rw[ZY (by omega),aV _ _ _ h];exact HO.aG _
theorem Cu (n x:Nat) (hf:f ()=some (n+1,1)) (hv:eN i v (.hp (pt x))) (k:K (oj (pG w n x))):z8 i v (fun _=>oj w) f K :=
 ⟨n+1,1,fG,3,ep (w.lk n),.hp (pt x),oj (pG w n x),hf,rfl,by omega,hv,Ct n _ 1 _ (fun q hq=>by
  match q,hq with
  | 0,_=>rfl
  | 1,_=>rfl
  | 2,_=>rfl),k⟩
theorem Cv (n x:Nat) (hf:f ()=some (n+1,2)) (hv:eN i v (.hp (pt x))) (k:K (oj (jZ w n x))):z8 i v (fun _=>oj w) f K :=
 ⟨n+1,2,fG,3,ep (w.lk n),.hp (pt x),oj (jZ w n x),hf,rfl,by omega,hv,Ct n _ 2 _ (fun q hq=>by
  match q,hq with
  | 0,_=>rfl
  | 1,_=>rfl
  | 2,_=>rfl),k⟩
theorem Nq {P:Program} {t:Nat} (hz:iC P t=some (.pointer none)) {g:Unit->Nat} {n:Unit->Int} (hg:g ()=0) (k:K (oj (oh w (n ())))):Mi P t n (fun _=>oj w) g K:=by
 refine⟨rL w.at_,w.oH,_,oj (oh w (n ())),by rw[hg];rfl,hz,⟨rfl,fun j hj=>?_⟩,k⟩;rw[hg];match j with
 | 0=>simp only[oj,Hp.set,wM,if_true,tl];exact HO.aG _
 | j+1=>exact aK rfl
theorem Nr {P:Program} {t:Nat} (hz:iC P t=some (.pointer none)) {g:Unit->Nat} {n:Unit->Int} (x:Nat) (hg:g ()=0) (hv:eN i v (.hp (pt x))) (cy:aP w.at_ (n ())=none) (k:K (oj (tw w (n ()) x))):Mh P t i n v (fun _=>oj w) g K:=by
 refine⟨rL w.at_,w.oH,_,.hp (pt x),oj (tw w (n ()) x),by rw[hg];rfl,hz,hv,⟨rfl,fun j hj=>?_⟩,k⟩;rw[hg];match j with
 | 0 =>
  simp only[oj,Hp.set,wM,if_true,uB,tp,iN,cy];exact HO.aG _
 | j+1=>exact aK rfl
end
theorem G7 (w:Rc) (id:Int):(oj (pH w id)).dN ((oj w).add (.cells fG 3 (ep ⟨id,(w.lk 0).bP,0⟩))):=by
 refine⟨rfl,fun j hj=>?_⟩;match j with
 | 0=>exact aK (by simp[oj,Hp.add,wM,pH])
 | k+1 =>
  by_cases h:k=w.n
  .subst h;exact aK (by simp[oj,Hp.add,wM,pH,bz])
  .refine aK ?_
   simp only[oj,Hp.add,wM,pH];rw[aV _ _ _ h];exact(ZY (show¬(k+1=w.n+1) by omega)).symm
end Go.Proofs.YthnefnlhcijekaaGreat.Rc
namespace Go.Proofs.YthnefnlhcijekaaGreat.Rc
open Go Go.RowKit Fw
open Wh (aK fp fo bz aV)
abbrev RP:AV:=.ptr 0 0
def AS (w:Rc):List Chunk:=[.cells JK [.hp 1 fun _=>pt 0,.hm 1 fun _=>0],.heap fun _=>oj w]
theorem nD (w:Rc) (ids:List Int) (hw:dT w ids) (id:Int):aa Tryz.prog 76 [RP,.I id] (AS w) (Y:=Rc) (fun w'=>dT w' (ids.erase id))
  (fun _=>.bool fun _=>decide (id∈ids)) AS:=by
 (refine aa.q Tryz.func76 rfl fun S aw=>Wa _ ?_;(repeat' first|exact tv|apply pr|intro hh));(all_goals first|exact Ob.mk (fun h=>by cases h)|exact Ob.mk ⟨(fun h=>by cases h),by simp only[];omega,by simp only[];omega⟩|skip);refine JB rfl rfl (fun k hk=>?_) (fun hk=>?_);rotate_left
 .have hp:=hw.no.1 hk
  (refine Wa _ ?_;(repeat' first|exact tv|apply pr|intro hh));refine ae.w w [0,1] _ ?_;repeat' first|exact tv|apply pr
  .simp[hp]
  .rw[abL hp];exact hw
 obtain⟨h1,h2⟩:=hw.drop hk;(refine Wa _ ?_;(repeat' first|exact tv|apply pr|intro hh));(all_goals first|exact Ob.mk (fun h=>by cases h)|exact Ob.mk ⟨(fun h=>by cases h),by simp only[];omega,by simp only[];omega⟩|skip)
 iterate 4
  (first|refine w7 k rfl rfl ?_|refine mL k rfl rfl ?_);(refine Wa _ ?_;(repeat' first|exact tv|apply pr|intro hh));(all_goals first|exact Ob.mk (fun h=>by cases h)|exact Ob.mk ⟨(fun h=>by cases h),by simp only[];omega,by simp only[];omega⟩|skip)
 refine Cv (w.lk k).bP (w.lk k).cV rfl (.eq (.hp _)) ?_;(refine Wa _ ?_;(repeat' first|exact tv|apply pr|intro hh));(all_goals first|exact Ob.mk (fun h=>by cases h)|exact Ob.mk ⟨(fun h=>by cases h),by simp only[];omega,by simp only[];omega⟩|skip);refine Cu (w.lk k).cV (w.lk k).bP rfl (.eq (.hp _)) ?_;(refine Wa _ ?_;(repeat' first|exact tv|apply pr|intro hh));(all_goals first|exact Ob.mk (fun h=>by cases h)|exact Ob.mk ⟨(fun h=>by cases h),by simp only[];omega,by simp only[];omega⟩|skip);refine Nq rfl rfl ?_;(refine Wa _ ?_;(repeat' first|exact tv|apply pr|intro hh));refine ae.w (Cr w k id) [0,1] _ ?_;repeat' first|exact tv|apply pr
 .simp[h2]
 .exact h1
theorem NI (w:Rc) (ids:List Int) (hw:dT w ids) (id:Int) (h0:0<=id):aa Tryz.prog 74 [RP,.I id] (AS w) (Y:=Rc) (fun w'=>dT w' (ids.erase id++[id]))
  (fun _=>.int .i64 fun _=>0) AS:=by
 refine aa.q Tryz.func74 rfl fun S aw=>Wa _ ?_;repeat' first|exact tv|apply pr|intro hh
 .exfalso;omega
 (refine ab.q (nD w ids hw id) [0,1] ?_;rintro w1 Dw;refine Wp _ ?_;(repeat' first|exact tv|apply pr|intro hh));(all_goals first|exact Ob.mk (fun h=>by cases h)|exact Ob.mk ⟨(fun h=>by cases h),by simp only[];omega,by simp only[];omega⟩|skip);have cy:id∉ids.erase id:=fun h=>((aaR hw.nd).1 h).1 rfl;have hg:=Dw.no.2 cy;refine w7 0 rfl rfl ?_;(refine Wc _ ?_;(repeat' first|exact tv|apply pr|intro hh));(all_goals first|exact Ob.mk (fun h=>by cases h)|exact Ob.mk ⟨(fun h=>by cases h),by simp only[];omega,by simp only[];omega⟩|skip);refine aB.gL 1 2 rfl (oj (pH w1 id)) (ep ⟨id,(w1.lk 0).bP,0⟩) rfl rfl (fun p v h=>?_) ?_ ?_
 .match p with
  | 0=>cases h;exact .eq (.gQ (.int .i64) id)
  | 1=>cases h;exact .eq (.hp _)
  | 2=>cases h;exact .eq (.hp _)
 .exact G7 w1 id
 (conv=>whnf);have en:(pH w1 id).lk w1.n=⟨id,(w1.lk 0).bP,0⟩:=bz ..;(refine Wb _ ?_;(repeat' first|exact tv|apply pr|intro hh));(all_goals first|exact Ob.mk (fun h=>by cases h)|exact Ob.mk ⟨(fun h=>by cases h),by simp only[];omega,by simp only[];omega⟩|skip)
 iterate 2
  (first|refine w7 w1.n rfl rfl ?_|refine mL w1.n rfl rfl ?_);rw[en];(refine Wa _ ?_;(repeat' first|exact tv|apply pr|intro hh));(all_goals first|exact Ob.mk (fun h=>by cases h)|exact Ob.mk ⟨(fun h=>by cases h),by simp only[];omega,by simp only[];omega⟩|skip)
 refine Cv (w1.lk 0).bP w1.n rfl (.eq (.hp (pt w1.n))) ?_;(refine Wa _ ?_;(repeat' first|exact tv|apply pr|intro hh));(all_goals first|exact Ob.mk (fun h=>by cases h)|exact Ob.mk ⟨(fun h=>by cases h),by simp only[];omega,by simp only[];omega⟩|skip);refine Cu 0 w1.n rfl (.eq (.hp (pt w1.n))) ?_;(refine Wa _ ?_;(repeat' first|exact tv|apply pr|intro hh));(all_goals first|exact Ob.mk (fun h=>by cases h)|exact Ob.mk ⟨(fun h=>by cases h),by simp only[];omega,by simp only[];omega⟩|skip);refine Nr rfl w1.n rfl (.eq (.hp (pt w1.n))) hg ?_;(refine Wa _ ?_;(repeat' first|exact tv|apply pr|intro hh));(refine ae.w (l7 w1 id) [0,1] _ ?_;(repeat' first|exact tv|apply pr));exact Dw.yM h0 cy
theorem Q1 {w:Rc} {f g:Unit->Option (Nat×Nat)} {K:AV->Prop} (a b:Nat) (hf:f ()=pt a) (hg:g ()=pt b) (k:K (.bool fun _=>decide (a=b))):Vx (fun _=>oj w) f g K:=by
 refine⟨fun x hx=>?_,fun x hx=>?_,?_⟩
 .rw[hf]at hx;cases hx;exact⟨fG,3,_,rfl⟩
 .rw[hg]at hx;cases hx;exact⟨fG,3,_,rfl⟩
 .have e:(fun u=>f u == g u)=fun _=>decide (a=b):=by
   funext u;cases u;rw[hf,hg];by_cases h:a=b
   .subst h;simp
   .simp[pt,h]
  rw[e];exact k
theorem Cw (w:Rc) (k q:Nat) (hq:(w.lk k).cV=q):MU Tryz.prog 132 [RP,.hp 1 fun _=>pt k] (AS w) (.bQ [.int .i64 fun _=>if q=0 then 0 else(w.lk q).id,.bool fun _=>!decide (q=0)]) (AS w):=by
 (refine aa.q Tryz.func132 rfl fun S aw=>Wa _ ?_;(repeat' first|exact tv|apply pr|intro hh));(all_goals first|exact Ob.mk (fun h=>by cases h)|exact Ob.mk ⟨(fun h=>by cases h),by simp only[];omega,by simp only[];omega⟩|skip);refine mL k rfl rfl ?_;(refine Wa _ ?_;(repeat' first|exact tv|apply pr|intro hh));(all_goals first|exact Ob.mk (fun h=>by cases h)|exact Ob.mk ⟨(fun h=>by cases h),by simp only[];omega,by simp only[];omega⟩|skip);refine Q1 (w.lk k).cV 0 rfl rfl ?_;rw[hq];refine Wa _ ?_;repeat' first|exact tv|apply pr|intro hh
 .refine ae.w () [0,1] _ ?_;repeat' first|exact tv|apply pr
  .rw[Z0 hh]
  .simp[hh]
 (all_goals first|exact Ob.mk (fun h=>by cases h)|exact Ob.mk ⟨(fun h=>by cases h),by simp only[];omega,by simp only[];omega⟩|skip);refine mL k rfl rfl ?_;rw[hq];(refine Wa _ ?_;(repeat' first|exact tv|apply pr|intro hh));(all_goals first|exact Ob.mk (fun h=>by cases h)|exact Ob.mk ⟨(fun h=>by cases h),by simp only[];omega,by simp only[];omega⟩|skip);refine JA q rfl rfl ?_;(refine Wa _ ?_;(repeat' first|exact tv|apply pr|intro hh));refine ae.w () [0,1] _ ?_;repeat' first|exact tv|apply pr
 .rw[ZY hh]
 .simp[hh]
theorem r9 {w:Rc} {ids:List Int} {L:List Nat} (hl:L.length=ids.length) (h2:∀ (i k:Nat),L[i]?=some k->ids[i]?=some (w.lk k).id/\k≠0) (i:Nat) :
  (L.getD i 0=0↔ids.length<=i)/\(if L.getD i 0=0 then 0 else(w.lk (L.getD i 0)).id)=ids.getD i 0:=by
 by_cases hi:i<L.length
 .have hk:L[i]?=some (L.getD i 0):=by rw[ZZ,Z1 hi];rfl
  obtain⟨h3,h4⟩:=h2 i _ hk;refine⟨⟨fun e=>(h4 e).elim,fun e=>by omega⟩,?_⟩;rw[ZY h4,ZZ (l:=ids),h3];rfl
 .have e:L.getD i 0=0:=by rw[ZZ,aat (by omega)];rfl
  rw[e];refine⟨⟨fun _=>by omega,fun _=>rfl⟩,?_⟩;rw[Z0 rfl,ZZ,aat (by omega)];rfl
theorem JL (w:Rc) (ids:List Int) (hw:dT w ids):MU Tryz.prog 75 [RP] (AS w) (.bQ [.I (ids.getD 0 0),.bool fun _=>decide (0<ids.length)]) (AS w):=by
 obtain⟨L,hl,h2,h3,h4,h5⟩:=hw.walk;have hx:=r9 hl h2 0;(refine aa.q Tryz.func75 rfl fun S aw=>Wa _ ?_;(repeat' first|exact tv|apply pr|intro hh));(all_goals first|exact Ob.mk (fun h=>by cases h)|exact Ob.mk ⟨(fun h=>by cases h),by simp only[];omega,by simp only[];omega⟩|skip);(refine ab.q (Cw w 0 (L.getD 0 0) h3) [0,1] fun _ _=>Wp _ ?_;(repeat' first|exact tv|apply pr|intro hh));refine ae.w () [0,1] _ ?_;repeat' first|exact tv|apply pr
 .exact hx.2
 .rw[decide_eq_decide.2 hx.1,<-decide_not,decide_eq_decide];omega
theorem NJ (w:Rc) (ids:List Int) (hw:dT w ids) (id:Int) (i:Nat) (hi:ids[i]?=some id):MU Tryz.prog 125 [RP,.I id] (AS w) (.bQ [.I (ids.getD (i+1) 0),.bool fun _=>decide (i+1<ids.length)]) (AS w):=by
 obtain⟨L,hl,h2,h3,h4,h5⟩:=hw.walk;have hx:=r9 hl h2 (i+1);(refine aa.q Tryz.func125 rfl fun S aw=>Wa _ ?_;(repeat' first|exact tv|apply pr|intro hh));(all_goals first|exact Ob.mk (fun h=>by cases h)|exact Ob.mk ⟨(fun h=>by cases h),by simp only[];omega,by simp only[];omega⟩|skip);refine JB rfl rfl (fun k hk=>?_) (fun hk=>?_);rotate_left
 .exact(hw.no.1 hk (aaa.2 ⟨i,hi⟩)).elim
 obtain⟨j,SX,lq⟩:=h5 id k hk;have cx:j=i:=by
  have e1:=Z2.1 lq;have e2:=Z2.1 hi;exact(List.getElem_inj hw.nd).1 (e1.2.trans e2.2.symm)
 subst cx;(refine Wa _ ?_;(repeat' first|exact tv|apply pr|intro hh));(refine ab.q (Cw w k (L.getD (j+1) 0) (h4 j k SX)) [0,1] fun _ _=>Wp _ ?_;(repeat' first|exact tv|apply pr|intro hh));refine ae.w () [0,1] _ ?_;repeat' first|exact tv|apply pr
 .exact hx.2
 .rw[decide_eq_decide.2 hx.1,<-decide_not,decide_eq_decide];omega
theorem NK (w:Rc) (ids:List Int) (hw:dT w ids) (hn:ids.length<=1000000):MU Tryz.prog 61 [RP] (AS w) (.aL (.int .i64) fun _=>ids) (AS w):=by
 obtain⟨L,hl,h2,h3,h4,h5⟩:=hw.walk;(refine aa.q Tryz.func61 rfl fun S aw=>Wc _ ?_;(repeat' first|exact tv|apply pr|intro hh));(refine aB.step hm rfl (Wc _ ?_);(repeat' first|exact tv|apply pr|intro hh));(refine aB.step hm rfl (Wc _ ?_);(repeat' first|exact tv|apply pr|intro hh));(refine aB.step hm rfl (Wc _ ?_);(repeat' first|exact tv|apply pr|intro hh));refine aB.nil 3 (.int .i64) none [3] ?_;(conv=>whnf);(refine Wb _ ?_;(repeat' first|exact tv|apply pr|intro hh));(all_goals first|exact Ob.mk (fun h=>by cases h)|exact Ob.mk ⟨(fun h=>by cases h),by simp only[];omega,by simp only[];omega⟩|skip);refine mL 0 rfl rfl ?_;rw[h3];(refine Wc _ ?_;(repeat' first|exact tv|apply pr|intro hh));apply aB.step hm rfl;(conv=>whnf);refine aM.intro hm (X:=Nat) (fun i=>i<=L.length) (fun i=>L.length+1 - i)
  (fun i=>[(0,RP),(2,.aZ),(3,.vec 2 1 (fun _=>0) fun _=>i),(4,.hp 1 fun _=>pt (L.getD i 0))])
  (fun i=>AS w++[.aq 3 (.int .i64) fun _=>ids.take i]) 0 [0,1,2] ⟨rfl,rfl,?_,?_⟩ (aae _) ?_
 .exact Vc
 .exact Vc
 .intro i hi
  (refine Wa _ ?_;(repeat' first|exact tv|apply pr|intro hh));(all_goals first|exact Ob.mk (fun h=>by cases h)|exact Ob.mk ⟨(fun h=>by cases h),by simp only[];omega,by simp only[];omega⟩|skip);refine Q1 (L.getD i 0) 0 rfl rfl ?_;refine Wa _ ?_;repeat' first|exact tv|apply pr|intro hh
  rotate_right
  .have dW:ids.length<=i:=(r9 hl h2 i).1.1 hh
   (refine ae.gU 2 ?_;(conv=>whnf));(refine ae.w () [0,1] _ ?_;(repeat' first|exact tv|apply pr));rw[aah,acr,Z6 (by omega)]
  all_goals have dp:i<ids.length:=by have:=mt (r9 hl h2 i).1.2 hh;omega
  all_goals have hk:L[i]?=some (L.getD i 0):=by rw[ZZ,Z1 (by omega)];rfl
  (all_goals first|exact Ob.mk (fun h=>by cases h)|exact Ob.mk ⟨(fun h=>by cases h),by simp only[];omega,by simp only[];omega⟩|skip);refine JA _ rfl rfl ?_;(refine Wa _ ?_;(repeat' first|exact tv|apply pr|intro hh));(all_goals first|exact Ob.mk (fun h=>by cases h)|exact Ob.mk ⟨(fun h=>by cases h),by simp only[];omega,by simp only[];omega⟩|skip)
  .refine⟨⟨rfl,?_,?_⟩⟩
   .show i+1<=_
    omega
   .show(i+1)*8<=_
    omega
  refine mL _ rfl rfl ?_;rw[h4 i _ hk];(refine Wa _ ?_;(repeat' first|exact tv|apply pr|intro hh));refine⟨i+1,[0,1,2],⟨rfl,rfl,?_,?_⟩,by omega,by omega⟩
  .refine Vb _ ?_;repeat' first|exact tv|apply pr
   have hid:=(h2 i _ hk).1;rw[show ids.take (i+1)=ids.take i++[(w.lk (L.getD i 0)).id] by rw[aaE,hid];rfl];simp[acr]
  .exact Vc
theorem nc:aa Tryz.prog 55 [] [] (Y:=Rc) (fun w=>dT w [])
  (fun _=>RP) AS:=by
 (refine aa.q Tryz.func55 rfl fun S aw=>Wa _ ?_;(repeat' first|exact tv|apply pr|intro hh));refine ae.lR (fun _=>.map [] 0) ?_;(conv=>whnf);refine ae.gk 3 1 rfl (fun c=>⟨1,fun _=>.map [] c⟩) rfl rfl (fun c=>⟨rfl,fun j hj=>?_⟩) (fun c=>?_)
 .have:j=0:=by change j<1 at hj;omega
  subst this;exact HO.aG _
 (conv=>whnf);refine ae.gL 3 0 rfl (oj (Q0 c)) (ep ⟨-1,0,0⟩) rfl rfl (fun p v h=>?_) ?_ ?_
 .match p with
  | 0=>cases h;exact .eq (.gQ (.int .i64) (-1))
  | 1=>cases h;exact .eq (.hp _)
  | 2=>cases h;exact .eq (.hp _)
 .refine⟨rfl,fun j hj=>?_⟩
  match j,hj with
  | 0,_=>exact HO.aG _
  | 1,_=>exact HO.aG _
  | j+2,hj=>exact absurd hj (by show¬(j+2<1+1);omega)
 (conv=>whnf);(refine ae.w (Q0 c) [2,3] _ ?_;(repeat' first|exact tv|apply pr));exact NH c
end Go.Proofs.YthnefnlhcijekaaGreat.Rc
set_option maxRecDepth 8000
namespace Go.Proofs.YthnefnlhcijekaaGreat.Eb
open Go Go.RowKit Fw
abbrev fS (n G:Nat) (wd:Gs) (k:Nat):OQ:=DO (wJ n G wd k) fun s=>pk (Sl.ch s)
section
variable {n G:Nat} {wd:Gs} {k:Nat}
structure G8 (n:Nat) (wd:Gs) (h:Int):Prop where
 no:wd h=none
 pos:0<=h/\0<=h.tmod 64/\h.tmod 64<n
 other:∀ h' w,wd h'=some w->h'.tmod 64≠h.tmod 64
theorem AT (hG:G<=1000000000) (hk:0<k):aa Tryz.prog 64 [.ptr 0 0] [.bq (fS n G wd k)] (Y:=Int) (G8 n wd)
  (fun h=>.bQ [.I h,.I 0]) (fun h=>[.bq (fS n G (hZ wd h (some (List.replicate 19 0))) (k - 1))]):=by
 refine aa.boxed ⟨_,Tryz.func64,rfl,by decide⟩ (fun s p=>?_) rfl (fun _ _=>rfl) (fun _ _=>rfl);obtain⟨r,hr,_⟩:=p.h;obtain⟨h,h1,h2,h3,h4,h5,h6,h7⟩:=p.take hG hk;exact(Sl.Qy s n hr.ok).as fun _ _=>⟨(h,Sl.tf s),⟨⟨h2,⟨h3,h4,h5⟩,h6⟩,h7⟩,by rw[h1],rfl⟩
theorem NL (hG:G<=1000000000) {h:Int} {w:List Int} (e:wd h=some w):MU Tryz.prog 134 [.ptr 0 0,.I h] [.bq (fS n G wd k)] (.I 0) [.bq (fS n (G+1) (hZ wd h none) (k+1))]:=by
 refine aa.boxed ⟨_,Tryz.func134,rfl,by decide⟩ (fun s p=>?_) rfl (fun _ _=>rfl) (fun _ _=>rfl);obtain⟨h1,h2⟩:=p.Gq hG e;exact(Sl.Qu s h).as fun _ _=>⟨((),Sl.lO s (h.tmod 64).toNat),⟨trivial,h2⟩,by simp[h1],by simp[h1]⟩
theorem NM (hG:G<=1000000000) {h:Int} {w:List Int} (e:wd h=some w):MU Tryz.prog 111 [.ptr 0 0,.I h] [.bq (fS n G wd k)] (.bQ [.aL (.int .u64) fun _=>w,.I 0]) [.bq (fS n G wd k)]:=by
 refine aa.boxed ⟨_,Tryz.func111,rfl,by decide⟩ (fun s p=>?_) rfl (fun _ _=>rfl) (fun _ _=>rfl);obtain⟨r,hr,_⟩:=p.h;obtain⟨h1,h2⟩:=p.read hG e;exact(Sl.BY s n hr.ok h h1).as fun _ _=>⟨((),s),⟨trivial,p⟩,by rw[<-h2];rfl,rfl⟩
theorem JM (hG:G<=1000000000) {h:Int} {w:List Int} (e:wd h=some w) (v:List Int) (hv:v.length=19):MU Tryz.prog 117 [.ptr 0 0,.I h,.aL (.int .u64) fun _=>v] [.bq (fS n G wd k)] (.I 0) [.bq (fS n G (hZ wd h (some v)) k)]:=by
 refine aa.boxed ⟨_,Tryz.func117,rfl,by decide⟩ (fun s p=>?_) rfl (fun _ _=>rfl) (fun _ _=>rfl);obtain⟨r,hr,_⟩:=p.h;obtain⟨h1,h2,h3⟩:=p.write hG e hv;exact(Sl.Nb s n hr.ok h v).as fun _ _=>⟨((),Sl.kz s (h.tmod 64) v),⟨trivial,h3⟩,by simp[h1,h2,hv],by simp[h1,h2,hv]⟩
theorem AU:MU Tryz.prog 70 [.ptr 0 0] [.bq (fS n G wd k)] (.I (k:Int)) [.bq (fS n G wd k)]:=by
 refine aa.boxed ⟨_,Tryz.func70,rfl,by decide⟩ (fun s p=>?_) rfl (fun _ _=>rfl) (fun _ _=>rfl);exact(Sl.Qt s).as fun _ _=>⟨((),s),⟨trivial,p⟩,by rw[p.fr.1],rfl⟩
structure AW (wd:Gs) (l:List Int):Prop where
 nd:l.Nodup
 mem:∀ h,h∈l↔(wd h).isSome=true
theorem G9 (hG:G<=1000000000):aa Tryz.prog 66 [.ptr 0 0] [.bq (fS n G wd k)] (Y:=List Int) (AW wd)
  (fun l=>.aL (.int .i64) fun _=>l) (fun _=>[.bq (fS n G wd k)]):=by
 refine aa.boxed ⟨_,Tryz.func66,rfl,by decide⟩ (fun s p=>?_) rfl (fun _ _=>rfl) (fun _ _=>rfl);obtain⟨r,hr,_⟩:=p.h;have hc:=hr.ok.cap;obtain⟨h1,h2⟩:=p.live hG;exact(Sl.Qv s (by rw[hr.ok.len];omega)).as fun _ _=>⟨(Sl.taken s,s),⟨⟨h1,h2⟩,p⟩,rfl,rfl⟩
theorem Q2 {n:Nat} (hn:1<=n/\n<=64):MU Tryz.prog 56 [.I (n:Int),.I 19] [] (.bQ [.ptr 0 0,.I 0]) [.bq (fS n 0 (fun _=>none) n)] :=
 aa.lQ ((Sl.nc n 19 hn (by decide)).as fun _ _=>⟨((),Sl.gZ n 19),⟨trivial,wJ.new hn⟩,rfl,rfl⟩) fun _ _=>rfl
end
abbrev uN (now:Int) (D:Int->Option Int):OQ:=DO (fun t=>Ti.JF t now D) fun t=>pk (Ti.r7 t)
theorem Q3 (now:Int) (D:Int->Option Int) (id d:Int) (hi:0<=id/\id<=1048575) (hd:0<=d/\d<=1099511627776):MU Tryz.prog 119 [.ptr 0 0,.I id,.I d] [.bq (uN now D)] (.I 0) [.bq (uN now (hZ D id (some d)))]:=by
 refine aa.boxed ⟨_,Tryz.func119,rfl,by decide⟩ (fun t p=>?_) rfl (fun _ _=>rfl) (fun _ _=>rfl);exact(Ti.AK t now D p id d hi hd).as fun t' h=>⟨((),t'),⟨trivial,h⟩,rfl,rfl⟩
theorem Ha (now:Int) (D:Int->Option Int) (id:Int):MU Tryz.prog 131 [.ptr 0 0,.I id] [.bq (uN now D)] (.bool fun _=>(D id).isSome) [.bq (uN now (hZ D id none))]:=by
 refine aa.boxed ⟨_,Tryz.func131,rfl,by decide⟩ (fun t p=>?_) rfl (fun _ _=>rfl) (fun _ _=>rfl);exact(Ti.Cq t now D p id).as fun t' h=>⟨((),t'),⟨trivial,h⟩,rfl,rfl⟩
theorem Q4 (now:Int) (D:Int->Option Int) (to:Int) (h1:now<=to) (h2:to<=1099511627776):aa Tryz.prog 73 [.ptr 0 0,.I to] [.bq (uN now D)] (Y:=List Int) (fun l=>Ti.Told D to l/\l.length<=1048576)
  (fun l=>.aL (.int .i64) fun _=>l) (fun _=>[.bq (uN to (Ti.tD D to))]):=by
 refine aa.boxed ⟨_,Tryz.func73,rfl,by decide⟩ (fun t p=>?_) rfl (fun _ _=>rfl) (fun _ _=>rfl);obtain⟨P,hr,_⟩:=p.h;exact(Ti.Ut t now D p to h1 h2).as fun y h=>⟨(y.1,y.2),⟨⟨h.told,Wh.og (n:=1048576) h.told.nd fun x hx=>(by
  obtain⟨d,hd,_⟩:=(h.told.mem x).1 hx;have:=hr.AR x d hd;omega)⟩,h.ok⟩,rfl,rfl⟩
theorem Q5:MU Tryz.prog 58 [.I 0] [] (.bQ [.ptr 0 0,.I 0]) [.bq (uN 0 fun _=>none)] :=
 aa.lQ ((Ti.nc 0 ⟨by omega,by omega⟩).as fun t h=>⟨((),t),⟨trivial,h⟩,rfl,rfl⟩) fun _ _=>rfl
abbrev l8 (ids:List Int):OQ:=DO (fun w=>Rc.dT w ids) fun w=>pk (Rc.AS w)
theorem AX (ids:List Int) (id:Int):MU Tryz.prog 76 [.ptr 0 0,.I id] [.bq (l8 ids)] (.bool fun _=>decide (id∈ids)) [.bq (l8 (ids.erase id))]:=by
 refine aa.boxed ⟨_,Tryz.func76,rfl,by decide⟩ (fun w p=>?_) rfl (fun _ _=>rfl) (fun _ _=>rfl);exact(Rc.nD w ids p id).as fun w' h=>⟨((),w'),⟨trivial,h⟩,rfl,rfl⟩
theorem w8 (ids:List Int) (id:Int) (h0:0<=id):MU Tryz.prog 74 [.ptr 0 0,.I id] [.bq (l8 ids)] (.I 0) [.bq (l8 (ids.erase id++[id]))]:=by
 refine aa.boxed ⟨_,Tryz.func74,rfl,by decide⟩ (fun w p=>?_) rfl (fun _ _=>rfl) (fun _ _=>rfl);exact(Rc.NI w ids p id h0).as fun w' h=>⟨((),w'),⟨trivial,h⟩,rfl,rfl⟩
theorem yO (ids:List Int):MU Tryz.prog 75 [.ptr 0 0] [.bq (l8 ids)] (.bQ [.I (ids.getD 0 0),.bool fun _=>decide (0<ids.length)]) [.bq (l8 ids)]:=by
 refine aa.boxed ⟨_,Tryz.func75,rfl,by decide⟩ (fun w p=>?_) rfl (fun _ _=>rfl) (fun _ _=>rfl);exact(Rc.JL w ids p).as fun _ _=>⟨((),w),⟨trivial,p⟩,rfl,rfl⟩
theorem JN (ids:List Int) (id:Int) (i:Nat) (hi:ids[i]?=some id):MU Tryz.prog 125 [.ptr 0 0,.I id] [.bq (l8 ids)] (.bQ [.I (ids.getD (i+1) 0),.bool fun _=>decide (i+1<ids.length)]) [.bq (l8 ids)]:=by
 refine aa.boxed ⟨_,Tryz.func125,rfl,by decide⟩ (fun w p=>?_) rfl (fun _ _=>rfl) (fun _ _=>rfl);exact(Rc.NJ w ids p id i hi).as fun _ _=>⟨((),w),⟨trivial,p⟩,rfl,rfl⟩
theorem Cx (ids:List Int) (hn:ids.length<=1000000):MU Tryz.prog 61 [.ptr 0 0] [.bq (l8 ids)] (.aL (.int .i64) fun _=>ids) [.bq (l8 ids)]:=by
 refine aa.boxed ⟨_,Tryz.func61,rfl,by decide⟩ (fun w p=>?_) rfl (fun _ _=>rfl) (fun _ _=>rfl);exact(Rc.NK w ids p hn).as fun _ _=>⟨((),w),⟨trivial,p⟩,rfl,rfl⟩
theorem LI:MU Tryz.prog 55 [] [] (.ptr 0 0) [.bq (l8 [])] :=
 aa.lQ (Rc.nc.as fun w h=>⟨((),w),⟨trivial,h⟩,rfl,rfl⟩) fun _ _=>rfl
end Go.Proofs.YthnefnlhcijekaaGreat.Eb
namespace Go.Proofs.YthnefnlhcijekaaGreat.Ro
abbrev Sl:=Bool×List UInt8×Int×Int
def z:Sl:=(false,[],0,0)
def sg (L:List Sl) (i:Nat):Sl:=L.getD i z
def ad (n h e:Nat):Nat:=if h+e<n then h+e else h+e - n
theorem NN {n h e:Nat} (hh:h<n) (he:e<=n):(h+e) % n=ad n h e:=by
 unfold ad;split
 .exact aa2 ‹_›
 .rw[Nat.mod_eq_sub_mod (by omega),aa2 (by omega)]
theorem kX {n h e:Nat} (hh:h<n) (he:e<=n):ad n h e<n:=by unfold ad;split <;> omega
theorem NO {n h e d:Nat} (hh:h<n) (he:e<n) (hd:d<n) (h2:ad n h e=ad n h d):e=d:=by
 unfold ad at h2;split at h2 <;> split at h2 <;> omega
theorem jJ {n h e:Nat} (hh:h<n) (he:e<n):ad n (ad n h e) 1=ad n h (e+1):=by
 unfold ad;split <;> split <;> split <;> omega
theorem yP {n h:Nat} (hh:h<n) (h2:2<=n):ad n h 1≠h:=by unfold ad;split <;> omega
theorem Cy {n a b:Nat} (ha:a<n) (hb:b<n) (h:ad n a 1=ad n b 1):a=b:=by unfold ad at h;split at h <;> split at h <;> omega
theorem Hb {n h u:Nat} (hh:h<n) (hu:u<n):∃ e,e<n/\ad n h e=u:=by
 by_cases h1:h<=u
 .exact⟨u - h,by omega,by unfold ad;rw[Z0 (by omega)];omega⟩
 .exact⟨u+n - h,by omega,by unfold ad;rw[ZY (by omega)];omega⟩
theorem gN (L:List Sl) (i j:Nat) (x:Sl) (hi:i<L.length):sg (L.set i x) j=if j=i then x else sg L j:=by
 unfold sg;rw[ZZ,ZZ,abh];by_cases h:i=j
 .subst h;rw[Z0 rfl,Z0 rfl,Z0 hi];rfl
 .rw[ZY h,ZY (fun e=>h e.symm)]
def Way (L:List Sl) (n h d:Nat):Prop:=∀ e,e<d->(sg L (ad n h e)).1=true/\(e:Int)<=(sg L (ad n h e)).2.2.2
structure uO (L:List Sl) (n:Nat) (home:List UInt8->Nat):Prop where
 len:L.length=n
 n2:2<=n
 hm:∀ k,home k<n
 pos:∀ i,i<n->(sg L i).1=true->∃ d:Nat,(sg L i).2.2.2=d/\d<n/\i=ad n (home (sg L i).2.1) d/\Way L n (home (sg L i).2.1) d
 uniq:∀ i j,i<n->j<n->(sg L i).1=true->(sg L j).1=true->(sg L i).2.1=(sg L j).2.1->i=j
structure ID (L:List Sl) (n:Nat) (home:List UInt8->Nat):Prop extends uO L n home where
 cut:∃ c,c<n/\((sg L c).1=false\/(sg L c).2.2.2=0)
def qI (L:List Sl) (n:Nat) (M:List UInt8->Option Int):Prop:=∀ k v,M k=some v↔∃ i,i<n/\(sg L i).1=true/\(sg L i).2.1=k/\(sg L i).2.2.1=v
theorem w9 {L:List Sl} {n:Nat} {home:List UInt8->Nat} (h:uO L n home) {k:List UInt8} {d:Nat} (hd:d<=n) (cy:∀ e,e<d->(sg L (ad n (home k) e)).2.1≠k)
  (Hc:d=n\/(sg L (ad n (home k) d)).1=false\/(sg L (ad n (home k) d)).2.2.2<d):∀ i,i<n->(sg L i).1=true->(sg L i).2.1≠k:=by
 intro i hi hu hk;obtain⟨q,h1,h2,h3,h4⟩:=h.pos i hi hu;rw[hk]at h3 h4;by_cases hq:q<d
 .exact cy q hq (by rw[<-h3];exact hk)
 .rcases Hc with h5|h5|h5
  .omega
  .by_cases Uw:q=d
   .subst Uw;rw[<-h3,hu]at h5;cases h5
   .have:=h4 d (by omega);rw[h5]at this;exact Bool.noConfusion this.1
  .by_cases Uw:q=d
   .subst Uw;rw[<-h3,h1]at h5;omega
   .have:=h4 d (by omega);omega
theorem uO.val {L:List Sl} {n:Nat} {home:List UInt8->Nat} (h:uO L n home) {i:Nat} (hi:i<n) (v:Int) :
  uO (L.set i ((sg L i).1,(sg L i).2.1,v,(sg L i).2.2.2)) n home:=by
 have hl:=h.len;have hg:∀ j,(sg (L.set i ((sg L i).1,(sg L i).2.1,v,(sg L i).2.2.2)) j).1=(sg L j).1/\(sg (L.set i ((sg L i).1,(sg L i).2.1,v,(sg L i).2.2.2)) j).2.1=(sg L j).2.1/\(sg (L.set i ((sg L i).1,(sg L i).2.1,v,(sg L i).2.2.2)) j).2.2.2=(sg L j).2.2.2:=fun j=>by
  rw[gN _ _ _ _ (by omega)];split
  .rename_i e;subst e;exact⟨rfl,rfl,rfl⟩
  .exact⟨rfl,rfl,rfl⟩
 refine⟨by rw[aao];exact hl,h.n2,h.hm,fun j hj hu=>?_,fun a b ha hb pI rr hk=>?_⟩
 .rw[(hg j).1]at hu
  obtain⟨d,h1,h2,h3,h4⟩:=h.pos j hj hu;rw[(hg j).2.1,(hg j).2.2];exact⟨d,h1,h2,h3,fun e he=>by rw[(hg _).1,(hg _).2.2];exact h4 e he⟩
 .rw[(hg a).1]at pI
  rw[(hg b).1]at rr;rw[(hg a).2.1,(hg b).2.1]at hk;exact h.uniq a b ha hb pI rr hk
structure tF (L:List Sl) (n:Nat) (home:List UInt8->Nat) (h0 t:Nat) (x:Sl):Prop where
 ok:uO L n home
 NP:h0<n
 used:x.1=true
 at_:∃ d:Nat,x.2.2.2=d/\d<=t/\ad n h0 t=ad n (home x.2.1) d/\Way L n (home x.2.1) d
 new:∀ j,j<n->(sg L j).1=true->(sg L j).2.1≠x.2.1
 full:∀ e,e<t->(sg L (ad n h0 e)).1=true
 free:∃ u,u<n/\(sg L u).1=false
theorem tF.t {L:List Sl} {n:Nat} {home:List UInt8->Nat} {h0 t:Nat} {x:Sl} (h:tF L n home h0 t x):t<n:=by
 obtain⟨u,hu,hf⟩:=h.free;obtain⟨e,he,h1⟩:=Hb h.NP hu;by_cases ht:t<n
 .exact ht
 .have:=h.full e (by omega)
  rw[h1,hf]at this;cases this
theorem tF.place {L:List Sl} {n:Nat} {home:List UInt8->Nat} {h0 t:Nat} {x:Sl} (h:tF L n home h0 t x) (hf:(sg L (ad n h0 t)).1=false):ID (L.set (ad n h0 t) x) n home:=by
 have ht:=h.t;have hl:=h.ok.len;have hi:=kX h.NP (e:=t) (by omega);obtain⟨d,h1,h2,h3,h4⟩:=h.at_;have hg:=fun j=>gN L (ad n h0 t) j x (by omega);have Ea:∀ q m,Way L n q m->Way (L.set (ad n h0 t) x) n q m:=fun q m hw e he=>by
  have:=hw e he;rw[hg];split
  .rename_i e2;rw[e2,hf]at this;exact Bool.noConfusion this.1
  .exact this
 refine⟨⟨by rw[aao];exact hl,h.ok.n2,h.ok.hm,fun j hj hu=>?_,fun a b ha hb pI rr hk=>?_⟩,?_⟩
 .rw[hg]at hu ⊢
  by_cases jN:j=ad n h0 t
  .subst jN
   simp only[if_true]at hu ⊢;exact⟨d,h1,by omega,h3,Ea _ _ h4⟩
  .simp only[ZY jN]at hu ⊢
   obtain⟨q,k1,k2,k3,k4⟩:=h.ok.pos j hj hu;exact⟨q,k1,k2,k3,Ea _ _ k4⟩
 .rw[hg]at pI hk
  rw[hg]at rr hk;by_cases h5:a=ad n h0 t <;> by_cases h6:b=ad n h0 t
  .rw[h5,h6]
  .rw[Z0 h5,ZY h6]at hk
   rw[ZY h6]at rr;exact(h.new b hb rr hk.symm).elim
  .rw[ZY h5,Z0 h6]at hk
   rw[ZY h5]at pI;exact(h.new a ha pI hk).elim
  .rw[ZY h5,ZY h6]at hk
   rw[ZY h5]at pI;rw[ZY h6]at rr;exact h.ok.uniq a b ha hb pI rr hk
 .refine⟨ad n (ad n h0 t) 1,kX hi (by have:=h.ok.n2;omega),?_⟩
  rw[hg];have bC:ad n (ad n h0 t) 1≠ad n h0 t:=yP hi h.ok.n2;rw[ZY bC];cases hu:(sg L (ad n (ad n h0 t) 1)).1 with
  | false=>exact .inl rfl
  | true =>
   right;obtain⟨q,k1,k2,k3,k4⟩:=h.ok.pos _ (kX hi (by have:=h.ok.n2;omega)) hu;cases q with
   | zero=>rw[k1];rfl
   | succ q =>
    exfalso;have h5:=k4 q (by omega);have hq:=h.ok.hm (sg L (ad n (ad n h0 t) 1)).2.1;generalize home (sg L (ad n (ad n h0 t) 1)).2.1=H at *;have:ad n H q=ad n h0 t:=Cy (kX hq (by omega)) hi ((jJ hq (by omega)).trans k3.symm);rw[this,hf]at h5;exact Bool.noConfusion h5.1
theorem tF.step {L:List Sl} {n:Nat} {home:List UInt8->Nat} {h0 t:Nat} {x:Sl} (h:tF L n home h0 t x) (hu:(sg L (ad n h0 t)).1=true) (hd:¬(sg L (ad n h0 t)).2.2.2<x.2.2.2) :
  tF L n home h0 (t+1) (x.1,x.2.1,x.2.2.1,x.2.2.2+1):=by
 have ht:=h.t;obtain⟨d,h1,h2,h3,h4⟩:=h.at_;refine⟨h.ok,h.NP,h.used,⟨d+1,by show x.2.2.2+1=_;rw[h1];rfl,by omega,?_,fun e he=>?_⟩,h.new,fun e he=>?_,h.free⟩
 .rw[<-jJ h.NP ht,h3,jJ (h.ok.hm _) (by omega)]
 .by_cases Ux:e=d
  .subst Ux
   show(sg L (ad n (home x.2.1) e)).1=true/\_;rw[<-h3];exact⟨hu,by omega⟩
  .exact h4 e (by omega)
 .by_cases het:e=t
  .subst het;exact hu
  .exact h.full e (by omega)
theorem tF.swap {L:List Sl} {n:Nat} {home:List UInt8->Nat} {h0 t:Nat} {x:Sl} (h:tF L n home h0 t x) (hu:(sg L (ad n h0 t)).1=true) (hd:(sg L (ad n h0 t)).2.2.2<x.2.2.2) :
  tF (L.set (ad n h0 t) x) n home h0 (t+1) ((sg L (ad n h0 t)).1,(sg L (ad n h0 t)).2.1,(sg L (ad n h0 t)).2.2.1,(sg L (ad n h0 t)).2.2.2+1):=by
 have ht:=h.t;have hl:=h.ok.len;have hi:=kX h.NP (e:=t) (by omega);obtain⟨d,h1,h2,h3,h4⟩:=h.at_;have hg:=fun j=>gN L (ad n h0 t) j x (by omega);obtain⟨q,k1,k2,k3,k4⟩:=h.ok.pos _ hi hu;have Ea:∀ H m,Way L n H m->Way (L.set (ad n h0 t) x) n H m:=fun H m hw e he=>by
  have:=hw e he;rw[hg];split
  .rename_i e2
   refine⟨h.used,?_⟩;have h5:=this.2;rw[e2]at h5;omega
  .exact this
 refine⟨⟨by rw[aao];exact hl,h.ok.n2,h.ok.hm,fun j hj uP=>?_,fun a b ha hb pI rr hk=>?_⟩,h.NP,hu,⟨q+1,by show(sg L (ad n h0 t)).2.2.2+1=_;rw[k1];rfl,by omega,?_,fun e he=>?_⟩,fun j hj uP=>?_,fun e he=>?_,?_⟩
 .rw[hg]at uP ⊢
  by_cases jN:j=ad n h0 t
  .subst jN
   simp only[if_true]at uP ⊢;exact⟨d,h1,by omega,h3,Ea _ _ h4⟩
  .simp only[ZY jN]at uP ⊢
   obtain⟨p,p1,p2,p3,p4⟩:=h.ok.pos j hj uP;exact⟨p,p1,p2,p3,Ea _ _ p4⟩
 .rw[hg]at pI hk
  rw[hg]at rr hk;by_cases h5:a=ad n h0 t <;> by_cases h6:b=ad n h0 t
  .rw[h5,h6]
  .rw[Z0 h5,ZY h6]at hk
   rw[ZY h6]at rr;exact(h.new b hb rr hk.symm).elim
  .rw[ZY h5,Z0 h6]at hk
   rw[ZY h5]at pI;exact(h.new a ha pI hk).elim
  .rw[ZY h5,ZY h6]at hk
   rw[ZY h5]at pI;rw[ZY h6]at rr;exact h.ok.uniq a b ha hb pI rr hk
 .rw[<-jJ h.NP ht]
  show _=ad n (home (sg L (ad n h0 t)).2.1) (q+1);rw[<-jJ (h.ok.hm _) k2,<-k3]
 .show(sg (L.set (ad n h0 t) x) (ad n (home (sg L (ad n h0 t)).2.1) e)).1=true/\_
  by_cases heq:e=q
  .subst heq
   rw[<-k3,hg,Z0 rfl];exact⟨h.used,by omega⟩
  .exact Ea _ _ k4 e (by omega)
 .rw[hg]at uP ⊢
  by_cases jN:j=ad n h0 t
  .subst jN
   simp only[if_true];exact fun e=>h.new _ hi hu e.symm
  .simp only[ZY jN]at uP ⊢
   exact fun e=>jN (h.ok.uniq j _ hj hi uP hu e)
 .rw[hg]
  split
  .exact h.used
  .by_cases het:e=t
   .subst het;exact hu
   .exact h.full e (by omega)
 .obtain⟨u,Td,Df⟩:=h.free
  refine⟨u,Td,?_⟩;rw[hg,ZY (fun e=>by rw[e,hu]at Df;cases Df)];exact Df
end Go.Proofs.YthnefnlhcijekaaGreat.Ro
namespace Go.Proofs.YthnefnlhcijekaaGreat.Ro
def bF (L:List Sl):Nat:=L.countP (·.1)
theorem ji (L:List Sl) (i:Nat) (x:Sl) (hi:i<L.length):bF (L.set i x)+(if(sg L i).1 then 1 else 0)=bF L+(if x.1 then 1 else 0):=by
 unfold bF sg;have hg:L.getD i z=L[i]:=by rw[ZZ,Z1 hi];rfl
 rw[hg,List.countP_set hi];have:(if(L[i]).1=true then 1 else 0)<=L.countP (·.1):=by
  split
  .exact List.countP_pos_iff.2 ⟨L[i],aax hi,‹_›⟩
  .omega
 omega
def AY (L:List Sl) (n:Nat) (x:Sl) (M:List UInt8->Option Int):Prop:=∀ k v,M k=some v↔(∃ i,i<n/\(sg L i).1=true/\(sg L i).2.1=k/\(sg L i).2.2.1=v)\/(x.2.1=k/\x.2.2.1=v)
def bO (M:List UInt8->Option Int) (k:List UInt8) (v:Option Int):List UInt8->Option Int:=fun j=>if j=k then v else M j
theorem Q6 {L:List Sl} {n:Nat} {M:List UInt8->Option Int} (h:qI L n M) (k:List UInt8) (v d:Int) (cy:M k=none):AY L n (true,k,v,d) (bO M k (some v)):=by
 intro j u;unfold bO;by_cases hj:j=k
 .subst hj
  rw[Z0 rfl];constructor
  .intro e;cases e;exact .inr ⟨rfl,rfl⟩
  .rintro(h1|⟨_,h1⟩)
   .rw[<-h,cy]at h1;cases h1
   .exact congrArg some h1
 .rw[ZY hj,h]
  constructor
  .exact .inl
  .rintro(h1|⟨h1,_⟩)
   .exact h1
   .exact(hj h1.symm).elim
theorem AY.swap {L:List Sl} {n i:Nat} {x:Sl} {M:List UInt8->Option Int} (h:AY L n x M) (hl:L.length=n) (hi:i<n) (hu:(sg L i).1=true) (hx:x.1=true) :
  AY (L.set i x) n ((sg L i).1,(sg L i).2.1,(sg L i).2.2.1,(sg L i).2.2.2+1) M:=by
 intro k v;rw[h];have hg:=fun j=>gN L i j x (by omega);constructor
 .rintro(⟨j,h1,h2,h3,h4⟩|⟨h1,h2⟩)
  .by_cases hj:j=i
   .subst hj;exact .inr ⟨h3,h4⟩
   .exact .inl ⟨j,h1,by rw[hg,ZY hj];exact h2,by rw[hg,ZY hj];exact h3,by rw[hg,ZY hj];exact h4⟩
  .exact .inl ⟨i,hi,by rw[hg,Z0 rfl];exact hx,by rw[hg,Z0 rfl];exact h1,by rw[hg,Z0 rfl];exact h2⟩
 .rintro(⟨j,h1,h2,h3,h4⟩|⟨h1,h2⟩)
  .rw[hg]at h2 h3 h4
   by_cases hj:j=i
   .rw[Z0 hj]at h3 h4;exact .inr ⟨h3,h4⟩
   .rw[ZY hj]at h2 h3 h4;exact .inl ⟨j,h1,h2,h3,h4⟩
  .exact .inl ⟨i,hi,hu,h1,h2⟩
theorem AY.place {L:List Sl} {n i:Nat} {x:Sl} {M:List UInt8->Option Int} (h:AY L n x M) (hl:L.length=n) (hi:i<n) (hf:(sg L i).1=false) (hx:x.1=true):qI (L.set i x) n M:=by
 intro k v;rw[h];have hg:=fun j=>gN L i j x (by omega);constructor
 .rintro(⟨j,h1,h2,h3,h4⟩|⟨h1,h2⟩)
  .have hj:j≠i:=fun e=>by subst e;rw[hf]at h2;cases h2
   exact⟨j,h1,by rw[hg,ZY hj];exact h2,by rw[hg,ZY hj];exact h3,by rw[hg,ZY hj];exact h4⟩
  .exact⟨i,hi,by rw[hg,Z0 rfl];exact hx,by rw[hg,Z0 rfl];exact h1,by rw[hg,Z0 rfl];exact h2⟩
 .rintro⟨j,h1,h2,h3,h4⟩
  rw[hg]at h2 h3 h4;by_cases hj:j=i
  .rw[Z0 hj]at h3 h4;exact .inr ⟨h3,h4⟩
  .rw[ZY hj]at h2 h3 h4;exact .inl ⟨j,h1,h2,h3,h4⟩
theorem qI.val {L:List Sl} {n i:Nat} {home:List UInt8->Nat} {M:List UInt8->Option Int} (h:qI L n M) (ho:uO L n home) (hi:i<n) (hu:(sg L i).1=true) (v:Int) :
  qI (L.set i ((sg L i).1,(sg L i).2.1,v,(sg L i).2.2.2)) n (bO M (sg L i).2.1 (some v)):=by
 intro k u;have hg:=fun j=>gN L i j ((sg L i).1,(sg L i).2.1,v,(sg L i).2.2.2) (by have:=ho.len;omega);unfold bO;by_cases hk:k=(sg L i).2.1
 .subst hk
  rw[Z0 rfl];constructor
  .intro e;cases e
   exact⟨i,hi,by rw[hg,Z0 rfl];exact hu,by rw[hg,Z0 rfl],by rw[hg,Z0 rfl]⟩
  .rintro⟨j,h1,h2,h3,h4⟩
   rw[hg]at h2 h3 h4;by_cases hj:j=i
   .rw[Z0 hj]at h4;exact congrArg some h4
   .rw[ZY hj]at h2 h3;exact(hj (ho.uniq j i h1 hi h2 hu h3)).elim
 .rw[ZY hk,h]
  constructor
  .rintro⟨j,h1,h2,h3,h4⟩
   have hj:j≠i:=fun e=>by subst e;exact hk h3.symm
   exact⟨j,h1,by rw[hg,ZY hj];exact h2,by rw[hg,ZY hj];exact h3,by rw[hg,ZY hj];exact h4⟩
  .rintro⟨j,h1,h2,h3,h4⟩
   rw[hg]at h2 h3 h4;by_cases hj:j=i
   .rw[Z0 hj]at h3;exact(hk h3.symm).elim
   .rw[ZY hj]at h2 h3 h4;exact⟨j,h1,h2,h3,h4⟩
structure xa (L:List Sl) (n:Nat) (home:List UInt8->Nat) (i m:Nat):Prop where
 len:L.length=n
 n2:2<=n
 hm:∀ k,home k<n
 hi:i<n
 used:(sg L i).1=true
 pos:∀ j,j<n->j≠i->(sg L j).1=true->∃ d:Nat,(sg L j).2.2.2=d/\d<n/\j=ad n (home (sg L j).2.1) d /\
  ∀ e,e<d->ad n (home (sg L j).2.1) e=i\/((sg L (ad n (home (sg L j).2.1) e)).1=true/\(e:Int)<=(sg L (ad n (home (sg L j).2.1) e)).2.2.2)
 uniq:∀ a b,a<n->b<n->a≠i->b≠i->(sg L a).1=true->(sg L b).1=true->(sg L a).2.1=(sg L b).2.1->a=b
 stop:(m=n/\(sg L i).2.2.2=0/\uO L n home)\/(m+1<n/\((sg L (ad n i (m+1))).1=false\/(sg L (ad n i (m+1))).2.2.2=0))
def AZ (L:List Sl) (n i:Nat) (M:List UInt8->Option Int):Prop:=∀ k v,M k=some v↔∃ j,j<n/\j≠i/\(sg L j).1=true/\(sg L j).2.1=k/\(sg L j).2.2.1=v
theorem ID.del {L:List Sl} {n:Nat} {home:List UInt8->Nat} (h:ID L n home) {i:Nat} (hi:i<n) (hu:(sg L i).1=true):∃ m,m<=n/\xa L n home i m:=by
 have base:∀ m,((m=n/\(sg L i).2.2.2=0/\uO L n home)\/(m+1<n/\((sg L (ad n i (m+1))).1=false\/(sg L (ad n i (m+1))).2.2.2=0)))->xa L n home i m:=fun m hm =>
  ⟨h.len,h.n2,h.hm,hi,hu,fun j hj _ uP=>by
   obtain⟨d,h1,h2,h3,h4⟩:=h.pos j hj uP;exact⟨d,h1,h2,h3,fun e he=>.inr (h4 e he)⟩,fun a b ha hb _ _=>h.uniq a b ha hb,hm⟩
 obtain⟨c,hc,II⟩:=h.cut;by_cases YB:c=i
 .subst YB
  refine⟨n,Z8 _,base n (.inl ⟨rfl,?_,h.touO⟩)⟩;rcases II with h1|h1
  .rw[hu]at h1;cases h1
  .exact h1
 .obtain⟨e,he,h1⟩:=Hb hi hc
  have VF:e≠0:=fun e0=>by subst e0;unfold ad at h1;split at h1 <;> omega
  refine⟨e - 1,by omega,base _ (.inr ⟨by omega,?_⟩)⟩;rw[show e - 1+1=e by omega,h1];exact II
theorem qI.del {L:List Sl} {n:Nat} {home:List UInt8->Nat} {M:List UInt8->Option Int} (h:qI L n M) (ho:uO L n home) {i:Nat} (hi:i<n) (hu:(sg L i).1=true):AZ L n i (bO M (sg L i).2.1 none):=by
 intro k v;unfold bO;by_cases hk:k=(sg L i).2.1
 .subst hk
  rw[Z0 rfl];refine⟨fun e=>(by cases e),?_⟩;rintro⟨j,h1,h2,h3,h4,_⟩;exact(h2 (ho.uniq j i h1 hi h3 hu h4)).elim
 .rw[ZY hk,h]
  constructor
  .rintro⟨j,h1,h2,h3,h4⟩
   exact⟨j,h1,fun e=>by subst e;exact hk h3.symm,h2,h3,h4⟩
  .rintro⟨j,h1,_,h3⟩
   exact⟨j,h1,h3⟩
def pull (L:List Sl) (n i:Nat):Sl:=((sg L (ad n i 1)).1,(sg L (ad n i 1)).2.1,(sg L (ad n i 1)).2.2.1,(sg L (ad n i 1)).2.2.2 - 1)
theorem xa.step {L:List Sl} {n:Nat} {home:List UInt8->Nat} {i m:Nat} (h:xa L n home i m) (hu:(sg L (ad n i 1)).1=true) (hd:(sg L (ad n i 1)).2.2.2≠0):∃ m',m'<m/\xa (L.set i (pull L n i)) n home (ad n i 1) m':=by
 have EU:=kX h.hi (e:=1) (by have:=h.n2;omega);have bC:=yP h.hi h.n2;have hl:=h.len;have hi:=h.hi;have n2:=h.n2;obtain⟨d,k1,k2,k3,k4⟩:=h.pos _ EU bC hu;have Ws:d≠0:=fun e=>by subst e;rw[k1]at hd;exact hd rfl
 have hg:=fun j=>gN L i j (pull L n i) (by omega);have hH:=h.hm (sg L (ad n i 1)).2.1;have xY:ad n (home (sg L (ad n i 1)).2.1) (d - 1)=i:=by
  refine Cy (kX hH (by omega)) hi ?_;rw[jJ hH (by omega),show d - 1+1=d by omega];exact k3.symm
 have Uy:(pull L n i).2.2.2=((d - 1:Nat):Int):=by
  show(sg L (ad n i 1)).2.2.2 - 1=_;rw[k1];omega
 have key:∀ m',(m'+1<n/\((sg (L.set i (pull L n i)) (ad n (ad n i 1) (m'+1))).1=false\/(sg (L.set i (pull L n i)) (ad n (ad n i 1) (m'+1))).2.2.2=0))->xa (L.set i (pull L n i)) n home (ad n i 1) m':=by
  intro m' zN;refine⟨by rw[aao];exact hl,n2,h.hm,EU,by rw[hg,ZY bC];exact hu,fun j hj jN uP=>?_,fun a b ha hb Uz Az pI rr hk=>?_,.inr zN⟩
  .rw[hg]at uP ⊢
   by_cases lq:j=i
   .subst lq
    simp only[if_true];refine⟨d - 1,Uy,by omega,xY.symm,fun e he=>?_⟩;have Q7:ad n (home (pull L n j).2.1) e≠j:=fun e2=>by
     have:=NO hH (by omega) (by omega) (e2.trans xY.symm);omega
    rcases k4 e (by omega)with h5|h5
    .exact(Q7 h5).elim
    .right
     show(sg (L.set j (pull L n j)) (ad n (home (pull L n j).2.1) e)).1=true/\(e:Int)<=(sg (L.set j (pull L n j)) (ad n (home (pull L n j).2.1) e)).2.2.2;rw[hg,ZY Q7];exact h5
   .simp only[ZY lq]at uP ⊢
    obtain⟨q,p1,p2,p3,p4⟩:=h.pos j hj lq uP;have hQ:=h.hm (sg L j).2.1;refine⟨q,p1,p2,p3,fun e he=>?_⟩;by_cases LJ:ad n (home (sg L j).2.1) e=i
    .right
     rw[hg,Z0 LJ];refine⟨hu,?_⟩;rw[Uy];have jX:ad n (home (sg L j).2.1) (e+1)=ad n i 1:=by rw[<-jJ hQ (by omega),LJ]
     by_cases heq:e+1=q
     .rw[heq,<-p3]at jX;exact(jN jX).elim
     .rcases p4 (e+1) (by omega)with h5|h5
      .rw[jX]at h5;exact(bC h5).elim
      .rw[jX,k1]at h5
       have:=h5.2;omega
    .rcases p4 e he with h5|h5
     .exact(LJ h5).elim
     .right;rw[hg,ZY LJ];exact h5
  .rw[hg]at pI hk
   rw[hg]at rr hk;by_cases h5:a=i <;> by_cases h6:b=i
   .rw[h5,h6]
   .rw[Z0 h5,ZY h6]at hk
    rw[ZY h6]at rr;exact(Az (h.uniq _ b EU hb bC h6 hu rr hk).symm).elim
   .rw[ZY h5,Z0 h6]at hk
    rw[ZY h5]at pI;exact(Uz (h.uniq a _ ha EU h5 bC pI hu hk)).elim
   .rw[ZY h5,ZY h6]at hk
    rw[ZY h5]at pI;rw[ZY h6]at rr;exact h.uniq a b ha hb h5 h6 pI rr hk
 rcases h.stop with⟨h1,h2,h3⟩|⟨h1,h2⟩
 .subst h1
  refine⟨m - 2,by omega,key _ ⟨by omega,.inr ?_⟩⟩;have Aw:ad m (ad m i 1) (m - 2+1)=i:=by unfold ad;split <;> split <;> omega
  rw[Aw,hg,Z0 rfl,Uy];obtain⟨d2,q1,q2,q3,q4⟩:=h3.pos _ EU hu;have:d2=d:=by omega
  subst this;have h5:=q4 (d2 - 1) (by omega);rw[xY,h2]at h5;omega
 .by_cases u6:m=0
  .subst u6
   rcases h2 with h2|h2
   .rw[hu]at h2;cases h2
   .exact(hd h2).elim
  .refine⟨m - 1,by omega,key _ ⟨by omega,?_⟩⟩
   have ve:ad n (ad n i 1) (m - 1+1)=ad n i (m+1):=by unfold ad;split <;> split <;> (try split) <;> omega
   rw[ve,hg,ZY (by unfold ad;split <;> omega)];exact h2
theorem AZ.step {L:List Sl} {n i:Nat} {M:List UInt8->Option Int} (h:AZ L n i M) (hl:L.length=n) (n2:2<=n) (hi:i<n) (hu:(sg L (ad n i 1)).1=true):AZ (L.set i (pull L n i)) n (ad n i 1) M:=by
 have EU:=kX hi (e:=1) (by omega);have bC:=yP hi n2;have hg:=fun j=>gN L i j (pull L n i) (by omega);intro k v;rw[h];constructor
 .rintro⟨j,h1,h2,h3,h4,h5⟩
  by_cases hj:j=ad n i 1
  .subst hj
   exact⟨i,hi,bC.symm,by rw[hg,Z0 rfl];exact hu,by rw[hg,Z0 rfl];exact h4,by rw[hg,Z0 rfl];exact h5⟩
  .exact⟨j,h1,hj,by rw[hg,ZY h2];exact h3,by rw[hg,ZY h2];exact h4,by rw[hg,ZY h2];exact h5⟩
 .rintro⟨j,h1,h2,h3,h4,h5⟩
  rw[hg]at h3 h4 h5;by_cases hj:j=i
  .rw[Z0 hj]at h4 h5
   exact⟨ad n i 1,EU,bC,hu,h4,h5⟩
  .rw[ZY hj]at h3 h4 h5
   exact⟨j,h1,hj,h3,h4,h5⟩
theorem xa.end_ {L:List Sl} {n:Nat} {home:List UInt8->Nat} {i m:Nat} (h:xa L n home i m) (he:(sg L (ad n i 1)).1=false\/(sg L (ad n i 1)).2.2.2=0):ID (L.set i z) n home:=by
 have EU:=kX h.hi (e:=1) (by have:=h.n2;omega);have bC:=yP h.hi h.n2;have hl:=h.len;have hi:=h.hi;have n2:=h.n2;have hg:=fun j=>gN L i j z (by omega);have hz:(z:Sl).1=false:=rfl;refine⟨⟨by rw[aao];exact hl,n2,h.hm,fun j hj uP=>?_,fun a b ha hb pI rr hk=>?_⟩,i,hi,.inl (by rw[hg,Z0 rfl];rfl)⟩
 .rw[hg]at uP ⊢
  by_cases jN:j=i
  .rw[Z0 jN]at uP;cases uP
  simp only[ZY jN]at uP ⊢;obtain⟨q,p1,p2,p3,p4⟩:=h.pos j hj jN uP;have hQ:=h.hm (sg L j).2.1;refine⟨q,p1,p2,p3,fun e bf=>?_⟩;by_cases LJ:ad n (home (sg L j).2.1) e=i
  .exfalso
   have jX:ad n (home (sg L j).2.1) (e+1)=ad n i 1:=by rw[<-jJ hQ (by omega),LJ]
   by_cases heq:e+1=q
   .rw[heq,<-p3]at jX
    rcases he with h5|h5
    .rw[<-jX,uP]at h5;cases h5
    .rw[<-jX,p1]at h5;omega
   .rcases p4 (e+1) (by omega)with h5|h5
    .rw[jX]at h5;exact bC h5
    .rw[jX]at h5
     rcases he with h6|h6
     .rw[h6]at h5;exact Bool.noConfusion h5.1
     .rw[h6]at h5;have:=h5.2;omega
  .rcases p4 e bf with h5|h5
   .exact(LJ h5).elim
   .rw[hg,ZY LJ];exact h5
 .rw[hg]at pI hk
  rw[hg]at rr hk;by_cases h5:a=i
  .rw[Z0 h5]at pI;cases pI
  by_cases h6:b=i
  .rw[Z0 h6]at rr;cases rr
  rw[ZY h5,ZY h6]at hk;rw[ZY h5]at pI;rw[ZY h6]at rr;exact h.uniq a b ha hb h5 h6 pI rr hk
theorem AZ.end_ {L:List Sl} {n i:Nat} {M:List UInt8->Option Int} (h:AZ L n i M) (hl:L.length=n) (hi:i<n):qI (L.set i z) n M:=by
 have hg:=fun j=>gN L i j z (by omega);intro k v;rw[h];constructor
 .rintro⟨j,h1,h2,h3⟩
  exact⟨j,h1,by rw[hg,ZY h2];exact h3⟩
 .rintro⟨j,h1,h3,h4⟩
  rw[hg]at h3 h4;by_cases hj:j=i
  .rw[Z0 hj]at h3;cases h3
  .rw[ZY hj]at h3 h4;exact⟨j,h1,hj,h3,h4⟩
theorem UA (n:Nat) (home:List UInt8->Nat) (n2:2<=n) (hm:∀ k,home k<n):ID (List.replicate n z) n home/\qI (List.replicate n z) n (fun _=>none)/\bF (List.replicate n z)=0:=by
 have hg:∀ j,sg (List.replicate n z) j=z:=fun j=>by unfold sg;rw[ZZ,aaC];split <;> rfl
 refine⟨⟨⟨aaz,n2,hm,fun j _ hu=>?_,fun a b _ _ pI=>?_⟩,0,by omega,.inl (by rw[hg];rfl)⟩,fun k v=>⟨fun e=>(by cases e),fun⟨j,_,hu,_⟩=>?_⟩,?_⟩
 .rw[hg]at hu;cases hu
 .rw[hg]at pI;cases pI
 .rw[hg]at hu;cases hu
 .unfold bF;rw[List.countP_eq_zero];intro a ha;rw[abP ha];simp[z]
end Go.Proofs.YthnefnlhcijekaaGreat.Ro
namespace Go.Proofs.YthnefnlhcijekaaGreat.Ro
abbrev c5:=List UInt8->Option Int
structure Rb where
 ao:Int
 bits:Int
 L:List Sl
 used:Int
structure oo (home:Nat->List UInt8->Nat) (r:Rb) (b:Nat) (M:c5) (c:Nat):Prop where
 bits:r.bits=b
 b1:1<=b/\b<=8
 ok:ID r.L (2 ^ b) (home b)
 map:qI r.L (2 ^ b) M
 used:r.used=c
 bF:bF r.L=c
theorem mM {L:List Sl} {n:Nat} {M:c5} (h:qI L n M) {k:List UInt8} (cy:∀ i,i<n->(sg L i).1=true->(sg L i).2.1≠k):M k=none:=by
 cases hm:M k with
 | none=>rfl
 | some v=>obtain⟨i,h1,h2,h3,_⟩:=(h k v).1 hm;exact(cy i h1 h2 h3).elim
theorem mN {L:List Sl} {n:Nat} {M:c5} (h:qI L n M) {i:Nat} (hi:i<n) (hu:(sg L i).1=true):M (sg L i).2.1=some (sg L i).2.2.1:=(h _ _).2 ⟨i,hi,hu,rfl,rfl⟩
theorem Hd {L:List Sl} (h:bF L<L.length):∃ u,u<L.length/\(sg L u).1=false:=by
 unfold bF at h;induction L with
 | nil=>simp at h
 | cons x r ih =>
  cases hx:x.1 with
  | false=>exact⟨0,by simp,by unfold sg;simpa using hx⟩
  | true =>
   rw[List.countP_cons_of_pos (by simpa using hx)]at h;obtain⟨u,h1,h2⟩:=ih (by simp only[Z9]at h;omega);exact⟨u+1,by simp only[Z9];omega,by unfold sg at h2 ⊢;simpa using h2⟩
theorem He {L:List Sl} (h:0<bF L):∃ u,u<L.length/\(sg L u).1=true:=by
 unfold bF at h;obtain⟨x,h1,h2⟩:=List.countP_pos_iff.1 h;obtain⟨i,hi,rfl⟩:=List.mem_iff_getElem.1 h1;exact⟨i,hi,by unfold sg;rw[ZZ,Z1 hi];exact h2⟩
theorem A1 (L:List Sl):bF L<=L.length:=List.countP_le_length
theorem Hf {L:List Sl} {n:Nat} {M:c5} (hl:L.length=n) (h:qI L n M) (h0:bF L=0):M=fun _=>none:=by
 funext k;refine mM h fun i hi hu=>?_;unfold bF at h0;rw[List.countP_eq_zero]at h0;have:sg L i∈L:=by unfold sg;rw[ZZ,Z1 (by omega)];exact aax _
 exact(h0 _ this hu).elim
def comb (A B:c5):c5:=fun k=>(A k).or (B k)
theorem yQ {M:c5} {k:List UInt8} (h:M k=none):bO M k none=M:=by
 funext j;unfold bO;split
 .rename_i e;rw[e,h]
 .rfl
def pJ (A B:c5):Prop:=∀ k,A k≠none->B k=none
theorem l9 {A B:c5} (k:List UInt8) (v:Int):comb (bO A k (some v)) (bO B k none)=bO (comb A B) k (some v):=by
 funext j;unfold comb bO;by_cases h:j=k
 .simp[h]
 .simp[h]
theorem qJ {A B:c5} (h:pJ A B) (k:List UInt8) (v:Int):pJ (bO A k (some v)) (bO B k none):=by
 intro j hj;unfold bO at hj ⊢;by_cases e:j=k
 .rw[Z0 e]
 .rw[ZY e]at hj ⊢;exact h j hj
theorem vx {A B:c5} (h:pJ A B) {k:List UInt8} {v:Int} (hk:B k=some v):comb (bO A k (some v)) (bO B k none)=comb A B/\A k=none:=by
 have ha:A k=none:=by
  cases e:A k with
  | none=>rfl
  | some u=>have:=h k (by rw[e];simp);rw[hk]at this;cases this
 refine⟨?_,ha⟩;rw[l9];funext j;unfold comb bO;by_cases e:j=k
 .subst e;rw[Z0 rfl,ha,hk];rfl
 .rw[ZY e]
theorem Ec {A B:c5} (h:pJ A B) {k:List UInt8} (hk:A k≠none):comb (bO A k none) B=bO (comb A B) k none:=by
 have hb:=h k hk;funext j;unfold comb bO;by_cases e:j=k
 .subst e;rw[Z0 rfl,Z0 rfl,hb];rfl
 .rw[ZY e,ZY e]
theorem Ed {A B:c5} {k:List UInt8} (hk:A k=none):comb A (bO B k none)=bO (comb A B) k none:=by
 funext j;unfold comb bO;by_cases e:j=k
 .subst e;rw[Z0 rfl,Z0 rfl,hk];rfl
 .rw[ZY e,ZY e]
theorem A2 {A B:c5} (h:pJ A B) (k:List UInt8):pJ (bO A k none) B:=by
 intro j hj;refine h j fun e=>hj ?_;unfold bO;split
 .rfl
 .exact e
theorem A3 {A B:c5} (h:pJ A B) (k:List UInt8):pJ A (bO B k none):=by
 intro j hj;have:=h j hj;unfold bO;split
 .rfl
 .exact this
structure Gm where
 ao:Int
 bits:Int
 nw:Rb
 el:Option Rb
def UB (home:Nat->List UInt8->Nat) (el:Option Rb) (M:c5) (c:Nat):Prop:=match el with
 | none=>M=(fun _=>none)/\c=0
 | some e=>∃ b,oo home e b M c
structure zQ (home:Nat->List UInt8->Nat) (g:Gm) (sd:Int) (b:Nat) (A B:c5) (ca cb:Nat):Prop where
 ao:g.ao=sd
 bits:g.bits=b
 sn:g.nw.ao=sd
 se:∀ e,g.el=some e->e.ao=sd
 nw:oo home g.nw b A ca
 el:UB home g.el B cb
 apart:pJ A B
structure fI (b ca cb:Nat) (k:Nat):Prop where
 b3:3<=b/\b<=7
 mv:0<cb->4*(ca+cb)+2*cb<=3*2 ^ b+k
 no:cb=0->4*(ca+cb)<=3*2 ^ b
structure tG (home:Nat->List UInt8->Nat) (g:Gm) (sd:Int) (M:c5) (n:Nat):Prop where
 h:∃ b A B ca cb,zQ home g sd b A B ca cb/\M=comb A B/\n=ca+cb/\fI b ca cb 0
theorem NQ (b:Nat) (h:3<=b):∃ q,2 ^ b=4*q/\2<=q:=by
 obtain⟨d,rfl⟩:∃ d,b=d+3:=⟨b - 3,by omega⟩
 refine⟨2 ^ d*2,?_,by have:=aaW (n:=d);omega⟩;rw[aco];omega
theorem fI.move {b ca cb k:Nat} (h:fI b ca (cb+1) k) (hk:k<=4):fI b (ca+1) cb (k - 2):=by
 obtain⟨q,hq,_⟩:=NQ b h.b3.1;have:=h.mv (by omega);exact⟨h.b3,fun _=>by omega,fun _=>by omega⟩
theorem fI.lt {b ca cb k:Nat} (h:fI b ca cb k) (hk:k<=4):ca<2 ^ b:=by
 obtain⟨q,hq,_⟩:=NQ b h.b3.1;by_cases h0:cb=0
 .have:=h.no h0;omega
 .have:=h.mv (by omega);omega
theorem fI.begin {b ca:Nat} (h:fI b ca 0 0) (hn:ca<64) (hg:3*2 ^ b<4*(ca+1)):fI (b+1) 0 ca 0:=by
 obtain⟨q,hq,_⟩:=NQ b h.b3.1;have h1:=h.no rfl;have hb:b<=6:=by
  by_cases hb:b<=6
  .exact hb
  .have:b=7:=by have:=h.b3;omega
   subst this;simp at hg;omega
 have hp:2 ^ (b+1)=2*2 ^ b:=by rw[acu];omega
 exact⟨by have:=h.b3;omega,fun _=>by omega,fun _=>by omega⟩
theorem fI.more {b ca cb:Nat} (h:fI b ca cb 0) (hg:cb=0->4*(ca+1)<=3*2 ^ b):fI b (ca+1) cb 4 :=
 ⟨h.b3,fun h1=>by have:=h.mv h1;omega,fun h1=>by have:=hg h1;omega⟩
theorem fI.done {b ca cb k:Nat} (h:fI b ca cb k) (hk:k=0\/cb=0):fI b ca cb 0 :=
 ⟨h.b3,fun h1=>by have:=h.mv h1;omega,h.no⟩
theorem fI.Q8 {b ca cb:Nat} (h:fI b (ca+1) cb 0):fI b ca cb 0:=⟨h.b3,fun h1=>by have:=h.mv h1;omega,fun h1=>by have:=h.no h1;omega⟩
theorem fI.Q9 {b ca cb:Nat} (h:fI b ca (cb+1) 0):fI b ca cb 0:=⟨h.b3,fun h1=>by have:=h.mv (by omega);omega,fun h1=>by have:=h.mv (by omega);omega⟩
end Go.Proofs.YthnefnlhcijekaaGreat.Ro
namespace Go.Proofs.YthnefnlhcijekaaGreat.Ro
open Go Go.RowKit Fw
theorem hm:Tryz.prog.follows .mixedOrders=true:=by kernel_rfl
theorem wr {x:Int} (h:-9223372036854775808<=x/\x<=9223372036854775807):IntKind.i64.wrap x=x:=by rw[IntKind.wrap_i64];omega
def Hg:AV:=.agg [.int .u64 fun _=>32,.int .u64 fun _=>11400714819323198485,.int .u64 fun _=>29,.int .u64 fun _=>13787848793156543929,.int .u64 fun _=>32,.int .u64 fun _=>1]
theorem NR:MU Tryz.prog 286 [] [] Hg []:=by
 (refine aa.q Tryz.func286 rfl fun S aw=>Wa _ ?_;(repeat' first|exact tv|apply pr|intro hh));exact ae.z () []
def nG (uZ m n:Int):Int:=IntKind.u64.wrap (IntKind.u64.wrap (BitVec.ofInt IntKind.u64.bits n ^^^ BitVec.ofInt IntKind.u64.bits (n.fdiv (2 ^ (min uZ.toNat IntKind.u64.bits)))).toNat*m)
def Ra (n:Int):Nat->Int
 | 0=>n
 | 1=>nG 32 11400714819323198485 n
 | 2=>nG 29 13787848793156543929 (nG 32 11400714819323198485 n)
 | _=>nG 32 1 (nG 29 13787848793156543929 (nG 32 11400714819323198485 n))
def tH (n:Int):Int:=Ra n 3
theorem NS (n:Int):MU Tryz.prog 276 [.int .u64 fun _=>n] [] (.int .u64 fun _=>tH n) []:=by
 (refine aa.q Tryz.func276 rfl fun S aw=>Wa _ ?_;(repeat' first|exact tv|apply pr|intro hh));(refine ab.q (NR) [] fun _ _=>Wp _ ?_;(repeat' first|exact tv|apply pr|intro hh));refine aM.intro hm (X:=Nat) (fun i=>i<=3) (fun i=>3 - i)
  (fun i=>[(6,.I (i:Int)),(5,Hg),(0,.int .u64 fun _=>Ra n i)])
  (fun i=>[]) 0 [] ⟨rfl,rfl,?_,?_⟩ (aae _) ?_
 .exact Vc
 .exact Vc
 intro i hi;obtain rfl|rfl|rfl|rfl:i=0\/i=1\/i=2\/i=3:=by omega
 .refine Wa _ ?_;repeat' first|exact tv|apply pr|intro hh
  .exact⟨by simp only[];omega⟩
  .exact⟨by decide⟩
  .refine⟨1,[],⟨rfl,rfl,?_,?_⟩,by omega,by omega⟩
   .exact Vc
   .exact Vc
 .refine Wa _ ?_;repeat' first|exact tv|apply pr|intro hh
  .exact⟨by simp only[];omega⟩
  .exact⟨by decide⟩
  .refine⟨2,[],⟨rfl,rfl,?_,?_⟩,by omega,by omega⟩
   .exact Vc
   .exact Vc
 .refine Wa _ ?_;repeat' first|exact tv|apply pr|intro hh
  .exact⟨by simp only[];omega⟩
  .exact⟨by decide⟩
  .refine⟨3,[],⟨rfl,rfl,?_,?_⟩,by omega,by omega⟩
   .exact Vc
   .exact Vc
 .refine Wa _ ?_;repeat' first|exact tv|apply pr|intro hh
  exact ae.z () []
theorem tI (n:Int):0<=tH n/\tH n<18446744073709551616:=by
 show 0<=IntKind.u64.wrap _/\IntKind.u64.wrap _<_;generalize (IntKind.u64.wrap (BitVec.ofInt IntKind.u64.bits (nG 29 13787848793156543929 (nG 32 11400714819323198485 n)) ^^^ BitVec.ofInt IntKind.u64.bits ((nG 29 13787848793156543929 (nG 32 11400714819323198485 n)).fdiv (2 ^ (min (32:Int).toNat IntKind.u64.bits)))).toNat*1)=x;simp only[IntKind.wrap,IntKind.bits,IntKind.signed];exact⟨aaV _ (by decide),abw _ (by decide)⟩
def Hh (a b:Int):Int:=IntKind.u64.wrap (BitVec.ofInt IntKind.u64.bits a ^^^ BitVec.ofInt IntKind.u64.bits b).toNat
def xb (h:Int):List UInt8->Int
 | []=>h
 | b::r=>xb (tH (Hh h (IntKind.u64.wrap (IntKind.u64.wrap (b.toNat:Int)+1)))) r
def yR (ao:Int) (s:List UInt8):Int:=tH (Hh (xb (tH ao) s) (IntKind.u64.wrap s.length))
theorem vy (h:Int):∀ (l:List UInt8) (b:UInt8),xb h (l++[b])=tH (Hh (xb h l) (IntKind.u64.wrap (IntKind.u64.wrap (b.toNat:Int)+1)))
 | [],b=>rfl
 | x::r,b=>by rw[abp,xb,xb,vy _ r b]
theorem UC (ao:Int) (s:List UInt8) (hs:s.length<=1000):MU Tryz.prog 246 [.int .u64 fun _=>ao,.str fun _=>s] [] (.int .u64 fun _=>yR ao s) []:=by
 (refine aa.q Tryz.func246 rfl fun S aw=>Wa _ ?_;(repeat' first|exact tv|apply pr|intro hh));refine ab.q (NS ao) [] fun _ _=>Wp _ ?_;repeat' first|exact tv|apply pr|intro hh
 .exact⟨by simp only[];omega⟩
 refine aM.intro hm (X:=Nat) (fun i=>i<=s.length) (fun i=>s.length - i)
  (fun i=>[(13,.I (i:Int)),(12,.I (s.length:Int)),(11,.aL (.int .u8) fun _=>s.map fun b=>(b.toNat:Int)),(5,.int .u64 fun _=>xb (tH ao) (s.take i)),(1,.str fun _=>s)])
  (fun i=>[]) 0 [] ⟨rfl,rfl,?_,?_⟩ (aae _) ?_
 .exact Vc
 .refine Vb _ ?_;repeat' first|exact tv|apply pr
  simp
 intro i hi;refine Wa _ ?_;repeat' first|exact tv|apply pr|intro hh
 .exact⟨by simp only[aba];omega⟩
 .refine ab.q (NS _) [] fun _ _=>Wp _ ?_;repeat' first|exact tv|apply pr|intro hh
  have dp:i<s.length:=by omega
  have hk:s[i]?=some s[i]:=Z1 dp;refine⟨i+1,[],⟨rfl,rfl,?_,?_⟩,by omega,by omega⟩
  .exact Vc
  .refine Vb _ ?_;repeat' first|exact tv|apply pr
   .rw[wr (by omega)];omega
   .rw[aaE,hk]
    have e:(s.map fun b=>(b.toNat:Int)).getD ((i:Int)).toNat (Ty.int .u8).bA=(s[i].toNat:Int):=by
     rw[Z4,ZZ,aaS,hk];rfl
    rw[e];exact(vy _ _ _).symm
 .refine ab.q (NS _) [] fun _ _=>Wp _ ?_;repeat' first|exact tv|apply pr|intro hh
  have e:s.take i=s:=Z6 (by omega);rw[e];exact ae.z () []
theorem Re (n:Int) (b:Nat) (hb:1<=b/\b<=8):MU Tryz.prog 245 [.int .u64 fun _=>n,.I (b:Int)] [] (.I (IntKind.i64.wrap (n.fdiv (2 ^ (64 - b))))) []:=by
 have e:IntKind.i64.wrap (64 - (b:Int))=((64 - b:Nat):Int):=by rw[wr (by omega)];omega
 refine aa.q Tryz.func245 rfl fun S aw=>Wa _ ?_;repeat' first|exact tv|apply pr|intro hh
 .exfalso;omega
 .exact⟨by simp only[e];omega⟩
 .refine ae.w () [] _ ?_;repeat' first|exact tv|apply pr
  rw[e,Z4,show min (64 - b) IntKind.u64.bits=64 - b from aa0 (by show 64 - b<=64;omega)]
 .exfalso;omega
def bG (ao:Int) (b:Nat) (k:List UInt8):Nat:=(yR ao k).toNat / 2 ^ (64 - b)
theorem pK (ao:Int) {b:Nat} (hb:1<=b/\b<=8) (k:List UInt8):bG ao b k<2 ^ b:=by
 have h:=tI (Hh (xb (tH ao) k) (IntKind.u64.wrap k.length));unfold bG yR;have h2:(2:Nat) ^ 64=18446744073709551616:=rfl;rw[acK (Nat.two_pow_pos _),<-aco,show b+(64 - b)=64 by omega,h2];generalize tH _=x at *;omega
theorem Hj (ao:Int) {b:Nat} (hb:1<=b/\b<=8) (k:List UInt8):IntKind.i64.wrap ((yR ao k).fdiv (2 ^ (64 - b)))=(bG ao b k:Int):=by
 have h:=tI (Hh (xb (tH ao) k) (IntKind.u64.wrap k.length));have hl:=pK ao hb k;have h8:2 ^ b<=2 ^ 8:=abT (by decide) hb.2;have e:(yR ao k).fdiv (2 ^ (64 - b))=(bG ao b k:Int):=by
  unfold bG;have h0:yR ao k=((yR ao k).toNat:Int):=(aaB h.1).symm;rw[abA _ (by exact_mod_cast aae _)];conv=>lhs;rw[h0]
  norm_cast
 rw[e,wr (by omega)]
abbrev tJ:Ty:=.pair .bool (.pair .str (.pair (.int .i64) (.int .i64)))
abbrev oq:TypeId:=233
abbrev j1:TypeId:=268
def uz (r:Rb):List Chunk:=[.cells oq [.int .u64 fun _=>r.ao,.I r.bits,.vec 1 4 (fun _=>0) (fun _=>r.L.length),.I r.used],.aq j1 tJ fun _=>r.L]
theorem yS {b:Nat} (h:b<=8):2 ^ b<=256:=abT (by decide) h
theorem JO (a b:Nat) (ha:a<9223372036854775808) (hb:b<9223372036854775808):IntKind.i64.wrap ((BitVec.ofInt IntKind.i64.bits (a:Int) &&& BitVec.ofInt IntKind.i64.bits (b:Int)).toNat:Int)=((a &&& b:Nat):Int):=by
 have e:(BitVec.ofInt 64 (a:Int) &&& BitVec.ofInt 64 (b:Int)).toNat=a &&& b:=by
  rw[abz,abz,BitVec.toNat_and,acb,acb,aa2 (by omega),aa2 (by omega)]
 have h:=Nat.and_le_left (n:=a) (m:=b);show IntKind.i64.wrap ((BitVec.ofInt 64 (a:Int) &&& BitVec.ofInt 64 (b:Int)).toNat:Int)=_;rw[e,wr (by omega)]
theorem SY (r:Rb) (b h d:Nat) (hl:r.L.length=2 ^ b) (hb:b<=8) (hh:h<2 ^ b) (hd:d<=2 ^ b):aa Tryz.prog 194 [.ptr 0 0,.I (h:Int),.I (d:Int)] (uz r) (Y:=Nat) (fun y=>y=ad (2 ^ b) h d)
  (fun y=>.int .i64 fun _=>(y:Int)) (fun _=>uz r):=by
 (refine aa.q Tryz.func194 rfl fun S aw=>Wa _ ?_;(repeat' first|exact tv|apply pr|intro hh));have h8:=yS hb;(refine ae.w (ad (2 ^ b) h d) [0,1] _ ?_;(repeat' first|exact tv|apply pr));rw[hl,wr (x:=(h:Int)+d) (by omega),wr (x:=((2 ^ b:Nat):Int) - 1) (by omega)];have h1:1<=2 ^ b:=aaW;rw[show(h:Int)+d=((h+d:Nat):Int) by omega,show((2 ^ b:Nat):Int) - 1=((2 ^ b - 1:Nat):Int) by omega,JO _ _ (by omega) (by omega),ab5,NN hh hd]
theorem Hk (r:Rb) (k:List UInt8) (hk:k.length<=1000) (b:Nat) (hb:r.bits=b) (h1:1<=b/\b<=8):aa Tryz.prog 195 [.ptr 0 0,.str fun _=>k] (uz r) (Y:=Nat) (fun y=>y=bG r.ao b k)
  (fun y=>.int .i64 fun _=>(y:Int)) (fun _=>uz r):=by
 have dJ:=Re (yR r.ao k) b h1;rw[<-hb]at dJ;(refine aa.q Tryz.func195 rfl fun S aw=>Wa _ ?_;(repeat' first|exact tv|apply pr|intro hh));(refine ab.q (UC r.ao k hk) [] fun _ _=>Wp _ ?_;(repeat' first|exact tv|apply pr|intro hh));(refine ab.q (dJ) [] fun _ _=>Wp _ ?_;(repeat' first|exact tv|apply pr|intro hh));(refine ae.w (bG r.ao b k) [0,1] _ ?_;(repeat' first|exact tv|apply pr));exact Hj r.ao h1 k
structure Found (r:Rb) (n:Nat) (k:List UInt8) (y:Option Nat):Prop where
 yes:∀ i,y=some i->i<n/\(sg r.L i).1=true/\(sg r.L i).2.1=k
 no:y=none->∀ i,i<n->(sg r.L i).1=true->(sg r.L i).2.1≠k
theorem EZ (L:List Sl) (i:Nat):L.getD (0+((i:Nat):Int).toNat) tJ.bA=sg L i:=by rw[aaf,Z4];rfl
theorem Hl (r:Rb) (k:List UInt8) (hk:k.length<=1000) {b:Nat} {M:c5} {c:Nat} (ok:oo (bG r.ao) r b M c):aa Tryz.prog 193 [.ptr 0 0,.str fun _=>k] (uz r) (Y:=Option Nat) (Found r (2 ^ b) k)
  (fun y=>.bQ [.I ((y.getD 0:Nat):Int),.bool fun _=>y.isSome]) (fun _=>uz r):=by
 have hl:=ok.ok.len;have h8:=yS ok.b1.2;have JP:=pK r.ao ok.b1 k;(refine aa.q Tryz.func193 rfl fun S aw=>Wa _ ?_;(repeat' first|exact tv|apply pr|intro hh));(refine ab.q (Hk r k hk b ok.bits ok.b1) [0,1] ?_;rintro h Wz;refine Wp _ ?_;(repeat' first|exact tv|apply pr|intro hh));rw[<-Wz]at JP;refine aM.intro hm (X:=Nat) (fun d=>d<=2 ^ b/\∀ e,e<d->(sg r.L (ad (2 ^ b) (bG r.ao b k) e)).2.1≠k) (fun d=>2 ^ b - d)
  (fun d=>[(0,.ptr 0 0),(1,.str fun _=>k),(6,.I (h:Int)),(18,.I (r.L.length:Int)),(19,.I (d:Int))])
  (fun _=>uz r) 0 [0,1] ⟨rfl,rfl,?_,?_⟩ ⟨aae _,fun e he=>absurd he (abW e)⟩ ?_
 .exact Vc
 .exact Vc
 rintro d ⟨hd,cy⟩;refine Wa _ ?_;repeat' first|exact tv|apply pr|intro hh
 rotate_right
 .refine ae.q none [0,1] ?_ ?_ ?_ <;> (refine Vb _ ?_;(repeat' first|exact tv|apply pr))
  exact⟨fun i h=>(by cases h),fun _=>w9 ok.ok.touO hd cy (.inl (by omega))⟩
 have ET:d<2 ^ b:=by omega
 (refine ab.q (SY r b h d hl ok.b1.2 JP hd) [0,1] ?_;rintro i ei;refine Wp _ ?_;(repeat' first|exact tv|apply pr|intro hh));all_goals have hi:=kX JP (e:=d) hd
 all_goals rw[<-ei]at hi
 all_goals rw[Wz]at ei
 all_goals try exact Ob.mk ⟨by simp only[];omega,by simp only[];omega⟩
 .refine ae.q none [0,1] ?_ ?_ ?_ <;> (refine Vb _ ?_;(repeat' first|exact tv|apply pr))
  rw[EZ,ei]at hh;exact⟨fun i h=>(by cases h),fun _=>w9 ok.ok.touO hd cy (.inr (.inr hh))⟩
 .rename_i hu _
  refine ae.q (some i) [0,1] ?_ ?_ ?_ <;> (refine Vb _ ?_;(repeat' first|exact tv|apply pr))
  rw[EZ]at hh hu;refine⟨fun i h=>?_,fun h=>(by cases h)⟩;cases h;exact⟨hi,hu,hh⟩
 .refine⟨d+1,[0,1],⟨rfl,rfl,?_,?_⟩,⟨by omega,fun e he=>?_⟩,by omega⟩
  .exact Vc
  .refine Vb _ ?_;repeat' first|exact tv|apply pr
   rw[wr (by omega)];omega
  .rw[EZ,ei]at hh
   by_cases Ux:e=d
   .subst Ux;exact hh
   .exact cy e (by omega)
 .refine ae.q none [0,1] ?_ ?_ ?_ <;> (refine Vb _ ?_;(repeat' first|exact tv|apply pr))
  rw[EZ,ei]at hh;exact⟨fun i h=>(by cases h),fun _=>w9 ok.ok.touO hd cy (.inr (.inl hh))⟩
theorem getM (r:Rb) (k:List UInt8) (hk:k.length<=1000) {b:Nat} {M:c5} {c:Nat} (ok:oo (bG r.ao) r b M c):MU Tryz.prog 137 [.ptr 0 0,.str fun _=>k] (uz r) (.bQ [.I ((M k).getD 0),.bool fun _=>(M k).isSome]) (uz r):=by
 (refine aa.q Tryz.func137 rfl fun S aw=>Wa _ ?_;(repeat' first|exact tv|apply pr|intro hh));refine ab.q (Hl r k hk ok) [0,1] ?_;rintro y hy;refine Wp _ ?_;repeat' first|exact tv|apply pr|intro hh
 .have hn:y=none:=by cases y <;> simp_all
  have hm:=mM ok.map (hy.no hn);rw[hm];exact ae.z () [0,1]
 all_goals obtain⟨i,rfl⟩:∃ i,y=some i:=aaF.1 hh
 all_goals obtain⟨h1,h2,h3⟩:=hy.yes i rfl
 .exact⟨by simp only[aby];have:=ok.ok.len;omega⟩
 .have hm:=mN ok.map h1 h2
  rw[h3]at hm;rw[hm];(refine ae.w () [0,1] _ ?_;(repeat' first|exact tv|apply pr));exact congrArg (fun x:Sl=>x.2.2.1) (EZ r.L i)
theorem NT (k:List UInt8):MU Tryz.prog 137 [.bW,.str fun _=>k] [] (.bQ [.I 0,.ff]) []:=by
 have Hm:MU Tryz.prog 193 [.bW,.str fun _=>k] [] (.bQ [.I 0,.ff]) []:=by
  (refine aa.q Tryz.func193 rfl fun S aw=>Wa _ ?_;(repeat' first|exact tv|apply pr|intro hh));exact ae.z () []
 (refine aa.q Tryz.func137 rfl fun S aw=>Wa _ ?_;(repeat' first|exact tv|apply pr|intro hh));(refine ab.q (Hm) [] fun _ _=>Wp _ ?_;(repeat' first|exact tv|apply pr|intro hh));exact ae.z () []
theorem Hn (k:List UInt8):MU Tryz.prog 138 [.bW,.str fun _=>k] [] .ff []:=by
 have Hm:MU Tryz.prog 193 [.bW,.str fun _=>k] [] (.bQ [.I 0,.ff]) []:=by
  (refine aa.q Tryz.func193 rfl fun S aw=>Wa _ ?_;(repeat' first|exact tv|apply pr|intro hh));exact ae.z () []
 (refine aa.q Tryz.func138 rfl fun S aw=>Wa _ ?_;(repeat' first|exact tv|apply pr|intro hh));(refine ab.q (Hm) [] fun _ _=>Wp _ ?_;(repeat' first|exact tv|apply pr|intro hh));exact ae.z () []
theorem Ho:MU Tryz.prog 189 [.bW] [] (.I 0) []:=by
 (refine aa.q Tryz.func189 rfl fun S aw=>Wa _ ?_;(repeat' first|exact tv|apply pr|intro hh));exact ae.z () []
theorem JQ (r:Rb):MU Tryz.prog 189 [.ptr 0 0] (uz r) (.I r.used) (uz r):=by
 (refine aa.q Tryz.func189 rfl fun S aw=>Wa _ ?_;(repeat' first|exact tv|apply pr|intro hh));exact ae.z () [0,1]
theorem tK (L:List Sl) (i:Nat) (y:Sl) (hi:i<L.length) (hy:y.1=(sg L i).1):bF (L.set i y)=bF L:=by
 have:=ji L i y hi;rw[hy]at this;omega
theorem vZ (r:Rb) (k:List UInt8) (v:Int) (hk:1<=k.length/\k.length<=33) {b:Nat} {M:c5} {c:Nat} (ok:oo (bG r.ao) r b M c) (hf:M k≠none\/c<2 ^ b) :
  aa Tryz.prog 139 [.ptr 0 0,.str fun _=>k,.I v] (uz r) (Y:=Rb) (fun r'=>r'.ao=r.ao/\oo (bG r.ao) r' b (bO M k (some v)) (if M k=none then c+1 else c))
  (fun _=>.int .i64 fun _=>0) uz:=by
 have hl:=ok.ok.len;have h8:=yS ok.b1.2;have JP:=pK r.ao ok.b1 k;(refine aa.q Tryz.func139 rfl fun S aw=>Wa _ ?_;(repeat' first|exact tv|apply pr|intro hh));all_goals first|(exfalso;omega)|(exfalso;have h9:k=[]:=hh;rw[h9]at hk;simp at hk;done)|skip
 refine ab.q (Hl r k (by omega) ok) [0,1] ?_;rintro y hy;refine Wp _ ?_;repeat' first|exact tv|apply pr|intro hh
 .obtain⟨i,rfl⟩:∃ i,y=some i:=aaF.1 hh
  obtain⟨h1,h2,h3⟩:=hy.yes i rfl;exact⟨by simp only[aby];omega⟩
 .obtain⟨i,rfl⟩:∃ i,y=some i:=aaF.1 hh
  obtain⟨h1,h2,h3⟩:=hy.yes i rfl;have hm:=mN ok.map h1 h2;rw[h3]at hm;refine ae.q { r with L:=r.L.set i ((sg r.L i).1,(sg r.L i).2.1,v,(sg r.L i).2.2.2) } [0,1] ?_ ?_ ?_ <;> (refine Vb _ ?_;(repeat' first|exact tv|apply pr))
  .simp
  .show r.L.set (0+((i:Nat):Int).toNat) ((r.L.getD (0+((i:Nat):Int).toNat) tJ.bA).1,(r.L.getD (0+((i:Nat):Int).toNat) tJ.bA).2.1,v,(r.L.getD (0+((i:Nat):Int).toNat) tJ.bA).2.2.2)=_
   rw[EZ,aaf,Z4]
  .rw[ZY (by rw[hm];simp)]
   refine⟨ok.bits,ok.b1,?_,?_,ok.used,?_⟩
   .refine⟨ok.ok.touO.val h1 v,?_⟩
    obtain⟨q,hq,WB⟩:=ok.ok.cut;refine⟨q,hq,?_⟩;rw[gN _ _ _ _ (by omega)];split
    .rename_i e;subst e;exact WB
    .exact WB
   .have:=ok.map.val ok.ok.touO h1 h2 v
    rw[h3]at this ⊢;exact this
   .exact aci (tK r.L i ((sg r.L i).1,(sg r.L i).2.1,v,(sg r.L i).2.2.2) (by omega) rfl) ok.bF
 all_goals have UD:y=none:=by cases y <;> simp_all
 all_goals have rY:=mM ok.map (hy.no UD)
 all_goals have ZH:c<2 ^ b:=hf.resolve_left (fun e=>e rY)
 .exfalso
  have h9:=ok.used;omega
 clear hh;(refine ab.q (Hk r k (by omega) b ok.bits ok.b1) [0,1] ?_;rintro h0 WC;refine Wp _ ?_;(repeat' first|exact tv|apply pr|intro hh));rw[<-WC]at JP;have Rf:∃ u,u<2 ^ b/\(sg r.L u).1=false:=by
  have:=Hd (L:=r.L) (by rw[ok.bF];omega);rw[hl]at this;exact this
 refine aM.intro hm (X:=List Sl×Nat×Nat×Sl) (fun s=>tF s.1 (2 ^ b) (bG r.ao b) h0 s.2.1 s.2.2.2/\AY s.1 (2 ^ b) s.2.2.2 (bO M k (some v))/\bF s.1=c/\s.2.2.1=ad (2 ^ b) h0 s.2.1) (fun s=>2 ^ b - s.2.1)
  (fun s=>[(0,.ptr 0 0),(9,.ptr 2 0),(10,.I (s.2.2.1:Int))])
  (fun s=>uz { r with L:=s.1 }++[.cells j1 [.bool fun _=>s.2.2.2.1,.str fun _=>s.2.2.2.2.1,.I s.2.2.2.2.2.1,.I s.2.2.2.2.2.2]]) (r.L,0,h0,(true,k,v,0)) [0,1,2] ⟨rfl,rfl,?_,?_⟩ ?_ ?_
 .exact Vc
 .exact Vc
 .refine⟨⟨ok.ok.touO,JP,rfl,⟨0,rfl,Z8 _,by rw[<-WC],fun e he=>absurd he (abW e)⟩,hy.no UD,fun e he=>absurd he (abW e),Rf⟩,Q6 ok.map k v 0 rY,ok.bF,?_⟩
  show h0=ad (2 ^ b) h0 0;unfold ad;rw[Z0 (by omega)];rfl
 rintro⟨L,t,i,x⟩ ⟨hP,hM,hc,hi⟩;simp only[]at hP hM hc hi;have hL:=hP.ok.len;have ht:=hP.t;have dp:=kX JP (e:=t) (by omega);rw[<-hi]at dp;(refine Wa _ ?_;(repeat' first|exact tv|apply pr|intro hh));all_goals try exact Ob.mk ⟨by simp only[];omega,by simp only[];omega⟩
 .refine ae.q { r with L:=L.set i x,used:=r.used+1 } [0,1] ?_ ?_ ?_ <;> (refine Vb _ ?_;(repeat' first|exact tv|apply pr))
  .simp
  .have h9:=ok.used
   rw[wr (by omega)]
  .rw[aaf,Z4]
  .rw[EZ]at hh
   rw[hi]at hh;have hx:=hP.used;have hp:=hP.place hh;have dJ:=hM.place hL (by rw[<-hi];omega) hh hx;rw[<-hi]at hp dJ;rw[Z0 rY];refine⟨ok.bits,ok.b1,hp,dJ,by show r.used+1=_;rw[ok.used];rfl,?_⟩;have:=ji L i x (by omega);rw[<-hi]at hh;rw[hh,hx]at this;show bF (L.set i x)=c+1;simp at this;omega
 .rename_i hu
  rw[EZ]at hh hu;have Df:=hu;have xF:=hh;rw[hi]at Df xF;have hx:=hP.used;have hp:=hP.swap Df xF;have dJ:=hM.swap hL dp hu hx;rw[<-hi]at hp;have JR:=hp.ok.len;have hd:=hp.at_;simp only[aaf,Z4];rw[show L.length=(L.set i x).length from(aao ..).symm];(refine ab.q (SY { r with L:=L.set i x } b i 1 JR ok.b1.2 dp (by have:=hP.ok.n2;omega)) [0,1] ?_;rintro j ej;refine Wp _ ?_;(repeat' first|exact tv|apply pr|intro hh));obtain⟨d,NB,ET,-⟩:=hd;have NB:(sg L i).2.2.2+1=d:=NB;refine⟨(L.set i x,t+1,j,((sg L i).1,(sg L i).2.1,(sg L i).2.2.1,(sg L i).2.2.2+1)),[0,1,2],⟨rfl,rfl,?_,?_⟩,⟨hp,dJ,?_,?_⟩,by simp only[];omega⟩
  .refine Vb _ ?_;repeat' first|exact tv|apply pr
   show IntKind.i64.wrap ((sg L i).2.2.2+1)=_;rw[wr (by omega)]
  .exact Vc
  .exact(tK L i x (by omega) (by rw[hu,hx])).trans hc
  .show j=_
   rw[ej,hi,jJ JP ht]
 .rename_i hu
  rw[EZ]at hh hu;have Df:=hu;have xF:=hh;rw[hi]at Df xF;have hp:=hP.step Df xF;have hd:=hp.at_;(refine ab.q (SY { r with L:=L } b i 1 hL ok.b1.2 dp (by have:=hP.ok.n2;omega)) [0,1] ?_;rintro j ej;refine Wp _ ?_;(repeat' first|exact tv|apply pr|intro hh));obtain⟨d,NB,ET,-⟩:=hd;have NB:x.2.2.2+1=d:=NB;refine⟨(L,t+1,j,(x.1,x.2.1,x.2.2.1,x.2.2.2+1)),[0,1,2],⟨rfl,rfl,?_,?_⟩,⟨hp,hM,hc,?_⟩,by simp only[];omega⟩
  .refine Vb _ ?_;repeat' first|exact tv|apply pr
   rw[wr (by omega)]
  .exact Vc
  .show j=_
   rw[ej,hi,jJ JP ht]
theorem Ee (r:Rb) (k:List UInt8) (hk:k.length<=1000) {b:Nat} {M:c5} {c:Nat} (ok:oo (bG r.ao) r b M c) :
  aa Tryz.prog 138 [.ptr 0 0,.str fun _=>k] (uz r) (Y:=Rb) (fun r'=>r'.ao=r.ao/\oo (bG r.ao) r' b (bO M k none) (if M k=none then c else c - 1)/\(M k≠none->1<=c))
  (fun _=>.bool fun _=>(M k).isSome) uz:=by
 have hl:=ok.ok.len;have h8:=yS ok.b1.2;(refine aa.q Tryz.func138 rfl fun S aw=>Wa _ ?_;(repeat' first|exact tv|apply pr|intro hh));refine ab.q (Hl r k (by omega) ok) [0,1] ?_;rintro y hy;refine Wp _ ?_;repeat' first|exact tv|apply pr|intro hh
 .have hn:y=none:=by cases y <;> simp_all
  have hm:=mM ok.map (hy.no hn);refine ae.w r [0,1] _ ?_;repeat' first|exact tv|apply pr
  .rw[hm];rfl
  .rw[yQ hm,Z0 hm];exact ok
  .exact fun h=>(h hm).elim
 obtain⟨i0,rfl⟩:∃ i,y=some i:=aaF.1 hh;obtain⟨h1,h2,h3⟩:=hy.yes i0 rfl;have Af:=mN ok.map h1 h2;rw[h3]at Af;obtain⟨m0,u6,YC⟩:=ok.ok.del h1 h2;have DN:=ok.map.del ok.ok.touO h1 h2;rw[h3]at DN;refine aM.intro hm (X:=List Sl×Nat×Nat) (fun s=>xa s.1 (2 ^ b) (bG r.ao b) s.2.1 s.2.2/\AZ s.1 (2 ^ b) s.2.1 (bO M k none)/\bF s.1=c) (fun s=>s.2.2)
  (fun s=>[(0,.ptr 0 0),(5,.I (s.2.1:Int))])
  (fun s=>uz { r with L:=s.1 }) (r.L,i0,m0) [0,1] ⟨rfl,rfl,?_,?_⟩ ⟨YC,DN,ok.bF⟩ ?_
 .exact Vc
 .exact Vc
 rintro⟨L,i,m⟩ ⟨hD,hM,hc⟩;simp only[]at hD hM hc;have hL:=hD.len;have hi:=hD.hi;have xH:=hD.n2;(refine Wa _ ?_;(repeat' first|exact tv|apply pr|intro hh));(refine ab.q (SY { r with L:=L } b i 1 hL ok.b1.2 hi (by omega)) [0,1] ?_;rintro j ej;refine Wp _ ?_;(repeat' first|exact tv|apply pr|intro hh));all_goals have hj:=kX hi (e:=1) (by omega)
 all_goals rw[<-ej]at hj
 all_goals try exact Ob.mk ⟨by simp only[];omega,by simp only[];omega⟩
 .rw[EZ,ej]at hh
  have Hc:=hD.end_ (.inr hh);have UE:=hM.end_ hL hi;have II:=ji L i z (by omega);rw[hD.used]at II;have EW:1<=c:=by simp[z]at II;omega
  have YD:=ok.used;have ES:=A1 L;refine ae.q { r with L:=L.set i z,used:=r.used - 1 } [0,1] ?_ ?_ ?_ <;> (refine Vb _ ?_;(repeat' first|exact tv|apply pr))
  .simp
  .rw[wr (by omega)]
  .rw[aaf,Z4];rfl
  .rw[Af];rfl
  .rw[ZY (by rw[Af];simp)]
   refine⟨ok.bits,ok.b1,Hc,UE,by show r.used - 1=_;omega,?_⟩;show bF (L.set i z)=c - 1;simp[z]at II ⊢;omega
  .exact fun _=>EW
 .rename_i hu
  rw[EZ,ej]at hu hh;have uW:bF (L.set i (pull L (2 ^ b) i))=c:=(tK L i _ (by omega) (by show(sg L (ad (2 ^ b) i 1)).1=_;rw[hu,hD.used])).trans hc;obtain⟨m2,dJ,WD⟩:=hD.step hu hh;have SC:=hM.step hL xH hi hu;have YE:pull L (2 ^ b) i=((sg L j).1,(sg L j).2.1,(sg L j).2.2.1,(sg L j).2.2.2 - 1):=by unfold pull;rw[ej]
  have JS:=hD.pos j hj (by rw[ej];exact yP hi xH) (by rw[ej];exact hu);obtain⟨d,NB,ET,-⟩:=JS;rw[<-ej]at WD SC;refine⟨(L.set i (pull L (2 ^ b) i),j,m2),[0,1],⟨rfl,rfl,?_,?_⟩,⟨WD,SC,uW⟩,dJ⟩
  .refine Vb _ ?_;repeat' first|exact tv|apply pr
   .simp
   .simp only[aaf,Z4]
    show(L.set i (sg L j)).set i ((sg (L.set i (sg L j)) i).1,(sg (L.set i (sg L j)) i).2.1,(sg (L.set i (sg L j)) i).2.2.1,IntKind.i64.wrap ((sg (L.set i (sg L j)) i).2.2.2 - 1))=L.set i (pull L (2 ^ b) i);rw[gN _ _ _ _ (by omega),Z0 rfl,List.set_set,YE,wr (by omega)]
  .exact Vc
 .rw[EZ,ej]at hh
  have Hc:=hD.end_ (.inl hh);have UE:=hM.end_ hL hi;have II:=ji L i z (by omega);rw[hD.used]at II;have EW:1<=c:=by simp[z]at II;omega
  have YD:=ok.used;have ES:=A1 L;refine ae.q { r with L:=L.set i z,used:=r.used - 1 } [0,1] ?_ ?_ ?_ <;> (refine Vb _ ?_;(repeat' first|exact tv|apply pr))
  .simp
  .rw[wr (by omega)]
  .rw[aaf,Z4];rfl
  .rw[Af];rfl
  .rw[ZY (by rw[Af];simp)]
   refine⟨ok.bits,ok.b1,Hc,UE,by show r.used - 1=_;omega,?_⟩;show bF (L.set i z)=c - 1;simp[z]at II ⊢;omega
  .exact fun _=>EW
theorem JT (xs:List Sl) (hl:xs.length<=100000):MU Tryz.prog 244 [.aL tJ fun _=>xs] [] (.vec 0 4 (fun _=>0) (fun _=>xs.length)) [.aq j1 tJ fun _=>xs]:=by
 refine aa.q Tryz.func244 rfl fun S aw=>?_;(conv=>whnf)
 ((refine Wb _ ?_;(repeat' first|exact tv|apply pr|intro hh));all_goals(refine Wb _ ?_;(repeat' first|exact tv|apply pr|intro hh)))
 .have hx:xs=[]:=‹_=true->xs=[]› hh
  refine ae.nil j1 tJ 0 ?_;(conv=>whnf);(refine ae.w () [0] _ ?_;(repeat' first|exact tv|apply pr));all_goals simp[hx]
 .have hb:Tryz.t268.bytes<=1000:=by decide
  refine⟨⟨rfl,?_,?_⟩⟩
  .show 0+xs.length<=_
   omega
  .show(0+xs.length)*Tryz.t268.bytes<=_
   have:=Nat.mul_le_mul (show 0+xs.length<=100000 by omega) hb;omega
 .refine ae.w () [0] _ ?_;repeat' first|exact tv|apply pr
  all_goals simp
theorem NU (r:Rb) (hl:r.L.length<=100000):MU Tryz.prog 190 [.ptr 0 0] (uz r) (.aL tJ fun _=>r.L) (uz r):=by
 (refine aa.q Tryz.func190 rfl fun S aw=>Wa _ ?_;(repeat' first|exact tv|apply pr|intro hh));refine ab.rest (JT r.L hl) [1] ?_ (fun _ _=>⟨rfl,rfl⟩) ?_
 .refine Vb _ ?_;repeat' first|exact tv|apply pr
  simp
 intro y hy;(refine Wa _ ?_;(repeat' first|exact tv|apply pr|intro hh));(refine ae.gU 2 ?_;(conv=>whnf));(refine ae.w () [0,1] _ ?_;(repeat' first|exact tv|apply pr));simp
theorem nc (sd:Int) (b:Nat) (hb:1<=b/\b<=8):aa Tryz.prog 105 [.int .u64 fun _=>sd,.I (b:Int)] [] (Y:=Rb) (fun r=>r.ao=sd/\oo (bG sd) r b (fun _=>none) 0)
  (fun _=>.bQ [.ptr 0 0,.I 0]) uz:=by
 have h8:=yS hb.2;have e:IntKind.i64.wrap (1*2 ^ min (b:Int).toNat IntKind.i64.bits)=((2 ^ b:Nat):Int):=by
  rw[Z4,show min b IntKind.i64.bits=b from aa0 (by show b<=64;omega),acG];have:(2:Int) ^ b=((2 ^ b:Nat):Int):=by norm_cast
  rw[this];exact(fun(n:Nat) (hn:n<=256)=>(wr (by omega):IntKind.i64.wrap (n:Int)=n)) _ h8
 have hk:2<=2 ^ b:=by
  obtain⟨d,rfl⟩:∃ d,b=d+1:=⟨b - 1,by omega⟩
  rw[acu];have:=aaW (n:=d);omega
 obtain⟨h1,h2,h3⟩:=UA (2 ^ b) (bG sd b) hk (fun k=>pK sd hb k);(refine aa.q Tryz.func105 rfl fun S aw=>Wa _ ?_;(repeat' first|exact tv|apply pr|intro hh));all_goals try (exfalso;omega)
 all_goals try exact Ob.mk (by simp only[];omega)
 .refine Ob.mk ?_
  have hb:(Tryz.t268.bytes:Int)<=1000:=by decide
  have:=aaH hb (show((2 ^ b:Nat):Int)<=256 by omega) (by omega) (by omega);have e2:IntKind.i64.wrap (1*2 ^ min (b:Int).toNat IntKind.i64.bits)=1*((2 ^ b:Nat):Int):=by rw[e];omega
  show(0:Int)<=IntKind.i64.wrap (1*2 ^ min (b:Int).toNat IntKind.i64.bits)/\IntKind.i64.wrap (1*2 ^ min (b:Int).toNat IntKind.i64.bits)<=IntKind.i64.wrap (1*2 ^ min (b:Int).toNat IntKind.i64.bits)/\IntKind.i64.wrap (1*2 ^ min (b:Int).toNat IntKind.i64.bits)<=281474976710656/\(Tryz.t268.bytes:Int)*IntKind.i64.wrap (1*2 ^ min (b:Int).toNat IntKind.i64.bits)<=281474976710656;rw[e];exact⟨by omega,by omega,by omega,by omega⟩
 refine ae.w (⟨sd,b,List.replicate (2 ^ b) z,0⟩:Rb) [1,0] _ ?_;repeat' first|exact tv|apply pr
 .show(IntKind.i64.wrap (1*2 ^ min (b:Int).toNat IntKind.i64.bits)).toNat=_
  rw[e,Z4,aaz]
 .show List.replicate (IntKind.i64.wrap (1*2 ^ min (b:Int).toNat IntKind.i64.bits)).toNat _=_
  rw[e,Z4];rfl
 .exact⟨rfl,hb,h1,h2,rfl,h3⟩
abbrev Cz:TypeId:=178
abbrev JU:Chunk:=.aq j1 tJ fun _=>[]
def Ef (r:Rb) (k:Nat):List AV:=[.int .u64 fun _=>r.ao,.I r.bits,.vec k 4 (fun _=>0) (fun _=>r.L.length),.I r.used]
def CA (g:Gm):List Chunk:=match g.el with
 | none=>[.cells Cz [.int .u64 fun _=>g.ao,.I g.bits,.ptr 1 0,.bW],.iZ oq (Ef g.nw 2),.aq j1 tJ fun _=>g.nw.L,JU,JU]
 | some e=>[.cells Cz [.int .u64 fun _=>g.ao,.I g.bits,.ptr 1 0,.ptr 3 0],.iZ oq (Ef g.nw 2),.aq j1 tJ fun _=>g.nw.L,.iZ oq (Ef e 4),.aq j1 tJ fun _=>e.L]
def ng (g:Gm):List Chunk:=match g.el with
 | none=>[.cells Cz [.int .u64 fun _=>g.ao,.I g.bits,.ptr 1 0,.bW],.cells oq (Ef g.nw 2),.aq j1 tJ fun _=>g.nw.L,JU,JU]
 | some e=>[.cells Cz [.int .u64 fun _=>g.ao,.I g.bits,.ptr 1 0,.ptr 3 0],.cells oq (Ef g.nw 2),.aq j1 tJ fun _=>g.nw.L,.cells oq (Ef e 4),.aq j1 tJ fun _=>e.L]
theorem NV (g:Gm):DL [1,3] (CA g)=ng g:=by obtain⟨s,b,nw,el⟩:=g;cases el <;> rfl
theorem NW (g:Gm):Jt [1,3] (ng g)=CA g:=by obtain⟨s,b,nw,el⟩:=g;cases el <;> rfl
theorem Hq (g:Gm):tg (bw (CA g)) [1,3]=true:=by obtain⟨s,b,nw,el⟩:=g;cases el <;> rfl
theorem gm {f:FuncId} {args:List AV} {g:Gm} {Y:Type} {Q:Y->Prop} {res:Y->AV} {out:Y->Gm} (h:aa Tryz.prog f args (ng g) Q res fun y=>ng (out y)):aa Tryz.prog f args (CA g) Q res fun y=>CA (out y):=by
 have h1:=aa.iZ [1,3] (Hq g) (by rw[NV];exact h);simp only[NW]at h1;exact h1
def UF (x:Sl):AV:=.agg [.bool fun _=>x.1,.str fun _=>x.2.1,.I x.2.2.1,.I x.2.2.2]
theorem Rg (x:Sl):MU Tryz.prog 192 [UF x] [] (.bool fun _=>x.1) []:=by
 (refine aa.q Tryz.func192 rfl fun S aw=>Wa _ ?_;(repeat' first|exact tv|apply pr|intro hh));exact ae.z () []
theorem NX (l:List Sl) (hl:l.length<=1000):aa Tryz.prog 191 [.aL tJ fun _=>l,.fn (.func 192) [] []] [] (Y:=Nat) (fun i=>i<=l.length/\(i<l.length->(sg l i).1=true)/\(i=l.length->∀ j,j<l.length->(sg l j).1=false))
  (fun i=>.int .i64 fun _=>if i=l.length then -1 else(i:Int)) (fun _=>[]):=by
 (refine aa.q Tryz.func191 rfl fun S aw=>Wa _ ?_;(repeat' first|exact tv|apply pr|intro hh));refine aM.intro hm (X:=Nat) (fun i=>i<=l.length/\∀ j,j<i->(sg l j).1=false) (fun i=>l.length - i)
  (fun i=>[(8,.I (i:Int)),(7,.I (l.length:Int)),(6,.aL tJ fun _=>l),(0,.aL tJ fun _=>l),(1,.fn (.func 192) [] [])])
  (fun i=>[]) 0 [] ⟨rfl,rfl,?_,?_⟩ ⟨aae _,fun j hj=>absurd hj (abW j)⟩ ?_
 .exact Vc
 .exact Vc
 rintro i ⟨hi,cy⟩;have hg:l.getD ((i:Int)).toNat tJ.bA=sg l i:=by rw[Z4];rfl
 (refine Wa _ ?_;(repeat' first|exact tv|apply pr|intro hh));all_goals try exact Ob.mk ⟨by simp only[];omega,by simp only[];omega⟩
 .refine ab.q (Rg (sg l i)) [] fun _ _=>Wp _ ?_;repeat' first|exact tv|apply pr|intro hh
  .refine ae.w i [] _ ?_;repeat' first|exact tv|apply pr
   .rw[ZY (by omega)]
   .omega
   .exact fun _=>hh
   .intro e;omega
  .refine⟨i+1,[],⟨rfl,rfl,?_,?_⟩,⟨by omega,fun j hj=>?_⟩,by omega⟩
   .exact Vc
   .refine Vb _ ?_;repeat' first|exact tv|apply pr
    rw[wr (by omega)];omega
   .by_cases e:j=i
    .subst e;simpa using hh
    .exact cy j (by omega)
 .have e:i=l.length:=by omega
  refine ae.w i [] _ ?_;repeat' first|exact tv|apply pr
  .rw[Z0 e]
  .omega
  .intro h;omega
  .intro _ j hj;exact cy j (by omega)
theorem anyM (e:Rb) {home:Nat->List UInt8->Nat} {b:Nat} {M:c5} {c:Nat} (ok:oo home e b M c) (hc:0<c):aa Tryz.prog 136 [.agg [.ptr 0 0]] (uz e) (Y:=Sl) (fun x=>M x.2.1=some x.2.2.1/\∃ i,i<2 ^ b/\(sg e.L i).1=true/\sg e.L i=x)
  (fun x=>.bQ [.str fun _=>x.2.1,.tt]) (fun _=>uz e):=by
 have hl:=ok.ok.len;have h8:=yS ok.b1.2;have key:∀ i:Nat,i<=e.L.length->(i=e.L.length->∀ j,j<e.L.length->(sg e.L j).1=false)->i<e.L.length:=fun i h1 h3=>by
  by_cases h4:i<e.L.length
  .exact h4
  .exfalso
   obtain⟨u,k1,k2⟩:=He (L:=e.L) (by rw[ok.bF];exact hc);rw[h3 (by omega) u k1]at k2;cases k2
 (refine aa.q Tryz.func136 rfl fun S aw=>Wa _ ?_;(repeat' first|exact tv|apply pr|intro hh));(refine ab.q (NU e (by omega)) [0,1] fun _ _=>Wp _ ?_;(repeat' first|exact tv|apply pr|intro hh));(refine ab.q (NX e.L (by omega)) [] ?_;rintro i ⟨h1,h2,h3⟩;refine Wp _ ?_;(repeat' first|exact tv|apply pr|intro hh));all_goals have bf:=key i h1 h3
 all_goals have bC:¬i=e.L.length:=by omega
 .exfalso;rw[ZY bC]at hh;omega
 .exact Ob.mk (by simp only[ZY bC];omega)
 have hg:e.L.getD ((if i=e.L.length then -1 else(i:Int))).toNat tJ.bA=sg e.L i:=by rw[ZY bC,Z4];rfl
 refine ae.w (sg e.L i) [0,1] _ ?_;repeat' first|exact tv|apply pr
 .exact congrArg (fun x:Sl=>x.2.1) hg
 .exact mN ok.map (by omega) (h2 bf)
 .exact⟨i,by omega,h2 bf,rfl⟩
theorem JV (sd:Int) (b:Nat) (hb:3<=b/\b<=7):aa Tryz.prog 57 [.int .u64 fun _=>sd,.I (b:Int)] [] (Y:=Gm) (fun g=>tG (bG sd) g sd (fun _=>none) 0)
  (fun _=>.bQ [.ptr 0 0,.I 0]) CA:=by
 (refine aa.q Tryz.func57 rfl fun S aw=>Wa _ ?_;(repeat' first|exact tv|apply pr|intro hh));(refine ab.q (nc sd b (by omega)) [] ?_;rintro r ⟨hs,hr⟩;refine Wp _ ?_;(repeat' first|exact tv|apply pr|intro hh));refine ae.cls [0] rfl ?_;(conv=>whnf);refine ae.nil j1 tJ 9 ?_;(conv=>whnf);refine ae.nil j1 tJ 9 ?_;(conv=>whnf);refine ae.q (⟨sd,b,r,none⟩:Gm) [2,0,1,3,4] ?_ ?_ ?_ <;> (refine Vb _ ?_;(repeat' first|exact tv|apply pr))
 exact⟨b,fun _=>none,fun _=>none,0,0,⟨rfl,rfl,hs,fun e h=>(by cases h),hr,⟨rfl,rfl⟩,fun k h=>rfl⟩,rfl,rfl,⟨hb,fun h=>absurd h (Nat.lt_irrefl 0),fun _=>by simp⟩⟩
theorem yT {A B:c5} {k:List UInt8} (h:(A k).isSome=true):comb A B k=A k:=by
 unfold comb;cases hA:A k with
 | none=>rw[hA]at h;cases h
 | some v=>rfl
theorem CB {A B:c5} {k:List UInt8} (h:(A k).isSome=false):comb A B k=B k:=by
 unfold comb;cases hA:A k with
 | none=>rfl
 | some v=>rw[hA]at h;cases h
theorem CC (g:Gm) (sd:Int) {M:c5} {b:Nat} {A B:c5} {ca cb:Nat} (hP:zQ (bG sd) g sd b A B ca cb) (hM:M=comb A B) (k:List UInt8) (hk:k.length<=1000):MU Tryz.prog 81 [.ptr 0 0,.str fun _=>k] (ng g) (.bQ [.I ((M k).getD 0),.bool fun _=>(M k).isSome]) (ng g):=by
 subst hM;obtain⟨ao,bits,nw,el⟩:=g;have qa:=hP.nw;have tL:nw.ao=sd:=hP.sn;simp only[]at qa;rw[<-tL]at qa;cases el with
 | none =>
  have hB:B=fun _=>none:=hP.el.1;subst hB;(refine aa.q Tryz.func81 rfl fun S aw=>Wa _ ?_;(repeat' first|exact tv|apply pr|intro hh));refine ab.q (getM nw k hk qa) [1,2] fun _ _=>Wp _ ?_;repeat' first|exact tv|apply pr|intro hh
  .rw[yT hh]
   (refine ae.w () [0,1,2,3,4] _ ?_;(repeat' first|exact tv|apply pr));first|exact hh|exact hh.symm
  .rw[CB hh]
   (refine ab.q (NT k) [] fun _ _=>Wp _ ?_;(repeat' first|exact tv|apply pr|intro hh));exact ae.z () [0,1,2,3,4]
 | some e =>
  have rf:e.ao=sd:=hP.se e rfl;obtain⟨b2,he⟩:=hP.el;rw[<-rf]at he;(refine aa.q Tryz.func81 rfl fun S aw=>Wa _ ?_;(repeat' first|exact tv|apply pr|intro hh));refine ab.q (getM nw k hk qa) [1,2] fun _ _=>Wp _ ?_;repeat' first|exact tv|apply pr|intro hh
  .rw[yT hh]
   (refine ae.w () [0,1,2,3,4] _ ?_;(repeat' first|exact tv|apply pr));first|exact hh|exact hh.symm
  .rw[CB hh]
   (refine ab.q (getM e k hk he) [3,4] fun _ _=>Wp _ ?_;(repeat' first|exact tv|apply pr|intro hh));exact ae.z () [0,1,2,3,4]
theorem tM (g:Gm) (sd:Int) {b:Nat} {A B:c5} {ca cb:Nat} (hP:zQ (bG sd) g sd b A B ca cb):MU Tryz.prog 135 [.ptr 0 0] (ng g) (.I (cb:Int)) (ng g):=by
 obtain⟨ao,bits,nw,el⟩:=g;cases el with
 | none =>
  have hB:cb=0:=hP.el.2;subst hB;(refine aa.q Tryz.func135 rfl fun S aw=>Wa _ ?_;(repeat' first|exact tv|apply pr|intro hh));(refine ab.q (Ho) [] fun _ _=>Wp _ ?_;(repeat' first|exact tv|apply pr|intro hh));exact ae.z () [0,1,2,3,4]
 | some e =>
  obtain⟨b2,he⟩:=hP.el;have hu:=he.used;(refine aa.q Tryz.func135 rfl fun S aw=>Wa _ ?_;(repeat' first|exact tv|apply pr|intro hh));(refine ab.q (JQ e) [3,4] fun _ _=>Wp _ ?_;(repeat' first|exact tv|apply pr|intro hh));(refine ae.w () [0,1,2,3,4] _ ?_;(repeat' first|exact tv|apply pr));exact hu
theorem ru {home:Nat->List UInt8->Nat} {r:Rb} {b:Nat} {M:c5} {c:Nat} (h:oo home r b M c):c<=256:=by
 have h1:=A1 r.L;have h2:=h.ok.len;have h3:=h.bF;have h4:=yS h.b1.2;omega
theorem JW (g:Gm) (sd:Int) {b:Nat} {A B:c5} {ca cb:Nat} (hP:zQ (bG sd) g sd b A B ca cb):MU Tryz.prog 170 [.ptr 0 0] (ng g) (.I ((ca+cb:Nat):Int)) (ng g):=by
 have h1:=ru hP.nw;have r6:=hP.nw.used;obtain⟨ao,bits,nw,el⟩:=g;simp only[]at r6;cases el with
 | none =>
  have hB:cb=0:=hP.el.2;subst hB;(refine aa.q Tryz.func170 rfl fun S aw=>Wa _ ?_;(repeat' first|exact tv|apply pr|intro hh));(refine ab.q (JQ nw) [1,2] fun _ _=>Wp _ ?_;(repeat' first|exact tv|apply pr|intro hh));(refine ab.q (Ho) [] fun _ _=>Wp _ ?_;(repeat' first|exact tv|apply pr|intro hh));(refine ae.w () [0,1,2,3,4] _ ?_;(repeat' first|exact tv|apply pr));rw[r6,wr (by omega)];omega
 | some e =>
  obtain⟨b2,he⟩:=hP.el;have h2:=ru he;have hu:=he.used;(refine aa.q Tryz.func170 rfl fun S aw=>Wa _ ?_;(repeat' first|exact tv|apply pr|intro hh));(refine ab.q (JQ nw) [1,2] fun _ _=>Wp _ ?_;(repeat' first|exact tv|apply pr|intro hh));(refine ab.q (JQ e) [3,4] fun _ _=>Wp _ ?_;(repeat' first|exact tv|apply pr|intro hh));(refine ae.w () [0,1,2,3,4] _ ?_;(repeat' first|exact tv|apply pr));rw[r6,hu,wr (by omega)];omega
theorem vz (g:Gm) (sd:Int) {b:Nat} {A B:c5} {ca:Nat} (hP:zQ (bG sd) g sd b A B ca 0) (hb:b<=7):aa Tryz.prog 171 [.ptr 0 0] (CA g) (Y:=Gm) (fun g'=>zQ (bG sd) g' sd (b+1) (fun _=>none) A 0 ca)
  (fun _=>.bQ []) CA:=by
 obtain⟨ao,bits,nw,el⟩:=g;have hs:ao=sd:=hP.ao;have Az:bits=(b:Int):=hP.bits;subst hs;subst Az;have hw:IntKind.i64.wrap ((b:Int)+1)=((b+1:Nat):Int):=by rw[wr (by omega)];omega
 have gH:=nc ao (b+1) (by omega);rw[<-hw]at gH;cases el with
 | none =>
  (refine aa.q Tryz.func171 rfl fun S aw=>Wa _ ?_;(repeat' first|exact tv|apply pr|intro hh));(refine ab.q (gH) [] ?_;rintro r ⟨hs,hr⟩;refine Wp _ ?_;(repeat' first|exact tv|apply pr|intro hh));have ZI:oo (bG ao) r (b+1) (fun _=>none) 0:=hr;refine ae.cls [5] rfl ?_;(conv=>whnf);(refine ae.w (⟨ao,((b+1:Nat):Int),r,some nw⟩:Gm) [0,5,6,1,2] _ ?_;(repeat' first|exact tv|apply pr));all_goals first|exact hw|exact⟨rfl,rfl,hs,fun e h=>(by cases h;exact hP.sn),hr,⟨b,hP.nw⟩,fun k h=>(h rfl).elim⟩
 | some e =>
  (refine aa.q Tryz.func171 rfl fun S aw=>Wa _ ?_;(repeat' first|exact tv|apply pr|intro hh));(refine ab.q (gH) [] ?_;rintro r ⟨hs,hr⟩;refine Wp _ ?_;(repeat' first|exact tv|apply pr|intro hh));refine ae.cls [5] rfl ?_;(conv=>whnf);(refine ae.w (⟨ao,((b+1:Nat):Int),r,some nw⟩:Gm) [0,5,6,1,2] _ ?_;(repeat' first|exact tv|apply pr));all_goals first|exact hw|exact⟨rfl,rfl,hs,fun e h=>(by cases h;exact hP.sn),hr,⟨b,hP.nw⟩,fun k h=>(h rfl).elim⟩
structure Rh (sd:Int) (g:Gm) (b:Nat) (A B:c5) (ca cb k:Nat) (aF:Int) (y:Gm×Nat):Prop where
 h:∃ A' B' qK,zQ (bG sd) y.1 sd b A' B' (ca+y.2) qK/\comb A' B'=comb A B/\cb=qK+y.2/\fI b (ca+y.2) qK (k - 2*y.2)/\(y.2:Int)<=max aF 0/\((y.2:Int)<aF->qK=0)
structure YF (sd:Int) (b:Nat) (A B:c5) (ca cb k:Nat) (ao bits aF:Int) (y:Rb×Rb×Nat):Prop where
 h:∃ A' B' qK,zQ (bG sd) ⟨ao,bits,y.1,some y.2.1⟩ sd b A' B' (ca+y.2.2) qK/\comb A' B'=comb A B/\cb=qK+y.2.2/\fI b (ca+y.2.2) qK (k - 2*y.2.2)/\(y.2.2:Int)<=max aF 0/\∀ j,B' j≠none->1<=j.length/\j.length<=33
theorem ma (g:Gm) (sd:Int) {b:Nat} {A B:c5} {ca cb k:Nat} (hP:zQ (bG sd) g sd b A B ca cb) (hL:fI b ca cb k) (hk:k<=4) (wc:∀ j,B j≠none->1<=j.length/\j.length<=33) (aF:Int) :
  aa Tryz.prog 78 [.ptr 0 0,.I aF] (ng g) (Y:=Gm×Nat) (Rh sd g b A B ca cb k aF)
  (fun y=>.int .i64 fun _=>(y.2:Int)) (fun y=>ng y.1):=by
 obtain⟨ao,bits,nw,el⟩:=g;cases el with
 | none =>
  have hB:cb=0:=hP.el.2;subst hB;(refine aa.q Tryz.func78 rfl fun S aw=>Wa _ ?_;(repeat' first|exact tv|apply pr|intro hh));refine aM.intro hm (X:=Unit) (fun _=>True) (fun _=>0) (fun _=>[(5,.I 0),(0,.ptr 0 0),(1,.I aF)]) (fun _=>ng ⟨ao,bits,nw,none⟩) () [0,1,2,3,4] ⟨rfl,rfl,?_,?_⟩ trivial ?_
  .exact Vc
  .exact Vc
  intro _ _;refine Wa _ ?_;repeat' first|exact tv|apply pr|intro hh
  .refine ab.q (tM ⟨ao,bits,nw,none⟩ sd hP) [0,1,2,3,4] fun _ _=>Wp _ ?_;repeat' first|exact tv|apply pr|intro hh
   (refine ae.w ((⟨ao,bits,nw,none⟩,0):Gm×Nat) [0,1,2,3,4] _ ?_;(repeat' first|exact tv|apply pr));exact⟨A,B,0,hP,rfl,rfl,hL,by simp only[Int.natCast_zero];omega,fun _=>rfl⟩
  .refine ae.w ((⟨ao,bits,nw,none⟩,0):Gm×Nat) [0,1,2,3,4] _ ?_;repeat' first|exact tv|apply pr
   exact⟨A,B,0,hP,rfl,rfl,hL,by simp only[Int.natCast_zero];omega,fun _=>rfl⟩
 | some e =>
  have vA:=hP.bits;(refine aa.q Tryz.func78 rfl fun S aw=>Wa _ ?_;(repeat' first|exact tv|apply pr|intro hh));refine aM.intro hm (X:=Rb×Rb×Nat) (YF sd b A B ca cb k ao bits aF) (fun x=>cb - x.2.2)
   (fun x=>[(5,.I (x.2.2:Int)),(0,.ptr 0 0),(1,.I aF)]) (fun x=>ng ⟨ao,bits,x.1,some x.2.1⟩) (nw,e,0) [0,1,2,3,4] ⟨rfl,rfl,?_,?_⟩
   ⟨A,B,cb,hP,rfl,rfl,hL,by simp only[Int.natCast_zero];omega,wc⟩ ?_
  .exact Vc
  .exact Vc
  rintro⟨nw,e,i⟩ ⟨A',B',qK,Eg,Hr,qk,Dn,hi,LK⟩;simp only[]at Eg qk Dn hi;obtain⟨b2,he⟩:=Eg.el;have rf:e.ao=sd:=Eg.se e rfl;have tL:nw.ao=sd:=Eg.sn;have qa:=Eg.nw;have hr:=ru he;have sI:=ru qa;simp only[]at qa sI;rw[<-rf]at he;rw[<-tL]at qa;refine Wa _ ?_;repeat' first|exact tv|apply pr|intro hh
  .refine ab.q (tM ⟨ao,bits,nw,some e⟩ sd Eg) [0,1,2,3,4] fun _ _=>Wp _ ?_;repeat' first|exact tv|apply pr|intro hh
   .have hc:0<qK:=by omega
    (refine ab.q (anyM e he hc) [3,4] ?_;rintro x ⟨hx,_⟩;refine Wp _ ?_;(repeat' first|exact tv|apply pr|intro hh));have pF:=LK x.2.1 (by rw[hx];simp);(refine ab.q (getM e x.2.1 (by omega) he) [3,4] fun _ _=>Wp _ ?_;(repeat' first|exact tv|apply pr|intro hh));rw[show(B' x.2.1).getD 0=x.2.2.1 by rw[hx];rfl];(refine ab.q (Ee e x.2.1 (by omega) he) [3,4] ?_;rintro e2 ⟨rG,xc,h2⟩;refine Wp _ ?_;(repeat' first|exact tv|apply pr|intro hh));have UG:=(vx Eg.apart hx).2;(refine ab.q (vZ nw x.2.1 x.2.2.1 pF qa (.inr (Dn.lt (by omega)))) [1,2] ?_;rintro mO ⟨zR,iS⟩;refine Wp _ ?_;(repeat' first|exact tv|apply pr|intro hh));rw[ZY (by rw[hx];simp)]at xc;rw[Z0 UG]at iS;refine⟨(mO,e2,i+1),[0,1,2,3,4],⟨rfl,rfl,?_,?_⟩,⟨bO A' x.2.1 (some x.2.2.1),bO B' x.2.1 none,qK - 1,⟨Eg.ao,Eg.bits,by rw[zR];exact tL,fun e' h=>(by cases h;rw[rG];exact rf),?_,⟨b2,?_⟩,qJ Eg.apart _ _⟩,?_,?_,?_,?_,?_⟩,?_⟩
    .exact Vc
    .refine Vb _ ?_;repeat' first|exact tv|apply pr
     rw[wr (by omega)];omega
    .show oo (bG sd) mO b _ (ca+(i+1))
     rw[<-tL];exact iS
    .show oo (bG sd) e2 b2 _ (qK - 1)
     rw[<-rf];exact xc
    .rw[(vx Eg.apart hx).1];exact Hr
    .show cb=qK - 1+(i+1);omega
    .have hq:qK=qK - 1+1:=by omega
     rw[hq]at Dn;have:=Dn.move (by omega);rw[show k - 2*i - 2=k - 2*(i+1) by omega]at this;exact this
    .show((i+1:Nat):Int)<=max aF 0;omega
    .intro j hj
     refine LK j fun e=>hj ?_;unfold bO;split
     .rfl
     .exact e
    .show cb - (i+1)<cb - i;omega
   .refine ae.w ((⟨ao,bits,nw,some e⟩,i):Gm×Nat) [0,1,2,3,4] _ ?_;repeat' first|exact tv|apply pr
    exact⟨A',B',qK,Eg,Hr,qk,Dn,hi,fun _=>by omega⟩
  .refine ae.w ((⟨ao,bits,nw,some e⟩,i):Gm×Nat) [0,1,2,3,4] _ ?_;repeat' first|exact tv|apply pr
   exact⟨A',B',qK,Eg,Hr,qk,Dn,hi,fun h=>by simp only[]at h;omega⟩
structure Ht (sd:Int) (M:c5) (n:Nat) (k:List UInt8) (g:Gm):Prop where
 h:∃ b A B ca cb,zQ (bG sd) g sd b A B ca cb/\M=comb A B/\n=ca+cb/\fI b ca cb 0/\(M k=none->cb=0->4*(ca+1)<=3*2 ^ b)
theorem JX {b:Nat} (hb:b<=7):IntKind.i64.wrap (3*2 ^ (min ((b:Int)).toNat IntKind.i64.bits))=((3*2 ^ b:Nat):Int):=by
 rw[Z4,show min b IntKind.i64.bits=b by simp[IntKind.bits];omega];have h8:=yS (show b<=8 by omega);have e:(2:Int) ^ b=((2 ^ b:Nat):Int):=by simp
 rw[e];generalize 2 ^ b=q at h8 ⊢;rw[wr (by omega)];omega
theorem zQ.none {home:Nat->List UInt8->Nat} {g:Gm} {sd:Int} {b:Nat} {A B:c5} {ca cb:Nat} (h:zQ home g sd b A B ca cb) (h0:cb=0):B=fun _=>none:=by
 have he:=h.el;cases EM:g.el with
 | none=>rw[EM]at he;exact he.1
 | some e =>
  rw[EM]at he;obtain⟨b2,h2⟩:=he;exact Hf h2.ok.len h2.map (by rw[h2.bF,h0])
theorem JY (g:Gm) (sd:Int) {M:c5} {n:Nat} (hG:tG (bG sd) g sd M n) (wc:∀ j,M j≠none->1<=j.length/\j.length<=33) (k:List UInt8) (v:Int) (hk:1<=k.length/\k.length<=33) (hf:M k≠none\/n<64) (hn:n<=64) :
  aa Tryz.prog 118 [.ptr 0 0,.str fun _=>k,.I v] (CA g) (Y:=Gm) (fun g'=>tG (bG sd) g' sd (bO M k (some v)) (if M k=none then n+1 else n))
  (fun _=>.int .i64 fun _=>0) CA:=by
 obtain⟨b,A,B,ca,cb,hP,hM,rK,hL⟩:=hG;have cL:=gm (out:=fun _=>g) (CC g sd hP hM k (by omega));have hlen:=gm (out:=fun _=>g) (JW g sd hP);have LL:=gm (out:=fun _=>g) (tM g sd hP);have vA:=hP.bits;have SH:=hL.b3;have nY:k≠[]:=fun e=>by rw[e]at hk;simp at hk
 obtain⟨ao,bits,nw,el⟩:=g;simp only[]at vA;cases el with
 | none =>
  refine aa.q Tryz.func118 rfl fun S aw=>?_;(conv=>whnf);(refine aB.step hm rfl (Wc _ ?_);(repeat' first|exact tv|apply pr|intro hh));(refine aB.step hm rfl (Wc _ ?_);(repeat' first|exact tv|apply pr|intro hh));(refine aB.step hm rfl (Wc _ ?_);(repeat' first|exact tv|apply pr|intro hh));all_goals refine aB.step hm rfl (Wc _ ?_);repeat' first|exact tv|apply pr|intro hh
  all_goals first|(exact absurd ‹_› nY)|(exfalso;omega)|skip
  refine aB.mid hm (X:=Gm) (Ht sd M n k) (fun _=>[(0,.ptr 0 0),(1,.str fun _=>k),(2,.I v)]) (fun g=>CA g) rfl ?_ ?_;rotate_left
  .rintro⟨ao,bits,nw,el⟩ ⟨b,A,B,ca,cb,hP,hM,rK,hL,rk⟩
   have tL:nw.ao=sd:=hP.sn;have qa:=hP.nw;simp only[]at qa;rw[<-tL]at qa;have sI:=ru hP.nw;cases el with
   | none =>
    have hB:=hP.none (hP.el.2);have qk:cb=0:=hP.el.2;subst qk;subst hB;(conv=>whnf);refine aB.IE [1,3] ?_;(conv=>whnf);(refine Wa _ ?_;(repeat' first|exact tv|apply pr|intro hh));(refine ab.q (Hn k) [] fun _ _=>Wp _ ?_;(repeat' first|exact tv|apply pr|intro hh));have Ri:M k=A k:=by rw[hM];unfold comb;simp
    (refine ab.q (vZ nw k v hk qa (.inr (hL.lt (by omega)))) [1,2] ?_;rintro mO ⟨zR,iS⟩;refine Wp _ ?_;(repeat' first|exact tv|apply pr|intro hh));have NY:zQ (bG sd) ⟨ao,bits,mO,none⟩ sd b (bO A k (some v)) (fun _=>none) (if A k=none then ca+1 else ca) 0:=⟨hP.ao,hP.bits,by rw[zR];exact tL,fun e h=>(by cases h),by rw[<-tL];exact iS,⟨rfl,rfl⟩,fun _ _=>rfl⟩
    have JR:fI b (if A k=none then ca+1 else ca) 0 4:=by
     by_cases hA:A k=none
     .rw[Z0 hA];exact hL.more fun _=>rk (by rw[Ri];exact hA) rfl
     .rw[ZY hA];exact⟨hL.b3,fun h=>absurd h (Nat.lt_irrefl 0),hL.no⟩
    (refine ab.q (ma ⟨ao,bits,mO,none⟩ sd NY JR (by omega) (fun j hj=>absurd rfl hj) 2) [0,1,2,3,4] ?_;rintro y ⟨A',B',qK,h1,h2,h3,h4,h5,h6⟩;refine Wp _ ?_;(repeat' first|exact tv|apply pr|intro hh));obtain⟨⟨s9,b9,n9,e9⟩,m⟩:=y;simp only[]at h1 h3 h4 h6;have tN:tG (bG sd) ⟨s9,b9,n9,e9⟩ sd (bO M k (some v)) (if M k=none then n+1 else n):=by
     refine⟨b,A',B',_,qK,h1,?_,?_,h4.done (.inr (by omega))⟩
     .rw[h2,hM]
      have:=l9 (A:=A) (B:=fun _=>none) k v;rw[<-this];congr 1;funext j;unfold bO;split <;> rfl
     .rw[Ri,rK];split <;> omega
    cases e9 with
    | none =>
     (refine Wb _ ?_;(repeat' first|exact tv|apply pr|intro hh));refine ae.cls [1,3] rfl ?_;(conv=>whnf);(refine ae.w (⟨s9,b9,n9,none⟩:Gm) [0,1,2,3,4] _ ?_;(repeat' first|exact tv|apply pr));exact tN
    | some e9 =>
     (refine Wb _ ?_;(repeat' first|exact tv|apply pr|intro hh));refine ae.cls [1,3] rfl ?_;(conv=>whnf);(refine ae.w (⟨s9,b9,n9,some e9⟩:Gm) [0,1,2,3,4] _ ?_;(repeat' first|exact tv|apply pr));exact tN
   | some e =>
    obtain⟨b2,he⟩:=hP.el;have rf:e.ao=sd:=hP.se e rfl;rw[<-rf]at he;have YG:=ru he;(conv=>whnf);refine aB.IE [1,3] ?_;(conv=>whnf);(refine Wa _ ?_;(repeat' first|exact tv|apply pr|intro hh));(refine ab.q (Ee e k (by omega) he) [3,4] ?_;rintro e2 ⟨rG,xc,h2⟩;refine Wp _ ?_;(repeat' first|exact tv|apply pr|intro hh));have vX:A k≠none\/ca<2 ^ b:=.inr (hL.lt (by omega));(refine ab.q (vZ nw k v hk qa vX) [1,2] ?_;rintro mO ⟨zR,iS⟩;refine Wp _ ?_;(repeat' first|exact tv|apply pr|intro hh));have NY:zQ (bG sd) ⟨ao,bits,mO,some e2⟩ sd b (bO A k (some v)) (bO B k none) (if A k=none then ca+1 else ca) (if B k=none then cb else cb - 1) :=
     ⟨hP.ao,hP.bits,by rw[zR];exact tL,fun e' h=>(by cases h;rw[rG];exact rf),by rw[<-tL];exact iS,⟨b2,by rw[<-rf];exact xc⟩,qJ hP.apart k v⟩
    have yp:∃ kk,kk<=4/\fI b (if A k=none then ca+1 else ca) (if B k=none then cb else cb - 1) kk/\(if M k=none then n+1 else n)=(if A k=none then ca+1 else ca)+(if B k=none then cb else cb - 1):=by
     by_cases hA:A k=none
     .by_cases yU:B k=none
      .have Eh:M k=none:=by rw[hM];unfold comb;rw[hA,yU];rfl
       rw[Z0 hA,Z0 yU,Z0 Eh];exact⟨4,by omega,hL.more (fun h0=>rk Eh h0),by omega⟩
      .have h1:=h2 yU
       have Eh:M k≠none:=by rw[hM];unfold comb;rw[hA];simpa using yU
       rw[Z0 hA,ZY yU,ZY Eh];have hq:cb=cb - 1+1:=by omega
       rw[hq]at hL;exact⟨0,by omega,hL.move (by omega),by omega⟩
     .have yU:B k=none:=hP.apart k hA
      have Eh:M k≠none:=by
       rw[hM];unfold comb;cases NZ:A k with
       | none=>exact(hA NZ).elim
       | some u=>simp
      rw[ZY hA,Z0 yU,ZY Eh];exact⟨0,by omega,hL,by omega⟩
    obtain⟨kk,UH,JR,N0⟩:=yp;have Hu:∀ j,bO B k none j≠none->1<=j.length/\j.length<=33:=fun j hj=>by
     refine wc j fun e=>hj ?_;unfold bO;split
     .rfl
     .rw[hM]at e;unfold comb at e
      cases LM:A j with
      | none=>rw[LM]at e;exact e
      | some u=>rw[LM]at e;cases e
    (refine ab.q (ma ⟨ao,bits,mO,some e2⟩ sd NY JR UH Hu 2) [0,1,2,3,4] ?_;rintro y ⟨A',B',qK,h1,Gc,h3,h4,h5,h6⟩;refine Wp _ ?_;(repeat' first|exact tv|apply pr|intro hh));obtain⟨⟨s9,b9,n9,e9⟩,m⟩:=y;simp only[]at h1 h3 h4 h5 h6;have tN:tG (bG sd) ⟨s9,b9,n9,e9⟩ sd (bO M k (some v)) (if M k=none then n+1 else n):=by
     refine⟨b,A',B',_,qK,h1,?_,?_,h4.done ?_⟩
     .rw[Gc,hM,l9]
     .rw[N0];omega
     .by_cases dJ:(m:Int)<2
      .exact .inr (h6 dJ)
      .exact .inl (by omega)
    cases e9 with
    | none =>
     (refine Wb _ ?_;(repeat' first|exact tv|apply pr|intro hh));refine ae.cls [1,3] rfl ?_;(conv=>whnf);(refine ae.w (⟨s9,b9,n9,none⟩:Gm) [0,1,2,3,4] _ ?_;(repeat' first|exact tv|apply pr));exact tN
    | some e9 =>
     (refine Wb _ ?_;(repeat' first|exact tv|apply pr|intro hh));refine ae.cls [1,3] rfl ?_;(conv=>whnf);(refine ae.w (⟨s9,b9,n9,some e9⟩:Gm) [0,1,2,3,4] _ ?_;(repeat' first|exact tv|apply pr));exact tN
  (conv=>whnf);(refine Wa _ ?_;(repeat' first|exact tv|apply pr|intro hh));refine ab.q cL [0,1,2,3,4] fun _ _=>Wp _ ?_;repeat' first|exact tv|apply pr|intro hh
  .have cy:M k=none:=by cases Af:M k with|none=>rfl|some u=>rw[Af]at hh;cases hh
   have Hv:n<64:=hf.resolve_left fun h=>h cy;refine ab.q hlen [0,1,2,3,4] fun _ _=>Wp _ ?_;repeat' first|exact tv|apply pr|intro hh
   .exfalso;omega
   (refine ab.q LL [0,1,2,3,4] fun _ _=>Wp _ ?_;(repeat' first|exact tv|apply pr|intro hh));all_goals try ((refine ab.q hlen [0,1,2,3,4] fun _ _=>Wp _ ?_;(repeat' first|exact tv|apply pr|intro hh)))
   .exact Ob.mk (by simp only[];omega)
   .exact Ob.mk (by simp only[];omega)
   .have qw:cb=0:=by omega
    subst qw;subst vA;rw[JX (by omega),wr (x:=((ca+0:Nat):Int)+1) (by omega),wr (x:=4*(((ca+0:Nat):Int)+1)) (by omega)]at hh;have mZ:3*2 ^ b<4*(ca+1):=by omega
    have N3:=hP.none rfl;(refine ab.q (vz ⟨ao,((b:Nat):Int),nw,none⟩ sd hP (by omega)) [0,1,2,3,4] ?_;rintro g2 Rj;refine Wp _ ?_;(repeat' first|exact tv|apply pr|intro hh));obtain⟨yV,yW,mO,JZ⟩:=g2;cases JZ with
    | none =>
     refine⟨⟨yV,yW,mO,none⟩,[0,1,2,3,4],⟨rfl,rfl,?_,?_⟩,⟨b+1,fun _=>none,A,0,ca,Rj,?_,by omega,hL.begin (by omega) mZ,fun _ e=>?_⟩⟩
     .exact Vc
     .exact Vc
     .rw[hM,N3];funext j;unfold comb;simp
     .have:=aaW (n:=b+1);omega
    | some e2 =>
     refine⟨⟨yV,yW,mO,some e2⟩,[0,1,2,3,4],⟨rfl,rfl,?_,?_⟩,⟨b+1,fun _=>none,A,0,ca,Rj,?_,by omega,hL.begin (by omega) mZ,fun _ e=>?_⟩⟩
     .exact Vc
     .exact Vc
     .rw[hM,N3];funext j;unfold comb;simp
     .have:=aaW (n:=b+1);omega
   .have qw:cb=0:=by omega
    subst qw;subst vA;rw[JX (by omega),wr (x:=((ca+0:Nat):Int)+1) (by omega),wr (x:=4*(((ca+0:Nat):Int)+1)) (by omega)]at hh;refine⟨⟨ao,((b:Nat):Int),nw,none⟩,[0,1,2,3,4],⟨rfl,rfl,?_,?_⟩,⟨b,A,B,ca,0,hP,hM,rK,hL,fun _ _=>by omega⟩⟩
    .exact Vc
    .exact Vc
   .exfalso;omega
   .have qw:cb≠0:=by omega
    refine⟨⟨ao,bits,nw,none⟩,[0,1,2,3,4],⟨rfl,rfl,?_,?_⟩,⟨b,A,B,ca,cb,hP,hM,rK,hL,fun _ e=>(qw e).elim⟩⟩
    .exact Vc
    .exact Vc
  .have cy:M k≠none:=fun e=>by rw[e]at hh;cases hh
   refine⟨⟨ao,bits,nw,none⟩,[0,1,2,3,4],⟨rfl,rfl,?_,?_⟩,⟨b,A,B,ca,cb,hP,hM,rK,hL,fun e=>(cy e).elim⟩⟩
   .exact Vc
   .exact Vc
 | some e =>
  refine aa.q Tryz.func118 rfl fun S aw=>?_;(conv=>whnf);(refine aB.step hm rfl (Wc _ ?_);(repeat' first|exact tv|apply pr|intro hh));(refine aB.step hm rfl (Wc _ ?_);(repeat' first|exact tv|apply pr|intro hh));(refine aB.step hm rfl (Wc _ ?_);(repeat' first|exact tv|apply pr|intro hh));all_goals refine aB.step hm rfl (Wc _ ?_);repeat' first|exact tv|apply pr|intro hh
  all_goals first|(exact absurd ‹_› nY)|(exfalso;omega)|skip
  refine aB.mid hm (X:=Gm) (Ht sd M n k) (fun _=>[(0,.ptr 0 0),(1,.str fun _=>k),(2,.I v)]) (fun g=>CA g) rfl ?_ ?_;rotate_left
  .rintro⟨ao,bits,nw,el⟩ ⟨b,A,B,ca,cb,hP,hM,rK,hL,rk⟩
   have tL:nw.ao=sd:=hP.sn;have qa:=hP.nw;simp only[]at qa;rw[<-tL]at qa;have sI:=ru hP.nw;cases el with
   | none =>
    have hB:=hP.none (hP.el.2);have qk:cb=0:=hP.el.2;subst qk;subst hB;(conv=>whnf);refine aB.IE [1,3] ?_;(conv=>whnf);(refine Wa _ ?_;(repeat' first|exact tv|apply pr|intro hh));(refine ab.q (Hn k) [] fun _ _=>Wp _ ?_;(repeat' first|exact tv|apply pr|intro hh));have Ri:M k=A k:=by rw[hM];unfold comb;simp
    (refine ab.q (vZ nw k v hk qa (.inr (hL.lt (by omega)))) [1,2] ?_;rintro mO ⟨zR,iS⟩;refine Wp _ ?_;(repeat' first|exact tv|apply pr|intro hh));have NY:zQ (bG sd) ⟨ao,bits,mO,none⟩ sd b (bO A k (some v)) (fun _=>none) (if A k=none then ca+1 else ca) 0:=⟨hP.ao,hP.bits,by rw[zR];exact tL,fun e h=>(by cases h),by rw[<-tL];exact iS,⟨rfl,rfl⟩,fun _ _=>rfl⟩
    have JR:fI b (if A k=none then ca+1 else ca) 0 4:=by
     by_cases hA:A k=none
     .rw[Z0 hA];exact hL.more fun _=>rk (by rw[Ri];exact hA) rfl
     .rw[ZY hA];exact⟨hL.b3,fun h=>absurd h (Nat.lt_irrefl 0),hL.no⟩
    (refine ab.q (ma ⟨ao,bits,mO,none⟩ sd NY JR (by omega) (fun j hj=>absurd rfl hj) 2) [0,1,2,3,4] ?_;rintro y ⟨A',B',qK,h1,h2,h3,h4,h5,h6⟩;refine Wp _ ?_;(repeat' first|exact tv|apply pr|intro hh));obtain⟨⟨s9,b9,n9,e9⟩,m⟩:=y;simp only[]at h1 h3 h4 h6;have tN:tG (bG sd) ⟨s9,b9,n9,e9⟩ sd (bO M k (some v)) (if M k=none then n+1 else n):=by
     refine⟨b,A',B',_,qK,h1,?_,?_,h4.done (.inr (by omega))⟩
     .rw[h2,hM]
      have:=l9 (A:=A) (B:=fun _=>none) k v;rw[<-this];congr 1;funext j;unfold bO;split <;> rfl
     .rw[Ri,rK];split <;> omega
    cases e9 with
    | none =>
     (refine Wb _ ?_;(repeat' first|exact tv|apply pr|intro hh));refine ae.cls [1,3] rfl ?_;(conv=>whnf);(refine ae.w (⟨s9,b9,n9,none⟩:Gm) [0,1,2,3,4] _ ?_;(repeat' first|exact tv|apply pr));exact tN
    | some e9 =>
     (refine Wb _ ?_;(repeat' first|exact tv|apply pr|intro hh));refine ae.cls [1,3] rfl ?_;(conv=>whnf);(refine ae.w (⟨s9,b9,n9,some e9⟩:Gm) [0,1,2,3,4] _ ?_;(repeat' first|exact tv|apply pr));exact tN
   | some e =>
    obtain⟨b2,he⟩:=hP.el;have rf:e.ao=sd:=hP.se e rfl;rw[<-rf]at he;have YG:=ru he;(conv=>whnf);refine aB.IE [1,3] ?_;(conv=>whnf);(refine Wa _ ?_;(repeat' first|exact tv|apply pr|intro hh));(refine ab.q (Ee e k (by omega) he) [3,4] ?_;rintro e2 ⟨rG,xc,h2⟩;refine Wp _ ?_;(repeat' first|exact tv|apply pr|intro hh));have vX:A k≠none\/ca<2 ^ b:=.inr (hL.lt (by omega));(refine ab.q (vZ nw k v hk qa vX) [1,2] ?_;rintro mO ⟨zR,iS⟩;refine Wp _ ?_;(repeat' first|exact tv|apply pr|intro hh));have NY:zQ (bG sd) ⟨ao,bits,mO,some e2⟩ sd b (bO A k (some v)) (bO B k none) (if A k=none then ca+1 else ca) (if B k=none then cb else cb - 1) :=
     ⟨hP.ao,hP.bits,by rw[zR];exact tL,fun e' h=>(by cases h;rw[rG];exact rf),by rw[<-tL];exact iS,⟨b2,by rw[<-rf];exact xc⟩,qJ hP.apart k v⟩
    have yp:∃ kk,kk<=4/\fI b (if A k=none then ca+1 else ca) (if B k=none then cb else cb - 1) kk/\(if M k=none then n+1 else n)=(if A k=none then ca+1 else ca)+(if B k=none then cb else cb - 1):=by
     by_cases hA:A k=none
     .by_cases yU:B k=none
      .have Eh:M k=none:=by rw[hM];unfold comb;rw[hA,yU];rfl
       rw[Z0 hA,Z0 yU,Z0 Eh];exact⟨4,by omega,hL.more (fun h0=>rk Eh h0),by omega⟩
      .have h1:=h2 yU
       have Eh:M k≠none:=by rw[hM];unfold comb;rw[hA];simpa using yU
       rw[Z0 hA,ZY yU,ZY Eh];have hq:cb=cb - 1+1:=by omega
       rw[hq]at hL;exact⟨0,by omega,hL.move (by omega),by omega⟩
     .have yU:B k=none:=hP.apart k hA
      have Eh:M k≠none:=by
       rw[hM];unfold comb;cases NZ:A k with
       | none=>exact(hA NZ).elim
       | some u=>simp
      rw[ZY hA,Z0 yU,ZY Eh];exact⟨0,by omega,hL,by omega⟩
    obtain⟨kk,UH,JR,N0⟩:=yp;have Hu:∀ j,bO B k none j≠none->1<=j.length/\j.length<=33:=fun j hj=>by
     refine wc j fun e=>hj ?_;unfold bO;split
     .rfl
     .rw[hM]at e;unfold comb at e
      cases LM:A j with
      | none=>rw[LM]at e;exact e
      | some u=>rw[LM]at e;cases e
    (refine ab.q (ma ⟨ao,bits,mO,some e2⟩ sd NY JR UH Hu 2) [0,1,2,3,4] ?_;rintro y ⟨A',B',qK,h1,Gc,h3,h4,h5,h6⟩;refine Wp _ ?_;(repeat' first|exact tv|apply pr|intro hh));obtain⟨⟨s9,b9,n9,e9⟩,m⟩:=y;simp only[]at h1 h3 h4 h5 h6;have tN:tG (bG sd) ⟨s9,b9,n9,e9⟩ sd (bO M k (some v)) (if M k=none then n+1 else n):=by
     refine⟨b,A',B',_,qK,h1,?_,?_,h4.done ?_⟩
     .rw[Gc,hM,l9]
     .rw[N0];omega
     .by_cases dJ:(m:Int)<2
      .exact .inr (h6 dJ)
      .exact .inl (by omega)
    cases e9 with
    | none =>
     (refine Wb _ ?_;(repeat' first|exact tv|apply pr|intro hh));refine ae.cls [1,3] rfl ?_;(conv=>whnf);(refine ae.w (⟨s9,b9,n9,none⟩:Gm) [0,1,2,3,4] _ ?_;(repeat' first|exact tv|apply pr));exact tN
    | some e9 =>
     (refine Wb _ ?_;(repeat' first|exact tv|apply pr|intro hh));refine ae.cls [1,3] rfl ?_;(conv=>whnf);(refine ae.w (⟨s9,b9,n9,some e9⟩:Gm) [0,1,2,3,4] _ ?_;(repeat' first|exact tv|apply pr));exact tN
  (conv=>whnf);(refine Wa _ ?_;(repeat' first|exact tv|apply pr|intro hh));refine ab.q cL [0,1,2,3,4] fun _ _=>Wp _ ?_;repeat' first|exact tv|apply pr|intro hh
  .have cy:M k=none:=by cases Af:M k with|none=>rfl|some u=>rw[Af]at hh;cases hh
   have Hv:n<64:=hf.resolve_left fun h=>h cy;refine ab.q hlen [0,1,2,3,4] fun _ _=>Wp _ ?_;repeat' first|exact tv|apply pr|intro hh
   .exfalso;omega
   (refine ab.q LL [0,1,2,3,4] fun _ _=>Wp _ ?_;(repeat' first|exact tv|apply pr|intro hh));all_goals try ((refine ab.q hlen [0,1,2,3,4] fun _ _=>Wp _ ?_;(repeat' first|exact tv|apply pr|intro hh)))
   .exact Ob.mk (by simp only[];omega)
   .exact Ob.mk (by simp only[];omega)
   .have qw:cb=0:=by omega
    subst qw;subst vA;rw[JX (by omega),wr (x:=((ca+0:Nat):Int)+1) (by omega),wr (x:=4*(((ca+0:Nat):Int)+1)) (by omega)]at hh;have mZ:3*2 ^ b<4*(ca+1):=by omega
    have N3:=hP.none rfl;(refine ab.q (vz ⟨ao,((b:Nat):Int),nw,some e⟩ sd hP (by omega)) [0,1,2,3,4] ?_;rintro g2 Rj;refine Wp _ ?_;(repeat' first|exact tv|apply pr|intro hh));obtain⟨yV,yW,mO,JZ⟩:=g2;cases JZ with
    | none =>
     refine⟨⟨yV,yW,mO,none⟩,[0,1,2,3,4],⟨rfl,rfl,?_,?_⟩,⟨b+1,fun _=>none,A,0,ca,Rj,?_,by omega,hL.begin (by omega) mZ,fun _ e=>?_⟩⟩
     .exact Vc
     .exact Vc
     .rw[hM,N3];funext j;unfold comb;simp
     .have:=aaW (n:=b+1);omega
    | some e2 =>
     refine⟨⟨yV,yW,mO,some e2⟩,[0,1,2,3,4],⟨rfl,rfl,?_,?_⟩,⟨b+1,fun _=>none,A,0,ca,Rj,?_,by omega,hL.begin (by omega) mZ,fun _ e=>?_⟩⟩
     .exact Vc
     .exact Vc
     .rw[hM,N3];funext j;unfold comb;simp
     .have:=aaW (n:=b+1);omega
   .have qw:cb=0:=by omega
    subst qw;subst vA;rw[JX (by omega),wr (x:=((ca+0:Nat):Int)+1) (by omega),wr (x:=4*(((ca+0:Nat):Int)+1)) (by omega)]at hh;refine⟨⟨ao,((b:Nat):Int),nw,some e⟩,[0,1,2,3,4],⟨rfl,rfl,?_,?_⟩,⟨b,A,B,ca,0,hP,hM,rK,hL,fun _ _=>by omega⟩⟩
    .exact Vc
    .exact Vc
   .exfalso;omega
   .have qw:cb≠0:=by omega
    refine⟨⟨ao,bits,nw,some e⟩,[0,1,2,3,4],⟨rfl,rfl,?_,?_⟩,⟨b,A,B,ca,cb,hP,hM,rK,hL,fun _ e=>(qw e).elim⟩⟩
    .exact Vc
    .exact Vc
  .have cy:M k≠none:=fun e=>by rw[e]at hh;cases hh
   refine⟨⟨ao,bits,nw,some e⟩,[0,1,2,3,4],⟨rfl,rfl,?_,?_⟩,⟨b,A,B,ca,cb,hP,hM,rK,hL,fun e=>(cy e).elim⟩⟩
   .exact Vc
   .exact Vc
theorem J0 (g:Gm) (sd:Int) {M:c5} {n:Nat} (hG:tG (bG sd) g sd M n) (k:List UInt8) (hk:1<=k.length/\k.length<=33) (hf:M k≠none) :
  aa Tryz.prog 133 [.ptr 0 0,.str fun _=>k] (ng g) (Y:=Gm) (fun g'=>tG (bG sd) g' sd (bO M k none) (n - 1)/\1<=n)
  (fun _=>.tt) ng:=by
 obtain⟨b,A,B,ca,cb,hP,hM,rK,hL⟩:=hG;obtain⟨ao,bits,nw,el⟩:=g;have tL:nw.ao=sd:=hP.sn;have qa:=hP.nw;simp only[]at qa;rw[<-tL]at qa;have J1:(A k).isSome=true->∀ mO:Rb,mO.ao=nw.ao->oo (bG nw.ao) mO b (bO A k none) (if A k=none then ca else ca - 1)->(A k≠none->1<=ca)->tG (bG sd) ⟨ao,bits,mO,el⟩ sd (bO M k none) (n - 1)/\1<=n:=fun hA mO h1 h2 h3=>by
  have bC:A k≠none:=fun e=>by rw[e]at hA;cases hA
  rw[ZY bC]at h2;have h4:=h3 bC;have hq:ca=ca - 1+1:=by omega
  rw[hq]at hL;refine⟨⟨b,bO A k none,B,ca - 1,cb,⟨hP.ao,hP.bits,by rw[h1];exact tL,hP.se,by rw[<-tL];exact h2,hP.el,A2 hP.apart k⟩,by rw[hM,Ec hP.apart bC],by omega,hL.Q8⟩,by omega⟩
 cases el with
 | none =>
  have N3:=hP.none hP.el.2;have hA:(A k).isSome=true:=by
   rw[hM]at hf;unfold comb at hf;rw[N3]at hf;cases NZ:A k with
   | none=>rw[NZ]at hf;exact(hf rfl).elim
   | some u=>rfl
  (refine aa.q Tryz.func133 rfl fun S aw=>Wa _ ?_;(repeat' first|exact tv|apply pr|intro hh));refine ab.q (Ee nw k (by omega) qa) [1,2] ?_;rintro mO ⟨zR,iS,h5⟩;refine Wp _ ?_;repeat' first|exact tv|apply pr|intro hh
  .rw[hA]at hh;cases hh
  .refine ae.w (⟨ao,bits,mO,none⟩:Gm) [0,1,2,3,4] _ ?_;repeat' first|exact tv|apply pr
   all_goals first|exact hA|exact(J1 hA mO zR iS h5).1|exact(J1 hA mO zR iS h5).2
 | some e =>
  obtain⟨b2,he⟩:=hP.el;have rf:e.ao=sd:=hP.se e rfl;rw[<-rf]at he;(refine aa.q Tryz.func133 rfl fun S aw=>Wa _ ?_;(repeat' first|exact tv|apply pr|intro hh));refine ab.q (Ee nw k (by omega) qa) [1,2] ?_;rintro mO ⟨zR,iS,h5⟩;refine Wp _ ?_;repeat' first|exact tv|apply pr|intro hh
  .have hA:A k=none:=by cases NZ:A k with|none=>rfl|some u=>rw[NZ]at hh;cases hh
   have hB:B k≠none:=fun e=>hf (by rw[hM];unfold comb;rw[hA,e];rfl);rw[Z0 hA]at iS;have YH:bO A k none=A:=yQ hA;rw[YH]at iS;(refine ab.q (Ee e k (by omega) he) [3,4] ?_;rintro e2 ⟨rG,xc,h2⟩;refine Wp _ ?_;(repeat' first|exact tv|apply pr|intro hh));rw[ZY hB]at xc;have h4:1<=cb:=h2 hB;have hq:cb=cb - 1+1:=by omega
   have Av:1<=n:=by omega
   rw[hq]at hL;refine ae.w (⟨ao,bits,mO,some e2⟩:Gm) [0,1,2,3,4] _ ?_;repeat' first|exact tv|apply pr
   .cases yU:B k with|none=>exact(hB yU).elim|some u=>rfl
   .exact⟨b,A,bO B k none,ca,cb - 1,⟨hP.ao,hP.bits,by rw[zR];exact tL,fun e' h=>(by cases h;rw[rG];exact rf),by rw[<-tL];exact iS,⟨b2,by rw[<-rf];exact xc⟩,A3 hP.apart k⟩,by rw[hM,Ed hA],by omega,hL.Q9⟩
   .exact Av
  .refine ae.w (⟨ao,bits,mO,some e⟩:Gm) [0,1,2,3,4] _ ?_;repeat' first|exact tv|apply pr
   all_goals first|exact hh|exact(J1 hh mO zR iS h5).1|exact(J1 hh mO zR iS h5).2
end Go.Proofs.YthnefnlhcijekaaGreat.Ro
set_option maxRecDepth 8000
namespace Go.Proofs.YthnefnlhcijekaaGreat.Eb
open Go Go.RowKit Fw Ro
structure YI (sd:Int) (M:c5) (c:Nat) (g:Gm):Prop where
 ok:tG (bG sd) g sd M c
 key:∀ j,M j≠none->1<=j.length/\j.length<=33
abbrev jr (sd:Int) (M:c5) (c:Nat):OQ:=DO (YI sd M c) fun g=>pk (CA g)
theorem sa (g:Gm):c8 (af (CA g) 0)=true:=by obtain⟨s,b,nw,el⟩:=g;cases el <;> rfl
section
variable {sd:Int} {M:c5} {c:Nat}
theorem LN (k:List UInt8) (hk:k.length<=1000):MU Tryz.prog 81 [.ptr 0 0,.str fun _=>k] [.bq (jr sd M c)] (.bQ [.I ((M k).getD 0),.bool fun _=>(M k).isSome]) [.bq (jr sd M c)]:=by
 refine aa.boxed ⟨_,Tryz.func81,rfl,by decide⟩ (fun g p=>?_) rfl (fun _ _=>rfl) (fun g _=>sa g);obtain⟨b,A,B,ca,cb,hP,hM,rK,hL⟩:=p.ok;exact(gm (out:=fun _=>g) (CC g sd hP hM k hk)).as fun _ _=>⟨((),g),⟨trivial,p⟩,rfl,rfl⟩
theorem CD {k:List UInt8} {v:Option Int} (h:∀ j,M j≠none->1<=j.length/\j.length<=33) (hk:1<=k.length/\k.length<=33):∀ j,bO M k v j≠none->1<=j.length/\j.length<=33:=by
 intro j hj;unfold bO at hj;by_cases e:j=k
 .rw[e];exact hk
 .rw[ZY e]at hj;exact h j hj
theorem Rk (k:List UInt8) (v:Int) (hk:1<=k.length/\k.length<=33) (hf:M k≠none\/c<64) (hc:c<=64):MU Tryz.prog 118 [.ptr 0 0,.str fun _=>k,.I v] [.bq (jr sd M c)] (.I 0) [.bq (jr sd (bO M k (some v)) (if M k=none then c+1 else c))]:=by
 refine aa.boxed ⟨_,Tryz.func118,rfl,by decide⟩ (fun g p=>?_) rfl (fun _ _=>rfl) (fun g _=>sa g);exact(JY g sd p.ok p.key k v hk hf hc).as fun g' h=>⟨((),g'),⟨trivial,h,CD p.key hk⟩,rfl,rfl⟩
theorem Rl (k:List UInt8) (hk:1<=k.length/\k.length<=33) (hf:M k≠none):MU Tryz.prog 133 [.ptr 0 0,.str fun _=>k] [.bq (jr sd M c)] .tt [.bq (jr sd (bO M k none) (c - 1))]:=by
 refine aa.boxed ⟨_,Tryz.func133,rfl,by decide⟩ (fun g p=>?_) rfl (fun _ _=>rfl) (fun g _=>sa g);exact(gm (J0 g sd p.ok k hk hf)).as fun g' h=>⟨((),g'),⟨trivial,h.1,CD p.key hk⟩,rfl,rfl⟩
theorem Hw (aF:Int):aa Tryz.prog 78 [.ptr 0 0,.I aF] [.bq (jr sd M c)] (Y:=Nat) (fun m=>(m:Int)<=max aF 0)
  (fun m=>.int .i64 fun _=>(m:Int)) (fun _=>[.bq (jr sd M c)]):=by
 refine aa.boxed ⟨_,Tryz.func78,rfl,by decide⟩ (fun g p=>?_) rfl (fun _ _=>rfl) (fun g _=>sa g);obtain⟨b,A,B,ca,cb,hP,hM,rK,hL⟩:=p.ok;have wc:∀ j,B j≠none->1<=j.length/\j.length<=33:=fun j hj=>by
  refine p.key j fun e=>hj ?_;rw[hM]at e;unfold comb at e;cases LM:A j with
  | none=>rw[LM]at e;exact e
  | some u=>rw[LM]at e;cases e
 refine(gm (ma g sd hP hL (by omega) wc aF)).as fun y h=>?_;obtain⟨A',B',qK,h1,h2,h3,h4,h5,h6⟩:=h;exact⟨(y.2,y.1),⟨h5,⟨b,A',B',_,qK,h1,by rw[h2,hM],by omega,h4.done (.inl (by omega))⟩,p.key⟩,rfl,rfl⟩
theorem Rm (sd:Int):MU Tryz.prog 57 [.int .u64 fun _=>sd,.I 3] [] (.bQ [.ptr 0 0,.I 0]) [.bq (jr sd (fun _=>none) 0)] :=
 aa.lQ ((JV sd 3 (by omega)).as fun g h=>⟨((),g),⟨trivial,h,fun j hj=>absurd rfl hj⟩,rfl,rfl⟩) fun _ _=>rfl
end
end Go.Proofs.YthnefnlhcijekaaGreat.Eb
